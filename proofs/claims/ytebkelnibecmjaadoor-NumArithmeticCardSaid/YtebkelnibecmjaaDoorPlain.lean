/- Part Plain of the proof: lemmas for the walks of the given functions. No statement of its own. -/
import Derived.Test.YtebkelnibecmjaaDoorLogicB
import Derived.Lib.ItoaNum
set_option linter.unusedVariables false
set_option linter.unusedSimpArgs false
set_option linter.deprecated false
/-! Words and numbers: plain laws. -/
namespace Go.Proofs.YtebkelnibecmjaaDoor.NumA
def trimN (ws : List Int) : Nat → Nat
  | 0 => 0
  | n + 1 => if ws.getD n 0 = 0 then trimN ws n else n + 1
def trim (ws : List Int) : List Int := ws.take (trimN ws ws.length)
theorem trimN_le (ws : List Int) : ∀ n, trimN ws n ≤ n
  | 0 => Nat.le_refl _
  | n + 1 => by
    simp only [trimN]
    split
    · exact Nat.le_succ_of_le (trimN_le ws n)
    · exact Nat.le_refl _
/-- Every word lies from 0 below 2^32. -/
def Wd (ws : List Int) : Prop := ∀ w ∈ ws, 0 ≤ w ∧ w < 4294967296
def val : List Int → Int
  | [] => 0
  | w :: ws => w + 4294967296 * val ws
theorem Wd.get {ws : List Int} (h : Wd ws) {i : Nat} (hi : i < ws.length) : 0 ≤ ws.getD i 0 ∧ ws.getD i 0 < 4294967296 := by
  have : ws.getD i 0 = ws[i] := by simp [List.getD_eq_getElem?_getD, hi]
  rw [this]; exact h _ (List.getElem_mem hi)
theorem Wd.getD {ws : List Int} (h : Wd ws) (i : Nat) : 0 ≤ ws.getD i 0 ∧ ws.getD i 0 < 4294967296 := by
  by_cases hi : i < ws.length
  · exact h.get hi
  · rw [List.getD_eq_getElem?_getD, List.getElem?_eq_none (by omega)]; simp
theorem Wd.nil : Wd [] := fun _ h => by cases h
theorem Wd.cons {w : Int} {ws : List Int} : Wd (w :: ws) ↔ (0 ≤ w ∧ w < 4294967296) ∧ Wd ws := by simp [Wd]
theorem Wd.take {ws : List Int} (h : Wd ws) (n : Nat) : Wd (ws.take n) := fun w hw => h w (List.mem_of_mem_take hw)
theorem Wd.drop {ws : List Int} (h : Wd ws) (n : Nat) : Wd (ws.drop n) := fun w hw => h w (List.mem_of_mem_drop hw)
theorem Wd.append {ws vs : List Int} (h : Wd ws) (h2 : Wd vs) : Wd (ws ++ vs) := fun w hw => by
  rcases List.mem_append.1 hw with hw | hw
  · exact h w hw
  · exact h2 w hw
theorem Wd.set {ws : List Int} (h : Wd ws) (i : Nat) {v : Int} (h0 : 0 ≤ v) (h1 : v < 4294967296) : Wd (ws.set i v) := fun w hw => by
  rcases List.mem_or_eq_of_mem_set hw with hw | hw
  · exact h w hw
  · subst hw; exact ⟨h0, h1⟩
theorem Wd.rep (n : Nat) : Wd (List.replicate n 0) := fun w hw => by
  have := (List.mem_replicate.1 hw).2; subst this; decide
theorem Wd.trim {ws : List Int} (h : Wd ws) : Wd (trim ws) := h.take _
theorem val_nonneg : ∀ {ws : List Int}, Wd ws → 0 ≤ val ws
  | [], _ => by simp [val]
  | w :: ws, h => by have := val_nonneg (Wd.cons.1 h).2; have := (Wd.cons.1 h).1; simp only [val]; omega
theorem val_append : ∀ (ws vs : List Int), val (ws ++ vs) = val ws + 4294967296 ^ ws.length * val vs
  | [], vs => by simp [val]
  | w :: ws, vs => by
    simp only [List.cons_append, val, List.length_cons, val_append ws vs, Int.pow_succ]
    rw [Int.mul_add, Int.add_assoc]
    congr 2
    rw [← Int.mul_assoc, Int.mul_comm (4294967296 ^ ws.length)]
theorem val_lt : ∀ {ws : List Int}, Wd ws → val ws < 4294967296 ^ ws.length
  | [], _ => by simp [val]
  | w :: ws, h => by
    have h1 := val_lt (Wd.cons.1 h).2
    have h2 := (Wd.cons.1 h).1
    simp only [val, List.length_cons, Int.pow_succ]
    rw [Int.mul_comm (4294967296 ^ ws.length)]
    omega
theorem val_take_succ {ws : List Int} {n : Nat} (h : n < ws.length) : val (ws.take (n + 1)) = val (ws.take n) + 4294967296 ^ n * ws.getD n 0 := by
  rw [List.take_add_one, List.getElem?_eq_getElem h, Option.toList_some, val_append, List.length_take, Nat.min_eq_left (by omega)]
  simp [val, List.getD_eq_getElem?_getD, h]
theorem val_trimN (ws : List Int) : ∀ n, n ≤ ws.length → val (ws.take (trimN ws n)) = val (ws.take n)
  | 0, _ => rfl
  | n + 1, h => by
    simp only [trimN]
    split
    · rename_i e
      rw [val_trimN ws n (by omega), val_take_succ (by omega), e]; simp
    · rfl
theorem val_trim (ws : List Int) : val (trim ws) = val ws := by rw [trim, val_trimN _ _ (Nat.le_refl _), List.take_length]
/-- The last word is not 0. -/
def Tr (ws : List Int) : Prop := ws.length = 0 ∨ ws.getD (ws.length - 1) 0 ≠ 0
theorem trimN_last (ws : List Int) : ∀ n, trimN ws n = 0 ∨ ws.getD (trimN ws n - 1) 0 ≠ 0
  | 0 => .inl rfl
  | n + 1 => by
    simp only [trimN]
    split
    · exact trimN_last ws n
    · rename_i h; exact .inr (by simpa using h)
theorem trim_length (ws : List Int) : (trim ws).length = trimN ws ws.length := by
  rw [trim, List.length_take, Nat.min_eq_left (trimN_le _ _)]
theorem trim_tr (ws : List Int) : Tr (trim ws) := by
  rcases trimN_last ws ws.length with h | h
  · exact .inl (by rw [trim_length, h])
  · by_cases h0 : trimN ws ws.length = 0
    · exact .inl (by rw [trim_length, h0])
    · refine .inr ?_
      rw [trim_length, trim, List.getD_eq_getElem?_getD, List.getElem?_take, if_pos (by omega), ← List.getD_eq_getElem?_getD]
      exact h
theorem trim_of_tr {ws : List Int} (h : Tr ws) : trim ws = ws := by
  rw [trim]
  have : trimN ws ws.length = ws.length := by
    rcases h with h | h
    · rw [h]; rfl
    · cases e : ws.length with
      | zero => rfl
      | succ n => simp only [trimN]; rw [if_neg]; rw [e] at h; simpa using h
  rw [this, List.take_length]
theorem Tr.tail {w : Int} {ws : List Int} (h : Tr (w :: ws)) (hn : ws ≠ []) : Tr ws := by
  rcases h with h | h
  · cases h
  · refine .inr ?_
    obtain ⟨v, vs, rfl⟩ := List.exists_cons_of_ne_nil hn
    simpa using h
/-- The words of a number. -/
def digs (n : Nat) : List Int := if h : n = 0 then [] else ((n % 4294967296 : Nat) : Int) :: digs (n / 4294967296)
  termination_by n
  decreasing_by exact Nat.div_lt_self (Nat.pos_of_ne_zero h) (by decide)
theorem digs_zero : digs 0 = [] := by rw [digs]; simp
theorem digs_pos {n : Nat} (h : n ≠ 0) : digs n = ((n % 4294967296 : Nat) : Int) :: digs (n / 4294967296) := by rw [digs]; simp [h]
theorem wd_digs (n : Nat) : Wd (digs n) := by
  induction n using Nat.strongRecOn with
  | ind n ih =>
    by_cases h : n = 0
    · rw [h, digs_zero]; exact Wd.nil
    · rw [digs_pos h]
      refine Wd.cons.2 ⟨?_, ih _ (Nat.div_lt_self (Nat.pos_of_ne_zero h) (by decide))⟩
      omega
theorem val_digs (n : Nat) : val (digs n) = n := by
  induction n using Nat.strongRecOn with
  | ind n ih =>
    by_cases h : n = 0
    · rw [h, digs_zero]; rfl
    · rw [digs_pos h, val, ih _ (Nat.div_lt_self (Nat.pos_of_ne_zero h) (by decide))]
      omega
theorem digs_val : ∀ {ws : List Int}, Wd ws → Tr ws → digs (val ws).toNat = ws
  | [], _, _ => by simp [val, digs_zero]
  | w :: ws, h, ht => by
    have h1 := (Wd.cons.1 h).1
    have h2 := val_nonneg (Wd.cons.1 h).2
    have hne : (val (w :: ws)).toNat ≠ 0 := by
      intro e
      simp only [val] at e
      have hv : val ws = 0 := by omega
      have hw : w = 0 := by omega
      by_cases hn : ws = []
      · subst hn; subst hw; rcases ht with ht | ht
        · cases ht
        · simp at ht
      · have := digs_val (Wd.cons.1 h).2 (ht.tail hn)
        rw [hv] at this
        simp [digs_zero] at this
        exact hn this
    rw [digs_pos hne]
    have e1 : (((val (w :: ws)).toNat % 4294967296 : Nat) : Int) = w := by simp only [val]; omega
    have e2 : (val (w :: ws)).toNat / 4294967296 = (val ws).toNat := by simp only [val]; omega
    rw [e1, e2]
    by_cases hn : ws = []
    · subst hn; simp [val, digs_zero]
    · rw [digs_val (Wd.cons.1 h).2 (ht.tail hn)]
theorem digs_tr (n : Nat) : Tr (digs n) := by
  have h := digs_val (Wd.trim (wd_digs n)) (trim_tr _)
  rw [val_trim, val_digs, Int.toNat_natCast] at h
  rw [h]
  exact trim_tr _
theorem trim_eq_digs {ws : List Int} (h : Wd ws) : trim ws = digs (val ws).toNat := by
  rw [← val_trim, digs_val h.trim (trim_tr ws)]
theorem digs_nil {n : Nat} : digs n = [] ↔ n = 0 := by
  constructor
  · intro h
    have := val_digs n
    rw [h] at this
    simp [val] at this
    omega
  · rintro rfl; exact digs_zero
theorem digs_len {n k : Nat} (h : n < 4294967296 ^ k) : (digs n).length ≤ k := by
  induction k generalizing n with
  | zero => have : n = 0 := by rw [Nat.pow_zero] at h; omega
            rw [this, digs_zero]; simp
  | succ k ih =>
    by_cases h0 : n = 0
    · rw [h0, digs_zero]; simp
    · rw [digs_pos h0, List.length_cons]
      have := ih (n := n / 4294967296) (by rw [Nat.pow_succ] at h; exact Nat.div_lt_of_lt_mul (by rw [Nat.mul_comm]; exact h))
      omega
theorem lt_of_digs_len {n k : Nat} (h : (digs n).length ≤ k) : n < 4294967296 ^ k := by
  have h1 := val_lt (wd_digs n)
  rw [val_digs] at h1
  have h2 : n < 4294967296 ^ (digs n).length := by
    rw [show (4294967296 : Int) = ((4294967296 : Nat) : Int) from rfl, ← Int.natCast_pow] at h1
    exact Int.ofNat_lt.1 h1
  exact Nat.lt_of_lt_of_le h2 (Nat.pow_le_pow_right (by decide) h)
/-- A sign and an absolute value. -/
def sg (neg : Bool) (n : Int) : Int := if neg then -n else n
def canon (neg : Bool) (ws : List Int) : Bool := if ws.length = 0 then !neg else !decide (ws.getD (ws.length - 1) 0 = 0)
theorem canon_tr {neg : Bool} {ws : List Int} (h : canon neg ws = true) : Tr ws ∧ (ws = [] → neg = false) := by
  unfold canon at h
  split at h
  · rename_i e; exact ⟨.inl e, fun _ => by simpa using h⟩
  · rename_i e; refine ⟨.inr (by simpa using h), fun h => by subst h; simp at e⟩
theorem val_eq_zero {ws : List Int} (h : Wd ws) (ht : Tr ws) (h0 : val ws = 0) : ws = [] := by
  have := digs_val h ht
  rw [h0] at this
  simpa [digs_zero] using this.symm
theorem canon_eq {neg : Bool} {ws : List Int} (h : Wd ws) (hc : canon neg ws = true) : decide (sg neg (val ws) < 0) = neg ∧ digs (sg neg (val ws)).natAbs = ws := by
  obtain ⟨ht, hn⟩ := canon_tr hc
  have hv := val_nonneg h
  constructor
  · cases neg with
    | false => simp [sg]; omega
    | true =>
      have : val ws ≠ 0 := fun e => by have := hn (val_eq_zero h ht e); cases this
      simp [sg]; omega
  · have : (sg neg (val ws)).natAbs = (val ws).toNat := by cases neg <;> simp [sg] <;> omega
    rw [this, digs_val h ht]
theorem canon_digs (n : Int) : canon (decide (n < 0)) (digs n.natAbs) = true := by
  unfold canon
  split
  · rename_i e
    have := List.eq_nil_of_length_eq_zero e
    rw [digs_nil] at this
    simp; omega
  · rename_i e
    rcases digs_tr n.natAbs with h | h
    · exact absurd h e
    · simpa using h
theorem sg_digs (n : Int) : sg (decide (n < 0)) (val (digs n.natAbs)) = n := by
  rw [val_digs]
  by_cases h : n < 0
  · simp [sg, h]; omega
  · simp [sg, h]; omega
end Go.Proofs.YtebkelnibecmjaaDoor.NumA
namespace Go.Proofs.YtebkelnibecmjaaDoor.NumA
/-- The number of bits. -/
def bl (n : Nat) : Nat := if n = 0 then 0 else n.log2 + 1
theorem bl_div {n k : Nat} (h : 2 ^ k ≤ n) : bl n = k + bl (n / 2 ^ k) := by
  have hp : 0 < 2 ^ k := Nat.pow_pos (by decide)
  have hn : n ≠ 0 := by omega
  have hd : n / 2 ^ k ≠ 0 := by
    have := Nat.div_pos h hp
    omega
  unfold bl
  rw [if_neg hn, if_neg hd]
  have e : n.log2 = k + (n / 2 ^ k).log2 := by
    apply (Nat.log2_eq_iff hn).2
    have h1 := (Nat.log2_eq_iff hd).1 rfl
    constructor
    · rw [Nat.pow_add]
      exact Nat.le_trans (Nat.mul_le_mul_left _ h1.1) (Nat.mul_div_le _ _)
    · rw [Nat.add_assoc, Nat.pow_add]
      have := Nat.lt_mul_of_div_lt h1.2 hp
      rwa [Nat.mul_comm] at this
  omega
theorem bl_spec {n k : Nat} : bl n ≤ k ↔ n < 2 ^ k := by
  unfold bl
  split
  · rename_i e; subst e; simp [Nat.pow_pos]
  · rename_i e
    have := Nat.log2_lt (n := n) (k := k) e
    omega
/-- The result of 'compared'. -/
def cmpI (a b : Int) : Int := if a < b then -1 else if b < a then 1 else 0
theorem drop_getD {ws : List Int} {n : Nat} (h : n < ws.length) : ws.drop n = ws.getD n 0 :: ws.drop (n + 1) := by
  rw [List.drop_eq_getElem_cons h]; simp [List.getD_eq_getElem?_getD, h]
theorem val_lt_len {ws vs : List Int} (h : Wd ws) (h2 : Wd vs) (ht : Tr vs) (hl : ws.length < vs.length) : val ws < val vs := by
  have h1 := val_lt h
  rcases ht with ht | ht
  · omega
  · have e : vs = vs.take (vs.length - 1) ++ [vs.getD (vs.length - 1) 0] := by
      have h3 := drop_getD (ws := vs) (n := vs.length - 1) (by omega)
      rw [show vs.length - 1 + 1 = vs.length by omega, List.drop_length] at h3
      rw [← h3, List.take_append_drop]
    have hv := val_append (vs.take (vs.length - 1)) [vs.getD (vs.length - 1) 0]
    rw [← e] at hv
    have h3 := val_nonneg (h2.take (vs.length - 1))
    have h4 := h2.getD (vs.length - 1)
    simp only [val, List.length_take] at hv
    rw [Nat.min_eq_left (by omega)] at hv
    have h5 : (4294967296 : Int) ^ ws.length ≤ 4294967296 ^ (vs.length - 1) := by
      have := Nat.pow_le_pow_right (n := 4294967296) (by decide) (show ws.length ≤ vs.length - 1 by omega)
      rw [show (4294967296 : Int) = ((4294967296 : Nat) : Int) from rfl, ← Int.natCast_pow, ← Int.natCast_pow]
      exact Int.ofNat_le.2 this
    have h6 : (4294967296 : Int) ^ (vs.length - 1) * 1 ≤ 4294967296 ^ (vs.length - 1) * (vs.getD (vs.length - 1) 0 + 4294967296 * 0) :=
      Int.mul_le_mul_of_nonneg_left (by omega) (Int.le_of_lt (Int.pow_pos (by decide)))
    omega
theorem val_drop (ws : List Int) (n : Nat) : val ws = val (ws.take n) + 4294967296 ^ (min n ws.length) * val (ws.drop n) := by
  conv => lhs; rw [← List.take_append_drop n ws, val_append, List.length_take]
theorem cmp_drop {ws vs : List Int} (h : Wd ws) (h2 : Wd vs) (hl : ws.length = vs.length) {i : Nat} (hi : i < ws.length) (hd : ws.drop (i + 1) = vs.drop (i + 1)) (hlt : ws.getD i 0 < vs.getD i 0) : val ws < val vs := by
  rw [val_drop ws i, val_drop vs i, Nat.min_eq_left (by omega), Nat.min_eq_left (by omega), drop_getD hi, drop_getD (ws := vs) (n := i) (by omega), hd]
  simp only [val]
  have h1 := val_lt (h.take i)
  rw [List.length_take, Nat.min_eq_left (by omega)] at h1
  have h3 := val_nonneg (h2.take i)
  have hp : (0 : Int) < 4294967296 ^ i := Int.pow_pos (by decide)
  generalize val (vs.drop (i + 1)) = r at *
  have h6 : (4294967296 : Int) ^ i * (ws.getD i 0 + 1 + 4294967296 * r) ≤ 4294967296 ^ i * (vs.getD i 0 + 4294967296 * r) := Int.mul_le_mul_of_nonneg_left (by omega) (Int.le_of_lt hp)
  have h7 : (4294967296 : Int) ^ i * (ws.getD i 0 + 1 + 4294967296 * r) = 4294967296 ^ i * (ws.getD i 0 + 4294967296 * r) + 4294967296 ^ i := by
    rw [show ws.getD i 0 + 1 + 4294967296 * r = (ws.getD i 0 + 4294967296 * r) + 1 by omega, Int.mul_add, Int.mul_one]
  omega
end Go.Proofs.YtebkelnibecmjaaDoor.NumA
namespace Go.Proofs.YtebkelnibecmjaaDoor.NumA
theorem all_take_succ {α : Type} {p : α → Bool} {l : List α} {i : Nat} (h : i < l.length) (ht : (l.take i).all p = true) (hp : p l[i] = true) : (l.take (i + 1)).all p = true := by
  rw [List.take_add_one, List.getElem?_eq_getElem h, Option.toList_some, List.all_append, ht]
  simp [hp]
end Go.Proofs.YtebkelnibecmjaaDoor.NumA
namespace Go.Proofs.YtebkelnibecmjaaDoor.NumA
theorem cmpI_len {ws vs : List Int} (h : Wd ws) (h2 : Wd vs) (ht : Tr ws) (ht2 : Tr vs) (hl : ws.length ≠ vs.length) : cmpI (val ws) (val vs) = if ws.length < vs.length then -1 else 1 := by
  unfold cmpI
  by_cases e : ws.length < vs.length
  · rw [if_pos e, if_pos (val_lt_len h h2 ht2 e)]
  · have := val_lt_len h2 h ht (by omega)
    rw [if_neg e, if_neg (by omega), if_pos this]
theorem cmpI_drop {ws vs : List Int} (h : Wd ws) (h2 : Wd vs) (hl : ws.length = vs.length) {i : Nat} (hi : i < ws.length) (hd : ws.drop (i + 1) = vs.drop (i + 1)) (hne : ws.getD i 0 ≠ vs.getD i 0) : cmpI (val ws) (val vs) = if ws.getD i 0 < vs.getD i 0 then -1 else 1 := by
  unfold cmpI
  by_cases e : ws.getD i 0 < vs.getD i 0
  · rw [if_pos e, if_pos (cmp_drop h h2 hl hi hd e)]
  · have := cmp_drop h2 h hl.symm (by omega) hd.symm (i := i) (by omega)
    rw [if_neg e, if_neg (by omega), if_pos this]
theorem drop_eq_succ {ws vs : List Int} {i : Nat} (hi : i < ws.length) (hl : ws.length = vs.length) (hd : ws.drop (i + 1) = vs.drop (i + 1)) (he : ws.getD i 0 = vs.getD i 0) : ws.drop i = vs.drop i := by
  rw [drop_getD hi, drop_getD (ws := vs) (n := i) (by omega), hd, he]
theorem cmpI_self (a : Int) : cmpI a a = 0 := by simp [cmpI]
/-- The bits of a number by words. -/
theorem bl_val {ws : List Int} (h : Wd ws) (ht : Tr ws) (hn : ws ≠ []) : (bl (val ws).toNat : Int) = 32 * ((ws.length : Int) - 1) + bl (ws.getD (ws.length - 1) 0).toNat := by
  have h0 : 0 < ws.length := List.length_pos_iff.2 hn
  rcases ht with ht | ht
  · omega
  have hv := val_drop ws (ws.length - 1)
  rw [Nat.min_eq_left (by omega), drop_getD (ws := ws) (n := ws.length - 1) (by omega), show ws.length - 1 + 1 = ws.length by omega, List.drop_length] at hv
  simp only [val, Int.mul_zero, Int.add_zero] at hv
  have h1 := val_lt (h.take (ws.length - 1))
  have h2 := val_nonneg (h.take (ws.length - 1))
  rw [List.length_take, Nat.min_eq_left (by omega)] at h1
  have h3 := h.getD (ws.length - 1)
  obtain ⟨x, hx⟩ := Int.eq_ofNat_of_zero_le h2
  obtain ⟨y, hy⟩ := Int.eq_ofNat_of_zero_le h3.1
  have hp : (4294967296 : Int) ^ (ws.length - 1) = ((2 ^ (32 * (ws.length - 1)) : Nat) : Int) := by
    rw [Nat.pow_mul, Int.natCast_pow]; rfl
  rw [hp] at hv h1
  rw [hx] at hv h1
  rw [hy] at hv ⊢
  have hy0 : 0 < y := by omega
  have e : (val ws).toNat = x + 2 ^ (32 * (ws.length - 1)) * y := by
    rw [hv]
    have : ((x : Int) + ((2 ^ (32 * (ws.length - 1)) : Nat) : Int) * (y : Int)) = ((x + 2 ^ (32 * (ws.length - 1)) * y : Nat) : Int) := by push_cast; rfl
    rw [this, Int.toNat_natCast]
  have hx' : x < 2 ^ (32 * (ws.length - 1)) := by exact Int.ofNat_lt.1 h1
  have hdiv : (x + 2 ^ (32 * (ws.length - 1)) * y) / 2 ^ (32 * (ws.length - 1)) = y := by
    rw [Nat.add_mul_div_left _ _ (Nat.pow_pos (by decide)), Nat.div_eq_of_lt hx', Nat.zero_add]
  rw [e, bl_div (k := 32 * (ws.length - 1)) (by have := Nat.mul_le_mul_left (2 ^ (32 * (ws.length - 1))) hy0; omega), hdiv]
  rw [Int.toNat_natCast]
  omega
end Go.Proofs.YtebkelnibecmjaaDoor.NumA
namespace Go.Proofs.YtebkelnibecmjaaDoor.NumA
theorem cmp_sg {m n : Bool} {ws vs : List Int} (h : Wd ws) (h2 : Wd vs) (hc : canon m ws = true) (hc2 : canon n vs = true) : cmpI (sg m (val ws)) (sg n (val vs)) = if m ≠ n then (if m then -1 else 1) else if m then -cmpI (val ws) (val vs) else cmpI (val ws) (val vs) := by
  have hv := val_nonneg h
  have hv2 := val_nonneg h2
  have z : m = true → val ws ≠ 0 := fun hm e => by have := (canon_tr hc).2 (val_eq_zero h (canon_tr hc).1 e); rw [hm] at this; cases this
  have z2 : n = true → val vs ≠ 0 := fun hm e => by have := (canon_tr hc2).2 (val_eq_zero h2 (canon_tr hc2).1 e); rw [hm] at this; cases this
  unfold cmpI sg
  cases m <;> cases n <;> simp only [Bool.false_eq_true, if_false, if_true, ne_eq, not_true, not_false_eq_true, reduceCtorEq, true_implies, false_implies] at z z2 ⊢ <;> (repeat' split) <;> omega
end Go.Proofs.YtebkelnibecmjaaDoor.NumA
namespace Go.Proofs.YtebkelnibecmjaaDoor.NumA
theorem big2 {ws : List Int} (h : Wd ws) (ht : Tr ws) (hl : 2 < ws.length) : 18446744073709551616 ≤ val ws := by
  match ws, h, ht, hl with
  | a :: b :: c :: r, h, ht, _ =>
    have h1 := Wd.cons.1 h
    have h2 := Wd.cons.1 h1.2
    have hv := val_nonneg h2.2
    have : val (c :: r) ≠ 0 := fun e => by
      have := val_eq_zero h2.2 ((ht.tail (by simp)).tail (by simp)) e
      cases this
    simp only [val] at this hv ⊢
    omega
theorem small2 {ws : List Int} (h : Wd ws) (hl : ws.length ≤ 2) : val ws < 18446744073709551616 := by
  have h1 := val_lt h
  rcases (show ws.length = 0 ∨ ws.length = 1 ∨ ws.length = 2 by omega) with e | e | e <;> rw [e] at h1 <;> simp at h1 <;> omega
end Go.Proofs.YtebkelnibecmjaaDoor.NumA
namespace Go.Proofs.YtebkelnibecmjaaDoor.NumA
theorem take_succ_eq {ws vs : List Int} {i : Nat} (hi : i < ws.length) (hl : ws.length = vs.length) (hd : ws.take i = vs.take i) (he : ws.getD i 0 = vs.getD i 0) : ws.take (i + 1) = vs.take (i + 1) := by
  rw [List.take_add_one, List.take_add_one, hd, List.getElem?_eq_getElem hi, List.getElem?_eq_getElem (show i < vs.length by omega)]
  simp only [List.getD_eq_getElem?_getD, List.getElem?_eq_getElem hi, List.getElem?_eq_getElem (show i < vs.length by omega), Option.getD_some] at he
  rw [he]
theorem bl_half {n : Nat} (h : n ≠ 0) : bl n = 1 + bl (n / 2) := by
  by_cases h1 : n = 1
  · subst h1; decide
  · exact bl_div (k := 1) (by rw [Nat.pow_one]; omega)
end Go.Proofs.YtebkelnibecmjaaDoor.NumA
namespace Go.Proofs.YtebkelnibecmjaaDoor.NumA
theorem val_take_succ' {ws : List Int} (n : Nat) : val (ws.take (n + 1)) = val (ws.take n) + 4294967296 ^ n * ws.getD n 0 := by
  by_cases h : n < ws.length
  · exact val_take_succ h
  · rw [List.take_of_length_le (by omega), List.take_of_length_le (by omega), List.getD_eq_getElem?_getD, List.getElem?_eq_none (by omega)]; simp
theorem val_snoc (ws : List Int) (v : Int) : val (ws ++ [v]) = val ws + 4294967296 ^ ws.length * v := by rw [val_append]; simp [val]
/-- One step of an addition of words: s is the sum of two words and the carry. -/
theorem add_step {ws vs ys : List Int} {i : Nat} {c : Int} (hl : ys.length = i) (hv : val ys + 4294967296 ^ i * c = val (ws.take i) + val (vs.take i)) {s d c' : Int} (hs : s = ws.getD i 0 + vs.getD i 0 + c) (hd : d + 4294967296 * c' = s) :
    val (ys ++ [d]) + 4294967296 ^ (i + 1) * c' = val (ws.take (i + 1)) + val (vs.take (i + 1)) := by
  rw [val_snoc, val_take_succ', val_take_succ', hl, Int.pow_succ]
  have e : (4294967296 : Int) ^ i * s = 4294967296 ^ i * ws.getD i 0 + 4294967296 ^ i * vs.getD i 0 + 4294967296 ^ i * c := by rw [hs, Int.mul_add, Int.mul_add]
  have e2 : (4294967296 : Int) ^ i * s = 4294967296 ^ i * d + 4294967296 ^ i * 4294967296 * c' := by rw [← hd, Int.mul_add, Int.mul_assoc]
  omega
/-- .. of a subtraction. -/
theorem sub_step {ws vs ys : List Int} {i : Nat} {c : Int} (hl : ys.length = i) (hv : val ys - 4294967296 ^ i * c = val (ws.take i) - val (vs.take i)) {s d c' : Int} (hs : s = ws.getD i 0 - vs.getD i 0 - c) (hd : d - 4294967296 * c' = s) :
    val (ys ++ [d]) - 4294967296 ^ (i + 1) * c' = val (ws.take (i + 1)) - val (vs.take (i + 1)) := by
  rw [val_snoc, val_take_succ', val_take_succ', hl, Int.pow_succ]
  have e : (4294967296 : Int) ^ i * s = 4294967296 ^ i * ws.getD i 0 - 4294967296 ^ i * vs.getD i 0 - 4294967296 ^ i * c := by rw [hs, Int.mul_sub, Int.mul_sub]
  have e2 : (4294967296 : Int) ^ i * s = 4294967296 ^ i * d - 4294967296 ^ i * 4294967296 * c' := by rw [← hd, Int.mul_sub, Int.mul_assoc]
  omega
theorem take_all {ws : List Int} {n : Nat} (h : ws.length ≤ n) : ws.take n = ws := List.take_of_length_le h
end Go.Proofs.YtebkelnibecmjaaDoor.NumA
namespace Go.Proofs.YtebkelnibecmjaaDoor.NumA
theorem val_one {ws : List Int} (h : ws.length = 1) : ws.getD 0 0 = val ws := by
  match ws, h with
  | [a], _ => simp [val]
theorem val_lt1 {ws : List Int} (h : Wd ws) (hl : ws.length ≤ 1) : val ws < 4294967296 := by
  have h1 := val_lt h
  rcases (show ws.length = 0 ∨ ws.length = 1 by omega) with e | e <;> rw [e] at h1 <;> simp at h1 <;> omega
end Go.Proofs.YtebkelnibecmjaaDoor.NumA
namespace Go.Proofs.YtebkelnibecmjaaDoor.NumA
/-- The n lowest words of a number. -/
def digN : Nat → Int → List Int
  | 0, _ => []
  | n + 1, m => m % 4294967296 :: digN n (m / 4294967296)
theorem digN_length : ∀ (n : Nat) (m : Int), (digN n m).length = n
  | 0, _ => rfl
  | n + 1, m => by simp [digN, digN_length n]
theorem digN_wd : ∀ (n : Nat) (m : Int), Wd (digN n m)
  | 0, _ => Wd.nil
  | n + 1, m => Wd.cons.2 ⟨by omega, digN_wd n _⟩
theorem digN_val : ∀ {ys : List Int}, Wd ys → digN ys.length (val ys) = ys
  | [], _ => rfl
  | y :: ys, h => by
    have h1 := (Wd.cons.1 h).1
    simp only [List.length_cons, digN, val]
    rw [show (y + 4294967296 * val ys) % 4294967296 = y by omega, show (y + 4294967296 * val ys) / 4294967296 = val ys by omega, digN_val (Wd.cons.1 h).2]
theorem val_digN {n : Nat} {m : Int} (h0 : 0 ≤ m) (h1 : m < 4294967296 ^ n) : val (digN n m) = m := by
  induction n generalizing m with
  | zero => simp at h1; simp [digN, val]; omega
  | succ n ih =>
    simp only [digN, val]
    rw [ih (by omega) (by rw [Int.pow_succ] at h1; omega)]
    omega
theorem pow_max_lt {ws vs : List Int} (h : Wd ws) (h2 : Wd vs) : val ws + val vs < 4294967296 ^ (max ws.length vs.length + 1) := by
  have h3 := val_lt h
  have h4 := val_lt h2
  have mono : ∀ {a b : Nat}, a ≤ b → (4294967296 : Int) ^ a ≤ 4294967296 ^ b := fun {a b} hab => by
    have := Nat.pow_le_pow_right (n := 4294967296) (by decide) hab
    rw [show (4294967296 : Int) = ((4294967296 : Nat) : Int) from rfl, ← Int.natCast_pow, ← Int.natCast_pow]
    exact Int.ofNat_le.2 this
  have h5 := mono (Nat.le_max_left ws.length vs.length)
  have h6 := mono (Nat.le_max_right ws.length vs.length)
  rw [Int.pow_succ]
  have : (0 : Int) < 4294967296 ^ (max ws.length vs.length) := Int.pow_pos (by decide)
  omega
theorem set_fill {ys : List Int} {i n : Nat} (hl : ys.length = i) (hi : i < n) (d : Int) : (ys ++ List.replicate (n - i) 0).set i d = (ys ++ [d]) ++ List.replicate (n - (i + 1)) 0 := by
  subst hl
  rw [List.set_append_right _ _ (Nat.le_refl _), Nat.sub_self, show n - ys.length = (n - (ys.length + 1)) + 1 by omega, List.replicate_succ, List.set_cons_zero, List.append_assoc]
  rfl
theorem Wd.snoc {ys : List Int} {d : Int} (h : Wd ys) (h0 : 0 ≤ d) (h1 : d < 4294967296) : Wd (ys ++ [d]) := h.append (Wd.cons.2 ⟨⟨h0, h1⟩, Wd.nil⟩)
/-- The end of an addition of words. -/
theorem add_end {ws vs ys : List Int} {n : Nat} {c : Int} (h : Wd ws) (h2 : Wd vs) (hy : Wd ys) (hl : ys.length = n) (hn : n = max ws.length vs.length + 1) (hc : 0 ≤ c) (hv : val ys + 4294967296 ^ n * c = val (ws.take n) + val (vs.take n)) : c = 0 ∧ ys = digN n (val ws + val vs) := by
  rw [take_all (by omega), take_all (by omega)] at hv
  have h3 := pow_max_lt h h2
  rw [← hn] at h3
  have h4 := val_nonneg hy
  have h5 : c = 0 := by
    by_cases e : c = 0
    · exact e
    · have h6 : (4294967296 : Int) ^ n * 1 ≤ 4294967296 ^ n * c := Int.mul_le_mul_of_nonneg_left (by omega) (Int.le_of_lt (Int.pow_pos (by decide)))
      omega
  refine ⟨h5, ?_⟩
  rw [h5, Int.mul_zero, Int.add_zero] at hv
  rw [← hv, ← hl, digN_val hy]
end Go.Proofs.YtebkelnibecmjaaDoor.NumA
namespace Go.Proofs.YtebkelnibecmjaaDoor.NumA
/-- Where an addition of words stands. -/
structure AddAt (ws vs : List Int) (n : Nat) (x : Nat × List Int × Int) : Prop where
  le : x.1 ≤ n
  len : x.2.1.length = x.1
  wd : Wd x.2.1
  c0 : 0 ≤ x.2.2
  c1 : x.2.2 ≤ 1
  eq : val x.2.1 + 4294967296 ^ x.1 * x.2.2 = val (ws.take x.1) + val (vs.take x.1)
theorem AddAt.zero (ws vs : List Int) (n : Nat) : AddAt ws vs n (0, [], 0) := ⟨Nat.zero_le _, rfl, Wd.nil, Int.le_refl _, by decide, by simp [val]⟩
theorem AddAt.next {ws vs : List Int} (h : Wd ws) (h2 : Wd vs) {n i : Nat} {ys : List Int} {c : Int} (ha : AddAt ws vs n (i, ys, c)) (hi : i < n) :
    AddAt ws vs n (i + 1, ys ++ [(ws.getD i 0 + vs.getD i 0 + c) % 4294967296], (ws.getD i 0 + vs.getD i 0 + c) / 4294967296) := by
  have hw := h.getD i
  have hv := h2.getD i
  have h3 := ha.c0
  have h4 := ha.c1
  simp only at h3 h4
  exact ⟨hi, by simp [ha.len], ha.wd.snoc (by omega) (by omega), by simp only; omega, by simp only; omega, add_step (ws := ws) (vs := vs) (ys := ys) (i := i) (c := c) (d := (ws.getD i 0 + vs.getD i 0 + c) % 4294967296) (c' := (ws.getD i 0 + vs.getD i 0 + c) / 4294967296) ha.len ha.eq rfl (by omega)⟩
structure SubAt (ws vs : List Int) (n : Nat) (x : Nat × List Int × Int) : Prop where
  le : x.1 ≤ n
  len : x.2.1.length = x.1
  wd : Wd x.2.1
  c0 : 0 ≤ x.2.2
  c1 : x.2.2 ≤ 1
  eq : val x.2.1 - 4294967296 ^ x.1 * x.2.2 = val (ws.take x.1) - val (vs.take x.1)
theorem SubAt.zero (ws vs : List Int) (n : Nat) : SubAt ws vs n (0, [], 0) := ⟨Nat.zero_le _, rfl, Wd.nil, Int.le_refl _, by decide, by simp [val]⟩
theorem SubAt.next {ws vs : List Int} (h : Wd ws) (h2 : Wd vs) {n i : Nat} {ys : List Int} {c : Int} (ha : SubAt ws vs n (i, ys, c)) (hi : i < n) :
    SubAt ws vs n (i + 1, ys ++ [(ws.getD i 0 - vs.getD i 0 - c) % 4294967296], if ws.getD i 0 < vs.getD i 0 + c then 1 else 0) := by
  have hw := h.getD i
  have hv := h2.getD i
  have h3 := ha.c0
  have h4 := ha.c1
  simp only at h3 h4
  exact ⟨hi, by simp [ha.len], ha.wd.snoc (by omega) (by omega), by simp only; split <;> omega, by simp only; split <;> omega, sub_step (ws := ws) (vs := vs) (ys := ys) (i := i) (c := c) (d := (ws.getD i 0 - vs.getD i 0 - c) % 4294967296) (c' := if ws.getD i 0 < vs.getD i 0 + c then 1 else 0) ha.len ha.eq rfl (by split <;> omega)⟩
theorem sub_end {ws vs ys : List Int} {n : Nat} {c : Int} (h : Wd ws) (h2 : Wd vs) (hle : val vs ≤ val ws) (hn : ws.length ≤ n) (hn2 : vs.length ≤ n) (ha : SubAt ws vs n (n, ys, c)) : c = 0 ∧ ys = digN n (val ws - val vs) := by
  have hv := ha.eq
  simp only at hv
  rw [take_all hn, take_all hn2] at hv
  have h4 := val_lt ha.wd
  simp only [ha.len] at h4
  have h3 := ha.c0
  simp only at h3
  have h5 : c = 0 := by
    by_cases e : c = 0
    · exact e
    · have h6 : (4294967296 : Int) ^ n * 1 ≤ 4294967296 ^ n * c := Int.mul_le_mul_of_nonneg_left (by omega) (Int.le_of_lt (Int.pow_pos (by decide)))
      omega
  refine ⟨h5, ?_⟩
  rw [h5, Int.mul_zero, Int.sub_zero] at hv
  have hal : ys.length = n := ha.len
  rw [← hv, ← hal]
  exact (digN_val ha.wd).symm
end Go.Proofs.YtebkelnibecmjaaDoor.NumA
namespace Go.Proofs.YtebkelnibecmjaaDoor.NumA
theorem getD_out {ws : List Int} {i : Nat} (h : ws.length ≤ i) : ws.getD i 0 = 0 := by rw [List.getD_eq_getElem?_getD, List.getElem?_eq_none h]; rfl
end Go.Proofs.YtebkelnibecmjaaDoor.NumA
namespace Go.Proofs.YtebkelnibecmjaaDoor.NumA
theorem sg_bd {n x : Int} (m : Bool) (h : 0 ≤ x) (h1 : x < n) : -n < sg m x ∧ sg m x < n := by cases m <;> simp [sg] <;> omega
theorem sg_add (m : Bool) (x y : Int) : sg m (x + y) = sg m x + sg m y := by cases m <;> simp [sg]; omega
theorem sg_sub {m n : Bool} (h : m ≠ n) {x y : Int} : sg m (x - y) = sg m x + sg n y := by cases m <;> cases n <;> simp [sg] at h ⊢ <;> omega
theorem sg_not (m : Bool) (x : Int) : sg (!m) x = -sg m x := by cases m <;> simp [sg]
theorem cmpI_ge {x y : Int} (h : 0 ≤ cmpI x y) : y ≤ x := by unfold cmpI at h; split at h <;> omega
theorem cmpI_lt {x y : Int} (h : ¬ 0 ≤ cmpI x y) : x < y := by
  unfold cmpI at h
  split at h
  · assumption
  · split at h <;> omega
end Go.Proofs.YtebkelnibecmjaaDoor.NumA
namespace Go.Proofs.YtebkelnibecmjaaDoor.NumA
theorem val_set {ws : List Int} : ∀ {i : Nat}, i < ws.length → ∀ v : Int, val (ws.set i v) = val ws + 4294967296 ^ i * (v - ws.getD i 0) := by
  induction ws with
  | nil => intro i h; simp at h
  | cons w ws ih =>
    intro i h v
    cases i with
    | zero => simp [val]; omega
    | succ i =>
      simp only [List.set_cons_succ, val, List.getD_cons_succ, Int.pow_succ]
      rw [ih (by simpa using h) v]
      grind
theorem mul_bd {x y : Int} (hx : 0 ≤ x ∧ x < 4294967296) (hy : 0 ≤ y ∧ y < 4294967296) : 0 ≤ x * y ∧ x * y ≤ 18446744065119617025 := by
  constructor
  · exact Int.mul_nonneg hx.1 hy.1
  · have h1 : x * y ≤ x * 4294967295 := Int.mul_le_mul_of_nonneg_left (by omega) hx.1
    omega
theorem val_zero_get {ws : List Int} (h : Wd ws) (h0 : val ws = 0) (i : Nat) : ws.getD i 0 = 0 := by
  induction ws generalizing i with
  | nil => rfl
  | cons w ws ih =>
    have h1 := Wd.cons.1 h
    have h2 := val_nonneg h1.2
    simp only [val] at h0
    cases i with
    | zero => simp; omega
    | succ i => simpa using ih h1.2 (by omega) i
theorem high_zero {ws : List Int} (h : Wd ws) {k i : Nat} (hv : val ws < 4294967296 ^ k) (hi : k ≤ i) : ws.getD i 0 = 0 := by
  by_cases hk : ws.length ≤ k
  · exact getD_out (by omega)
  · have h1 := val_drop ws k
    rw [Nat.min_eq_left (by omega)] at h1
    have h2 := val_nonneg (h.take k)
    have h3 := val_nonneg (h.drop k)
    have hp : (0 : Int) < 4294967296 ^ k := Int.pow_pos (by decide)
    have h4 : val (ws.drop k) = 0 := by
      by_cases e : val (ws.drop k) = 0
      · exact e
      · have h6 : (4294967296 : Int) ^ k * 1 ≤ 4294967296 ^ k * val (ws.drop k) := Int.mul_le_mul_of_nonneg_left (by omega) (Int.le_of_lt hp)
        omega
    have h5 := val_zero_get (h.drop k) h4 (i - k)
    rw [List.getD_eq_getElem?_getD, List.getElem?_drop, show k + (i - k) = i by omega, ← List.getD_eq_getElem?_getD] at h5
    exact h5
/-- Where a product stands: the row after i words of the first factor. -/
structure MulAt (ws vs : List Int) (x : Nat × List Int) : Prop where
  le : x.1 ≤ ws.length
  len : x.2.length = ws.length + vs.length
  wd : Wd x.2
  eq : val x.2 = val (ws.take x.1) * val vs
/-- .. within the word i, after j words of the second. -/
structure MulIn (ws vs : List Int) (i : Nat) (x : Nat × List Int × Int) : Prop where
  le : x.1 ≤ vs.length
  len : x.2.1.length = ws.length + vs.length
  wd : Wd x.2.1
  c0 : 0 ≤ x.2.2
  c1 : x.2.2 < 4294967296
  top : x.2.1.getD (i + vs.length) 0 = 0
  eq : val x.2.1 + 4294967296 ^ (i + x.1) * x.2.2 = val (ws.take i) * val vs + 4294967296 ^ i * (ws.getD i 0 * val (vs.take x.1))
theorem val_rep (n : Nat) : val (List.replicate n 0) = 0 := by
  induction n with
  | zero => rfl
  | succ n ih => rw [List.replicate_succ, val, ih]; rfl
theorem MulAt.zero (ws vs : List Int) : MulAt ws vs (0, List.replicate (ws.length + vs.length) 0) := ⟨Nat.zero_le _, by simp, Wd.rep _, by simp [val, val_rep]⟩
theorem take_mul_lt {ws vs : List Int} (h : Wd ws) (h2 : Wd vs) {i : Nat} (hi : i ≤ ws.length) : val (ws.take i) * val vs < 4294967296 ^ (i + vs.length) := by
  have h3 := val_lt (h.take i)
  rw [List.length_take, Nat.min_eq_left hi] at h3
  have h4 := val_lt h2
  have h5 := val_nonneg (h.take i)
  have h6 := val_nonneg h2
  rw [Int.pow_add]
  have hp : (0 : Int) < 4294967296 ^ i := Int.pow_pos (by decide)
  have hp2 : (0 : Int) < 4294967296 ^ vs.length := Int.pow_pos (by decide)
  have e1 : val (ws.take i) * val vs ≤ val (ws.take i) * 4294967296 ^ vs.length := Int.mul_le_mul_of_nonneg_left (by omega) h5
  have e2 : val (ws.take i) * 4294967296 ^ vs.length < 4294967296 ^ i * 4294967296 ^ vs.length := Int.mul_lt_mul_of_pos_right h3 hp2
  omega
theorem MulIn.zero {ws vs : List Int} (h : Wd ws) (h2 : Wd vs) {i : Nat} {r : List Int} (ha : MulAt ws vs (i, r)) (hi : i < ws.length) : MulIn ws vs i (0, r, 0) :=
  ⟨Nat.zero_le _, ha.len, ha.wd, Int.le_refl _, by show (0 : Int) < 4294967296; decide, high_zero ha.wd (by have := ha.eq; simp only at this; rw [this]; exact take_mul_lt h h2 (by omega)) (Nat.le_refl _), by have := ha.eq; simp only at this; simp [val, this]⟩
theorem MulIn.next {ws vs : List Int} (h : Wd ws) (h2 : Wd vs) {i j : Nat} {r : List Int} {c : Int} (ha : MulIn ws vs i (j, r, c)) (hi : i < ws.length) (hj : j < vs.length) {t : Int} (ht : t = ws.getD i 0 * vs.getD j 0 + r.getD (i + j) 0 + c) :
    MulIn ws vs i (j + 1, r.set (i + j) (t % 4294967296), t / 4294967296) ∧ 0 ≤ t ∧ t < 18446744073709551616 := by
  have hw := h.getD i
  have hv := h2.getD j
  have hb := mul_bd hw hv
  have hr := ha.wd.getD (i + j)
  have hc0 := ha.c0
  have hc1 := ha.c1
  have hl := ha.len
  have heq := ha.eq
  have htop := ha.top
  simp only at hr hc0 hc1 hl heq htop
  refine ⟨⟨hj, by simp [hl], ha.wd.set _ (by omega) (by omega), by simp only; omega, by simp only; omega, ?_, ?_⟩, by omega, by omega⟩
  · simp only
    rw [List.getD_eq_getElem?_getD, List.getElem?_set_ne (by omega), ← List.getD_eq_getElem?_getD]
    exact htop
  · simp only
    rw [val_set (by omega), val_take_succ' (ws := vs) j, ← Nat.add_assoc, Int.pow_succ, Int.pow_add]
    rw [Int.pow_add] at heq
    have e : t % 4294967296 + 4294967296 * (t / 4294967296) = t := by omega
    generalize (4294967296 : Int) ^ i = A at *
    generalize (4294967296 : Int) ^ j = B at *
    generalize t % 4294967296 = d at *
    generalize t / 4294967296 = q at *
    subst ht
    grind
theorem MulIn.done {ws vs : List Int} {i : Nat} {r : List Int} {c : Int} (ha : MulIn ws vs i (vs.length, r, c)) (hi : i < ws.length) : MulAt ws vs (i + 1, r.set (i + vs.length) c) := by
  have hl := ha.len
  have heq := ha.eq
  have htop := ha.top
  simp only at hl heq htop
  refine ⟨hi, by simp [hl], ha.wd.set _ ha.c0 ha.c1, ?_⟩
  simp only
  rw [val_set (by omega), htop, val_take_succ' (ws := ws) i]
  rw [List.take_length] at heq
  grind
end Go.Proofs.YtebkelnibecmjaaDoor.NumA
namespace Go.Proofs.YtebkelnibecmjaaDoor.NumA
theorem two_words {ws : List Int} (_h : Wd ws) (hl : ws.length ≤ 2) : ws.getD 0 0 + ws.getD 1 0 * 4294967296 = val ws := by
  match ws, hl with
  | [], _ => simp [val]
  | [a], _ => simp [val]
  | [a, b], _ => simp [val]; omega
theorem len_two {ws : List Int} (h : Wd ws) (ht : Tr ws) (hv : val ws < 4611686018427387904) : ws.length ≤ 2 := by
  by_cases e : ws.length ≤ 2
  · exact e
  · have := big2 h ht (by omega); omega
end Go.Proofs.YtebkelnibecmjaaDoor.NumA
namespace Go.Proofs.YtebkelnibecmjaaDoor.NumA
theorem sub_word {x y c : Int} : (x + 4294967296 - y - c) % 4294967296 = (x - y - c) % 4294967296 := by omega
end Go.Proofs.YtebkelnibecmjaaDoor.NumA
namespace Go.Proofs.YtebkelnibecmjaaDoor.NumA
theorem dlen {m : Int} {k : Nat} (h0 : 0 ≤ m) (h : m < 4294967296 ^ k) : (digs m.toNat).length ≤ k := by
  refine digs_len ?_
  obtain ⟨x, rfl⟩ := Int.eq_ofNat_of_zero_le h0
  rw [show (4294967296 : Int) = ((4294967296 : Nat) : Int) from rfl, ← Int.natCast_pow] at h
  rw [Int.toNat_natCast]
  exact Int.ofNat_lt.1 h
theorem val_digs_int {m : Int} (h0 : 0 ≤ m) : val (digs m.toNat) = m := by rw [val_digs]; omega
theorem len_le {ws vs : List Int} (h : Wd ws) (h2 : Wd vs) (ht2 : Tr vs) (hle : val vs ≤ val ws) : vs.length ≤ ws.length := by
  by_cases e : vs.length ≤ ws.length
  · exact e
  · have := val_lt_len h h2 ht2 (by omega); omega
theorem add_len {ws vs : List Int} (h : Wd ws) (h2 : Wd vs) : (digs (val ws + val vs).toNat).length ≤ max ws.length vs.length + 1 := dlen (by have := val_nonneg h; have := val_nonneg h2; omega) (pow_max_lt h h2)
theorem sub_len {ws vs : List Int} (h : Wd ws) (h2 : Wd vs) (hle : val vs ≤ val ws) : (digs (val ws - val vs).toNat).length ≤ ws.length := dlen (by omega) (by have := val_lt h; have := val_nonneg h2; omega)
theorem mul_len {ws vs : List Int} (h : Wd ws) (h2 : Wd vs) : (digs (val ws * val vs).toNat).length ≤ ws.length + vs.length := dlen (Int.mul_nonneg (val_nonneg h) (val_nonneg h2)) (by have := take_mul_lt h h2 (i := ws.length) (Nat.le_refl _); rwa [List.take_length] at this)
end Go.Proofs.YtebkelnibecmjaaDoor.NumA
namespace Go.Proofs.YtebkelnibecmjaaDoor.NumA
theorem short_step {w V d : Int} (hd : 0 < d) (hw : 0 ≤ w ∧ w < 4294967296) (hV : 0 ≤ V) :
    (w + 4294967296 * V) / d = (V % d * 4294967296 + w) / d + 4294967296 * (V / d) ∧ (w + 4294967296 * V) % d = (V % d * 4294967296 + w) % d ∧ 0 ≤ (V % d * 4294967296 + w) / d ∧ (V % d * 4294967296 + w) / d < 4294967296 := by
  have h1 := Int.emod_nonneg V (show d ≠ 0 by omega)
  have h2 := Int.emod_lt_of_pos V hd
  have h3 := Int.mul_ediv_add_emod V d
  have e : w + 4294967296 * V = (V % d * 4294967296 + w) + d * (4294967296 * (V / d)) := by
    conv => lhs; rw [← h3]
    grind
  refine ⟨?_, ?_, ?_, ?_⟩
  · rw [e, Int.add_mul_ediv_left _ _ (by omega)]
  · rw [e, Int.add_mul_emod_self_left]
  · exact Int.ediv_nonneg (by omega) (by omega)
  · refine Int.ediv_lt_of_lt_mul hd ?_
    have : (V % d + 1) * 4294967296 ≤ d * 4294967296 := Int.mul_le_mul_of_nonneg_right (by omega) (by decide)
    omega
theorem digN_cons {k : Nat} {q Q : Int} (hq : 0 ≤ q ∧ q < 4294967296) : digN (k + 1) (q + 4294967296 * Q) = q :: digN k Q := by
  simp only [digN]
  rw [show (q + 4294967296 * Q) % 4294967296 = q by omega, show (q + 4294967296 * Q) / 4294967296 = Q by omega]
theorem set_last {xs qs : List Int} {n : Nat} (hl : xs.length = n + 1) (q : Int) : (xs ++ qs).set n q = xs.take n ++ q :: qs := by
  rw [List.set_append_left _ _ (by omega)]
  have : xs.set n q = xs.take n ++ [q] := by
    apply List.ext_getElem?
    intro i
    rw [List.getElem?_set]
    by_cases e : n = i
    · subst e; simp [hl]
    · rw [if_neg e, List.getElem?_append]
      simp only [List.length_take, hl, Nat.min_eq_left (Nat.le_succ n)]
      by_cases e2 : i < n
      · rw [if_pos e2, List.getElem?_take, if_pos e2]
      · rw [if_neg e2, List.getElem?_eq_none (by omega), List.getElem?_eq_none (by simp; omega)]
  rw [this, List.append_assoc]; rfl
/-- Where a division by a word stands: the words from n on are divided. -/
structure ShortAt (ws : List Int) (d : Int) (x : Nat × List Int × Int) : Prop where
  le : x.1 ≤ ws.length
  q : x.2.1 = digN (ws.length - x.1) (val (ws.drop x.1) / d)
  r : x.2.2 = val (ws.drop x.1) % d
theorem ShortAt.start (ws : List Int) (d : Int) : ShortAt ws d (ws.length, [], 0) := ⟨Nat.le_refl _, by simp [digN], by simp [val]⟩
theorem ShortAt.next {ws : List Int} {d : Int} (h : Wd ws) (hd : 0 < d) {n : Nat} {qs : List Int} {r : Int} (ha : ShortAt ws d (n, qs, r)) (hn : 0 < n) :
    ShortAt ws d (n - 1, (r * 4294967296 + ws.getD (n - 1) 0) / d :: qs, (r * 4294967296 + ws.getD (n - 1) 0) % d) ∧ 0 ≤ (r * 4294967296 + ws.getD (n - 1) 0) / d ∧ (r * 4294967296 + ws.getD (n - 1) 0) / d < 4294967296 := by
  have hle := ha.le
  have hq := ha.q
  have hr := ha.r
  simp only at hle hq hr
  have hs := short_step (V := val (ws.drop n)) hd (h.getD (n - 1)) (val_nonneg (h.drop n))
  have hdr := drop_getD (ws := ws) (n := n - 1) (by omega)
  rw [show n - 1 + 1 = n by omega] at hdr
  rw [← hr] at hs
  refine ⟨⟨by simp only; omega, ?_, ?_⟩, hs.2.2.1, hs.2.2.2⟩
  · simp only
    rw [hdr, val, hs.1, show ws.length - (n - 1) = (ws.length - n) + 1 by omega, digN_cons ⟨hs.2.2.1, hs.2.2.2⟩, hq]
  · simp only
    rw [hdr, val, hs.2.1]
end Go.Proofs.YtebkelnibecmjaaDoor.NumA
namespace Go.Proofs.YtebkelnibecmjaaDoor.NumA
theorem getD_head {ws qs : List Int} {n i : Nat} (hi : i < n) (hl : n ≤ ws.length) : (ws.take n ++ qs).getD i 0 = ws.getD i 0 := by
  rw [List.getD_eq_getElem?_getD, List.getElem?_append_left (by simp; omega), List.getElem?_take, if_pos hi, ← List.getD_eq_getElem?_getD]
end Go.Proofs.YtebkelnibecmjaaDoor.NumA
namespace Go.Proofs.YtebkelnibecmjaaDoor.NumA
/-- Where a shift by k bits stands: the words ys are done, h is what was pushed out. -/
structure ShiftAt (ws : List Int) (k : Nat) (x : Nat × List Int × Int) : Prop where
  le : x.1 ≤ ws.length
  len : x.2.1.length = x.1
  wd : Wd x.2.1
  h0 : 0 ≤ x.2.2
  h1 : x.2.2 < 2 ^ k
  eq : val x.2.1 + 4294967296 ^ x.1 * x.2.2 = val (ws.take x.1) * 2 ^ k
theorem ShiftAt.zero (ws : List Int) (k : Nat) : ShiftAt ws k (0, [], 0) := ⟨Nat.zero_le _, rfl, Wd.nil, Int.le_refl _, by show (0 : Int) < 2 ^ k; exact Int.pow_pos (by decide), by simp [val]⟩
theorem ShiftAt.next {ws : List Int} {k : Nat} (h : Wd ws) {i : Nat} {ys : List Int} {c : Int} (ha : ShiftAt ws k (i, ys, c)) (hi : i < ws.length) :
    ShiftAt ws k (i + 1, ys ++ [(ws.getD i 0 * 2 ^ k + c) % 4294967296], (ws.getD i 0 * 2 ^ k + c) / 4294967296) := by
  have hw := h.getD i
  have h0 := ha.h0
  have h1 := ha.h1
  have hl := ha.len
  have heq := ha.eq
  simp only at h0 h1 hl heq
  have hp : (0 : Int) < 2 ^ k := Int.pow_pos (by decide)
  have hs0 : 0 ≤ ws.getD i 0 * 2 ^ k := Int.mul_nonneg hw.1 (Int.le_of_lt hp)
  have hs : ws.getD i 0 * 2 ^ k + c < 2 ^ k * 4294967296 := by
    have : (ws.getD i 0 + 1) * 2 ^ k ≤ 4294967296 * 2 ^ k := Int.mul_le_mul_of_nonneg_right (by omega) (Int.le_of_lt hp)
    rw [Int.add_mul, Int.one_mul] at this
    rw [Int.mul_comm (2 ^ k)]
    omega
  refine ⟨hi, by simp [hl], ha.wd.snoc (by omega) (by omega), Int.ediv_nonneg (by omega) (by decide), Int.ediv_lt_of_lt_mul (by decide) hs, ?_⟩
  simp only
  rw [val_snoc, hl, val_take_succ hi, Int.pow_succ]
  have e : (ws.getD i 0 * 2 ^ k + c) % 4294967296 + 4294967296 * ((ws.getD i 0 * 2 ^ k + c) / 4294967296) = ws.getD i 0 * 2 ^ k + c := by omega
  generalize (4294967296 : Int) ^ i = A at *
  generalize (ws.getD i 0 * 2 ^ k + c) % 4294967296 = d at *
  generalize (ws.getD i 0 * 2 ^ k + c) / 4294967296 = q at *
  grind
theorem ShiftAt.end_ {ws : List Int} {k : Nat} {ys : List Int} {c : Int} (ha : ShiftAt ws k (ws.length, ys, c)) (hk : k ≤ 32) : ys ++ [c] = digN (ws.length + 1) (val ws * 2 ^ k) ∧ Wd (ys ++ [c]) := by
  have h0 := ha.h0
  have h1 := ha.h1
  have hl := ha.len
  have heq := ha.eq
  simp only at h0 h1 hl heq
  have hp : (2 : Int) ^ k ≤ 4294967296 := by
    have := Nat.pow_le_pow_right (n := 2) (by decide) hk
    have h2 : ((2 ^ k : Nat) : Int) ≤ ((2 ^ 32 : Nat) : Int) := Int.ofNat_le.2 this
    rw [Int.natCast_pow] at h2
    exact h2
  have hwd : Wd (ys ++ [c]) := ha.wd.snoc h0 (by omega)
  refine ⟨?_, hwd⟩
  rw [List.take_length] at heq
  rw [← heq, ← hl, ← val_snoc]
  have := digN_val hwd
  rw [List.length_append] at this
  exact this.symm
end Go.Proofs.YtebkelnibecmjaaDoor.NumA
namespace Go.Proofs.YtebkelnibecmjaaDoor.NumA
/-- The window R = (U B + u2) P + u3 over the divisor D = (d1 B + d2) P + d3: a guess that is too great may be lowered. -/
theorem guess_down {U u2 u3 d1 d2 d3 P R D q r Q : Int} (hR : R = (U * 4294967296 + u2) * P + u3) (hD : D = (d1 * 4294967296 + d2) * P + d3) (hP : 0 < P) (hu3 : 0 ≤ u3 ∧ u3 < P) (hd3 : 0 ≤ d3) (hq0 : 0 ≤ q) (hqr : q * d1 + r = U) (hQ : Q * D ≤ R) (hQB : Q < 4294967296) (hDpos : 0 < D) (hbig : 4294967296 ≤ q ∨ r * 4294967296 + u2 < q * d2) : Q ≤ q - 1 := by
  rcases hbig with h | h
  · omega
  · by_cases e : Q ≤ q - 1
    · exact e
    · have h1 : q * D ≤ Q * D := Int.mul_le_mul_of_nonneg_right (by omega) (Int.le_of_lt hDpos)
      have h2 : (U * 4294967296 + u2 + 1) * P ≤ (q * (d1 * 4294967296 + d2)) * P := Int.mul_le_mul_of_nonneg_right (by rw [← hqr]; grind) (Int.le_of_lt hP)
      have h3 : q * D = q * (d1 * 4294967296 + d2) * P + q * d3 := by rw [hD]; grind
      have h4 : 0 ≤ q * d3 := Int.mul_nonneg hq0 hd3
      have h5 : (U * 4294967296 + u2 + 1) * P = (U * 4294967296 + u2) * P + P := by grind
      omega
end Go.Proofs.YtebkelnibecmjaaDoor.NumA
namespace Go.Proofs.YtebkelnibecmjaaDoor.NumA
/-- .. and a guess that need not be lowered is at most one too great. -/
theorem guess_end {U u2 u3 d1 d2 d3 P R D q r : Int} (hR : R = (U * 4294967296 + u2) * P + u3) (hD : D = (d1 * 4294967296 + d2) * P + d3) (hP : 0 < P) (hu2 : 0 ≤ u2) (hu3 : 0 ≤ u3) (hd1 : 1 ≤ d1) (hd2 : 0 ≤ d2 ∧ d2 < 4294967296) (hd3 : 0 ≤ d3 ∧ d3 < P) (hq0 : 0 ≤ q) (hqB : q < 4294967296) (hqr : q * d1 + r = U) (hend : 4294967296 ≤ r ∨ q * d2 ≤ r * 4294967296 + u2) : (q - 1) * D ≤ R := by
  have h3 : q * D = q * (d1 * 4294967296 + d2) * P + q * d3 := by rw [hD]; grind
  have h4 : q * d3 ≤ q * P := Int.mul_le_mul_of_nonneg_left (by omega) hq0
  have h5 : q * P ≤ 4294967296 * P := Int.mul_le_mul_of_nonneg_right (by omega) (Int.le_of_lt hP)
  have h6 : 1 * (4294967296 * P) ≤ d1 * (4294967296 * P) := Int.mul_le_mul_of_nonneg_right hd1 (by omega)
  have h7 : 0 ≤ d2 * P := Int.mul_nonneg hd2.1 (Int.le_of_lt hP)
  have h8 : D = d1 * (4294967296 * P) + d2 * P + d3 := by rw [hD]; grind
  have h9 : q * (d1 * 4294967296 + d2) ≤ U * 4294967296 + u2 := by
    rcases hend with h | h
    · have h10 : q * d2 ≤ q * 4294967296 := Int.mul_le_mul_of_nonneg_left (by omega) hq0
      have h11 : q * (d1 * 4294967296 + d2) = (U - r) * 4294967296 + q * d2 := by rw [← hqr]; grind
      have h12 : (U - r) * 4294967296 = U * 4294967296 - r * 4294967296 := by grind
      omega
    · have h11 : q * (d1 * 4294967296 + d2) = (U - r) * 4294967296 + q * d2 := by rw [← hqr]; grind
      have h12 : (U - r) * 4294967296 = U * 4294967296 - r * 4294967296 := by grind
      omega
  have h13 : q * (d1 * 4294967296 + d2) * P ≤ (U * 4294967296 + u2) * P := Int.mul_le_mul_of_nonneg_right h9 (Int.le_of_lt hP)
  have h14 : (q - 1) * D = q * D - D := by grind
  omega
end Go.Proofs.YtebkelnibecmjaaDoor.NumA
namespace Go.Proofs.YtebkelnibecmjaaDoor.NumA
open Go Go.Proofs.YtebkelnibecmjaaDoor.SH
theorem pow_split {k : Nat} (hk : k ≤ 32) : (4294967296 : Int) = 2 ^ (32 - k) * 2 ^ k := by
  rw [← Int.pow_add, Nat.sub_add_cancel hk]; rfl
theorem shl_mod {k : Nat} (hk : k ≤ 32) (w : Int) : w * 2 ^ k % 4294967296 = (w % 2 ^ (32 - k)) * 2 ^ k := by
  rw [pow_split hk, Int.mul_comm w, Int.mul_comm (2 ^ (32 - k)), Int.mul_emod_mul_of_pos _ _ (Int.pow_pos (by decide)), Int.mul_comm]
theorem shl_div {k : Nat} (hk : k ≤ 32) (w : Int) {c : Int} (h0 : 0 ≤ c) (h1 : c < 2 ^ k) : (w * 2 ^ k + c) / 4294967296 = w / 2 ^ (32 - k) := by
  rw [pow_split hk, Int.mul_comm (2 ^ (32 - k)), ← Int.ediv_ediv_of_nonneg (Int.le_of_lt (Int.pow_pos (by decide)))]
  rw [Int.add_comm, Int.add_mul_ediv_right _ _ (by have : (0 : Int) < 2 ^ k := Int.pow_pos (by decide); omega), Int.ediv_eq_zero_of_lt h0 h1, Int.zero_add]
theorem shl_add {k : Nat} (hk : k ≤ 32) (w : Int) {c : Int} (h0 : 0 ≤ c) (h1 : c < 2 ^ k) : (w * 2 ^ k + c) % 4294967296 = c + (w % 2 ^ (32 - k)) * 2 ^ k ∧ c + (w % 2 ^ (32 - k)) * 2 ^ k < 4294967296 ∧ 0 ≤ (w % 2 ^ (32 - k)) ∧ (w % 2 ^ (32 - k)) * 2 ^ k < 4294967296 := by
  have hp : (0 : Int) < 2 ^ k := Int.pow_pos (by decide)
  have hp2 : (0 : Int) < 2 ^ (32 - k) := Int.pow_pos (by decide)
  have hm := shl_mod hk w
  have h2 := Int.emod_lt_of_pos w hp2
  have h3 := Int.emod_nonneg w (show (2 : Int) ^ (32 - k) ≠ 0 by omega)
  have h4 : (w % 2 ^ (32 - k) + 1) * 2 ^ k ≤ 2 ^ (32 - k) * 2 ^ k := Int.mul_le_mul_of_nonneg_right (by omega) (Int.le_of_lt hp)
  rw [Int.add_mul, Int.one_mul, ← pow_split hk] at h4
  have h5 : 0 ≤ w % 2 ^ (32 - k) * 2 ^ k := Int.mul_nonneg h3 (Int.le_of_lt hp)
  refine ⟨?_, by omega, h3, by omega⟩
  rw [Int.add_emod, hm, Int.emod_eq_of_lt h0 (by omega), Int.emod_eq_of_lt (by omega) (by omega)]
  omega
theorem shl32k {k : Nat} (hk : k ≤ 32) {m : Int} : IntKind.u32.wrap (m * 2 ^ (min ((k : Int)).toNat IntKind.u32.bits)) = (m % 2 ^ (32 - k)) * 2 ^ k := by
  rw [wu32, Int.toNat_natCast, show min k IntKind.u32.bits = k from Nat.min_eq_left hk, shl_mod hk]
theorem shr64k {k : Nat} (hk : k ≤ 64) {m : Int} : m.fdiv (2 ^ (min ((k : Int)).toNat IntKind.u64.bits)) = m / 2 ^ k := by
  rw [Int.toNat_natCast, show min k IntKind.u64.bits = k from Nat.min_eq_left hk, Int.fdiv_eq_ediv_of_nonneg _ (Int.le_of_lt (Int.pow_pos (by decide)))]
end Go.Proofs.YtebkelnibecmjaaDoor.NumA
namespace Go.Proofs.YtebkelnibecmjaaDoor.NumA
open Go Go.Proofs.YtebkelnibecmjaaDoor.SH
theorem shr64s {k : Nat} (hk : k < 32) {m : Int} : m.fdiv (2 ^ (min ((32 : Int) - (k : Int)).toNat IntKind.u64.bits)) = m / 2 ^ (32 - k) := by
  have : ((32 : Int) - (k : Int)).toNat = 32 - k := by omega
  rw [this, show min (32 - k) IntKind.u64.bits = 32 - k from Nat.min_eq_left (by show 32 - k ≤ 64; omega), Int.fdiv_eq_ediv_of_nonneg _ (Int.le_of_lt (Int.pow_pos (by decide)))]
theorem shift_fill {ys : List Int} {c d q : Int} {i n : Nat} (hl : ys.length = i) (hi : i < n) : ((ys ++ c :: List.replicate (n - i) 0).set i d).set (i + 1) q = (ys ++ [d]) ++ q :: List.replicate (n - (i + 1)) 0 := by
  subst hl
  rw [List.set_append_right _ _ (Nat.le_refl _), Nat.sub_self, List.set_cons_zero, List.set_append_right _ _ (Nat.le_succ _), show ys.length.succ - ys.length = 1 by omega, List.set_cons_succ, show n - ys.length = (n - (ys.length + 1)) + 1 by omega, List.replicate_succ, List.set_cons_zero, List.append_assoc]
  rfl
end Go.Proofs.YtebkelnibecmjaaDoor.NumA
namespace Go.Proofs.YtebkelnibecmjaaDoor.NumA
theorem pow32 {k : Nat} (hk : k ≤ 32) : (2 : Int) ^ k ≤ 4294967296 := by
  have h2 : ((2 ^ k : Nat) : Int) ≤ ((2 ^ 32 : Nat) : Int) := Int.ofNat_le.2 (Nat.pow_le_pow_right (by decide) hk)
  rw [Int.natCast_pow] at h2
  exact h2
end Go.Proofs.YtebkelnibecmjaaDoor.NumA
namespace Go.Proofs.YtebkelnibecmjaaDoor.NumA
theorem small_cases (neg : Bool) (n : Nat) (u : Int) : (2 < n) ∨ (n ≤ 2 ∧ neg = true ∧ 9223372036854775808 < u) ∨ (n ≤ 2 ∧ neg = true ∧ u ≤ 9223372036854775808) ∨ (n ≤ 2 ∧ neg = false) := by
  cases neg <;> simp <;> omega
end Go.Proofs.YtebkelnibecmjaaDoor.NumA
namespace Go.Proofs.YtebkelnibecmjaaDoor.NumA
theorem fit1 {n : Nat} {neg : Bool} {u : Int} (q1 : n ≤ 2) (q2 : neg = true) (q3 : u ≤ 9223372036854775808) : n ≤ 2 ∧ (neg = true → u ≤ 9223372036854775808) ∧ (neg = false → u < 9223372036854775808) := ⟨q1, fun _ => q3, fun h => by rw [q2] at h; cases h⟩
theorem fit2 {n : Nat} {neg : Bool} {u : Int} (q1 : n ≤ 2) (q2 : neg = false) : decide (9223372036854775808 ≤ u) = !decide (n ≤ 2 ∧ (neg = true → u ≤ 9223372036854775808) ∧ (neg = false → u < 9223372036854775808)) := by
  subst q2
  rw [Bool.eq_iff_iff]
  simp only [decide_eq_true_eq, Bool.not_eq_true', decide_eq_false_iff_not]
  constructor
  · intro h1 h2
    have := h2.2.2 (by trivial)
    omega
  · intro h1
    by_cases h : 9223372036854775808 ≤ u
    · exact h
    · exact (h1 ⟨q1, (by simp), fun _ => by omega⟩).elim
theorem unfit {ws : List Int} {neg : Bool} {u : Int} (h : Wd ws) (ht : Tr ws) (hu : u = ws.getD 0 0 + ws.getD 1 0 * 4294967296) (hd : ¬ (ws.length ≤ 2 ∧ (neg = true → u ≤ 9223372036854775808) ∧ (neg = false → u < 9223372036854775808))) : ¬ (-9223372036854775808 ≤ sg neg (val ws) ∧ sg neg (val ws) < 9223372036854775808) := by
  intro hx
  apply hd
  have hv := val_nonneg h
  have hl : ws.length ≤ 2 := by
    by_cases e : ws.length ≤ 2
    · exact e
    · have := big2 h ht (by omega)
      cases neg <;> simp [sg] at hx <;> omega
  rw [two_words h hl] at hu
  refine ⟨hl, fun hn => ?_, fun hn => ?_⟩ <;> subst hn <;> simp [sg] at hx <;> omega
end Go.Proofs.YtebkelnibecmjaaDoor.NumA
namespace Go.Proofs.YtebkelnibecmjaaDoor.NumA
theorem unshift_digit {w0 w1 V2 : Int} {s : Nat} (hs : s ≤ 32) (h0 : 0 ≤ w0 ∧ w0 < 4294967296) (h1 : 0 ≤ w1) (h2 : 0 ≤ V2) :
    (w0 + w1 * 4294967296) / 2 ^ s % 4294967296 = (w0 + 4294967296 * (w1 + 4294967296 * V2)) / 2 ^ s % 4294967296 ∧ (w0 + 4294967296 * (w1 + 4294967296 * V2)) / 2 ^ s / 4294967296 = (w1 + 4294967296 * V2) / 2 ^ s := by
  have hp : (0 : Int) < 2 ^ s := Int.pow_pos (by decide)
  have e := pow_split hs
  constructor
  · have : w0 + 4294967296 * (w1 + 4294967296 * V2) = (w0 + w1 * 4294967296) + 2 ^ s * (2 ^ (32 - s) * (4294967296 * V2)) := by
      have e2 : (2 : Int) ^ s * (2 ^ (32 - s) * (4294967296 * V2)) = 4294967296 * (4294967296 * V2) := by
        rw [← Int.mul_assoc, Int.mul_comm (2 ^ s), ← e]
      rw [e2]; omega
    rw [this, Int.add_mul_ediv_left _ _ (by omega), show (2 : Int) ^ (32 - s) * (4294967296 * V2) = 4294967296 * (2 ^ (32 - s) * V2) by grind, Int.add_mul_emod_self_left]
  · rw [Int.ediv_ediv_of_nonneg (by omega), Int.mul_comm (2 ^ s), ← Int.ediv_ediv_of_nonneg (by decide), show (w0 + 4294967296 * (w1 + 4294967296 * V2)) / 4294967296 = w1 + 4294967296 * V2 by omega]
theorem drop_val (ws : List Int) (i : Nat) : val (ws.drop i) = ws.getD i 0 + 4294967296 * val (ws.drop (i + 1)) := by
  by_cases h : i < ws.length
  · rw [drop_getD h, val]
  · rw [List.drop_of_length_le (by omega), List.drop_of_length_le (by omega), getD_out (by omega)]; rfl
/-- The words of a number divided by 2^s, one by one. -/
theorem unshift_next {ws ys : List Int} {s i : Nat} (h : Wd ws) (hs : s ≤ 32) (hl : ys.length = i) (hv : val ys + 4294967296 ^ i * (val (ws.drop i) / 2 ^ s) = val ws / 2 ^ s) :
    val (ys ++ [(ws.getD i 0 + ws.getD (i + 1) 0 * 4294967296) / 2 ^ s % 4294967296]) + 4294967296 ^ (i + 1) * (val (ws.drop (i + 1)) / 2 ^ s) = val ws / 2 ^ s := by
  have h1 := drop_val ws i
  have h2 := drop_val ws (i + 1)
  have hd := unshift_digit (V2 := val (ws.drop (i + 1 + 1))) hs (h.getD i) (h.getD (i + 1)).1 (val_nonneg (h.drop _))
  rw [← h2, ← h1] at hd
  rw [val_snoc, hl, hd.1, Int.pow_succ, ← hd.2, ← hv]
  have e : val (ws.drop i) / 2 ^ s % 4294967296 + 4294967296 * (val (ws.drop i) / 2 ^ s / 4294967296) = val (ws.drop i) / 2 ^ s := by omega
  generalize val (ws.drop i) / 2 ^ s = M at *
  generalize M % 4294967296 = a at *
  generalize M / 4294967296 = b at *
  rw [← e]
  grind
end Go.Proofs.YtebkelnibecmjaaDoor.NumA
namespace Go.Proofs.YtebkelnibecmjaaDoor.NumA
structure UnAt (ws : List Int) (s : Nat) (x : Nat × List Int) : Prop where
  le : x.1 ≤ ws.length
  len : x.2.length = x.1
  wd : Wd x.2
  eq : val x.2 + 4294967296 ^ x.1 * (val (ws.drop x.1) / 2 ^ s) = val ws / 2 ^ s
theorem UnAt.zero (ws : List Int) (s : Nat) : UnAt ws s (0, []) := ⟨Nat.zero_le _, rfl, Wd.nil, by simp [val]⟩
theorem UnAt.next {ws ys : List Int} {s i : Nat} (h : Wd ws) (hs : s ≤ 32) (ha : UnAt ws s (i, ys)) (hi : i < ws.length) : UnAt ws s (i + 1, ys ++ [(ws.getD i 0 + ws.getD (i + 1) 0 * 4294967296) / 2 ^ s % 4294967296]) :=
  ⟨hi, by simp [ha.len], ha.wd.snoc (by omega) (by omega), unshift_next h hs ha.len ha.eq⟩
theorem UnAt.end_ {ws ys : List Int} {s : Nat} (ha : UnAt ws s (ws.length, ys)) : val ys = val ws / 2 ^ s := by
  have := ha.eq
  simp only [List.drop_length] at this
  rw [← this]; simp [val]
theorem shr_bd {a : Int} {s : Nat} (h0 : 0 ≤ a) (h1 : a < 18446744073709551616) : 0 ≤ a / 2 ^ s ∧ a / 2 ^ s < 18446744073709551616 := by
  have hp : (0 : Int) < 2 ^ s := Int.pow_pos (by decide)
  exact ⟨Int.ediv_nonneg h0 (by omega), by have := Int.ediv_le_self (2 ^ s) h0; omega⟩
end Go.Proofs.YtebkelnibecmjaaDoor.NumA
namespace Go.Proofs.YtebkelnibecmjaaDoor.NumA
open Go Go.Proofs.YtebkelnibecmjaaDoor.SH
theorem tdiv64 {m n r : Int} (h : m / n = r) (h0 : 0 ≤ m := by omega) (hr : -9223372036854775808 ≤ r ∧ r < 9223372036854775808 := by omega) : IntKind.i64.wrap (m.tdiv n) = r := by
  rw [Int.tdiv_eq_ediv_of_nonneg h0, h]; exact w64 hr.1 hr.2
theorem shift_start (q n : Nat) : List.replicate (q + n + 1) (0 : Int) = List.replicate q 0 ++ ([] ++ 0 :: List.replicate (n - 0) 0) := by
  rw [List.nil_append, Nat.sub_zero, ← List.replicate_succ, List.replicate_append_replicate, Nat.add_assoc]
end Go.Proofs.YtebkelnibecmjaaDoor.NumA
namespace Go.Proofs.YtebkelnibecmjaaDoor.NumA
open Go Go.Proofs.YtebkelnibecmjaaDoor.SH
theorem shl_bd {s : Nat} (hs : s < 32) {w : Int} (hw : 0 ≤ w ∧ w < 4294967296) : 0 ≤ w * 2 ^ s ∧ w * 2 ^ s < 18446744073709551616 := by
  have hp : (0 : Int) < 2 ^ s := Int.pow_pos (by decide)
  have h2 := pow32 (Nat.le_of_lt hs)
  refine ⟨Int.mul_nonneg hw.1 (Int.le_of_lt hp), ?_⟩
  have h3 : w * 2 ^ s ≤ 4294967295 * 2 ^ s := Int.mul_le_mul_of_nonneg_right (by omega) (Int.le_of_lt hp)
  omega
theorem shl64k {s : Nat} (hs : s ≤ 64) {m : Int} (hb : 0 ≤ m * 2 ^ s ∧ m * 2 ^ s < 18446744073709551616) : IntKind.u64.wrap (m * 2 ^ (min ((s : Int)).toNat IntKind.u64.bits)) = m * 2 ^ s := by
  rw [Int.toNat_natCast, show min s IntKind.u64.bits = s from Nat.min_eq_left hs, wu64, Int.emod_eq_of_lt hb.1 hb.2]
theorem shift_get {q i n : Nat} {ys : List Int} {c : Int} (hl : ys.length = i) : (List.replicate q 0 ++ (ys ++ c :: List.replicate n 0)).getD (i + q) 0 = c := by
  rw [List.getD_eq_getElem?_getD, List.getElem?_append_right (by simp), List.length_replicate, Nat.add_sub_cancel, List.getElem?_append_right (by omega), hl, Nat.sub_self]; rfl
theorem shift_fill2 {ys : List Int} {c d x : Int} {q i n : Nat} (hl : ys.length = i) (hi : i < n) : ((List.replicate q 0 ++ (ys ++ c :: List.replicate (n - i) 0)).set (i + q) d).set (i + q + 1) x = List.replicate q 0 ++ ((ys ++ [d]) ++ x :: List.replicate (n - (i + 1)) 0) := by
  rw [List.set_append_right _ _ (by simp), List.length_replicate, Nat.add_sub_cancel, List.set_append_right _ _ (by simp; omega), List.length_replicate, show i + q + 1 - q = i + 1 by omega, shift_fill hl hi]
end Go.Proofs.YtebkelnibecmjaaDoor.NumA
namespace Go.Proofs.YtebkelnibecmjaaDoor.NumA
theorem shift_end {ws : List Int} {s q k : Nat} {ys X : List Int} {c : Int} (ha : ShiftAt ws s (ws.length, ys, c)) (hs : s ≤ 32) (hX : X = List.replicate q 0 ++ (ys ++ [c])) (hk : k = 32 * q + s) : trim X = digs (val ws * 2 ^ k).toNat ∧ (digs (val ws * 2 ^ k).toNat).length = trimN X X.length := by
  obtain ⟨e1, e2⟩ := ha.end_ hs
  have hl := ha.len
  have heq := ha.eq
  simp only at hl heq
  have hwd : Wd X := by rw [hX]; exact (Wd.rep q).append e2
  have hv : val X = val ws * 2 ^ k := by
    rw [hX, val_append, val_rep, List.length_replicate, Int.zero_add, val_snoc, hl]
    rw [List.take_length] at heq
    rw [heq, hk, Int.pow_add, Int.pow_mul]
    have : (2 : Int) ^ 32 = 4294967296 := by rfl
    rw [this]
    grind
  have ht := trim_eq_digs hwd
  rw [hv] at ht
  exact ⟨ht, by rw [← ht, trim_length]⟩
end Go.Proofs.YtebkelnibecmjaaDoor.NumA
namespace Go.Proofs.YtebkelnibecmjaaDoor.NumA
/-- The word of a quotient, guessed by the highest words: lowered at most twice. -/
def gL (u2 d1 d2 : Int) : Nat → Int → Int → Int
  | 0, q, _ => q
  | n + 1, q, r => if 4294967296 ≤ q ∨ r * 4294967296 + u2 < q * d2 then (if 4294967296 ≤ r + d1 then q - 1 else gL u2 d1 d2 n (q - 1) (r + d1)) else q
def guessW (u0 u1 u2 d1 d2 : Int) : Int := gL u2 d1 d2 2 ((u0 * 4294967296 + u1) / d1) ((u0 * 4294967296 + u1) % d1)
theorem gL_ok {U u2 u3 d1 d2 d3 P R D Q : Int} (hR : R = (U * 4294967296 + u2) * P + u3) (hD : D = (d1 * 4294967296 + d2) * P + d3) (hP : 0 < P) (hu2 : 0 ≤ u2) (hu3 : 0 ≤ u3 ∧ u3 < P) (hd1 : 1 ≤ d1) (hd2 : 0 ≤ d2 ∧ d2 < 4294967296) (hd3 : 0 ≤ d3 ∧ d3 < P) (hU : U ≤ d1 * 4294967296 + 4294967295) (hQ0 : 0 ≤ Q) (hQ : Q * D ≤ R) (hQB : Q < 4294967296) (hDpos : 0 < D) :
    ∀ (n : Nat) (q r : Int), 0 ≤ q → q * d1 + r = U → 0 ≤ r → r < 4294967296 → 4294967296 ≤ r + n * d1 → Q ≤ q → Q ≤ gL u2 d1 d2 n q r ∧ gL u2 d1 d2 n q r < 4294967296 ∧ (gL u2 d1 d2 n q r - 1) * D ≤ R := by
  intro n
  induction n with
  | zero => intro q r _ _ _ h1 h2; omega
  | succ n ih =>
    intro q r hq0 hqr hr0 hr1 hn hQq
    rw [gL]
    split
    · rename_i hbad
      have hdn := guess_down hR hD hP hu3 hd3.1 hq0 hqr hQ hQB hDpos hbad
      have hqr' : (q - 1) * d1 + (r + d1) = U := by rw [← hqr]; grind
      split
      · rename_i hb
        have hqB : q - 1 < 4294967296 := by
          by_cases e : q - 1 < 4294967296
          · exact e
          · have h1 : 4294967297 * d1 ≤ q * d1 := Int.mul_le_mul_of_nonneg_right (by omega) (by omega)
            omega
        exact ⟨hdn, hqB, guess_end hR hD hP hu2 hu3.1 hd1 hd2 hd3 (by omega) hqB hqr' (.inl hb)⟩
      · rename_i hb
        refine ih (q - 1) (r + d1) (by omega) hqr' (by omega) (by omega) ?_ hdn
        have : ((n + 1 : Nat) : Int) * d1 = n * d1 + d1 := by rw [Int.natCast_succ, Int.add_mul, Int.one_mul]
        omega
    · rename_i hg
      exact ⟨hQq, by omega, guess_end hR hD hP hu2 hu3.1 hd1 hd2 hd3 hq0 (by omega) hqr (.inr (by omega))⟩
theorem gL_bd {u2 d1 d2 : Int} : ∀ (n : Nat) (q r : Int), 2 ≤ q → n ≤ 2 → q < 18446744073709551616 → 0 ≤ gL u2 d1 d2 n q r ∧ gL u2 d1 d2 n q r < 18446744073709551616 := by
  intro n q r h0 hn h1
  rcases (show n = 0 ∨ n = 1 ∨ n = 2 by omega) with rfl | rfl | rfl
  · simp [gL]; omega
  · simp only [gL]; split <;> (try split) <;> omega
  · simp only [gL]; split <;> (try split) <;> (try split) <;> (try split) <;> omega
/-- The words of a window less q times those of the divisor: words, carry and borrow. -/
structure TakeAt (win vs : List Int) (q : Int) (x : Nat × List Int × Int × Int) : Prop where
  le : x.1 ≤ win.length
  len : x.2.1.length = x.1
  wd : Wd x.2.1
  c0 : 0 ≤ x.2.2.1
  c1 : x.2.2.1 < 4294967296
  b : x.2.2.2 = 0 ∨ x.2.2.2 = 1
  eq : val x.2.1 + q * val (vs.take x.1) = val (win.take x.1) + 4294967296 ^ x.1 * (x.2.2.1 + x.2.2.2)
  cb : 4294967296 ^ x.1 * x.2.2.1 ≤ q * val (vs.take x.1)
theorem TakeAt.zero (win vs : List Int) (q : Int) : TakeAt win vs q (0, [], 0, 0) := ⟨Nat.zero_le _, rfl, Wd.nil, Int.le_refl _, (by decide), .inl rfl, by simp [val], by simp [val]⟩
theorem take_bd {q w c : Int} (hq : 0 ≤ q ∧ q < 4294967296) (hw : 0 ≤ w ∧ w < 4294967296) (hc : 0 ≤ c ∧ c < 4294967296) : 0 ≤ q * w + c ∧ q * w + c ≤ 18446744069414584320 := by
  have := mul_bd hq hw
  omega
theorem TakeAt.next {win vs : List Int} {q : Int} (h2 : Wd vs) (hq : 0 ≤ q ∧ q < 4294967296) {j : Nat} {ys : List Int} {c b : Int} (ha : TakeAt win vs q (j, ys, c, b)) (hj : j < win.length) {p d b' : Int} (hp : p = q * vs.getD j 0 + c) (hd : d = (win.getD j 0 - p % 4294967296 - b) % 4294967296) (hb' : b' = if win.getD j 0 < p % 4294967296 + b then 1 else 0) (hu : 0 ≤ win.getD j 0 ∧ win.getD j 0 < 4294967296) :
    TakeAt win vs q (j + 1, ys ++ [d], p / 4294967296, b') := by
  obtain ⟨h1, hl, hw, c0, c1, hb, heq, hcb⟩ := ha
  simp only at h1 hl hw c0 c1 hb heq hcb
  have hv := h2.getD j
  have hbd := take_bd hq hv ⟨c0, c1⟩
  rw [← hp] at hbd
  have hd2 : d = win.getD j 0 - p % 4294967296 - b + 4294967296 * b' := by rw [hd, hb']; split <;> omega
  have hP : (0 : Int) < 4294967296 ^ j := Int.pow_pos (by decide)
  refine ⟨hj, by simp [hl], hw.snoc (by omega) (by omega), by simp only; omega, by simp only; omega, ?_, ?_, ?_⟩
  · simp only; rw [hb']; split <;> simp
  · simp only
    have hpp : p = p % 4294967296 + 4294967296 * (p / 4294967296) := by omega
    rw [val_snoc, hl, val_take_succ' j, val_take_succ' j, Int.pow_succ, hd2]
    generalize p / 4294967296 = ph at *
    generalize p % 4294967296 = pl at *
    generalize val (vs.take j) = A at *
    generalize val (win.take j) = B at *
    generalize win.getD j 0 = u at *
    generalize vs.getD j 0 = w at *
    have hc2 : c = pl + 4294967296 * ph - q * w := by omega
    subst hc2
    grind
  · simp only
    rw [val_take_succ' j, Int.pow_succ]
    have h5 : 4294967296 ^ j * (4294967296 * (p / 4294967296)) ≤ 4294967296 ^ j * p := Int.mul_le_mul_of_nonneg_left (by omega) (Int.le_of_lt hP)
    have h6 : 4294967296 ^ j * p = q * (4294967296 ^ j * vs.getD j 0) + 4294967296 ^ j * c := by rw [hp]; grind
    have h7 : (4294967296 : Int) ^ j * 4294967296 * (p / 4294967296) = 4294967296 ^ j * (4294967296 * (p / 4294967296)) := by grind
    have h8 : q * (val (vs.take j) + 4294967296 ^ j * vs.getD j 0) = q * val (vs.take j) + q * (4294967296 ^ j * vs.getD j 0) := by grind
    omega
/-- .. at its end: what is left, and whether that was once too often. -/
theorem TakeAt.end_ {win vs ys : List Int} {q c b : Int} (h : Wd win) (hl : vs.length < win.length) (h2 : Wd vs) (hq : 0 ≤ q ∧ q < 4294967296) (ha : TakeAt win vs q (win.length, ys, c, b)) : c = 0 ∧ val ys = val win - q * val vs + 4294967296 ^ win.length * b ∧ (b = 0 ↔ q * val vs ≤ val win) := by
  obtain ⟨h1, hlen, hw, c0, c1, hb, heq, hcb⟩ := ha
  simp only at h1 hlen hw c0 c1 hb heq hcb
  rw [List.take_of_length_le (by omega)] at heq hcb
  rw [List.take_length] at heq
  have hP : (0 : Int) < 4294967296 ^ win.length := Int.pow_pos (by decide)
  have hvl := val_lt h2
  have hvn := val_nonneg h2
  have hD : q * val vs < 4294967296 ^ win.length := by
    have e : (4294967296 : Int) ^ win.length = 4294967296 * 4294967296 ^ (win.length - 1) := by
      rw [show win.length = (win.length - 1) + 1 by omega, Int.pow_succ, Nat.add_sub_cancel, Int.mul_comm]
    have h3 : (4294967296 : Int) ^ vs.length ≤ 4294967296 ^ (win.length - 1) := by
      have h2 : ((4294967296 ^ vs.length : Nat) : Int) ≤ ((4294967296 ^ (win.length - 1) : Nat) : Int) := Int.ofNat_le.2 (Nat.pow_le_pow_right (by decide) (show vs.length ≤ win.length - 1 by omega))
      rw [Int.natCast_pow, Int.natCast_pow] at h2
      exact h2
    have h4 : q * val vs ≤ 4294967295 * val vs := Int.mul_le_mul_of_nonneg_right (by omega) hvn
    omega
  have hc : c = 0 := by
    by_cases e : c = 0
    · exact e
    · have : (4294967296 : Int) ^ win.length * 1 ≤ 4294967296 ^ win.length * c := Int.mul_le_mul_of_nonneg_left (by omega) (Int.le_of_lt hP)
      omega
  subst hc
  rw [Int.zero_add] at heq
  have hy := val_nonneg hw
  have hy2 := val_lt hw
  have hwv := val_lt h
  have hwn := val_nonneg h
  rw [hlen] at hy2
  refine ⟨rfl, by omega, ?_⟩
  rcases hb with hb | hb
  · subst hb; rw [Int.mul_zero] at heq; exact ⟨fun _ => by omega, fun _ => rfl⟩
  · subst hb; rw [Int.mul_one] at heq; exact ⟨fun h => by omega, fun h => by omega⟩
/-- The words of a window and those of the divisor, added, with the carry. -/
structure BackAt (win vs : List Int) (x : Nat × List Int × Int) : Prop where
  le : x.1 ≤ win.length
  len : x.2.1.length = x.1
  wd : Wd x.2.1
  c : x.2.2 = 0 ∨ x.2.2 = 1
  eq : val x.2.1 + 4294967296 ^ x.1 * x.2.2 = val (win.take x.1) + val (vs.take x.1)
theorem BackAt.zero (win vs : List Int) : BackAt win vs (0, [], 0) := ⟨Nat.zero_le _, rfl, Wd.nil, .inl rfl, by simp [val]⟩
theorem BackAt.next {win vs : List Int} (h : Wd win) (h2 : Wd vs) {j : Nat} {ys : List Int} {c : Int} (ha : BackAt win vs (j, ys, c)) (hj : j < win.length) {s : Int} (hs : s = win.getD j 0 + vs.getD j 0 + c) :
    BackAt win vs (j + 1, ys ++ [s % 4294967296], s / 4294967296) := by
  obtain ⟨h1, hl, hw, hc, heq⟩ := ha
  simp only at h1 hl hw hc heq
  have hu := h.getD j
  have hv := h2.getD j
  refine ⟨hj, by simp [hl], hw.snoc (by omega) (by omega), by simp only; omega, ?_⟩
  simp only
  rw [val_snoc, hl, val_take_succ' j, val_take_succ' j, Int.pow_succ]
  have hpp : s = s % 4294967296 + 4294967296 * (s / 4294967296) := by omega
  generalize s / 4294967296 = ph at *
  generalize s % 4294967296 = pl at *
  generalize val (vs.take j) = A at *
  generalize val (win.take j) = B at *
  generalize win.getD j 0 = u at *
  generalize vs.getD j 0 = w at *
  have hc2 : c = pl + 4294967296 * ph - u - w := by omega
  subst hc2
  grind
theorem BackAt.end_ {win vs ys : List Int} {c : Int} (hl : vs.length ≤ win.length) (ha : BackAt win vs (win.length, ys, c)) : val ys + 4294967296 ^ win.length * c = val win + val vs := by
  have heq := ha.eq
  simp only at heq
  rw [List.take_length] at heq
  rw [heq, List.take_of_length_le hl]
end Go.Proofs.YtebkelnibecmjaaDoor.NumA
namespace Go.Proofs.YtebkelnibecmjaaDoor.NumA
theorem Bpos (n : Nat) : (0 : Int) < 4294967296 ^ n := Int.pow_pos (by decide)
theorem powle {m n : Nat} (h : m ≤ n) : (4294967296 : Int) ^ m ≤ 4294967296 ^ n := by
  have h2 : ((4294967296 ^ m : Nat) : Int) ≤ ((4294967296 ^ n : Nat) : Int) := Int.ofNat_le.2 (Nat.pow_le_pow_right (by decide) h)
  rw [Int.natCast_pow, Int.natCast_pow] at h2
  exact h2
theorem two32 (n : Nat) : (2 : Int) ^ (32 * n) = 4294967296 ^ n := by rw [Int.pow_mul]; rfl
/-- The three highest words of a window, the two highest of a divisor. -/
theorem top2 {vs : List Int} {n : Nat} (hl : vs.length = n + 2) : val vs = (vs.getD (n + 1) 0 * 4294967296 + vs.getD n 0) * 4294967296 ^ n + val (vs.take n) := by
  have h1 := val_take_succ' (ws := vs) (n + 1)
  have h2 := val_take_succ' (ws := vs) n
  rw [List.take_of_length_le (by omega)] at h1
  rw [h1, h2, Int.pow_succ]; grind
theorem top3 {win : List Int} {n : Nat} (hl : win.length = n + 3) : val win = ((win.getD (n + 2) 0 * 4294967296 + win.getD (n + 1) 0) * 4294967296 + win.getD n 0) * 4294967296 ^ n + val (win.take n) := by
  have h1 := val_take_succ' (ws := win) (n + 2)
  have h2 := val_take_succ' (ws := win) (n + 1)
  have h3 := val_take_succ' (ws := win) n
  rw [List.take_of_length_le (by omega)] at h1
  rw [h1, h2, h3, Int.pow_succ, Int.pow_succ]; grind
theorem take_lt {ws : List Int} (h : Wd ws) {n : Nat} (hn : n ≤ ws.length) : 0 ≤ val (ws.take n) ∧ val (ws.take n) < 4294967296 ^ n := by
  have h1 := val_nonneg (h.take n)
  have h2 := val_lt (h.take n)
  rw [List.length_take, Nat.min_eq_left hn] at h2
  exact ⟨h1, h2⟩
/-- What the quotient's word is: Q = window / divisor. -/
theorem guess_first {win vs : List Int} {n : Nat} (h : Wd win) (h2 : Wd vs) (hl : win.length = n + 3) (hl2 : vs.length = n + 2) (hd1 : 2147483648 ≤ vs.getD (n + 1) 0) (hlt : val win < 4294967296 * val vs) :
    0 < val vs ∧ 0 ≤ val win / val vs ∧ val win / val vs * val vs ≤ val win ∧ val win / val vs < 4294967296 ∧ win.getD (n + 2) 0 * 4294967296 + win.getD (n + 1) 0 ≤ vs.getD (n + 1) 0 * 4294967296 + 4294967295 ∧ val win / val vs ≤ (win.getD (n + 2) 0 * 4294967296 + win.getD (n + 1) 0) / vs.getD (n + 1) 0 := by
  have e1 := top3 hl
  have e2 := top2 hl2
  have t1 := take_lt h (n := n) (by omega)
  have t2 := take_lt h2 (n := n) (by omega)
  have w2 := h.getD n
  have w3 := h.getD (n + 1)
  have w4 := h.getD (n + 2)
  have v1 := h2.getD (n + 1)
  have v2 := h2.getD n
  have hP := Bpos n
  have hU0 : 0 ≤ win.getD (n + 2) 0 * 4294967296 + win.getD (n + 1) 0 := by omega
  generalize val (win.take n) = u3 at *
  generalize val (vs.take n) = d3 at *
  generalize win.getD (n + 2) 0 * 4294967296 + win.getD (n + 1) 0 = U at *
  generalize vs.getD (n + 1) 0 = d1 at *
  generalize vs.getD n 0 = d2 at *
  generalize win.getD n 0 = u2 at *
  generalize (4294967296 : Int) ^ n = P at *
  generalize val win = R at *
  generalize val vs = D at *
  have hDpos : 0 < D := by
    have : 1 * P ≤ (d1 * 4294967296 + d2) * P := Int.mul_le_mul_of_nonneg_right (by omega) (by omega)
    omega
  have hR0 : 0 ≤ R := by
    have := Int.mul_nonneg (show 0 ≤ U * 4294967296 + u2 by omega) (Int.le_of_lt hP); omega
  have hQ0 : 0 ≤ R / D := Int.ediv_nonneg hR0 (by omega)
  have hQD : R / D * D ≤ R := Int.ediv_mul_le R (by omega)
  have hQB : R / D < 4294967296 := Int.ediv_lt_of_lt_mul hDpos hlt
  refine ⟨hDpos, hQ0, hQD, hQB, ?_, ?_⟩
  · by_cases e : U ≤ d1 * 4294967296 + 4294967295
    · exact e
    · have g1 : ((d1 * 4294967296 + 4294967296) * 4294967296 + u2) * P ≤ (U * 4294967296 + u2) * P := Int.mul_le_mul_of_nonneg_right (by omega) (by omega)
      have g2 : (d1 * 4294967296 + d2 + 1) * P ≤ (d1 * 4294967296 + 4294967296) * P := Int.mul_le_mul_of_nonneg_right (by omega) (by omega)
      have g3 : ((d1 * 4294967296 + 4294967296) * 4294967296 + u2) * P = 4294967296 * ((d1 * 4294967296 + 4294967296) * P) + u2 * P := by grind
      have g4 : 0 ≤ u2 * P := Int.mul_nonneg (by omega) (by omega)
      have g5 : (d1 * 4294967296 + d2 + 1) * P = (d1 * 4294967296 + d2) * P + P := by grind
      omega
  · generalize R / D = Q at *
    have hq : Q * d1 ≤ U := by
      by_cases e : Q * d1 ≤ U
      · exact e
      · have g1 : ((U + 1) * 4294967296) * P ≤ (Q * d1 * 4294967296) * P := Int.mul_le_mul_of_nonneg_right (by omega) (by omega)
        have g2 : (Q * d1 * 4294967296) * P + Q * (d2 * P + d3) = Q * D := by rw [e2]; grind
        have g3 : 0 ≤ Q * (d2 * P + d3) := Int.mul_nonneg hQ0 (by have := Int.mul_nonneg (show 0 ≤ d2 by omega) (Int.le_of_lt hP); omega)
        have g4 : (u2 + 1) * P ≤ 4294967296 * P := Int.mul_le_mul_of_nonneg_right (by omega) (by omega)
        have g5 : (U * 4294967296 + u2) * P = U * 4294967296 * P + u2 * P := by grind
        have g6 : ((U + 1) * 4294967296) * P = U * 4294967296 * P + 4294967296 * P := by grind
        have g7 : (u2 + 1) * P = u2 * P + P := by grind
        omega
    exact (Int.le_ediv_iff_mul_le (by omega)).2 hq
theorem guess_ok {win vs : List Int} {n : Nat} (h : Wd win) (h2 : Wd vs) (hl : win.length = n + 3) (hl2 : vs.length = n + 2) (hd1 : 2147483648 ≤ vs.getD (n + 1) 0) (hlt : val win < 4294967296 * val vs) {q : Int} (hq : q = guessW (win.getD (n + 2) 0) (win.getD (n + 1) 0) (win.getD n 0) (vs.getD (n + 1) 0) (vs.getD n 0)) :
    val win / val vs ≤ q ∧ q < 4294967296 ∧ (q - 1) * val vs ≤ val win := by
  obtain ⟨hDpos, hQ0, hQD, hQB, hU, hQq⟩ := guess_first h h2 hl hl2 hd1 hlt
  have t1 := take_lt h (n := n) (by omega)
  have t2 := take_lt h2 (n := n) (by omega)
  have w2 := h.getD n
  have w3 := h.getD (n + 1)
  have w4 := h.getD (n + 2)
  have v1 := h2.getD (n + 1)
  have v2 := h2.getD n
  subst hq
  unfold guessW
  have hU0 : 0 ≤ win.getD (n + 2) 0 * 4294967296 + win.getD (n + 1) 0 := by omega
  refine gL_ok (top3 hl) (top2 hl2) (Bpos n) w2.1 t1 (by omega) v2 t2 hU hQ0 hQD hQB hDpos 2 _ _ ?_ ?_ ?_ ?_ ?_ hQq
  · exact Int.ediv_nonneg hU0 (by omega)
  · rw [Int.mul_comm]; exact Int.mul_ediv_add_emod _ _
  · exact Int.emod_nonneg _ (by omega)
  · have := Int.emod_lt_of_pos (win.getD (n + 2) 0 * 4294967296 + win.getD (n + 1) 0) (show 0 < vs.getD (n + 1) 0 by omega); omega
  · have := Int.emod_nonneg (win.getD (n + 2) 0 * 4294967296 + win.getD (n + 1) 0) (show vs.getD (n + 1) 0 ≠ 0 by omega); omega
structure GuessAt (U u2 d1 d2 G : Int) (x : Nat × Int × Int) : Prop where
  n : 1 ≤ x.1
  q0 : 0 ≤ x.2.1
  qr : x.2.1 * d1 + x.2.2 = U
  r : 0 ≤ x.2.2 ∧ x.2.2 < 4294967296
  f : 4294967296 ≤ x.2.2 + x.1 * d1
  g : gL u2 d1 d2 x.1 x.2.1 x.2.2 = G
theorem GuessAt.start {u0 u1 u2 d1 d2 : Int} (h0 : 0 ≤ u0 * 4294967296 + u1) (hd : 2147483648 ≤ d1 ∧ d1 < 4294967296) : GuessAt (u0 * 4294967296 + u1) u2 d1 d2 (guessW u0 u1 u2 d1 d2) (2, (u0 * 4294967296 + u1) / d1, (u0 * 4294967296 + u1) % d1) := by
  have h1 := Int.emod_nonneg (u0 * 4294967296 + u1) (show d1 ≠ 0 by omega)
  have h2 := Int.emod_lt_of_pos (u0 * 4294967296 + u1) (show 0 < d1 by omega)
  exact ⟨by show 1 ≤ 2; decide, Int.ediv_nonneg h0 (by omega), by simp only; rw [Int.mul_comm]; exact Int.mul_ediv_add_emod _ _, ⟨h1, by simp only; omega⟩, by simp only; omega, rfl⟩
theorem GuessAt.qb {U u2 d1 d2 G q r : Int} {n : Nat} (ha : GuessAt U u2 d1 d2 G (n, q, r)) (hd : 2147483648 ≤ d1) : q ≤ U := by
  have h1 := ha.qr
  have h2 := ha.r.1
  have h3 := ha.q0
  simp only at h1 h2 h3
  have : q * 1 ≤ q * d1 := Int.mul_le_mul_of_nonneg_left (by omega) h3
  omega
theorem GuessAt.bad {U u2 d1 d2 G q r : Int} {n : Nat} (ha : GuessAt U u2 d1 d2 G (n, q, r)) (hb : 4294967296 ≤ q ∨ r * 4294967296 + u2 < q * d2) (hu2 : 0 ≤ u2) (hd : 0 ≤ d1) : 1 ≤ q ∧ (4294967296 ≤ r + d1 → q - 1 = G) ∧ (r + d1 < 4294967296 → GuessAt U u2 d1 d2 G (n - 1, q - 1, r + d1)) := by
  obtain ⟨h1, h2, h3, h4, h5, h6⟩ := ha
  simp only at h1 h2 h3 h4 h5 h6
  have hq : 1 ≤ q := by
    rcases hb with e | e
    · omega
    · by_cases c : q = 0
      · rw [c, Int.zero_mul] at e; omega
      · omega
  obtain ⟨m, rfl⟩ : ∃ m, n = m + 1 := ⟨n - 1, by omega⟩
  rw [gL, if_pos hb] at h6
  have e1 : ((m + 1 : Nat) : Int) * d1 = m * d1 + d1 := by rw [Int.natCast_succ, Int.add_mul, Int.one_mul]
  refine ⟨hq, fun h => by rw [if_pos h] at h6; exact h6, fun h => ?_⟩
  rw [if_neg (by omega)] at h6
  have hm : 1 ≤ m := by
    by_cases c : m = 0
    · subst c; simp at h5; omega
    · omega
  exact ⟨by simpa using hm, by simp only; omega, by simp only; rw [← h3]; grind, by simp only; omega, by simp only [Nat.add_sub_cancel]; omega, by simpa using h6⟩
theorem GuessAt.good {U u2 d1 d2 G q r : Int} {n : Nat} (ha : GuessAt U u2 d1 d2 G (n, q, r)) (hb : ¬ (4294967296 ≤ q ∨ r * 4294967296 + u2 < q * d2)) : q = G := by
  obtain ⟨h1, h2, h3, h4, h5, h6⟩ := ha
  simp only at h1 h6
  obtain ⟨m, rfl⟩ : ∃ m, n = m + 1 := ⟨n - 1, by omega⟩
  rwa [gL, if_neg hb] at h6
/-- The words of the quotient, from the highest on: i are still to come. -/
structure PartAt (W : List Int) (n : Nat) (D : Int) (x : Nat × Int × List Int) : Prop where
  le : x.1 + n ≤ W.length
  r : 0 ≤ x.2.1 ∧ x.2.1 < D
  wd : Wd x.2.2
  len : x.2.2.length + x.1 + n = W.length
  eq : val x.2.2 * D + x.2.1 = val (W.drop x.1)
theorem PartAt.start {W : List Int} {n : Nat} {D : Int} (h : Wd W) (hn : n ≤ W.length) (hlt : val (W.drop (W.length - n)) < D) : PartAt W n D (W.length - n, val (W.drop (W.length - n)), []) :=
  ⟨by simp only; omega, ⟨val_nonneg (h.drop _), hlt⟩, Wd.nil, by simp only [List.length_nil]; omega, by simp [val]⟩
/-- What lies in the row. -/
def restAt (W : List Int) (n : Nat) (i : Nat) (R : Int) : List Int := W.take i ++ (digN n R ++ List.replicate (W.length - n - i) 0)
theorem restAt_length {W : List Int} {n i : Nat} {R : Int} (h : i + n ≤ W.length) : (restAt W n i R).length = W.length := by simp [restAt, digN_length]; omega
theorem restAt_wd {W : List Int} {n i : Nat} {R : Int} (h : Wd W) : Wd (restAt W n i R) := (h.take i).append ((digN_wd _ _).append (Wd.rep _))
theorem restAt_start {W : List Int} {n : Nat} (h : Wd W) (hn : n ≤ W.length) : restAt W n (W.length - n) (val (W.drop (W.length - n))) = W := by
  have e : digN n (val (W.drop (W.length - n))) = W.drop (W.length - n) := by
    have := digN_val (h.drop (W.length - n))
    rwa [List.length_drop, show W.length - (W.length - n) = n by omega] at this
  rw [restAt, e, Nat.sub_self, List.replicate_zero, List.append_nil, List.take_append_drop]
/-- The window of a round. -/
theorem restAt_win {W : List Int} {n i : Nat} {R : Int} (hi : i < W.length) : restAt W n (i + 1) R = W.take i ++ ((W.getD i 0 :: digN n R) ++ List.replicate (W.length - n - (i + 1)) 0) := by
  rw [restAt, List.take_succ_eq_append_getElem hi, List.append_assoc, List.singleton_append, List.cons_append]
  simp [List.getD_eq_getElem?_getD, hi]
theorem digN_top {n : Nat} {m : Int} (h0 : 0 ≤ m) (h1 : m < 4294967296 ^ n) : digN (n + 1) m = digN n m ++ [0] := by
  have hw : Wd (digN n m ++ [0]) := (digN_wd n m).snoc (by decide) (by decide)
  have hv : val (digN n m ++ [0]) = m := by rw [val_snoc, val_digN h0 h1]; simp
  have := digN_val hw
  rw [hv] at this
  simpa [digN_length] using this
theorem restAt_next {W : List Int} {n i : Nat} {R : Int} (h0 : 0 ≤ R) (h1 : R < 4294967296 ^ n) (hi : i + 1 + n ≤ W.length) : W.take i ++ (digN (n + 1) R ++ List.replicate (W.length - n - (i + 1)) 0) = restAt W n i R := by
  rw [restAt, digN_top h0 h1, List.append_assoc, show W.length - n - i = (W.length - n - (i + 1)) + 1 by omega, List.replicate_succ, List.singleton_append]
theorem PartAt.win {W : List Int} {n : Nat} {D R : Int} {i : Nat} {qs : List Int} (h : Wd W) (hD : D < 4294967296 ^ n) (ha : PartAt W n D (i + 1, R, qs)) : Wd (W.getD i 0 :: digN n R) ∧ (W.getD i 0 :: digN n R).length = n + 1 ∧ val (W.getD i 0 :: digN n R) = W.getD i 0 + 4294967296 * R ∧ val (W.getD i 0 :: digN n R) < 4294967296 * D := by
  have hr := ha.r
  simp only at hr
  have hw := h.getD i
  have e : val (W.getD i 0 :: digN n R) = W.getD i 0 + 4294967296 * R := by rw [val, val_digN hr.1 (by omega)]
  exact ⟨Wd.cons.2 ⟨hw, digN_wd _ _⟩, by simp [digN_length], e, by omega⟩
theorem PartAt.next {W : List Int} {n : Nat} {D R : Int} {i : Nat} {qs : List Int} (h : Wd W) (hDpos : 0 < D) (ha : PartAt W n D (i + 1, R, qs)) {V : Int} (hV : V = W.getD i 0 + 4294967296 * R) : PartAt W n D (i, V % D, V / D :: qs) := by
  obtain ⟨hle, hr, hw, hlen, heq⟩ := ha
  simp only at hle hr hw hlen heq
  have hwi := h.getD i
  have h1 := Int.ediv_nonneg (a := V) (b := D) (by omega) (by omega)
  have h2 : V / D < 4294967296 := Int.ediv_lt_of_lt_mul hDpos (by omega)
  refine ⟨by simp only; omega, ⟨Int.emod_nonneg _ (by omega), Int.emod_lt_of_pos _ hDpos⟩, Wd.cons.2 ⟨⟨h1, h2⟩, hw⟩, by simp only [List.length_cons]; omega, ?_⟩
  simp only
  rw [val, drop_val W i, ← heq]
  have h3 := Int.mul_ediv_add_emod V D
  generalize V / D = Q at *
  generalize V % D = r at *
  rw [hV] at h3
  generalize W.getD i 0 = w at *
  have : w = D * Q + r - 4294967296 * R := by omega
  subst this
  grind
theorem part_end {A b R : Int} {qs : List Int} {k : Nat} (hb : 0 < b) (heq : val qs * (b * 2 ^ k) + R = A * 2 ^ k) (hr : 0 ≤ R ∧ R < b * 2 ^ k) : val qs = A / b ∧ R / 2 ^ k = A % b := by
  have hp : (0 : Int) < 2 ^ k := Int.pow_pos (by decide)
  have e : R = 2 ^ k * (A - val qs * b) := by
    have : R = A * 2 ^ k - val qs * (b * 2 ^ k) := by omega
    rw [this]; grind
  have e2 : R / 2 ^ k = A - val qs * b := by rw [e, Int.mul_ediv_cancel_left _ (by omega)]
  have h0 : 0 ≤ A - val qs * b := by rw [← e2]; exact Int.ediv_nonneg hr.1 (by omega)
  have h1 : A - val qs * b < b := by
    by_cases c : A - val qs * b < b
    · exact c
    · have := Int.mul_le_mul_of_nonneg_left (show b ≤ A - val qs * b by omega) (Int.le_of_lt hp)
      rw [← e, Int.mul_comm] at this; omega
  have hu := (Int.ediv_emod_unique (a := A) (b := b) (r := A - val qs * b) (q := val qs) hb).2 ⟨by rw [Int.mul_comm b]; omega, h0, h1⟩
  exact ⟨hu.1.symm, by rw [e2]; exact hu.2.symm⟩
theorem drop_bd {W : List Int} (h : Wd W) {i : Nat} (hi : i ≤ W.length) : 4294967296 ^ i * val (W.drop i) ≤ val W := by
  have h1 := val_drop W i
  have h2 := val_nonneg (h.take i)
  rw [Nat.min_eq_left hi] at h1
  omega
/-- A divisor whose highest bit is set. -/
theorem norm_bd {ws : List Int} (h : Wd ws) (ht : Tr ws) (hn : ws ≠ []) {k : Nat} (hk : k + bl (ws.getD (ws.length - 1) 0).toNat = 32) : 2147483648 * 4294967296 ^ (ws.length - 1) ≤ val ws * 2 ^ k ∧ val ws * 2 ^ k < 4294967296 ^ ws.length ∧ k < 32 := by
  have hb := bl_val h ht hn
  have hlen : 0 < ws.length := List.length_pos_iff.2 hn
  have hv := val_nonneg h
  have htop : ws.getD (ws.length - 1) 0 ≠ 0 := by
    rcases ht with e | e
    · omega
    · exact e
  have hw := h.getD (ws.length - 1)
  have h1 : 1 ≤ bl (ws.getD (ws.length - 1) 0).toNat := by
    by_cases e : 1 ≤ bl (ws.getD (ws.length - 1) 0).toNat
    · exact e
    · have := (bl_spec (n := (ws.getD (ws.length - 1) 0).toNat) (k := 0)).1 (by omega)
      rw [Nat.pow_zero] at this; omega
  have hbl : bl (val ws).toNat = 32 * (ws.length - 1) + bl (ws.getD (ws.length - 1) 0).toNat := by omega
  generalize bl (ws.getD (ws.length - 1) 0).toNat = t at *
  have hlo : 2 ^ (32 * (ws.length - 1) + t - 1) ≤ (val ws).toNat := by
    by_cases e : 2 ^ (32 * (ws.length - 1) + t - 1) ≤ (val ws).toNat
    · exact e
    · have := (bl_spec (n := (val ws).toNat) (k := 32 * (ws.length - 1) + t - 1)).2 (by omega)
      omega
  have hhi := (bl_spec (n := (val ws).toNat) (k := 32 * (ws.length - 1) + t)).1 (by omega)
  have hlo2 : (2 : Int) ^ (32 * (ws.length - 1) + t - 1) ≤ val ws := by
    have : ((2 ^ (32 * (ws.length - 1) + t - 1) : Nat) : Int) ≤ ((val ws).toNat : Int) := Int.ofNat_le.2 hlo
    rw [Int.natCast_pow, Int.toNat_of_nonneg hv] at this; exact this
  have hhi2 : val ws < (2 : Int) ^ (32 * (ws.length - 1) + t) := by
    have : ((val ws).toNat : Int) < ((2 ^ (32 * (ws.length - 1) + t) : Nat) : Int) := Int.ofNat_lt.2 hhi
    rw [Int.natCast_pow, Int.toNat_of_nonneg hv] at this; exact this
  have hp : (0 : Int) < 2 ^ k := Int.pow_pos (by decide)
  refine ⟨?_, ?_, by omega⟩
  · have := Int.mul_le_mul_of_nonneg_right hlo2 (Int.le_of_lt hp)
    rw [← Int.pow_add, show 32 * (ws.length - 1) + t - 1 + k = 31 + 32 * (ws.length - 1) by omega, Int.pow_add, two32] at this
    exact this
  · have := Int.mul_lt_mul_of_pos_right hhi2 hp
    rw [← Int.pow_add, show 32 * (ws.length - 1) + t + k = 32 * ws.length by omega, two32] at this
    exact this
theorem top_bit {vs : List Int} (h : Wd vs) {n : Nat} (hl : vs.length = n + 1) (hv : 2147483648 * 4294967296 ^ n ≤ val vs) : 2147483648 ≤ vs.getD n 0 := by
  have h1 := val_take_succ' (ws := vs) n
  rw [List.take_of_length_le (by omega)] at h1
  have h2 := take_lt h (n := n) (by omega)
  by_cases e : 2147483648 ≤ vs.getD n 0
  · exact e
  · have h3 : 4294967296 ^ n * (vs.getD n 0 + 1) ≤ 4294967296 ^ n * 2147483648 := Int.mul_le_mul_of_nonneg_left (by omega) (Int.le_of_lt (Bpos n))
    have h4 : (4294967296 : Int) ^ n * (vs.getD n 0 + 1) = 4294967296 ^ n * vs.getD n 0 + 4294967296 ^ n := by grind
    omega
end Go.Proofs.YtebkelnibecmjaaDoor.NumA
namespace Go.Proofs.YtebkelnibecmjaaDoor.NumA
theorem div_pos {m : Bool} {A B : Int} (hA : 0 ≤ A) (hB : 0 < B) : (sg m A / B = if m = true ∧ A % B ≠ 0 then -(A / B + 1) else sg m (A / B)) ∧ (sg m A % B = if m = true ∧ A % B ≠ 0 then B - A % B else A % B) := by
  have h1 := Int.mul_ediv_add_emod A B
  have h2 := Int.emod_nonneg A (show B ≠ 0 by omega)
  have h3 := Int.emod_lt_of_pos A hB
  cases m with
  | false => simp [sg]
  | true =>
    generalize A / B = Q at *
    generalize A % B = R at *
    by_cases e : R = 0
    · subst e
      have := (Int.ediv_emod_unique (a := -A) (b := B) (r := 0) (q := -Q) hB).2 ⟨by rw [Int.mul_neg]; omega, by omega, by omega⟩
      simp [sg, this]
    · have e2 : B * -(Q + 1) = -(B * Q) - B := by grind
      have := (Int.ediv_emod_unique (a := -A) (b := B) (r := B - R) (q := -(Q + 1)) hB).2 ⟨by omega, by omega, by omega⟩
      simp [sg, this, e]
theorem div_sg {m n : Bool} {A B : Int} (hA : 0 ≤ A) (hB : 0 < B) : (sg m A / sg n B = if m = true ∧ A % B ≠ 0 then sg (m != n) (A / B + 1) else sg (m != n) (A / B)) ∧ (sg m A % sg n B = if m = true ∧ A % B ≠ 0 then B - A % B else A % B) := by
  have h := div_pos (m := m) hA hB
  cases n with
  | false =>
    simp only [Bool.bne_false]
    refine ⟨?_, by simpa [sg] using h.2⟩
    have h1 := h.1
    rw [show sg false B = B by simp [sg], h1]
    split
    · rename_i e; simp [sg, e.1]
    · rfl
  | true =>
    have e1 : sg true B = -B := by simp [sg]
    rw [e1, Int.ediv_neg, Int.emod_neg, h.1, h.2]
    refine ⟨?_, rfl⟩
    split
    · rename_i e; simp [sg, e.1]
    · cases m <;> simp [sg]
theorem gcd_step (x y : Nat) : Nat.gcd x y = Nat.gcd y (x % y) := by
  rw [Nat.gcd_comm x y, Nat.gcd_rec y x, Nat.gcd_comm]
/-- The greatest common divisor as a combination. -/
def IsBez (a b u : Int) : Prop := 0 ≤ u ∧ u < (b.natAbs : Int) / (Int.gcd a b : Int) ∧ b ∣ (Int.gcd a b : Int) - u * a
open Classical in
noncomputable def bezU (a b : Int) : Int := if h : ∃ u, IsBez a b u then Classical.choose h else 0
theorem gcd_pos {a b : Int} (hb : b ≠ 0) : (0 : Int) < (Int.gcd a b : Int) := by
  have := Int.gcd_pos_of_ne_zero_right a hb
  omega
theorem bez_unique {a b u v : Int} (hb : b ≠ 0) (hu : IsBez a b u) (hv : IsBez a b v) : u = v := by
  obtain ⟨u0, u1, u2⟩ := hu
  obtain ⟨v0, v1, v2⟩ := hv
  have hg := gcd_pos (a := a) hb
  obtain ⟨a', ha⟩ := Int.gcd_dvd_left a b
  obtain ⟨b', hb2⟩ := Int.gcd_dvd_right a b
  have hd : b ∣ (u - v) * a := by
    have := Int.dvd_sub v2 u2
    rwa [show (Int.gcd a b : Int) - v * a - ((Int.gcd a b : Int) - u * a) = (u - v) * a by grind] at this
  have hco : Int.gcd b' a' = 1 := by
    have h := Int.gcd_mul_left (Int.gcd a b : Int) a' b'
    rw [← ha, ← hb2] at h
    have h2 : Int.gcd a b * 1 = Int.gcd a b * Int.gcd a' b' := by simpa using h
    have h3 := Nat.eq_of_mul_eq_mul_left (by omega) h2
    rw [Int.gcd_comm]; exact h3.symm
  have hd2 : b' ∣ (u - v) * a' := by
    have h1 : (Int.gcd a b : Int) * b' ∣ (Int.gcd a b : Int) * ((u - v) * a') := by
      rw [← hb2, show (Int.gcd a b : Int) * ((u - v) * a') = (u - v) * ((Int.gcd a b : Int) * a') by grind, ← ha]; exact hd
    exact Int.dvd_of_mul_dvd_mul_left (by omega) h1
  have hd3 : b' ∣ u - v := by
    have h5 := (Int.dvd_gcd_mul_iff_dvd_mul (k := b') (n := a') (m := u - v)).2 (by rw [Int.mul_comm]; exact hd2)
    rw [hco] at h5
    simpa using h5
  have hst : (b.natAbs : Int) / (Int.gcd a b : Int) = b'.natAbs := by
    have h1 : b.natAbs = Int.gcd a b * b'.natAbs := by rw [congrArg Int.natAbs hb2, Int.natAbs_mul]; simp
    rw [h1, Int.natCast_mul]
    exact Int.mul_ediv_cancel_left _ (by omega)
  rw [hst] at u1 v1
  obtain ⟨k, hk⟩ := hd3
  have : k = 0 := by
    by_cases e : k = 0
    · exact e
    · have h1 : (u - v).natAbs = b'.natAbs * k.natAbs := by rw [hk, Int.natAbs_mul]
      have h2 : 1 ≤ k.natAbs := by omega
      have h3 := Nat.mul_le_mul_left b'.natAbs h2
      omega
  rw [this] at hk; omega
theorem bezU_eq {a b u : Int} (hb : b ≠ 0) (h : IsBez a b u) : bezU a b = u := by
  have hex : ∃ u, IsBez a b u := ⟨u, h⟩
  unfold bezU
  rw [dif_pos hex]
  exact bez_unique hb (Classical.choose_spec hex) h
theorem bez_fin {a b u v : Int} (hb : b ≠ 0) (h : (Int.gcd a b : Int) = u * a + v * b) : IsBez a b (u % ((b.natAbs : Int) / (Int.gcd a b : Int))) := by
  have hg := gcd_pos (a := a) hb
  obtain ⟨a', ha⟩ := Int.gcd_dvd_left a b
  obtain ⟨b', hb2⟩ := Int.gcd_dvd_right a b
  have hst : (b.natAbs : Int) / (Int.gcd a b : Int) = b'.natAbs := by
    have h1 : b.natAbs = Int.gcd a b * b'.natAbs := by rw [congrArg Int.natAbs hb2, Int.natAbs_mul]; simp
    rw [h1, Int.natCast_mul]
    exact Int.mul_ediv_cancel_left _ (by omega)
  have hb' : b'.natAbs ≠ 0 := by
    intro e
    have : b' = 0 := by omega
    rw [this] at hb2; simp at hb2; omega
  unfold IsBez
  rw [hst]
  refine ⟨Int.emod_nonneg _ (by omega), Int.emod_lt_of_pos _ (by omega), ?_⟩
  have h1 := Int.mul_ediv_add_emod u b'.natAbs
  generalize u / (b'.natAbs : Int) = q at *
  generalize u % (b'.natAbs : Int) = r at *
  obtain ⟨s, hs⟩ : ∃ s : Int, (b'.natAbs : Int) = s * b' := by
    rcases Int.natAbs_eq b' with e | e
    · exact ⟨1, by omega⟩
    · exact ⟨-1, by omega⟩
  refine ⟨v + s * q * a', ?_⟩
  generalize (Int.gcd a b : Int) = g at *
  have hr : r = u - s * b' * q := by rw [← hs]; omega
  rw [hr, h]
  have e1 : b * (s * q * a') = s * q * b' * a := by rw [hb2, ha]; grind
  rw [Int.mul_add, e1]
  grind
theorem bezU_spec {a b : Int} (hb : b ≠ 0) : IsBez a b (bezU a b) := by
  have h : ∃ u v : Int, (Int.gcd a b : Int) = u * a + v * b := by
    have key : ∀ n x y : Nat, y ≤ n → ∃ u v : Int, (Nat.gcd x y : Int) = u * x + v * y := by
      intro n
      induction n with
      | zero => intro x y hy; exact ⟨1, 0, by rw [show y = 0 by omega]; simp⟩
      | succ n ih =>
        intro x y hy
        by_cases e : y = 0
        · exact ⟨1, 0, by rw [e]; simp⟩
        · obtain ⟨u, v, hv⟩ := ih y (x % y) (by have := Nat.mod_lt x (show 0 < y by omega); omega)
          refine ⟨v, u - v * (x / y : Nat), ?_⟩
          rw [gcd_step, hv]
          have := Nat.div_add_mod x y
          generalize x / y = q at *
          generalize x % y = r at *
          subst this
          simp only [Int.natCast_add, Int.natCast_mul]
          grind
    obtain ⟨u, v, h⟩ := key b.natAbs a.natAbs b.natAbs (Nat.le_refl _)
    have ea : ∃ s : Int, (a.natAbs : Int) = s * a := by
      rcases Int.natAbs_eq a with e | e
      · exact ⟨1, by omega⟩
      · exact ⟨-1, by omega⟩
    have eb : ∃ s : Int, (b.natAbs : Int) = s * b := by
      rcases Int.natAbs_eq b with e | e
      · exact ⟨1, by omega⟩
      · exact ⟨-1, by omega⟩
    obtain ⟨s, hs⟩ := ea
    obtain ⟨t, ht⟩ := eb
    refine ⟨u * s, v * t, ?_⟩
    rw [Int.gcd_eq_natAbs_gcd_natAbs, h, hs, ht]; grind
  obtain ⟨u, v, h⟩ := h
  rw [bezU_eq hb (bez_fin hb h)]
  exact bez_fin hb h
/-- The rounds of Euclid: x is u a, y is w a, modulo b. -/
structure BezAt (a b : Int) (x : Nat × Nat × Int × Int) : Prop where
  g : Nat.gcd x.1 x.2.1 = Int.gcd a b
  cx : ∃ v : Int, (x.1 : Int) = x.2.2.1 * a + v * b
  cy : ∃ v : Int, (x.2.1 : Int) = x.2.2.2 * a + v * b
  x0 : 0 < x.1
  xb : x.1 ≤ max a.natAbs b.natAbs
  yb : x.2.1 ≤ max a.natAbs b.natAbs
  ub : -(b.natAbs : Int) ≤ x.2.2.1 ∧ x.2.2.1 ≤ b.natAbs
  wb : -(b.natAbs : Int) ≤ x.2.2.2 ∧ x.2.2.2 ≤ b.natAbs
  s : ∃ U W : Int, 0 ≤ U ∧ 0 ≤ W ∧ ((x.2.2.1 = U ∧ x.2.2.2 = -W) ∨ (x.2.2.1 = -U ∧ x.2.2.2 = W)) ∧ U * x.2.1 + W * x.1 ≤ b.natAbs
theorem BezAt.next {a b : Int} {x y : Nat} {u w : Int} (ha : BezAt a b (x, y, u, w)) (hy : 0 < y) : BezAt a b (y, x % y, w, u - (x / y : Nat) * w) ∧ -(b.natAbs : Int) ≤ (x / y : Nat) * w ∧ (x / y : Nat) * w ≤ b.natAbs := by
  obtain ⟨hg, ⟨v, hv⟩, ⟨v2, hv2⟩, hx0, hxb, hyb, hub, hwb, ⟨U, W, hU, hW, hs, hle⟩⟩ := ha
  simp only at hg hv hv2 hx0 hxb hyb hub hwb hs hle
  have hdm := Nat.div_add_mod x y
  have hml := Nat.mod_lt x hy
  have hq0 : (0 : Int) ≤ (x / y : Nat) := Int.natCast_nonneg _
  rw [gcd_step] at hg
  generalize hqq : x / y = q at *
  generalize hrr : x % y = r at *
  have hxi : (x : Int) = y * q + r := by rw [← hdm]; simp
  have hqW : 0 ≤ (q : Int) * W := Int.mul_nonneg hq0 hW
  have hle2 : W * r + (U + q * W) * y ≤ b.natAbs := by
    have : W * r + (U + q * W) * y = U * y + W * x := by rw [hxi]; grind
    omega
  have hWr : 0 ≤ W * (r : Int) := Int.mul_nonneg hW (Int.natCast_nonneg _)
  have h1y : (U + q * W) * 1 ≤ (U + q * W) * y := Int.mul_le_mul_of_nonneg_left (by omega) (by omega)
  refine ⟨⟨hg, ⟨v2, hv2⟩, ⟨v - q * v2, ?_⟩, hy, hyb, by simp only; omega, hwb, ?_, ⟨W, U + q * W, hW, by omega, ?_, hle2⟩⟩, ?_⟩
  · simp only
    have : (r : Int) = x - y * q := by omega
    rw [this, hv, hv2]; grind
  · simp only
    rcases hs with ⟨e1, e2⟩ | ⟨e1, e2⟩
    · rw [e1, e2, Int.mul_neg]; omega
    · rw [e1, e2]; omega
  · simp only
    rcases hs with ⟨e1, e2⟩ | ⟨e1, e2⟩
    · exact .inr ⟨by omega, by rw [e1, e2, Int.mul_neg]; omega⟩
    · exact .inl ⟨by omega, by rw [e1, e2]; omega⟩
  · rcases hs with ⟨e1, e2⟩ | ⟨e1, e2⟩
    · rw [e2, Int.mul_neg]; omega
    · rw [e2]; omega
/-- The root. -/
def IsSq (a r : Int) : Prop := 0 ≤ r ∧ r * r ≤ a ∧ a < (r + 1) * (r + 1)
open Classical in
noncomputable def sqZ (a : Int) : Int := if h : ∃ r, IsSq a r then Classical.choose h else 0
theorem sq_le {r s a : Int} (h : IsSq a r) (hs : 0 ≤ s) (h2 : s * s ≤ a) : s ≤ r := by
  by_cases e : s ≤ r
  · exact e
  · have h0 := h.1
    have h1 : (r + 1) * (r + 1) ≤ s * (r + 1) := Int.mul_le_mul_of_nonneg_right (by omega) (by omega)
    have h3 : s * (r + 1) ≤ s * s := Int.mul_le_mul_of_nonneg_left (by omega) hs
    have := h.2.2
    omega
theorem sqZ_eq {a r : Int} (h : IsSq a r) : sqZ a = r := by
  have hex : ∃ r, IsSq a r := ⟨r, h⟩
  unfold sqZ
  rw [dif_pos hex]
  have hs := Classical.choose_spec hex
  have h1 := sq_le hs h.1 h.2.1
  have h2 := sq_le h hs.1 hs.2.1
  omega
theorem newton {a x : Int} (ha : 0 ≤ a) (hx : 0 < x) : a < ((x + a / x) / 2 + 1) * ((x + a / x) / 2 + 1) := by
  have h1 := Int.mul_ediv_add_emod a x
  have h2 := Int.emod_lt_of_pos a hx
  have hq : 0 ≤ a / x := Int.ediv_nonneg ha (by omega)
  generalize a / x = q at *
  generalize a % x = r at *
  obtain ⟨n, hn⟩ : ∃ n, n = (x + q) / 2 := ⟨_, rfl⟩
  rw [← hn]
  have h3 : x + q + 1 ≤ 2 * (n + 1) := by omega
  have h4 : (x + q + 1) * (x + q + 1) ≤ (2 * (n + 1)) * (x + q + 1) := Int.mul_le_mul_of_nonneg_right h3 (by omega)
  have h5 : (2 * (n + 1)) * (x + q + 1) ≤ (2 * (n + 1)) * (2 * (n + 1)) := Int.mul_le_mul_of_nonneg_left h3 (by omega)
  have h6 : 0 ≤ (x - (q + 1)) * (x - (q + 1)) := by
    by_cases c : 0 ≤ x - (q + 1)
    · exact Int.mul_nonneg c c
    · have := Int.mul_nonneg (show 0 ≤ -(x - (q + 1)) by omega) (show 0 ≤ -(x - (q + 1)) by omega)
      rwa [Int.neg_mul_neg] at this
  have h7 : (x + q + 1) * (x + q + 1) = (x - (q + 1)) * (x - (q + 1)) + 4 * (x * q + x) := by grind
  have h8 : (2 * (n + 1)) * (2 * (n + 1)) = 4 * ((n + 1) * (n + 1)) := by grind
  omega
theorem newton_end {a x : Int} (hx : 0 < x) (hub : a < (x + 1) * (x + 1)) (h : x ≤ (x + a / x) / 2) : IsSq a x := by
  refine ⟨by omega, ?_, hub⟩
  have h1 : x ≤ a / x := by omega
  have h2 := Int.ediv_mul_le a (show x ≠ 0 by omega)
  have h3 : x * x ≤ a / x * x := Int.mul_le_mul_of_nonneg_right h1 (by omega)
  omega
end Go.Proofs.YtebkelnibecmjaaDoor.NumA
namespace Go.Proofs.YtebkelnibecmjaaDoor.NumA
theorem mid_get {xs ys win zs : List Int} {j : Nat} (hl : ys.length = j) (hj : j < win.length) : (xs ++ ((ys ++ win.drop j) ++ zs)).getD (xs.length + j) 0 = win.getD j 0 := by
  rw [drop_getD hj, List.getD_eq_getElem?_getD, List.getElem?_append_right (by omega), Nat.add_sub_cancel_left, List.getElem?_append_left (by simp; omega), List.getElem?_append_right (by omega), hl, Nat.sub_self]
  rfl
theorem mid_set {xs ys win zs : List Int} {j : Nat} (hl : ys.length = j) (hj : j < win.length) (d : Int) : (xs ++ ((ys ++ win.drop j) ++ zs)).set (xs.length + j) d = xs ++ (((ys ++ [d]) ++ win.drop (j + 1)) ++ zs) := by
  rw [List.set_append_right _ _ (by omega), Nat.add_sub_cancel_left, List.set_append_left _ _ (by simp; omega), List.set_append_right _ _ (by omega), hl, Nat.sub_self, drop_getD hj, List.set_cons_zero]
  simp
theorem take_fin {win vs ys : List Int} {q c : Int} (h : Wd win) (hl : vs.length < win.length) (h2 : Wd vs) (hq : 0 ≤ q ∧ q < 4294967296) (ha : TakeAt win vs q (win.length, ys, c, 0)) : q * val vs ≤ val win ∧ ys = digN win.length (val win - q * val vs) := by
  obtain ⟨-, h4, h5⟩ := ha.end_ h hl h2 hq
  have hlen := ha.len
  simp only at hlen
  rw [Int.mul_zero, Int.add_zero] at h4
  refine ⟨h5.1 rfl, ?_⟩
  rw [← h4, ← hlen]; exact (digN_val ha.wd).symm
theorem back_fin {win vs w1 ys : List Int} {q e : Int} (hlw : vs.length ≤ win.length) (h2 : Wd vs) (hw1 : val w1 = val win - q * val vs + 4294967296 ^ win.length * 1) (hl1 : w1.length = win.length) (ha : BackAt w1 vs (win.length, ys, e)) (hq1 : (q - 1) * val vs ≤ val win) : ys = digN win.length (val win - (q - 1) * val vs) ∧ e = 1 := by
  have heq := ha.eq
  have hlen := ha.len
  have hy := ha.wd
  have hc := ha.c
  simp only at heq hlen hy hc
  rw [List.take_of_length_le (show w1.length ≤ win.length by omega), List.take_of_length_le hlw, hw1] at heq
  have hv := val_lt h2
  have hp := powle hlw
  have hy0 := val_nonneg hy
  have hy1 := val_lt hy
  rw [hlen] at hy1
  rw [Int.sub_mul, Int.one_mul] at hq1 ⊢
  have he : e = 1 := by
    rcases hc with e0 | e1
    · rw [e0, Int.mul_zero] at heq; omega
    · exact e1
  rw [he] at heq
  refine ⟨?_, he⟩
  have : val ys = val win - (q * val vs - val vs) := by omega
  rw [← this, ← hlen]; exact (digN_val hy).symm
/-- Not yet: d is added again as long as that was too much. -/
theorem back_more {win vs w1 ys : List Int} {q e : Int} (hlw : vs.length ≤ win.length) (h2 : Wd vs) (hw1 : val w1 = val win - q * val vs + 4294967296 ^ win.length * 1) (hl1 : w1.length = win.length) (h1 : Wd w1) (hw : Wd win) (ha : BackAt w1 vs (win.length, ys, e)) (hnot : ¬ q * val vs ≤ val win) : val ys = val win - (q - 1) * val vs + 4294967296 ^ win.length * (1 - e) ∧ (1 - e = 0 ↔ (q - 1) * val vs ≤ val win) := by
  have heq := ha.eq
  have hlen := ha.len
  have hy := ha.wd
  have hc := ha.c
  simp only at heq hlen hy hc
  rw [List.take_of_length_le (show w1.length ≤ win.length by omega), List.take_of_length_le hlw, hw1] at heq
  have hv := val_lt h2
  have hp := powle hlw
  have hy0 := val_nonneg hy
  have hy1 := val_lt hy
  rw [hlen] at hy1
  rw [Int.sub_mul, Int.one_mul, Int.mul_sub]
  refine ⟨by omega, ?_⟩
  rcases hc with e0 | e1
  · rw [e0, Int.mul_zero] at heq; rw [e0]; omega
  · rw [e1] at heq ⊢; omega
end Go.Proofs.YtebkelnibecmjaaDoor.NumA
namespace Go.Proofs.YtebkelnibecmjaaDoor.NumA
def partQ (ws vs : List Int) : List Int := if cmpI (val ws) (val vs) < 0 then [] else if ws.length ≤ 2 then digN 2 (val ws / val vs) else if vs.length = 1 then digN ws.length (val ws / val vs) else digN (ws.length - vs.length + 1) (val ws / val vs)
def partR (ws vs : List Int) : List Int := if cmpI (val ws) (val vs) < 0 then ws else if ws.length ≤ 2 then digN 2 (val ws % val vs) else if vs.length = 1 then [val ws % val vs] else digN vs.length (val ws % val vs)
theorem cmpI_neg {a b : Int} : cmpI a b < 0 ↔ a < b := by unfold cmpI; split <;> (try split) <;> omega
theorem Bsucc (n : Nat) : (4294967296 : Int) ^ (n + 1) = 4294967296 ^ n * 4294967296 := Int.pow_succ _ _
theorem shifted_lt {ws : List Int} (h : Wd ws) {k : Nat} (hk : k ≤ 32) : 0 ≤ val ws * 2 ^ k ∧ val ws * 2 ^ k < 4294967296 ^ (ws.length + 1) := by
  have h1 := val_lt h
  have h0 := val_nonneg h
  have hp : (0 : Int) < 2 ^ k := Int.pow_pos (by decide)
  have h2 : val ws * 2 ^ k < 4294967296 ^ ws.length * 2 ^ k := Int.mul_lt_mul_of_pos_right h1 hp
  have h3 : (4294967296 : Int) ^ ws.length * 2 ^ k ≤ 4294967296 ^ ws.length * 4294967296 := Int.mul_le_mul_of_nonneg_left (pow32 hk) (Int.le_of_lt (Bpos _))
  rw [Bsucc]
  exact ⟨Int.mul_nonneg h0 (Int.le_of_lt hp), by omega⟩
theorem part_start {ws vs : List Int} {m k : Nat} (h : Wd ws) (h2 : Wd vs) (ht2 : Tr vs) (hm : vs.length = m + 2) (hk : k + bl (vs.getD (vs.length - 1) 0).toNat = 32) (hle : vs.length ≤ ws.length) :
    k < 32 ∧ 0 < val vs ∧ 0 < val vs * 2 ^ k ∧ val vs * 2 ^ k < 4294967296 ^ (m + 2) ∧ val (digN (m + 2) (val vs * 2 ^ k)) = val vs * 2 ^ k ∧ (digN (m + 3) (val vs * 2 ^ k)).take (m + 2) = digN (m + 2) (val vs * 2 ^ k) ∧ 2147483648 ≤ (digN (m + 2) (val vs * 2 ^ k)).getD (m + 1) 0 ∧ val (digN (ws.length + 1) (val ws * 2 ^ k)) = val ws * 2 ^ k ∧
    PartAt (digN (ws.length + 1) (val ws * 2 ^ k)) (m + 2) (val vs * 2 ^ k) (ws.length + 1 - (m + 2), val ((digN (ws.length + 1) (val ws * 2 ^ k)).drop (ws.length + 1 - (m + 2))), []) := by
  have hn : vs ≠ [] := by intro e; rw [e] at hm; simp at hm
  obtain ⟨n1, n2, n3⟩ := norm_bd h2 ht2 hn hk
  have hw := shifted_lt h (Nat.le_of_lt n3)
  have hp : (0 : Int) < 2 ^ k := Int.pow_pos (by decide)
  have hB := Bpos (vs.length - 1)
  have hDpos : 0 < val vs * 2 ^ k := by omega
  have hv : 0 < val vs := by
    by_cases e : 0 < val vs
    · exact e
    · have := val_nonneg h2
      rw [show val vs = 0 by omega, Int.zero_mul] at hDpos; omega
  rw [hm] at n2
  rw [hm, show m + 2 - 1 = m + 1 by omega] at n1
  have e1 := val_digN (n := m + 2) (Int.le_of_lt hDpos) n2
  have e2 := val_digN hw.1 hw.2
  have e3 : (digN (m + 3) (val vs * 2 ^ k)).take (m + 2) = digN (m + 2) (val vs * 2 ^ k) := by
    rw [digN_top (Int.le_of_lt hDpos) n2, List.take_append_of_le_length (by rw [digN_length]; exact Nat.le_refl _), List.take_of_length_le (by rw [digN_length]; exact Nat.le_refl _)]
  have e4 := top_bit (digN_wd (m + 2) (val vs * 2 ^ k)) (n := m + 1) (by rw [digN_length]) (by rw [e1]; exact n1)
  refine ⟨n3, hv, hDpos, n2, e1, e3, e4, e2, ?_⟩
  have hWd := digN_wd (ws.length + 1) (val ws * 2 ^ k)
  have hWl := digN_length (ws.length + 1) (val ws * 2 ^ k)
  generalize digN (ws.length + 1) (val ws * 2 ^ k) = W at *
  have hd := drop_bd hWd (i := W.length - (m + 2)) (by omega)
  rw [← hWl]
  refine PartAt.start hWd (by omega) ?_
  generalize val (List.drop (W.length - (m + 2)) W) = x at *
  by_cases c : x < val vs * 2 ^ k
  · exact c
  · have g1 : 4294967296 ^ (W.length - (m + 2)) * (2147483648 * 4294967296 ^ (m + 1)) ≤ 4294967296 ^ (W.length - (m + 2)) * x := Int.mul_le_mul_of_nonneg_left (by omega) (Int.le_of_lt (Bpos _))
    have g2 : (4294967296 : Int) ^ (W.length - (m + 2)) * (2147483648 * 4294967296 ^ (m + 1)) = 2147483648 * 4294967296 ^ ws.length := by
      rw [show (4294967296 : Int) ^ (W.length - (m + 2)) * (2147483648 * 4294967296 ^ (m + 1)) = 2147483648 * (4294967296 ^ (W.length - (m + 2)) * 4294967296 ^ (m + 1)) by grind, ← Int.pow_add, show W.length - (m + 2) + (m + 1) = ws.length by omega]
    have g3 := Int.mul_lt_mul_of_pos_right (val_lt h) hp
    have g4 : (2 : Int) ^ k ≤ 2147483648 := by
      have h2 : ((2 ^ k : Nat) : Int) ≤ ((2 ^ 31 : Nat) : Int) := Int.ofNat_le.2 (Nat.pow_le_pow_right (by decide) (by omega))
      rw [Int.natCast_pow] at h2
      exact h2
    have g5 : (4294967296 : Int) ^ ws.length * 2 ^ k ≤ 4294967296 ^ ws.length * 2147483648 := Int.mul_le_mul_of_nonneg_left g4 (Int.le_of_lt (Bpos _))
    omega
theorem take_result {V D q : Int} (hD : 0 < D) (h1 : V / D ≤ q) (h2 : (q - 1) * D ≤ V) : (if q * D ≤ V then q else q - 1) = V / D ∧ V - V / D * D = V % D := by
  have h3 := Int.mul_ediv_add_emod V D
  rw [Int.mul_comm] at h3
  refine ⟨?_, by omega⟩
  split
  · rename_i e
    have := (Int.le_ediv_iff_mul_le hD).2 e
    omega
  · rename_i e
    have h4 := (Int.le_ediv_iff_mul_le hD).2 h2
    have h5 : V / D ≠ q := fun hq => e (by rw [← hq]; have := Int.emod_nonneg V (show D ≠ 0 by omega); omega)
    omega
theorem part_mid {xs win zs : List Int} {i j : Nat} (hx : xs.length = i) (hj : j < win.length) : (xs ++ (win ++ zs)).getD (i + j) 0 = win.getD j 0 := by
  have := mid_get (xs := xs) (zs := zs) (ys := []) (j := j) (win := win.drop 0)
  subst hx
  rw [List.getD_eq_getElem?_getD, List.getElem?_append_right (by omega), Nat.add_sub_cancel_left, List.getElem?_append_left hj, ← List.getD_eq_getElem?_getD]
theorem q_set {i : Nat} {qs : List Int} (w : Int) : (List.replicate (i + 1) 0 ++ qs).set i w = List.replicate i 0 ++ w :: qs := by
  rw [List.replicate_succ', List.append_assoc, List.set_append_right _ _ (by simp), List.length_replicate, Nat.sub_self, List.singleton_append, List.set_cons_zero]
theorem part_spec {ws vs : List Int} (h : Wd ws) (h2 : Wd vs) (ht : Tr ws) (ht2 : Tr vs) (hv : 0 < val vs) : Wd (partQ ws vs) ∧ Wd (partR ws vs) ∧ val (partQ ws vs) = val ws / val vs ∧ val (partR ws vs) = val ws % val vs ∧ (partQ ws vs).length ≤ ws.length + 2 ∧ (partR ws vs).length ≤ ws.length + 2 := by
  have a0 := val_nonneg h
  have q0 := Int.ediv_nonneg a0 (Int.le_of_lt hv)
  have q1 := Int.ediv_le_self (val vs) a0
  have r0 := Int.emod_nonneg (val ws) (show val vs ≠ 0 by omega)
  have r1 := Int.emod_lt_of_pos (val ws) hv
  unfold partQ partR
  split
  · rename_i e
    rw [cmpI_neg] at e
    exact ⟨Wd.nil, h, by rw [Int.ediv_eq_zero_of_lt a0 e]; rfl, by rw [Int.emod_eq_of_lt a0 e], by simp, by omega⟩
  · rename_i e
    rw [cmpI_neg] at e
    split
    · rename_i hl
      have := small2 h hl
      refine ⟨digN_wd _ _, digN_wd _ _, val_digN q0 (by simp; omega), val_digN r0 (by simp; omega), by simp [digN_length], by simp [digN_length]⟩
    · split
      · rename_i hl
        have hb := val_lt1 h2 (by omega)
        refine ⟨digN_wd _ _, Wd.cons.2 ⟨⟨r0, by omega⟩, Wd.nil⟩, val_digN q0 (by have := val_lt h; omega), by simp [val], by simp [digN_length], by simp⟩
      · have hlen := len_le h h2 ht2 (by omega)
        refine ⟨digN_wd _ _, digN_wd _ _, val_digN q0 ?_, val_digN r0 (by have := val_lt h2; omega), by rw [digN_length]; omega, by rw [digN_length]; omega⟩
        have hn : vs ≠ [] := by intro c; rw [c] at hv; simp [val] at hv
        have hl2 : 0 < vs.length := List.length_pos_iff.2 hn
        have hbig : 4294967296 ^ (vs.length - 1) ≤ val vs := by
          have e1 := val_take_succ' (ws := vs) (vs.length - 1)
          rw [show vs.length - 1 + 1 = vs.length by omega, List.take_length] at e1
          have e2 := val_nonneg (h2.take (vs.length - 1))
          have e3 := h2.getD (vs.length - 1)
          have e4 : vs.getD (vs.length - 1) 0 ≠ 0 := by
            rcases ht2 with c | c
            · omega
            · exact c
          have e5 : (4294967296 : Int) ^ (vs.length - 1) * 1 ≤ 4294967296 ^ (vs.length - 1) * vs.getD (vs.length - 1) 0 := Int.mul_le_mul_of_nonneg_left (by omega) (Int.le_of_lt (Bpos _))
          omega
        refine Int.ediv_lt_of_lt_mul hv ?_
        have e6 : (4294967296 : Int) ^ (ws.length - vs.length + 1) * 4294967296 ^ (vs.length - 1) ≤ 4294967296 ^ (ws.length - vs.length + 1) * val vs := Int.mul_le_mul_of_nonneg_left hbig (Int.le_of_lt (Bpos _))
        rw [← Int.pow_add, show ws.length - vs.length + 1 + (vs.length - 1) = ws.length by omega] at e6
        have := val_lt h
        omega
end Go.Proofs.YtebkelnibecmjaaDoor.NumA
namespace Go.Proofs.YtebkelnibecmjaaDoor.NumA
theorem tail_get {ys L : List Int} {j i : Nat} (hl : ys.length = j) : (ys ++ L.drop j).getD (j + i) 0 = L.getD (j + i) 0 := by
  rw [List.getD_eq_getElem?_getD, List.getElem?_append_right (by omega), hl, Nat.add_sub_cancel_left, List.getElem?_drop, List.getD_eq_getElem?_getD]
theorem tail_set {ys L : List Int} {j : Nat} (hl : ys.length = j) (hj : j < L.length) (d : Int) : (ys ++ L.drop j).set j d = (ys ++ [d]) ++ L.drop (j + 1) := by
  rw [List.set_append_right _ _ (by omega), hl, Nat.sub_self, drop_getD hj, List.set_cons_zero]
  simp
theorem rest_zero {W : List Int} {n : Nat} {R : Int} : restAt W n 0 R = digN n R ++ List.replicate (W.length - n) 0 := by simp [restAt]
theorem un_end {L ys : List Int} {n s k : Nat} {R : Int} (hL : L = digN n R ++ List.replicate s 0) (h0 : 0 ≤ R) (h1 : R < 4294967296 ^ n) (ha : UnAt L k (n, ys)) : ys = digN n (R / 2 ^ k) := by
  have heq := ha.eq
  have hlen := ha.len
  simp only at heq hlen
  have e1 : L.drop n = List.replicate s 0 := by
    rw [hL, List.drop_append_of_le_length (by rw [digN_length]; exact Nat.le_refl _), List.drop_of_length_le (by rw [digN_length]; exact Nat.le_refl _), List.nil_append]
  have e2 : val L = R := by rw [hL, val_append, val_rep, Int.mul_zero, val_digN h0 h1, Int.add_zero]
  rw [e1, e2, val_rep, Int.zero_ediv, Int.mul_zero, Int.add_zero] at heq
  rw [← heq, ← hlen]; exact (digN_val ha.wd).symm
end Go.Proofs.YtebkelnibecmjaaDoor.NumA
namespace Go.Proofs.YtebkelnibecmjaaDoor.NumA
/-- How many words an integer has. -/
def nw (a : Int) : Nat := (digs a.natAbs).length
theorem nw_le {a : Int} {k : Nat} (h : (a.natAbs : Int) < 4294967296 ^ k) : nw a ≤ k := by
  have : a.natAbs = ((a.natAbs : Int)).toNat := by simp
  unfold nw; rw [this]
  exact dlen (by omega) h
theorem nw_lt {a : Int} : (a.natAbs : Int) < 4294967296 ^ nw a := by
  have h := val_lt (wd_digs a.natAbs)
  rwa [val_digs] at h
theorem nw_mono {a b : Int} (h : a.natAbs ≤ b.natAbs) : nw a ≤ nw b := nw_le (by have := nw_lt (a := b); omega)
theorem nw_val {m : Bool} {ws : List Int} (h : Wd ws) : nw (sg m (val ws)) ≤ ws.length := nw_le (by have := val_lt h; have := val_nonneg h; cases m <;> simp [sg] <;> omega)
theorem nw_mul (a b : Int) : nw (a * b) ≤ nw a + nw b := by
  apply nw_le
  rw [Int.natAbs_mul, Int.natCast_mul, Int.pow_add]
  have h1 := nw_lt (a := a)
  have h2 := nw_lt (a := b)
  have h3 : (a.natAbs : Int) * b.natAbs ≤ a.natAbs * 4294967296 ^ nw b := Int.mul_le_mul_of_nonneg_left (Int.le_of_lt h2) (by omega)
  have h4 : (a.natAbs : Int) * 4294967296 ^ nw b < 4294967296 ^ nw a * 4294967296 ^ nw b := Int.mul_lt_mul_of_pos_right h1 (Bpos _)
  omega
theorem nw_add (a b : Int) : nw (a + b) ≤ max (nw a) (nw b) + 1 := by
  apply nw_le
  have h1 := nw_lt (a := a)
  have h2 := nw_lt (a := b)
  have h3 := powle (Nat.le_max_left (nw a) (nw b))
  have h4 := powle (Nat.le_max_right (nw a) (nw b))
  rw [Bsucc]
  generalize (4294967296 : Int) ^ max (nw a) (nw b) = M at *
  omega
theorem nw_zero {a : Int} : nw a = 0 ↔ a = 0 := by
  unfold nw
  rw [List.length_eq_zero_iff, digs_nil]; omega
theorem nw_neg (a : Int) : nw (-a) = nw a := by unfold nw; rw [Int.natAbs_neg]
theorem nw_sub (a b : Int) : nw (a - b) ≤ max (nw a) (nw b) + 1 := by
  have := nw_add a (-b)
  rwa [nw_neg] at this
theorem val_digs_sg {m : Bool} {x : Int} (h : 0 ≤ x) : val (digs (sg m x).natAbs) = x := by rw [val_digs]; cases m <;> simp [sg] <;> omega
theorem digs_len_zero {n : Nat} : (digs n).length = 0 ↔ n = 0 := by rw [List.length_eq_zero_iff, digs_nil]
theorem sg_ne {m : Bool} {x : Int} (h : x ≠ 0) : sg m x ≠ 0 := by cases m <;> simp [sg] <;> omega
theorem sg_abs {m : Bool} {x : Int} (h : 0 ≤ x) : ((sg m x).natAbs : Int) = x := by cases m <;> simp [sg] <;> omega
theorem val_pos {ws : List Int} (h : Wd ws) (ht : Tr ws) (hl : ws.length ≠ 0) : 0 < val ws := by
  have h1 := val_nonneg h
  by_cases e : val ws = 0
  · have := val_eq_zero h ht e
    rw [this] at hl; simp at hl
  · omega
/-- What Div returns. -/
def dQ (m n : Bool) (ws vs : List Int) : Int := if canon m ws = true ∧ canon n vs = true then sg m (val ws) / sg n (val vs) else 0
def dR (m n : Bool) (ws vs : List Int) : Int := if canon m ws = true ∧ canon n vs = true ∧ vs.length ≠ 0 then sg m (val ws) % sg n (val vs) else 0
def dE (m n : Bool) (ws vs : List Int) : Int := if canon m ws = true ∧ canon n vs = true then (if vs.length = 0 then 5 else 0) else 3
end Go.Proofs.YtebkelnibecmjaaDoor.NumA
namespace Go.Proofs.YtebkelnibecmjaaDoor.NumA
theorem BezAt.start {a b : Int} (hb : b ≠ 0) : BezAt a b (b.natAbs, a.natAbs, 0, a.sign) := by
  have hcx : ∃ v : Int, (b.natAbs : Int) = 0 * a + v * b := by
    rcases Int.natAbs_eq b with e | e
    · exact ⟨1, by omega⟩
    · exact ⟨-1, by omega⟩
  have h3 : (a = 0 ∧ a.sign = 0) ∨ (0 < a ∧ a.sign = 1) ∨ (a < 0 ∧ a.sign = -1) := by
    rcases Int.lt_trichotomy a 0 with e | e | e
    · exact .inr (.inr ⟨e, Int.sign_eq_neg_one_of_neg e⟩)
    · exact .inl ⟨e, by rw [e]; rfl⟩
    · exact .inr (.inl ⟨e, Int.sign_eq_one_of_pos e⟩)
  refine ⟨?_, hcx, ⟨0, ?_⟩, by simp only; omega, by simp only; omega, by simp only; omega, by simp only; omega, by simp only; rcases h3 with e | e | e <;> omega, ?_⟩
  · simp only; rw [Nat.gcd_comm]; rfl
  · simp only
    rcases h3 with ⟨e, s⟩ | ⟨e, s⟩ | ⟨e, s⟩ <;> rw [s] <;> omega
  · simp only
    rcases h3 with ⟨e, s⟩ | ⟨e, s⟩ | ⟨e, s⟩ <;> rw [s]
    · exact ⟨0, 0, by decide, by decide, .inl ⟨rfl, rfl⟩, by omega⟩
    · exact ⟨0, 1, by decide, by decide, .inr ⟨rfl, rfl⟩, by omega⟩
    · exact ⟨0, 1, by decide, by decide, .inl ⟨rfl, rfl⟩, by omega⟩
theorem BezAt.end_ {a b : Int} {x : Nat} {u w : Int} (hb : b ≠ 0) (ha : BezAt a b (x, 0, u, w)) : x = Int.gcd a b ∧ IsBez a b (u % ((b.natAbs : Int) / (Int.gcd a b : Int))) ∧ (b.natAbs : Int) / (Int.gcd a b : Int) ≠ 0 := by
  have hg := ha.g
  obtain ⟨v, hv⟩ := ha.cx
  simp only [Nat.gcd_zero_right] at hg hv
  have h1 := bez_fin hb (show (Int.gcd a b : Int) = u * a + v * b by rw [← hg]; exact hv)
  exact ⟨hg, h1, by have := h1.1; have := h1.2.1; omega⟩
noncomputable def bU (a b : Int) : Int := if b = 0 then a.sign else bezU a b
noncomputable def bV (a b : Int) : Int := if b = 0 then 0 else ((Int.gcd a b : Int) - bezU a b * a) / b
theorem bez_bd {a b u : Int} (h : IsBez a b u) : nw u ≤ nw b := by
  apply nw_mono
  have h1 := h.1
  have h2 := h.2.1
  have h3 : (b.natAbs : Int) / (Int.gcd a b : Int) ≤ b.natAbs := Int.ediv_le_self _ (by omega)
  omega
theorem nw_le_of {a b : Int} (h : -(b.natAbs : Int) ≤ a ∧ a ≤ b.natAbs) : nw a ≤ nw b := nw_mono (by omega)
theorem nw_max {a b : Int} {x : Nat} (h : x ≤ max a.natAbs b.natAbs) : nw (x : Int) ≤ max (nw a) (nw b) := by
  rcases (show x ≤ a.natAbs ∨ x ≤ b.natAbs by omega) with c | c
  · have := nw_mono (a := (x : Int)) (b := a) (by simpa using c); omega
  · have := nw_mono (a := (x : Int)) (b := b) (by simpa using c); omega
theorem gcd_nw {a b : Int} (hb : b ≠ 0) : nw (Int.gcd a b : Int) ≤ nw b := by
  have : Int.gcd a b ≤ b.natAbs := Nat.le_of_dvd (by omega) (Nat.gcd_dvd_right _ _)
  exact nw_mono (by simpa using this)
theorem nw_ediv {a b : Int} : nw (a / b) ≤ nw a + 1 := by
  have h : (a / b).natAbs ≤ a.natAbs + 1 := by
    have h1 := Int.mul_ediv_add_emod a b
    by_cases hb : b = 0
    · subst hb; simp
    · have h2 := Int.emod_nonneg a hb
      have h3 := Int.emod_lt a hb
      have := Int.natAbs_ediv_le_natAbs a b
      omega
  exact Nat.le_trans (nw_le (by rw [Bsucc]; have := nw_lt (a := a); omega)) (Nat.le_refl _)
theorem nw_emod {a b : Int} (hb : b ≠ 0) : nw (a % b) ≤ nw b := by
  have h2 := Int.emod_nonneg a hb
  have h3 := Int.emod_lt a hb
  exact nw_mono (by omega)
end Go.Proofs.YtebkelnibecmjaaDoor.NumA
namespace Go.Proofs.YtebkelnibecmjaaDoor.NumA
theorem bl_lt (n : Nat) : n < 2 ^ bl n := (bl_spec (n := n) (k := bl n)).1 (Nat.le_refl _)
theorem small_abs {A : Int} (h : bl A.natAbs ≤ 1) : A = 0 ∨ A = 1 ∨ A = -1 := by
  have := (bl_spec (n := A.natAbs) (k := 1)).1 h
  omega
theorem neg_one_even (t : Nat) : (-1 : Int) ^ (2 * t) = 1 := by
  rw [Int.pow_mul, show ((-1 : Int) ^ 2) = 1 from rfl, Int.one_pow]
theorem pow_red {A : Int} {N : Nat} (hb : bl A.natAbs ≤ 1) : A ^ (N % 2 + 2 * min (N / 2) 1) = A ^ N := by
  rcases small_abs hb with e | e | e
  · subst e
    by_cases h : N = 0
    · subst h; rfl
    · rw [Int.zero_pow (by omega), Int.zero_pow h]
  · subst e; rw [Int.one_pow, Int.one_pow]
  · subst e
    have h2 : (-1 : Int) ^ N = (-1) ^ (N % 2) := by
      conv => lhs; rw [show N = N % 2 + 2 * (N / 2) by omega]
      rw [Int.pow_add, neg_one_even, Int.mul_one]
    rw [h2, Int.pow_add, neg_one_even, Int.mul_one]
theorem nw_one : nw 1 = 1 := by simp [nw, digs_pos, digs_zero]
theorem pow_nw {A : Int} {e : Nat} (h : e ≤ 1 ∨ bl A.natAbs * e ≤ 1048576) : nw (A ^ e) ≤ nw A + 32769 := by
  rcases h with h | h
  · rcases (show e = 0 ∨ e = 1 by omega) with rfl | rfl
    · rw [Int.pow_zero, nw_one]; omega
    · rw [show A ^ 1 = A from by rw [Int.pow_succ, Int.pow_zero, Int.one_mul]]; omega
  · obtain ⟨n, hn⟩ : ∃ n, n = 32768 := ⟨_, rfl⟩
    have h1 : nw (A ^ e) ≤ n := by
      apply nw_le
      rw [Int.natAbs_pow, ← two32]
      have h2 : A.natAbs ^ e ≤ (2 ^ bl A.natAbs) ^ e := Nat.pow_le_pow_left (Nat.le_of_lt (bl_lt _)) e
      rw [← Nat.pow_mul] at h2
      have h3 : 2 ^ (bl A.natAbs * e) ≤ 2 ^ (32 * n) := Nat.pow_le_pow_right (by decide) (by omega)
      by_cases he : e = 0
      · subst he
        rw [Nat.pow_zero]
        have h5 : (0 : Int) < 2 ^ (31 + 32 * (n - 1)) := Int.pow_pos (by decide)
        rw [show 32 * n = (31 + 32 * (n - 1)) + 1 by omega, Int.pow_succ]; omega
      · have h4 : A.natAbs ^ e < (2 ^ bl A.natAbs) ^ e := Nat.pow_lt_pow_left (bl_lt _) he
        rw [← Nat.pow_mul] at h4
        have h6 : ((A.natAbs ^ e : Nat) : Int) < ((2 ^ (32 * n) : Nat) : Int) := Int.ofNat_lt.2 (by omega)
        rwa [show ((2 ^ (32 * n) : Nat) : Int) = 2 ^ (32 * n) from Int.natCast_pow 2 _] at h6
    omega
theorem pow_step {k f e N : Nat} (hk : 0 < k) (h : f + e * k = N) : (if k % 2 = 1 then f + e else f) + (if 1 < k then e + e else e) * (k / 2) = N := by
  have h1 : k = 2 * (k / 2) + k % 2 := by omega
  generalize hh : k / 2 = q at *
  generalize hr : k % 2 = r at *
  subst h
  by_cases c : 1 < k
  · rw [if_pos c]
    have h2 : e * k = e * (2 * q) + e * r := by rw [← Nat.mul_add, ← h1]
    have h3 : (e + e) * q = e * (2 * q) := by grind
    rw [h2, h3]
    rcases (show r = 0 ∨ r = 1 by omega) with rfl | rfl
    · simp
    · rw [if_pos rfl]; omega
  · have hk1 : k = 1 := by omega
    subst hk1
    have hq : q = 0 := by omega
    have hr1 : r = 1 := by omega
    rw [hq, hr1]; simp
theorem pow_bd {k f e N : Nat} (hk : 0 < k) (h : f + e * k = N) : f + e ≤ N ∧ (1 < k → e + e ≤ N) := by
  have h1 : e * 1 ≤ e * k := Nat.mul_le_mul_left e hk
  refine ⟨by omega, fun hc => ?_⟩
  have h2 : e * 2 ≤ e * k := Nat.mul_le_mul_left e hc
  omega
/-- What Pow returns. -/
def powE (c : Bool) (A n : Int) : Int := if c = true then (if n < 0 then 1 else if 1 < bl A.natAbs ∧ 1048576 / bl A.natAbs < n.toNat then 2 else 0) else 3
def powV (c : Bool) (A n : Int) : Int := if powE c A n = 0 then A ^ n.toNat else 0
end Go.Proofs.YtebkelnibecmjaaDoor.NumA
namespace Go.Proofs.YtebkelnibecmjaaDoor.NumA
/-- A text of these bytes. -/
def str (bs : List UInt8) : ByteArray := ⟨bs.toArray⟩
theorem str_size (bs : List UInt8) : (str bs).size = bs.length := rfl
theorem str_get {bs : List UInt8} {i : Nat} (h : i < bs.length) : (str bs)[i]? = some (bs.getD i 0) := by
  have h2 : i < (str bs).size := h
  rw [getElem?_pos (str bs) i h2, List.getD_eq_getElem?_getD, List.getElem?_eq_getElem h]
  rfl
theorem str_extract (bs : List UInt8) (l h : Nat) : (str bs).extract l h = str ((bs.drop l).take (h - l)) := by
  unfold str
  apply ByteArray.ext
  simp
theorem str_inj {a b : List UInt8} (h : str a = str b) : a = b := by
  have := congrArg (fun s : ByteArray => s.data.toList) h
  simpa [str] using this
theorem str_of (s : ByteArray) : str s.data.toList = s := rfl
def dg (c : UInt8) : Int := (c.toNat : Int) - 48
def numI (bs : List UInt8) : Int := bs.foldl (fun a c => 10 * a + dg c) 0
def Digits (bs : List UInt8) : Prop := ∀ c ∈ bs, 48 ≤ c.toNat ∧ c.toNat ≤ 57
theorem Digits.take {bs : List UInt8} (h : Digits bs) (n : Nat) : Digits (bs.take n) := fun c hc => h c (List.mem_of_mem_take hc)
theorem Digits.drop {bs : List UInt8} (h : Digits bs) (n : Nat) : Digits (bs.drop n) := fun c hc => h c (List.mem_of_mem_drop hc)
theorem Digits.get {bs : List UInt8} (h : Digits bs) {i : Nat} (hi : i < bs.length) : 48 ≤ (bs.getD i 0).toNat ∧ (bs.getD i 0).toNat ≤ 57 := by
  rw [List.getD_eq_getElem?_getD, List.getElem?_eq_getElem hi]
  exact h _ (List.getElem_mem hi)
theorem numI_snoc (bs : List UInt8) (c : UInt8) : numI (bs ++ [c]) = 10 * numI bs + dg c := by simp [numI]
theorem numI_take_succ {bs : List UInt8} {i : Nat} (h : i < bs.length) : numI (bs.take (i + 1)) = 10 * numI (bs.take i) + dg (bs.getD i 0) := by
  rw [List.take_succ_eq_append_getElem h, numI_snoc, List.getD_eq_getElem?_getD, List.getElem?_eq_getElem h]; rfl
theorem numI_bd : ∀ {bs : List UInt8}, Digits bs → 0 ≤ numI bs ∧ numI bs < 10 ^ bs.length := by
  intro bs h
  have key : ∀ i, i ≤ bs.length → 0 ≤ numI (bs.take i) ∧ numI (bs.take i) < 10 ^ i := by
    intro i
    induction i with
    | zero => intro _; simp [numI]
    | succ i ih =>
      intro hi
      obtain ⟨h1, h2⟩ := ih (by omega)
      have hd := h.get (i := i) (by omega)
      rw [numI_take_succ (by omega), Int.pow_succ]
      simp only [dg]
      omega
  have := key bs.length (Nat.le_refl _)
  rwa [List.take_length] at this
theorem foldl_lin (a : Int) : ∀ bs : List UInt8, bs.foldl (fun a c => 10 * a + dg c) a = a * 10 ^ bs.length + numI bs
  | [] => by simp [numI]
  | c :: bs => by
    have h1 := foldl_lin (10 * a + dg c) bs
    have h2 := foldl_lin (10 * 0 + dg c) bs
    simp only [numI, List.foldl_cons, List.length_cons] at h1 h2 ⊢
    rw [h1, h2, Int.pow_succ]
    grind
theorem numI_app (as bs : List UInt8) : numI (as ++ bs) = numI as * 10 ^ bs.length + numI bs := by
  rw [numI, List.foldl_append, foldl_lin]; rfl
/-- The blocks of nine digits, the first one shorter, with their lengths. -/
def chunks (ds : List UInt8) : List (Int × Int) :=
  if h : ds = [] then [] else (numI (ds.take ((ds.length - 1) % 9 + 1)), (((ds.length - 1) % 9 + 1 : Nat) : Int)) :: chunks (ds.drop ((ds.length - 1) % 9 + 1))
termination_by ds.length
decreasing_by
  have : 0 < ds.length := List.length_pos_iff.2 h
  simp only [List.length_drop]; omega
theorem chunks_nil : chunks [] = [] := by rw [chunks]; simp
theorem chunks_cons {ds : List UInt8} (h : ds ≠ []) : chunks ds = (numI (ds.take ((ds.length - 1) % 9 + 1)), (((ds.length - 1) % 9 + 1 : Nat) : Int)) :: chunks (ds.drop ((ds.length - 1) % 9 + 1)) := by rw [chunks, dif_neg h]
def stepV (v : Int) (x : Int × Int) : Int := v * 10 ^ x.2.toNat + x.1
theorem chunks_val (v : Int) : ∀ (n : Nat) (ds : List UInt8), ds.length ≤ n → (chunks ds).foldl stepV v = v * 10 ^ ds.length + numI ds := by
  intro n
  induction n generalizing v with
  | zero => intro ds h; have : ds = [] := List.eq_nil_of_length_eq_zero (by omega); subst this; simp [chunks_nil, numI]
  | succ n ih =>
    intro ds h
    by_cases e : ds = []
    · subst e; simp [chunks_nil, numI]
    · have hp : 0 < ds.length := List.length_pos_iff.2 e
      rw [chunks_cons e, List.foldl_cons, ih _ _ (by simp; omega)]
      obtain ⟨k, hk⟩ : ∃ k, k = (ds.length - 1) % 9 + 1 := ⟨_, rfl⟩
      rw [← hk]
      have hkl : k ≤ ds.length := by omega
      have h1 : numI ds = numI (ds.take k) * 10 ^ (ds.length - k) + numI (ds.drop k) := by
        conv => lhs; rw [← List.take_append_drop k ds]
        rw [numI_app, List.length_drop]
      have h2 : (10 : Int) ^ ds.length = 10 ^ k * 10 ^ (ds.length - k) := by rw [← Int.pow_add, Nat.add_sub_cancel' hkl]
      rw [h1, h2, List.length_drop]
      simp only [stepV, Int.toNat_natCast]
      grind
theorem chunks_get {ds : List UInt8} (h : Digits ds) : ∀ x ∈ chunks ds, 0 ≤ x.1 ∧ x.1 < 1000000000 ∧ 1 ≤ x.2 ∧ x.2 ≤ 9 := by
  have key : ∀ n (ds : List UInt8), ds.length ≤ n → Digits ds → ∀ x ∈ chunks ds, 0 ≤ x.1 ∧ x.1 < 1000000000 ∧ 1 ≤ x.2 ∧ x.2 ≤ 9 := by
    intro n
    induction n with
    | zero => intro ds hl _ x hx; have : ds = [] := List.eq_nil_of_length_eq_zero (by omega); subst this; simp [chunks_nil] at hx
    | succ n ih =>
      intro ds hl hd x hx
      by_cases e : ds = []
      · subst e; simp [chunks_nil] at hx
      · have hp : 0 < ds.length := List.length_pos_iff.2 e
        rw [chunks_cons e] at hx
        rcases List.mem_cons.1 hx with rfl | hx
        · have hb := numI_bd (hd.take ((ds.length - 1) % 9 + 1))
          rw [List.length_take, Nat.min_eq_left (by omega)] at hb
          have hp10 : (10 : Int) ^ ((ds.length - 1) % 9 + 1) ≤ 10 ^ 9 := by
            have h2 : ((10 ^ ((ds.length - 1) % 9 + 1) : Nat) : Int) ≤ ((10 ^ 9 : Nat) : Int) := Int.ofNat_le.2 (Nat.pow_le_pow_right (by decide) (by omega))
            rw [Int.natCast_pow] at h2
            exact h2
          simp only
          refine ⟨hb.1, by omega, by omega, by omega⟩
        · exact ih _ (by simp; omega) (hd.drop _) x hx
  exact key ds.length ds (Nat.le_refl _) h
theorem chunks_len (ds : List UInt8) : (chunks ds).length ≤ ds.length := by
  have key : ∀ n (ds : List UInt8), ds.length ≤ n → (chunks ds).length ≤ ds.length := by
    intro n
    induction n with
    | zero => intro ds hl; have : ds = [] := List.eq_nil_of_length_eq_zero (by omega); subst this; simp [chunks_nil]
    | succ n ih =>
      intro ds hl
      by_cases e : ds = []
      · subst e; simp [chunks_nil]
      · have hp : 0 < ds.length := List.length_pos_iff.2 e
        rw [chunks_cons e, List.length_cons]
        have := ih (ds.drop ((ds.length - 1) % 9 + 1)) (by simp; omega)
        simp only [List.length_drop] at this
        omega
  exact key ds.length ds (Nat.le_refl _)
/-- The words times a power of ten and a block more. -/
def stepW (ws : List Int) (x : Int × Int) : List Int := if stepV (val ws) x < 4294967296 ^ ws.length then digN ws.length (stepV (val ws) x) else digN (ws.length + 1) (stepV (val ws) x)
structure TenAt (ws : List Int) (p b : Int) (x : Nat × List Int × Int) : Prop where
  le : x.1 ≤ ws.length
  len : x.2.1.length = x.1
  wd : Wd x.2.1
  c0 : 0 ≤ x.2.2
  c1 : x.2.2 < 4294967296
  eq : val x.2.1 + 4294967296 ^ x.1 * x.2.2 = val (ws.take x.1) * p + b
theorem TenAt.zero (ws : List Int) {p b : Int} (h0 : 0 ≤ b) (h1 : b < 4294967296) : TenAt ws p b (0, [], b) := ⟨Nat.zero_le _, rfl, Wd.nil, h0, h1, by simp [val]⟩
theorem TenAt.next {ws ys : List Int} {p b c : Int} {i : Nat} (h : Wd ws) (hp : 0 ≤ p ∧ p < 4294967296) (ha : TenAt ws p b (i, ys, c)) (hi : i < ws.length) :
    TenAt ws p b (i + 1, ys ++ [(ws.getD i 0 * p + c) % 4294967296], (ws.getD i 0 * p + c) / 4294967296) := by
  obtain ⟨h1, hl, hw, c0, c1, heq⟩ := ha
  simp only at h1 hl hw c0 c1 heq
  have hwi := h.getD i
  have hb := take_bd hwi hp ⟨c0, c1⟩
  refine ⟨hi, by simp [hl], hw.snoc (by omega) (by omega), by simp only; omega, by simp only; omega, ?_⟩
  simp only
  have hpp : ws.getD i 0 * p + c = (ws.getD i 0 * p + c) % 4294967296 + 4294967296 * ((ws.getD i 0 * p + c) / 4294967296) := by omega
  rw [val_snoc, hl, val_take_succ' i, Int.pow_succ]
  generalize (ws.getD i 0 * p + c) % 4294967296 = lo at *
  generalize (ws.getD i 0 * p + c) / 4294967296 = hi' at *
  generalize ws.getD i 0 = u at *
  have hc : c = lo + 4294967296 * hi' - u * p := by omega
  subst hc
  grind
theorem TenAt.end_ {ws ys : List Int} {n b c : Int} (ha : TenAt ws (10 ^ n.toNat) b (ws.length, ys, c)) : (c = 0 → ys = stepW ws (b, n)) ∧ (0 < c → ys ++ [c] = stepW ws (b, n)) := by
  obtain ⟨_, hl, hw, c0, c1, heq⟩ := ha
  simp only at hl hw c0 c1 heq
  rw [List.take_length] at heq
  have hlt := val_lt hw
  have h0 := val_nonneg hw
  rw [hl] at hlt
  have hP := Bpos ws.length
  refine ⟨fun hc => ?_, fun hc => ?_⟩
  · subst hc
    rw [Int.mul_zero, Int.add_zero] at heq
    rw [stepW, if_pos (by simp only [stepV]; omega)]
    simp only [stepV]
    rw [← heq, ← hl]; exact (digN_val hw).symm
  · have h1 : 4294967296 ^ ws.length * 1 ≤ 4294967296 ^ ws.length * c := Int.mul_le_mul_of_nonneg_left (by omega) (Int.le_of_lt hP)
    rw [stepW, if_neg (by simp only [stepV]; omega)]
    have hw2 : Wd (ys ++ [c]) := hw.snoc (by omega) c1
    have hv : val (ys ++ [c]) = stepV (val ws) (b, n) := by rw [val_snoc, hl, heq]; rfl
    have := digN_val hw2
    rw [hv, List.length_append, hl, List.length_singleton] at this
    exact this.symm
theorem stepW_wd (ws : List Int) (x : Int × Int) : Wd (stepW ws x) := by unfold stepW; split <;> exact digN_wd _ _
theorem stepW_len (ws : List Int) (x : Int × Int) : (stepW ws x).length ≤ ws.length + 1 ∧ ws.length ≤ (stepW ws x).length := by unfold stepW; split <;> rw [digN_length] <;> omega
theorem stepW_val {ws : List Int} (h : Wd ws) {x : Int × Int} (hx : 0 ≤ x.1 ∧ x.1 < 1000000000 ∧ 1 ≤ x.2 ∧ x.2 ≤ 9) : val (stepW ws x) = stepV (val ws) x := by
  have h0 := val_nonneg h
  have h1 := val_lt h
  have hp10 : (10 : Int) ^ x.2.toNat ≤ 1000000000 ∧ 0 < (10 : Int) ^ x.2.toNat := by
    have h2 : ((10 ^ x.2.toNat : Nat) : Int) ≤ ((10 ^ 9 : Nat) : Int) := Int.ofNat_le.2 (Nat.pow_le_pow_right (by decide) (by omega))
    rw [Int.natCast_pow] at h2
    exact ⟨h2, Int.pow_pos (by decide)⟩
  have hnn : 0 ≤ stepV (val ws) x := by
    have := Int.mul_nonneg h0 (Int.le_of_lt hp10.2)
    simp only [stepV]; omega
  have hub : stepV (val ws) x < 4294967296 ^ (ws.length + 1) := by
    rw [Bsucc]
    have h3 : val ws * 10 ^ x.2.toNat ≤ val ws * 1000000000 := Int.mul_le_mul_of_nonneg_left hp10.1 h0
    have hP := Bpos ws.length
    simp only [stepV]; omega
  unfold stepW
  split
  · rename_i e; exact val_digN hnn e
  · exact val_digN hnn hub
/-- The words behind k blocks. -/
def wsK (all : List (Int × Int)) (k : Nat) : List Int := (all.take k).foldl stepW []
theorem wsK_succ {all : List (Int × Int)} {k : Nat} {x : Int × Int} (h : all[k]? = some x) : wsK all (k + 1) = stepW (wsK all k) x := by
  obtain ⟨hlt, he⟩ := List.getElem?_eq_some_iff.1 h
  unfold wsK
  rw [List.take_succ_eq_append_getElem hlt, List.foldl_append, he]; rfl
theorem wsK_wd (all : List (Int × Int)) : ∀ k, Wd (wsK all k)
  | 0 => Wd.nil
  | k + 1 => by
    cases h : all[k]? with
    | some x => rw [wsK_succ h]; exact stepW_wd _ _
    | none =>
      have : all.length ≤ k := by simpa using h
      unfold wsK
      rw [List.take_of_length_le (by omega)]
      have := wsK_wd all k
      unfold wsK at this
      rwa [List.take_of_length_le (by omega)] at this
theorem wsK_len (all : List (Int × Int)) : ∀ k, (wsK all k).length ≤ k
  | 0 => by simp [wsK]
  | k + 1 => by
    have ih := wsK_len all k
    cases h : all[k]? with
    | some x => rw [wsK_succ h]; have := stepW_len (wsK all k) x; omega
    | none =>
      have : all.length ≤ k := by simpa using h
      unfold wsK at ih ⊢
      rw [List.take_of_length_le (by omega)] at ih ⊢
      omega
theorem wsK_val (all : List (Int × Int)) (h : ∀ x ∈ all, 0 ≤ x.1 ∧ x.1 < 1000000000 ∧ 1 ≤ x.2 ∧ x.2 ≤ 9) : ∀ k, val (wsK all k) = (all.take k).foldl stepV 0
  | 0 => by simp [wsK, val]
  | k + 1 => by
    have ih := wsK_val all h k
    cases hk : all[k]? with
    | some x =>
      obtain ⟨hlt, he⟩ := List.getElem?_eq_some_iff.1 hk
      rw [wsK_succ hk, stepW_val (wsK_wd all k) (h x (List.mem_of_getElem? hk)), ih, List.take_succ_eq_append_getElem hlt, List.foldl_append, he]; rfl
    | none =>
      have : all.length ≤ k := by simpa using hk
      unfold wsK at ih ⊢
      rw [List.take_of_length_le (by omega)] at ih ⊢
      exact ih
theorem wsK_end {ds : List UInt8} (h : Digits ds) : val (wsK (chunks ds) (chunks ds).length) = numI ds := by
  rw [wsK_val _ (chunks_get h), List.take_length, chunks_val 0 _ _ (Nat.le_refl _)]; simp
end Go.Proofs.YtebkelnibecmjaaDoor.NumA
namespace Go.Proofs.YtebkelnibecmjaaDoor.NumA
open Go.Lib
/-- The last k decimal digits of r. -/
def padN : Nat → Nat → List UInt8
  | 0, _ => []
  | k + 1, r => padN k (r / 10) ++ [UInt8.ofNat (48 + r % 10)]
theorem dec_small {u : Nat} (h : u < 10) : decDigits u = [UInt8.ofNat (48 + u)] := by rw [decDigits, dif_pos h]
theorem dec_big {u : Nat} (h : ¬ u < 10) : decDigits u = decDigits (u / 10) ++ [UInt8.ofNat (48 + u % 10)] := by rw [decDigits, dif_neg h]
theorem dec_mul : ∀ (k : Nat) {q r : Nat}, 0 < q → r < 10 ^ k → decDigits (q * 10 ^ k + r) = decDigits q ++ padN k r
  | 0, q, r, hq, hr => by simp at hr; subst hr; simp [padN]
  | k + 1, q, r, hq, hr => by
    rw [Nat.pow_succ] at hr ⊢
    have hp : 0 < 10 ^ k := Nat.pow_pos (by decide)
    have hqp : 1 * 1 ≤ q * 10 ^ k := Nat.mul_le_mul hq hp
    rw [← Nat.mul_assoc]
    rw [dec_big (by omega), show (q * 10 ^ k * 10 + r) / 10 = q * 10 ^ k + r / 10 by omega, show (q * 10 ^ k * 10 + r) % 10 = r % 10 by omega, dec_mul k hq (by omega), padN, List.append_assoc]
theorem pad_zero : ∀ k, padN k 0 = List.replicate k 48
  | 0 => rfl
  | k + 1 => by rw [padN, Nat.zero_div, pad_zero k, List.replicate_succ']; rfl
theorem pad_dec : ∀ (k : Nat) {r : Nat}, r < 10 ^ (k + 1) → (decDigits r).length ≤ k + 1 ∧ padN (k + 1) r = List.replicate (k + 1 - (decDigits r).length) 48 ++ decDigits r
  | 0, r, hr => by
    have hr' : r < 10 := by simpa using hr
    rw [dec_small hr']; simp [padN, Nat.mod_eq_of_lt hr']
  | k + 1, r, hr => by
    by_cases h : r < 10
    · rw [dec_small h, padN, Nat.div_eq_of_lt h, pad_zero, Nat.mod_eq_of_lt h]; simp
    · rw [Nat.pow_succ] at hr
      obtain ⟨h1, h2⟩ := pad_dec k (r := r / 10) (by omega)
      rw [dec_big h, padN, h2]
      simp only [List.length_append, List.length_cons, List.length_nil]
      exact ⟨by omega, by rw [List.append_assoc]; congr 2; omega⟩
theorem dec_pos (r : Nat) : 1 ≤ (decDigits r).length := by rw [decDigits_length]; exact nDigits_pos r
theorem dec_digits : ∀ (n u : Nat), u ≤ n → Digits (decDigits u) ∧ numI (decDigits u) = u := by
  intro n
  induction n with
  | zero =>
    intro u hu
    obtain rfl : u = 0 := by omega
    rw [dec_small (by decide)]
    refine ⟨fun c hc => ?_, by decide⟩
    rw [List.mem_singleton] at hc; subst hc; decide
  | succ n ih =>
    intro u hu
    have one : ∀ d, d < 10 → (48 ≤ (UInt8.ofNat (48 + d)).toNat ∧ (UInt8.ofNat (48 + d)).toNat ≤ 57) ∧ dg (UInt8.ofNat (48 + d)) = (d : Int) := fun d hd => by
      have : (UInt8.ofNat (48 + d)).toNat = 48 + d := by simp; omega
      unfold dg; rw [this]; omega
    by_cases h : u < 10
    · rw [dec_small h]
      refine ⟨fun c hc => ?_, ?_⟩
      · rw [List.mem_singleton] at hc; subst hc; exact (one u h).1
      · have := numI_snoc [] (UInt8.ofNat (48 + u))
        rw [List.nil_append] at this
        rw [this, (one u h).2]; simp [numI]
    · obtain ⟨h1, h2⟩ := ih (u / 10) (by omega)
      rw [dec_big h]
      refine ⟨fun c hc => ?_, ?_⟩
      · rcases List.mem_append.1 hc with hc | hc
        · exact h1 c hc
        · rw [List.mem_singleton] at hc; subst hc; exact (one _ (by omega)).1
      · rw [numI_snoc, h2, (one _ (by omega)).2]; omega
/-- The text of the blocks from number m on. -/
def txt (V J m : Nat) : List UInt8 := if m = J then [] else decDigits (V / 1000000000 ^ m)
theorem txt_end {V J : Nat} (h : 0 < J) : txt V J 0 = decDigits V := by rw [txt, if_neg (by omega)]; simp
theorem div_block (V m : Nat) : V / 1000000000 ^ m = V / 1000000000 ^ (m + 1) * 1000000000 + V / 1000000000 ^ m % 1000000000 := by
  rw [Nat.pow_succ, ← Nat.div_div_eq_div_mul, Nat.mul_comm, Nat.div_add_mod]
theorem blk_pos {V m J : Nat} (h : 0 < V / 1000000000 ^ (J - 1)) (hm : m < J) : 0 < V / 1000000000 ^ m := by
  have h1 : 1000000000 ^ m ≤ 1000000000 ^ (J - 1) := Nat.pow_le_pow_right (by decide) (by omega)
  have hp : 0 < 1000000000 ^ m := Nat.pow_pos (by decide)
  have := Nat.div_le_div_left (a := V) h1 hp
  omega
theorem txt_succ {V J m : Nat} (h0 : V / 1000000000 ^ J = 0) (h1 : 0 < V / 1000000000 ^ (J - 1)) (hm : m < J) :
    txt V J (m + 1) ++ (List.replicate (if m + 1 < J then 9 - (decDigits (V / 1000000000 ^ m % 1000000000)).length else 0) 48 ++ decDigits (V / 1000000000 ^ m % 1000000000)) = txt V J m := by
  have hd := div_block V m
  rw [txt, txt, if_neg (by omega : m ≠ J)]
  by_cases hj : m + 1 < J
  · rw [if_pos hj, if_neg (by omega : m + 1 ≠ J)]
    have hr : V / 1000000000 ^ m % 1000000000 < 10 ^ (8 + 1) := Nat.mod_lt _ (by decide)
    have := (pad_dec 8 hr).2
    rw [← this, ← dec_mul 9 (blk_pos h1 hj) hr]
    congr 1; exact hd.symm
  · have hj' : m + 1 = J := by omega
    rw [if_neg hj, if_pos hj']
    rw [hj', h0] at hd
    simp only [List.replicate_zero, List.nil_append]
    congr 1; omega
theorem txt_len {V J : Nat} (h0 : V / 1000000000 ^ J = 0) (h1 : 0 < V / 1000000000 ^ (J - 1)) : ∀ d, d ≤ J → (txt V J (J - d)).length ≤ 9 * d
  | 0, _ => by simp [txt]
  | d + 1, hd => by
    have ih := txt_len h0 h1 d (by omega)
    have hs := txt_succ h0 h1 (m := J - (d + 1)) (by omega)
    rw [show J - (d + 1) + 1 = J - d by omega] at hs
    have hr : V / 1000000000 ^ (J - (d + 1)) % 1000000000 < 10 ^ (8 + 1) := Nat.mod_lt _ (by decide)
    have hl := (pad_dec 8 hr).1
    rw [← hs]
    simp only [List.length_append, List.length_replicate]
    split <;> omega
/-- The lowest j blocks of nine digits. -/
def lowK (V j : Nat) : List Int := (List.range j).map fun i => ((V / 1000000000 ^ i % 1000000000 : Nat) : Int)
@[simp] theorem lowK_length (V j : Nat) : (lowK V j).length = j := by simp [lowK]
theorem lowK_get {V j i : Nat} (h : i < j) : (lowK V j).getD i 0 = ((V / 1000000000 ^ i % 1000000000 : Nat) : Int) := by
  simp [lowK, h, List.getD_eq_getElem?_getD]
theorem lowK_succ (V j : Nat) : lowK V j ++ [((V / 1000000000 ^ j % 1000000000 : Nat) : Int)] = lowK V (j + 1) := by simp [lowK, List.range_succ]
theorem low_len {V j L : Nat} (h : 0 < V / 1000000000 ^ (j - 1)) (hV : V < 4294967296 ^ L) : j ≤ 2 * L + 1 := by
  by_cases hj : j - 1 ≤ 2 * L
  · omega
  · exfalso
    have h1 : 1000000000 ^ (2 * L) ≤ 1000000000 ^ (j - 1) := Nat.pow_le_pow_right (by decide) (by omega)
    have h2 : 4294967296 ^ L ≤ 1000000000 ^ (2 * L) := by
      rw [Nat.pow_mul]; exact Nat.pow_le_pow_left (by decide) _
    rw [Nat.div_eq_of_lt (by omega)] at h
    omega
/-- What is written: m words are left, j blocks are taken. -/
structure LowAt (ws : List Int) (x : Nat × List Int × Nat) : Prop where
  le : x.1 ≤ ws.length
  len : x.2.1.length = ws.length
  wd : Wd x.2.1
  eq : val (x.2.1.take x.1) = (((val ws).toNat / 1000000000 ^ x.2.2 : Nat) : Int)
  pos : 0 < x.1 → 0 < (val ws).toNat / 1000000000 ^ x.2.2
  top : 0 < (val ws).toNat / 1000000000 ^ (x.2.2 - 1)
theorem LowAt.start {ws : List Int} (h : Wd ws) (hv : 0 < val ws) : LowAt ws (ws.length, ws, 0) :=
  ⟨Nat.le_refl _, rfl, h, by simp only [List.take_length, Nat.pow_zero, Nat.div_one]; omega, fun _ => by simp; omega, by simp; omega⟩
/-- The words are divided by 10^9. -/
theorem LowAt.mid {ws rest : List Int} {n j : Nat} (ha : LowAt ws (n, rest, j)) : val (rest.take n) % 1000000000 = (((val ws).toNat / 1000000000 ^ j % 1000000000 : Nat) : Int) ∧ val (digN n (val (rest.take n) / 1000000000)) = (((val ws).toNat / 1000000000 ^ (j + 1) : Nat) : Int) := by
  have e := ha.eq
  simp only at e
  have h1 : val (rest.take n) / 1000000000 = (((val ws).toNat / 1000000000 ^ (j + 1) : Nat) : Int) := by
    rw [e, Nat.pow_succ, ← Nat.div_div_eq_div_mul]; omega
  refine ⟨by rw [e]; omega, ?_⟩
  rw [← h1]
  have hlt := val_lt (ha.wd.take n)
  have hle := ha.le
  have hlen := ha.len
  simp only at hle hlen hlt
  rw [List.length_take, Nat.min_eq_left (by omega)] at hlt
  have h0 := val_nonneg (ha.wd.take n)
  have := Int.ediv_le_self 1000000000 h0
  have h2 := Int.ediv_nonneg h0 (show (0 : Int) ≤ 1000000000 by decide)
  exact val_digN h2 (Int.lt_of_le_of_lt this hlt)
theorem LowAt.next {ws rest r2 : List Int} {n j m : Nat} (hv : Wd ws) (ha : LowAt ws (n, rest, j)) (hn : 0 < n) (hm : m ≤ n) (hl : r2.length = ws.length) (hw : Wd r2) (he : val (r2.take m) = (((val ws).toNat / 1000000000 ^ (j + 1) : Nat) : Int)) (hz : 0 < m → r2.getD (m - 1) 0 ≠ 0) : LowAt ws (m, r2, j + 1) := by
  have hle := ha.le
  simp only at hle
  refine ⟨by simp only; omega, hl, hw, he, fun h => ?_, ?_⟩
  · simp only at h ⊢
    obtain ⟨k, rfl⟩ : ∃ k, m = k + 1 := ⟨m - 1, by omega⟩
    have h1 := hz h
    rw [Nat.add_sub_cancel] at h1
    have hg := hw.getD k
    rw [val_take_succ (by omega)] at he
    have h3 := val_nonneg (hw.take k)
    have h4 : (0 : Int) < 4294967296 ^ k := Int.pow_pos (by decide)
    have h5 : 0 < 4294967296 ^ k * r2.getD k 0 := Int.mul_pos h4 (by omega)
    omega
  · simpa using ha.pos hn
theorem val_drop0 {r : List Int} {m : Nat} (h : 0 < m) (hl : m ≤ r.length) (hz : r.getD (m - 1) 0 = 0) : val (r.take (m - 1)) = val (r.take m) := by
  obtain ⟨k, rfl⟩ : ∃ k, m = k + 1 := ⟨m - 1, by omega⟩
  rw [Nat.add_sub_cancel] at hz ⊢
  rw [val_take_succ (by omega), hz]; simp
/-- What Print returns. -/
def printV (neg : Bool) (ws : List Int) : List UInt8 := if canon neg ws = true then Go.Lib.itoa (sg neg (val ws)) else []
theorem printV_eq {neg : Bool} {ws : List Int} (hc : canon neg ws = true) (hv : 0 < val ws) : (if neg = true then [45] else []) ++ Go.Lib.decDigits (val ws).toNat = printV neg ws := by
  rw [printV, if_pos hc, Go.Lib.itoa]
  cases neg with
  | false => simp [sg]; omega
  | true => simp only [sg, if_true]; rw [if_pos (by omega)]; simp only [List.cons_append, List.nil_append]; congr 2; omega
end Go.Proofs.YtebkelnibecmjaaDoor.NumA
