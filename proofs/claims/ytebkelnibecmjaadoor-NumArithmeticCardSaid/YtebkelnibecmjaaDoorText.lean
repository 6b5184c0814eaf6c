/- Part Text of the proof: lemmas for the walks of the given functions. No statement of its own. -/
import Derived.Test.YtebkelnibecmjaaDoorPlain
import Derived.Test.YtebkelnibecmjaaDoorLogicB
set_option linter.unusedVariables false
set_option linter.unusedSimpArgs false
set_option linter.deprecated false
namespace Go.Proofs.YtebkelnibecmjaaDoor.NumA
theorem rdiv_start {ws vs : List Int} {m k : Nat} (h : Wd ws) (h2 : Wd vs) (ht2 : Tr vs) (hm : vs.length = m + 2) (hk : k + bl (vs.getD (vs.length - 1) 0).toNat = 32) (hle : val vs ≤ val ws) {W Dv : List Int} (hW : W = digs (val ws * 2 ^ k).toNat ++ [0, 0]) (hD : Dv = digs (val vs * 2 ^ k).toNat) :
    k < 32 ∧ 0 < val vs ∧ 0 < val Dv ∧ val Dv < 4294967296 ^ (m + 2) ∧ val Dv = val vs * 2 ^ k ∧ Dv.length = m + 2 ∧ 2147483648 ≤ Dv.getD (m + 1) 0 ∧ val W = val ws * 2 ^ k ∧ Wd W ∧ Wd Dv ∧ m + 2 ≤ W.length ∧ W.length ≤ ws.length + 3 ∧
    PartAt W (m + 2) (val Dv) (W.length - (m + 2), val (W.drop (W.length - (m + 2))), []) := by
  have hlen := len_le h h2 ht2 hle
  obtain ⟨p1, p2, p3, p4, p5, p6, p7, p8, -⟩ := part_start h h2 ht2 hm hk hlen
  have hn : vs ≠ [] := by intro e; rw [e] at hm; simp at hm
  obtain ⟨n1, n2, n3⟩ := norm_bd h2 ht2 hn hk
  have hp : (0 : Int) < 2 ^ k := Int.pow_pos (by decide)
  have eD : Dv = digN (m + 2) (val vs * 2 ^ k) := by
    rw [hD, ← p5]
    have := digs_val (digN_wd (m + 2) (val vs * 2 ^ k)) (.inr (by rw [digN_length, show m + 2 - 1 = m + 1 by omega]; omega))
    rw [this, p5]
  have vD : val Dv = val vs * 2 ^ k := by rw [eD, p5]
  have sw := shifted_lt h (Nat.le_of_lt n3)
  have vd : val (digs (val ws * 2 ^ k).toNat) = val ws * 2 ^ k := by rw [val_digs]; omega
  have vW : val W = val ws * 2 ^ k := by rw [hW, val_append, vd]; simp [val]
  have wD := wd_digs (val ws * 2 ^ k).toNat
  have wW : Wd W := by
    rw [hW]; refine wD.append fun w hw => ?_
    simp only [List.mem_cons, List.not_mem_nil, or_false, or_self] at hw; subst hw; decide
  have hl0 : m + 2 ≤ (digs (val ws * 2 ^ k).toNat).length := by
    have h3 : val vs * 2 ^ k ≤ val ws * 2 ^ k := Int.mul_le_mul_of_nonneg_right hle (Int.le_of_lt hp)
    rw [hm, show m + 2 - 1 = m + 1 by omega] at n1
    have h4 := val_lt wD
    rw [vd] at h4
    by_cases c : m + 2 ≤ (digs (val ws * 2 ^ k).toNat).length
    · exact c
    · have h5 := powle (show (digs (val ws * 2 ^ k).toNat).length ≤ m + 1 by omega)
      have := Bpos (m + 1)
      omega
  have hl1 : (digs (val ws * 2 ^ k).toNat).length ≤ ws.length + 1 := dlen sw.1 sw.2
  have hWl : W.length = (digs (val ws * 2 ^ k).toNat).length + 2 := by rw [hW]; simp
  refine ⟨n3, p2, by omega, by omega, vD, by rw [eD, digN_length], by rw [eD]; exact p7, vW, wW, by rw [hD]; exact wd_digs _, by omega, by omega, ?_⟩
  refine PartAt.start wW (by omega) ?_
  have e1 : W.drop (W.length - (m + 2)) = (digs (val ws * 2 ^ k).toNat).drop ((digs (val ws * 2 ^ k).toNat).length - m) ++ [0, 0] := by
    rw [hWl, hW, List.drop_append_of_le_length (by omega)]
    congr 2; omega
  rw [e1, val_append]
  have h6 := val_lt (wD.drop ((digs (val ws * 2 ^ k).toNat).length - m))
  rw [List.length_drop] at h6
  have h7 := powle (show (digs (val ws * 2 ^ k).toNat).length - ((digs (val ws * 2 ^ k).toNat).length - m) ≤ m + 1 by omega)
  rw [hm, show m + 2 - 1 = m + 1 by omega] at n1
  have := Bpos (m + 1)
  have e2 : val [0, 0] = 0 := by simp [val]
  rw [e2, Int.mul_zero]
  omega
/-- A guess that is lowered as long as it is too great: q, the words of the window, whether it is too great. -/
structure LowerAt (win vs : List Int) (x : Int × List Int × Int) : Prop where
  q : val win / val vs ≤ x.1 ∧ x.1 < 4294967296
  len : x.2.1.length = win.length
  wd : Wd x.2.1
  b : x.2.2 = 0 ∨ x.2.2 = 1
  eq : val x.2.1 = val win - x.1 * val vs + 4294967296 ^ win.length * x.2.2
  iff : x.2.2 = 0 ↔ x.1 * val vs ≤ val win
theorem LowerAt.start {win vs ys : List Int} {q c b : Int} (h : Wd win) (hl : vs.length < win.length) (h2 : Wd vs) (hq : 0 ≤ q ∧ q < 4294967296) (hQ : val win / val vs ≤ q) (ha : TakeAt win vs q (win.length, ys, c, b)) : LowerAt win vs (q, ys, b) := by
  have h1 := ha.end_ h hl h2 hq
  exact ⟨⟨hQ, hq.2⟩, ha.len, ha.wd, ha.b, h1.2.1, h1.2.2⟩
theorem LowerAt.more {win vs w1 ys : List Int} {q e : Int} (hw : Wd win) (hl : vs.length ≤ win.length) (h2 : Wd vs) (hD : 0 < val vs) (ha : LowerAt win vs (q, w1, 1)) (hb : BackAt w1 vs (win.length, ys, e)) : LowerAt win vs (q - 1, ys, 1 - e) ∧ 0 < q := by
  have hnot : ¬ q * val vs ≤ val win := fun c => by have := ha.iff.2 c; simp only at this; omega
  have hq := ha.q
  simp only at hq
  have hlt : val win / val vs < q := by
    by_cases c : val win / val vs < q
    · exact c
    · have e : val win / val vs = q := by omega
      exact absurd (by rw [← e]; exact Int.ediv_mul_le _ (by omega)) hnot
  have h0 := Int.ediv_nonneg (val_nonneg hw) (Int.le_of_lt hD)
  have := back_more hl h2 ha.eq ha.len ha.wd hw hb hnot
  have hc := hb.c
  simp only at hc
  refine ⟨⟨by simp only; omega, hb.len, hb.wd, by simp only; omega, this.1, this.2⟩, by omega⟩
theorem LowerAt.pos {win vs w1 : List Int} {q : Int} (hw : Wd win) (hD : 0 < val vs) (ha : LowerAt win vs (q, w1, 1)) : 0 < q := by
  have hnot : ¬ q * val vs ≤ val win := fun c => by have := ha.iff.2 c; simp only at this; omega
  have hq := ha.q
  simp only at hq
  have h0 := Int.ediv_nonneg (val_nonneg hw) (Int.le_of_lt hD)
  by_cases c : 0 < q
  · exact c
  · have e : q = 0 := by omega
    rw [e, Int.zero_mul] at hnot
    exact absurd (val_nonneg hw) hnot
theorem LowerAt.done {win vs w1 : List Int} {q : Int} (hw : Wd win) (hD : 0 < val vs) (ha : LowerAt win vs (q, w1, 0)) : q = val win / val vs ∧ w1 = digN win.length (val win % val vs) := by
  have hle := ha.iff.1 rfl
  have hq := ha.q
  have he := ha.eq
  have hlen := ha.len
  simp only at hle hq he hlen
  have h1 := (Int.le_ediv_iff_mul_le hD).2 hle
  have e1 : q = val win / val vs := by omega
  refine ⟨e1, ?_⟩
  have e2 : val w1 = val win % val vs := by
    rw [he, e1, Int.mul_zero, Int.add_zero]
    have := Int.mul_ediv_add_emod (val win) (val vs)
    rw [Int.mul_comm] at this; omega
  rw [← e2, ← hlen]; exact (digN_val ha.wd).symm
end Go.Proofs.YtebkelnibecmjaaDoor.NumA
namespace Go.Proofs.YtebkelnibecmjaaDoor.SH
open Go Go.RowKit
/-- A new row, read as data. -/
theorem SaysO.data {E : Env} {f : FuncId} {args xs : List Pure} {T : TypeId} {sz n : Nat} (h : SaysO E f args T sz n xs) : Says E f args (.sl n xs) := by
  intro ok w vals hG hrel
  refine (h ok w vals hG hrel).mono ?_
  rintro e w' ⟨b, cap, c, rfl, hn, hb, hH, hc, hl, hx, hbel⟩
  refine ⟨_, rfl, ?_, hbel⟩
  simp only [Rel]
  refine ⟨some ⟨b, 0, none⟩, cap, rfl, hn, RelS.of (.inr hb) (RelAt.of fun i y hy => ?_)⟩
  obtain ⟨u, h1, h2, h3⟩ := hx i y hy
  refine ⟨u, by rw [cellAt_of hH, Nat.zero_add]; exact h1, h2, ?_⟩
  exact Rel.mono (fun a ha hne => ⟨ha.1, rfl⟩) y u h3
end Go.Proofs.YtebkelnibecmjaaDoor.SH
