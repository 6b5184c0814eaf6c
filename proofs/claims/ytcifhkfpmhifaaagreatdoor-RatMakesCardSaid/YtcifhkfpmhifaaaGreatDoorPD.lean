/- Part D of the proof: lemmas for the walks of the given functions. No statement of its own. -/
import Derived.ChangeSame
import Derived.ChangeVars
import Derived.JoinedOf
import Derived.RowKit
import Derived.RowKitTokens
import Derived.LaidLaws
import Derived.LaidHandle
import Derived.Carry
import Derived.OpenShut
import Derived.Lib.SmallJoins
import Derived.Lib.LaidTab
import Derived.Lay
import Derived.LaidMore
import Derived.MakeChecks
import Derived.Stop.LaidErr
import Derived.ProofKit
import Derived.Test.YtcifhkfpmhifaaaGreatDoorRows
import Derived.Test.YtcifhkfpmhifaaaGreatDoorTie
import Derived.RangeFuncSeq
import Derived.Laws.Cover3
import Derived.Test.YtcifhkfpmhifaaaGreatDoorPC
set_option linter.unusedVariables false
set_option linter.unusedSimpArgs false
set_option linter.deprecated false
namespace Go.Proofs.YtcifhkfpmhifaaaGreatDoor.NumA
open Go.Lib
theorem u8_back {c : UInt8} (h : 48 ≤ c.toNat ∧ c.toNat ≤ 57) : UInt8.ofNat (48 + (dg c).toNat) = c:=by
  have : 48 + (dg c).toNat = c.toNat:=by unfold dg; omega
  rw [this]; simp
theorem dec_num : ∀ (n : Nat) (ds : List UInt8),ds.length = n + 1 → Digits ds → (((ds.getD 0 0).toNat ≠ 48) ∨ n = 0) → decDigits (numI ds).toNat = ds ∧ ((ds.getD 0 0).toNat ≠ 48 → 0 < numI ds)
  | 0,ds,hl,hd,_=>by
    obtain ⟨c,rfl⟩ : ∃ c,ds = [c]:=List.length_eq_one_iff.1 hl
    have hc:=hd c (by simp)
    have e : numI [c] = dg c:=by simp [numI]
    rw [e]
    have : (dg c).toNat < 10:=by unfold dg; omega
    refine ⟨by rw [dec_small this,u8_back hc],fun h=>?_⟩
    simp only [List.getD_cons_zero] at h
    unfold dg; omega
  | n + 1,ds,hl,hd,h=>by
    have hne : ds ≠ []:=by intro e; subst e; simp at hl
    obtain ⟨asx,c,rfl⟩ : ∃ asx c,ds = asx ++ [c]:=⟨ds.dropLast,ds.getLast hne,(List.dropLast_concat_getLast hne).symm⟩
    have hal : asx.length = n + 1:=by simpa using hl
    have hg : (asx ++ [c]).getD 0 0 = asx.getD 0 0:=by
      rw [List.getD_eq_getElem?_getD,List.getElem?_append_left (by omega),← List.getD_eq_getElem?_getD]
    have hc:=hd c (by simp)
    have hda : Digits asx:=fun x hx=>hd x (List.mem_append_left _ hx)
    rw [hg] at h ⊢
    have h1 : (asx.getD 0 0).toNat ≠ 48:=by rcases h with h | h; exact h; omega
    obtain ⟨ih1,ih2⟩:=dec_num n asx hal hda (.inl h1)
    have hp:=ih2 h1
    have hcd : 0 ≤ dg c ∧ dg c < 10:=by unfold dg; omega
    rw [numI_snoc]
    refine ⟨?_,fun _=>by omega⟩
    have e1 : (10 * numI asx + dg c).toNat / 10 = (numI asx).toNat:=by omega
    have e2 : (10 * numI asx + dg c).toNat % 10 = (dg c).toNat:=by omega
    rw [dec_big (by omega),e1,e2,ih1,u8_back hc]
theorem dec_head : ∀ (n u : Nat),u ≤ n → 0 < u → ((decDigits u).getD 0 0).toNat ≠ 48:=by
  intro n
  induction n with
  | zero=>intro u h1 h2; omega
  | succ n ih =>
    intro u h1 h2
    by_cases h : u < 10
    · rw [dec_small h]
      simp only [List.getD_cons_zero]
      have : (UInt8.ofNat (48 + u)).toNat = 48 + u:=by simp; omega
      omega
    · rw [dec_big h]
      have hl:=dec_pos (u / 10)
      have hg : (decDigits (u / 10) ++ [UInt8.ofNat (48 + u % 10)]).getD 0 0 = (decDigits (u / 10)).getD 0 0:=by
        rw [List.getD_eq_getElem?_getD,List.getElem?_append_left (by omega),← List.getD_eq_getElem?_getD]
      rw [hg]
      exact ih (u / 10) (by omega) (by omega)
theorem dec_len {u k : Nat} (h : u < 10 ^ (k + 1)) : (decDigits u).length ≤ k + 1:=(pad_dec k h).1
end Go.Proofs.YtcifhkfpmhifaaaGreatDoor.NumA
namespace Go.Proofs.YtcifhkfpmhifaaaGreatDoor.NumA
open Go.Lib
end Go.Proofs.YtcifhkfpmhifaaaGreatDoor.NumA
set_option maxRecDepth 100000
set_option maxHeartbeats 4000000
namespace Go.Proofs.YtcifhkfpmhifaaaGreatDoor.N
open Go Go.Proofs.YtcifhkfpmhifaaaGreatDoor.SH Go.Proofs.YtcifhkfpmhifaaaGreatDoor.NumA
open Go.Proofs.Tryz renaming call110 → cl110,call114 → cl114,call120 → cl120,call86 → cl86,isAgg24 → ag24,sizeOf22 → sz22,sizeOf24 → sz24,sizeOf4 → sz4,typeInfo68 → ti68,underlying22 → un22,underlying24 → un24,underlying5 → un5,underlying68 → un68,underlying9 → un9,zeroValue24 → zv24
def pNeg (bs : List UInt8) : Bool:=decide (0 < bs.length ∧ ((bs.getD 0 0).toNat : Int) = 45)
def pDs (bs : List UInt8) : List UInt8:=if pNeg bs = true then bs.drop 1 else bs
def pBad (ds : List UInt8) (neg : Bool) : Bool:=decide (ds.length = 0 ∨ (((ds.getD 0 0).toNat : Int) = 48 ∧ (1 < ds.length ∨ neg = true)))
instance (ds : List UInt8) : Decidable (Digits ds):=inferInstanceAs (Decidable (∀ c ∈ ds,48 ≤ c.toNat ∧ c.toNat ≤ 57))
def parseE (bs : List UInt8) : Int:=if pBad (pDs bs) (pNeg bs) = true ∨ ¬ Digits (pDs bs) then 3 else if 20000 < (pDs bs).length then 2 else 0
def parseV (bs : List UInt8) : Int:=if parseE bs = 0 then sg (pNeg bs) (numI (pDs bs)) else 0
theorem pcases (ds : List UInt8) : ds.length = 0 ∨ (ds.length ≠ 0 ∧ ¬ ((ds.getD 0 0).toNat : Int) = 48) ∨ (((ds.getD 0 0).toNat : Int) = 48 ∧ 1 < ds.length) ∨ (ds.length ≠ 0 ∧ ((ds.getD 0 0).toNat : Int) = 48 ∧ ¬ 1 < ds.length):=by
 by_cases h1 : ds.length = 0
 ·exact .inl h1
 ·by_cases h2 : ((ds.getD 0 0).toNat : Int) = 48
  ·by_cases h3 : 1 < ds.length
   ·exact .inr (.inr (.inl ⟨h2,h3⟩))
   ·exact .inr (.inr (.inr ⟨h1,h2,h3⟩))
  ·exact .inr (.inl ⟨h1,h2⟩)
theorem Digits.snoc {ds : List UInt8} {j : Nat} (h : Digits (ds.take j)) (hj : j < ds.length) (h1 : 48 ≤ (ds.getD j 0).toNat ∧ (ds.getD j 0).toNat ≤ 57) : Digits (ds.take (j + 1)):=by
 rw [List.take_succ_eq_append_getElem hj]
 intro c hc
 rcases List.mem_append.1 hc with hc | hc
 ·exact h c hc
 ·rw [List.mem_singleton.1 hc]
  rw [List.getD_eq_getElem?_getD,List.getElem?_eq_getElem hj] at h1
  exact h1
end Go.Proofs.YtcifhkfpmhifaaaGreatDoor.N
set_option maxRecDepth 100000
set_option maxHeartbeats 4000000
namespace Go.Proofs.YtcifhkfpmhifaaaGreatDoor.N
open Go Go.Proofs.YtcifhkfpmhifaaaGreatDoor.SH Go.Proofs.YtcifhkfpmhifaaaGreatDoor.NumA
open Go.Proofs.Tryz renaming call120 → cl120,call15 → cl15,isAgg22 → ag22,isAgg24 → ag24,isAgg4 → ag4,isAgg5 → ag5,isAgg68 → ag68,sizeOf22 → sz22,sizeOf24 → sz24,sizeOf4 → sz4,sizeOf5 → sz5,sizeOf68 → sz68,typeInfo5 → ti5,typeInfo68 → ti68,underlying116 → un116,underlying22 → un22,underlying24 → un24,underlying5 → un5,underlying68 → un68,underlying78 → un78,underlying9 → un9
theorem ten_big' (a : Int) : a.natAbs < 10 ^ (10 * nw a + 1):=by
 have h1:=nw_lt (a:=a)
 have h2 : (4294967296 : Nat) ^ nw a ≤ (10 ^ 10) ^ nw a:=Nat.pow_le_pow_left (by decide) _
 rw [← Nat.pow_mul] at h2
 have h3 : 10 ^ (10 * nw a) ≤ 10 ^ (10 * nw a + 1):=Nat.pow_le_pow_right (by decide) (by omega)
 have h4 : a.natAbs < 4294967296 ^ nw a:=by
  have : ((a.natAbs : Nat) : Int) < ((4294967296 ^ nw a : Nat) : Int):=by rw [Int.natCast_pow]; exact h1
  exact Int.ofNat_lt.1 this
 exact Nat.lt_of_lt_of_le h4 (Nat.le_trans h2 h3)
end Go.Proofs.YtcifhkfpmhifaaaGreatDoor.N
namespace Go.Proofs.YtcifhkfpmhifaaaGreatDoor.NumA
def qw (a : Rat) : Nat:=max (nw a.num) (nw a.den)
theorem nw_num_le (a : Rat) : nw a.num ≤ qw a:=Nat.le_max_left _ _
theorem nw_den_le (a : Rat) : nw (a.den : Int) ≤ qw a:=Nat.le_max_right _ _
def sgcd (n d : Int) : Int:=if d < 0 then -(Int.gcd n d : Int) else Int.gcd n d
theorem ovr_num {n d : Int} (h : d ≠ 0) : (Rat.divInt n d).num = n / sgcd n d:=by
  rw [Rat.num_divInt,sgcd,Int.gcd_comm]
  rcases Int.lt_trichotomy d 0 with h0 | h0 | h0
  · rw [if_pos h0,Int.sign_eq_neg_one_of_neg h0,Int.ediv_neg,Int.neg_one_mul]
    rw [Int.neg_ediv_of_dvd (Int.gcd_dvd_left ..)]
  · exact absurd h0 h
  · rw [if_neg (by omega),Int.sign_eq_one_of_pos h0,Int.one_mul]
theorem ovr_den {n d : Int} (h : d ≠ 0) : ((Rat.divInt n d).den : Int) = d / sgcd n d:=by
  rw [Rat.den_divInt,if_neg h,sgcd,Int.gcd_comm,Int.natCast_ediv]
  rcases Int.lt_trichotomy d 0 with h0 | h0 | h0
  · rw [if_pos h0,Int.ediv_neg,show ((d.natAbs : Nat) : Int) = -d by omega,Int.neg_ediv_of_dvd (Int.gcd_dvd_right ..)]
  · exact absurd h0 h
  · rw [if_neg (by omega),show ((d.natAbs : Nat) : Int) = d by omega]
theorem qw_ovr {n d : Int} (h : d ≠ 0) : qw (Rat.divInt n d) ≤ max (nw n) (nw d):=by
  unfold qw
  rw [ovr_num h,ovr_den h]
  have h1 : nw (n / sgcd n d) ≤ nw n:=nw_mono (Int.natAbs_ediv_le_natAbs ..)
  have h2 : nw (d / sgcd n d) ≤ nw d:=nw_mono (Int.natAbs_ediv_le_natAbs ..)
  omega
theorem den_ne (a : Rat) : (a.den : Int) ≠ 0:=by have:=a.den_nz; omega
theorem q_self (a : Rat) : Rat.divInt a.num a.den = a:=by rw [Rat.divInt_ofNat,Rat.mkRat_self]
theorem q_add (a b : Rat) : Rat.divInt (a.num * b.den + b.num * a.den) (a.den * b.den) = a + b:=by
  have:=Rat.divInt_add_divInt a.num b.num (den_ne a) (den_ne b)
  rw [q_self,q_self] at this
  exact this.symm
theorem q_mul (a b : Rat) : Rat.divInt (a.num * b.num) (a.den * b.den) = a * b:=by
  have:=Rat.divInt_mul_divInt a.num b.num (d₁:=a.den) (d₂:=b.den)
  rw [q_self,q_self] at this
  exact this.symm
theorem q_inv (a : Rat) : Rat.divInt a.den a.num = a⁻¹:=(Rat.inv_def a).symm
theorem num_ne {a : Rat} : a.num ≠ 0 ↔ a ≠ 0:=by rw [Ne,Rat.num_eq_zero]
theorem qw_add (a b : Rat) : qw (a + b) ≤ qw a + qw b + 1:=by
  rw [← q_add]
  have h1:=qw_ovr (n:=a.num * b.den + b.num * a.den) (d:=a.den * b.den) (Int.mul_ne_zero (den_ne a) (den_ne b))
  have h2:=nw_add (a.num * b.den) (b.num * a.den)
  have h3:=nw_mul a.num b.den
  have h4:=nw_mul b.num a.den
  have h5:=nw_mul a.den b.den
  have:=nw_num_le a; have:=nw_num_le b; have:=nw_den_le a; have:=nw_den_le b
  omega
theorem qw_neg (a : Rat) : qw (-a) = qw a:=by unfold qw; rw [Rat.neg_num,Rat.neg_den,nw_neg]
theorem qw_sub (a b : Rat) : qw (a - b) ≤ qw a + qw b + 1:=by rw [Rat.sub_eq_add_neg,← qw_neg b]; exact qw_add a (-b)
theorem qw_inv {a : Rat} (h : a ≠ 0) : qw a⁻¹ ≤ qw a:=by
  rw [← q_inv]
  have h1:=qw_ovr (n:=a.den) (d:=a.num) (num_ne.2 h)
  unfold qw; unfold qw at h1; omega
theorem qw_zero : qw 0 = 1:=by simp [qw,nw_one,nw_zero.2]
def cmpQ (a b : Rat) : Int:=if a < b then -1 else if b < a then 1 else 0
theorem q_cmp (a b : Rat) : cmpI (a.num * b.den) (b.num * a.den) = cmpQ a b:=by
  unfold cmpI cmpQ
  simp only [Rat.lt_iff]
theorem q_sign (a : Rat) : a.num.sign = cmpQ a 0:=by
  rw [← q_cmp]
  unfold cmpI
  simp only [Rat.zero_num,Rat.zero_den,Int.zero_mul,Int.natCast_one,Int.mul_one]
  rcases Int.lt_trichotomy a.num 0 with h | h | h
  · rw [if_pos h,Int.sign_eq_neg_one_of_neg h]
  · rw [h,if_neg (by omega),if_neg (by omega)]; rfl
  · rw [if_neg (by omega),if_pos h,Int.sign_eq_one_of_pos h]
theorem q_sign0 (a : Rat) : a.num.sign = 0 ↔ a = 0:=by rw [Int.sign_eq_zero_iff_zero,Rat.num_eq_zero]
theorem q_ext {a b : Rat} (h1 : a.num = b.num) (h2 : (a.den : Int) = b.den) : a = b:=Rat.ext h1 (by omega)
theorem divInt_one' (n : Int) : Rat.divInt n 1 = (n : Rat):=by
  refine q_ext ?_ ?_
  · rw [ovr_num (by decide)]; simp [sgcd]
  · rw [ovr_den (by decide)]; simp [sgcd]
theorem sgcd_ne {n d : Int} (h : d ≠ 0) : sgcd n d ≠ 0:=by
  have : Int.gcd n d ≠ 0:=by rw [Ne,Int.gcd_eq_zero_iff]; exact fun hh=>h hh.2
  unfold sgcd; split <;> omega
theorem sgcd_nw {n d : Int} (h : d ≠ 0) : nw (sgcd n d) ≤ nw d:=by
  have:=gcd_nw (a:=n) h
  unfold sgcd; split
  · rwa [nw_neg]
  · exact this
theorem sgcd_one {n d : Int} (h : Int.gcd n d = 1) (h0 : ¬ d < 0) : sgcd n d = 1:=by rw [sgcd,if_neg h0,h]; rfl
end Go.Proofs.YtcifhkfpmhifaaaGreatDoor.NumA
set_option maxRecDepth 100000
set_option maxHeartbeats 4000000
namespace Go.Proofs.YtcifhkfpmhifaaaGreatDoor.N
open Go Go.Proofs.YtcifhkfpmhifaaaGreatDoor.SH Go.Proofs.YtcifhkfpmhifaaaGreatDoor.NumA
open Go.Proofs.Tryz renaming call112 → cl112,call58 → cl58,call60 → cl60,call63 → cl63,call66 → cl66,call69 → cl69,call72 → cl72,call74 → cl74,isAgg22 → ag22,isAgg24 → ag24,isAgg26 → ag26,isAgg4 → ag4,isAgg68 → ag68,sizeOf22 → sz22,sizeOf24 → sz24,sizeOf26 → sz26,sizeOf4 → sz4,sizeOf68 → sz68,underlying22 → un22,underlying24 → un24,underlying26 → un26,zeroValue24 → zv24,zeroValue26 → zv26
@[reducible] def pR (m : Bool) (ws : List Int) (n : Bool) (vs : List Int) : Pure:=.agg [.a (.bool m),.sl ws.length (encW ws),.a (.bool n),.sl vs.length (encW vs)]
@[reducible] def pN (n d : Int) : Pure:=pR (decide (n < 0)) (digs n.natAbs) (decide (d < 0)) (digs d.natAbs)
@[reducible] def pQ (a : Rat) : Pure:=pN a.num a.den
theorem cN {a : Rat} {n d : Int} (h1 : a.num = n) (h2 : (a.den : Int) = d) : pN n d = pQ a:=by subst h1 h2; rfl
theorem one_digs (n : Int) : n = 1 ↔ (digs n.natAbs).length = 1 ∧ (digs n.natAbs).getD 0 0 = 1 ∧ ¬ n < 0:=by
 constructor
 ·rintro rfl; refine ⟨nw_one,?_,by decide⟩
  have : val (digs 1) = 1:=val_digs 1
  have h1 : (digs 1).length = 1:=nw_one
  show (digs 1).getD 0 0 = 1
  match digs 1,h1,this with
  | [w],_,h=>simpa [val] using h
 ·rintro ⟨h1,h2,h3⟩
  have h4:=val_digs n.natAbs
  match e : digs n.natAbs,h1 with
  | [w],_ =>
   rw [e] at h2 h4
   simp only [val,List.getD_cons_zero] at h2 h4
   omega
theorem one3 (n : Int) : ((digs n.natAbs).length ≠ 1 ∧ n ≠ 1) ∨ ((digs n.natAbs).length = 1 ∧ (digs n.natAbs).getD 0 0 ≠ 1 ∧ n ≠ 1) ∨ ((digs n.natAbs).length = 1 ∧ (digs n.natAbs).getD 0 0 = 1 ∧ (n = 1 ↔ ¬ n < 0)):=by
 have:=one_digs n
 by_cases h1 : (digs n.natAbs).length = 1
 ·by_cases h2 : (digs n.natAbs).getD 0 0 = 1
  ·exact .inr (.inr ⟨h1,h2,by rw [this]; simp only [h1,h2,true_and]⟩)
  ·exact .inr (.inl ⟨h1,h2,fun h=>h2 (this.1 h).2.1⟩)
 ·exact .inl ⟨h1,fun h=>h1 (this.1 h).1⟩
theorem isOneZ (n : Int) (h : nw n < 999999999999) : Says E 69 [pZ n] (bZ (decide (n = 1))):=by
 refine says_of (xs:=[bZ (decide (n = 1))]) Tryz.func69 rfl Tryz.ntmps69 Tryz.results69 (by simp) fun F hG hX0 hnt hdf P0=>?_
 obtain ⟨L,hX,hN⟩:=pro hnt hX0 hG
 unfold nw at h
 refine exr (swb (c_bx (k:=1) (n:=2) pa2 rfl rfl (P0 _ rfl) (L rfl)) t1 t0 ⟨rfl,rfl⟩ (aV (L rfl) rfl (zn [(1,_)] [(1,_)] t1 t1 ?_)))
 refine exm (sl:=[(2,vb (decide (n = 1)))]) (sl0:=[]) (hb:=[]) (hb0:=[]) t0 t0 ?_ ?_
 ·rcases one3 n with ⟨h1,h2⟩ | ⟨h1,h2,h3⟩ | ⟨h1,h2,h3⟩
  ·refine sw (c_fa un24 rfl sz22 (by decide) (by exact rfl) (L rfl)) t1 t1 ?_
   refine sw (c_l1 ag22 (by rfl) (by rfl) (L rfl)) t1 t1 ?_
   refine sw (c_ln un22 (L rfl)) t1 t0 (sw (c_e (L rfl)) t2 t0 (mV (L rfl) rfl (swn (g:=7) rfl (by simp; omega) (L rfl) rfl ?_)))
   refine swn (g:=7) rfl (by simp; omega) (L rfl) rfl ?_
   refine swn (g:=7) rfl (by simp; omega) (L rfl) rfl ?_
   refine swn (g:=7) rfl (by simp; omega) (L rfl) rfl ?_
   refine swn (g:=7) rfl (by simp; omega) (L rfl) rfl ?_
   refine sw (c_pf (by simp; omega) (L rfl)) t2 t0 ?_
   refine mV (L rfl) rfl (swn (g:=14) rfl rfl (L rfl) rfl (swn (g:=14) rfl rfl (L rfl) rfl (swn (g:=14) rfl rfl (L rfl) rfl (sw (c_pf rfl (L rfl)) t2 t0 (aV (L rfl) rfl ?_)))))
   exact seq_nil ⟨⟨ob rfl (by simp [h2]),trivial⟩,trivial⟩
  ·refine sw (c_fa un24 rfl sz22 (by decide) (by exact rfl) (L rfl)) t1 t1 ?_
   refine sw (c_l1 ag22 (by rfl) (by rfl) (L rfl)) t1 t1 ?_
   refine sw (c_ln un22 (L rfl)) t1 t0 (sw (c_e (L rfl)) t2 t0 (mV (L rfl) rfl (swg (g:=7) rfl (by simp; omega) (c_fa un24 rfl sz22 (by decide) (by exact rfl) (L rfl)) rfl t1 t1 ?_)))
   refine swg (g:=7) rfl (by simp; omega) (c_l1 ag22 (by rfl) (by rfl) (L rfl)) rfl t1 t1 ?_
   refine swg (g:=7) rfl (by simp; omega) (ixJ un22 sz68 (j:=0) rfl (by omega) (by simp) (L rfl)) rfl t2 t0 ?_
   refine swg (g:=7) rfl (by simp; omega) (c_li ag68 (by first | exact getW (by omega) | rfl) (L rfl)) rfl t1 t0 ?_
   refine swg (g:=7) rfl (by simp; omega) (c_e (L rfl)) rfl t2 t0 ?_
   refine sw (c_pt (by simp; omega) (L rfl)) t2 t0 ?_
   refine mV (L rfl) rfl (swn (g:=14) rfl (by simpa using h2) (L rfl) rfl ?_)
   refine swn (g:=14) rfl (by simpa using h2) (L rfl) rfl ?_
   refine swn (g:=14) rfl (by simpa using h2) (L rfl) rfl ?_
   refine sw (c_pf (by simpa using h2) (L rfl)) t2 t0 ?_
   refine aV (L rfl) rfl ?_
   exact seq_nil ⟨⟨ob rfl (by simp [h3]),trivial⟩,trivial⟩
  ·refine sw (c_fa un24 rfl sz22 (by decide) (by exact rfl) (L rfl)) t1 t1 ?_
   refine sw (c_l1 ag22 (by rfl) (by rfl) (L rfl)) t1 t1 ?_
   refine sw (c_ln un22 (L rfl)) t1 t0 (sw (c_e (L rfl)) t2 t0 (mV (L rfl) rfl (swg (g:=7) rfl (by simp; omega) (c_fa un24 rfl sz22 (by decide) (by exact rfl) (L rfl)) rfl t1 t1 ?_)))
   refine swg (g:=7) rfl (by simp; omega) (c_l1 ag22 (by rfl) (by rfl) (L rfl)) rfl t1 t1 ?_
   refine swg (g:=7) rfl (by simp; omega) (ixJ un22 sz68 (j:=0) rfl (by omega) (by simp) (L rfl)) rfl t2 t0 ?_
   refine swg (g:=7) rfl (by simp; omega) (c_li ag68 (by first | exact getW (by omega) | rfl) (L rfl)) rfl t1 t0 ?_
   refine swg (g:=7) rfl (by simp; omega) (c_e (L rfl)) rfl t2 t0 ?_
   refine sw (c_pt (by simp; omega) (L rfl)) t2 t0 ?_
   refine mV (L rfl) rfl (swg (g:=14) rfl (by simpa using h2) (c_fa un24 rfl sz4 (by decide) (by exact rfl) (L rfl)) rfl t1 t1 ?_)
   refine swg (g:=14) rfl (by simpa using h2) (c_l1 ag4 (by rfl) (by rfl) (L rfl)) rfl t1 t1 ?_
   refine swg (g:=14) rfl (by simpa using h2) (c_no (L rfl)) rfl t1 t0 ?_
   refine sw (c_pt (by simpa using h2) (L rfl)) t2 t0 ?_
   refine aV (L rfl) rfl ?_
   exact seq_nil ⟨⟨ob rfl (by rw [dec_eq h3]; exact (decide_not ..).symm),trivial⟩,trivial⟩
 refine ex_ret ?_
 refine ⟨.inr rfl,ResVs.cast (.cons (.tmp rfl) .nil) ?_⟩
 rfl
theorem one_says  : Says E 63 [] (pZ 1):=by
 refine says_of (xs:=[pZ 1]) Tryz.func63 rfl Tryz.ntmps63 Tryz.results63 (by simp) fun F hG hX0 hnt hdf P0=>?_
 obtain ⟨L,hX,hN⟩:=pro hnt hX0 hG
 refine exr (swb (c_al (k:=0) (n:=2) zv24 (.cons rfl (.cons rfl .nil)) rfl (P0 _ rfl) (L rfl)) t0 t0 ⟨rfl,rfl⟩ (zn [(0,_)] [(0,_)] t1 t1 (exr (cK hG hX cl58 hN (of_says 1 (by decide) (by decide)) (L rfl) t1 ?_))))
 refine sb (c_sm sz24 (by rfl) pa2 rfl pu2) t2 t1 ?_
 refine zn [(0,_)] [(0,_)] t1 t1 (ex_ret ?_)
 refine ⟨.inr rfl,ResVs.cast (.cons (.agg rfl rfl rfl ag24 sz24 (.cons (.cons .nil))) .nil) ?_⟩
 rfl
theorem wholeZ (a b : Int) (ha : nw a < 99999999999) (hb : nw b < 99999999999) (h0 : b ≠ 0) : Says E 74 [pZ a,pZ b] (pZ (a / b)):=by
 refine says_of (xs:=[pZ (a / b)]) Tryz.func74 rfl Tryz.ntmps74 Tryz.results74 (by simp) fun F hG hX0 hnt hdf P0=>?_
 obtain ⟨L,hX,hN⟩:=pro hnt hX0 hG
 refine exr (swb (c_bx (k:=2) (n:=2) pa2 rfl rfl (P0 _ rfl) (L rfl)) t1 t0 ⟨rfl,rfl⟩ (swb (c_bx (k:=3) (n:=2) pa2 rfl rfl (P0 _ rfl) (L rfl)) t1 t0 ⟨rfl,rfl⟩ (swb (c_al (k:=4) (n:=2) zv24 (.cons rfl (.cons rfl .nil)) rfl (P0 _ rfl) (L rfl)) t0 t0 ⟨rfl,rfl⟩ (zn [(2,_),(3,_),(4,_)] [(2,_),(3,_),(4,_)] t3 t3 (exr (lp2 ag24 sz24 (L rfl) rfl rfl (lp2 ag24 sz24 (L rfl) rfl rfl (cK hG hX cl112 hN (divZ a b (by omega) (by omega) h0) (L rfl) t2 ?_))))))))
 refine mV (L rfl) rfl (sw (c_ex rfl (L rfl)) t1 t0 (sw (c_ex rfl (L rfl)) t1 t0 (sw (c_ex rfl (L rfl)) t1 t0 (swb (c_al (k:=5) (n:=2) zv24 (.cons rfl (.cons rfl .nil)) rfl (P0 _ rfl) (L rfl)) t0 t0 ⟨rfl,rfl⟩ (swb (c_al (k:=6) (n:=2) zv24 (.cons rfl (.cons rfl .nil)) rfl (P0 _ rfl) (L rfl)) t0 t0 ⟨rfl,rfl⟩ (sb (c_sm sz24 (by rfl) pa2 rfl pu2) t2 t1 ?_))))))
 refine sb (c_sm sz24 (by rfl) pa2 rfl pu2) t2 t1 ?_
 refine aV (L rfl) rfl (zn [(4,_),(5,_)] [(4,_),(5,_)] t2 t2 (exr (lp2 ag24 sz24 (L rfl) rfl rfl (sb (c_sm sz24 (by rfl) pa2 rfl pu2) t2 t1 ?_))))
 refine zn [(4,_)] [(4,_)] t1 t1 (ex_ret ?_)
 refine ⟨.inr rfl,ResVs.cast (.cons (.agg rfl rfl rfl ag24 sz24 (.cons (.cons .nil))) .nil) ?_⟩
 rfl
theorem sign3 (a : Int) : a.sign = -1 ∧ a < 0 ∨ a.sign = 0 ∧ a = 0 ∨ a.sign = 1 ∧ 0 < a:=by
 rcases Int.lt_trichotomy a 0 with h | h | h
 ·exact .inl ⟨Int.sign_eq_neg_one_of_neg h,h⟩
 ·exact .inr (.inl ⟨by rw [h]; rfl,h⟩)
 ·exact .inr (.inr ⟨Int.sign_eq_one_of_pos h,h⟩)
theorem gz {n d : Int} (h0 : d ≠ 0) : (Int.gcd n d : Int) ≠ 0:=by
 intro h; exact h0 (Int.gcd_eq_zero_iff.1 (show Int.gcd n d = 0 by omega)).2
theorem gn {n d : Int} {k : Nat} (h0 : d ≠ 0) (hd : nw d < k) : nw (Int.gcd n d : Int) < k:=Nat.lt_of_le_of_lt (gcd_nw h0) hd
theorem gs {n d : Int} (h0 : d ≠ 0) : ¬ (Int.gcd n d : Int).sign = 0:=by rw [Int.sign_eq_zero_iff_zero]; exact gz h0
theorem sg0 {d : Int} : (d.sign < 0) = (d < 0):=by
 rcases sign3 d with h | h | h <;> (rw [h.1]; simp <;> omega)
theorem sgn {n d : Int} (h : d < 0) : sgcd n d = -(Int.gcd n d : Int):=by rw [sgcd,if_pos h]
theorem sgp {n d : Int} (h : ¬ d < 0) : sgcd n d = Int.gcd n d:=by rw [sgcd,if_neg h]
theorem overZ (n d : Int) (h0 : d ≠ 0) (hn : nw n < 90000000000) (hd : nw d < 90000000000) : Says E 61 [pZ n,pZ d] (pQ (Rat.divInt n d)):=by
 refine says_of (xs:=[pQ (Rat.divInt n d)]) Tryz.func61 rfl Tryz.ntmps61 Tryz.results61 (by simp) fun F hG hX0 hnt hdf P0=>?_
 obtain ⟨L,hX,hN⟩:=pro hnt hX0 hG
 have hg:=gn (n:=n) h0 hd
 have hs:=sgcd_ne (n:=n) h0
 have hw:=sgcd_nw (n:=n) h0
 refine exr (swb (c_bx (k:=2) (n:=2) pa2 rfl rfl (P0 _ rfl) (L rfl)) t1 t0 ⟨rfl,rfl⟩ (swb (c_bx (k:=3) (n:=2) pa2 rfl rfl (P0 _ rfl) (L rfl)) t1 t0 ⟨rfl,rfl⟩ (swb (c_al (k:=4) (n:=4) zv26 (.cons rfl (.cons rfl (.cons rfl (.cons rfl .nil)))) rfl (P0 _ rfl) (L rfl)) t0 t0 ⟨rfl,rfl⟩ (zn [(2,_),(3,_),(4,_)] [(2,_),(3,_),(4,_)] t3 t3 (ex_seq (exr (lp2 ag24 sz24 (L rfl) rfl rfl (cK hG hX cl69 hN (isOneZ d (by omega)) (L rfl) t1 ?_))))))))
 refine zn [(2,_),(3,_),(4,_),(7,_)] [(2,_),(3,_),(4,_)] t4 t3 ?_
 refine ex_if rfl (fun h1=>?_) (fun h1=>?_)
 ·have h1:=dt h1
  refine exr (lp2 ag24 sz24 (L rfl) rfl rfl (lp2 ag24 sz24 (L rfl) rfl rfl (sw (c_bp (vs:=[_,_]) un26 zv26 (.cons rfl (.cons rfl (.cons rfl (.cons rfl .nil)))) ((Places.cons sz24 (Places.cons sz24 Places.nil))).to rfl (.cons rfl pa2 rfl pu2 (.cons rfl pa2 rfl (.skip (.skip pu2)) .nil)) (.cons (.cons (.cons (.cons .nil)))) (L rfl)) t2 t0 (sb (c_sm sz26 (by rfl) pa4 rfl pu4) t2 t1 ?_))))
  refine zn [(4,_)] [(4,_)] t1 t1 (ex_ret ?_)
  refine ⟨.inr rfl,ResVs.cast (.cons (.agg rfl rfl rfl ag26 sz26 (.cons (.cons (.cons (.cons .nil))))) .nil) ?_⟩
  exact congrArg (· :: []) (cN (by rw [h1,divInt_one']; rfl) (by rw [h1,divInt_one']; rfl))
 ·refine ex_skip (show Exec _ _ _ _ _ from ?_)
  refine exr (lp2 ag24 sz24 (L rfl) rfl rfl (lp2 ag24 sz24 (L rfl) rfl rfl (cK hG hX cl66 hN (gcdZ n d (by omega) (by omega)) (L rfl) t2 ?_)))
  refine swb (c_al (k:=5) (n:=2) zv24 (.cons rfl (.cons rfl .nil)) rfl (P0 _ rfl) (L rfl)) t0 t0 ⟨rfl,rfl⟩ (sb (c_sm sz24 (by rfl) pa2 rfl pu2) t2 t1 ?_)
  refine zn [(2,_),(3,_),(4,_),(5,_)] [(2,_),(3,_),(4,_),(5,_)] t4 t4 (ex_seq ?_)
  refine exm (sl:=[(20,vb (decide ((Int.gcd n d : Int) = 1 ∧ ¬ d < 0)))]) (sl0:=[(2,_),(3,_),(4,_),(5,_)]) (hb:=[]) (hb0:=[(2,_),(3,_),(4,_),(5,_)]) t4 t4 ?_ ?_
  ·by_cases hg1 : (Int.gcd n d : Int) = 1
   ·refine lp2 ag24 sz24 (L rfl) rfl rfl (cK hG hX cl69 hN (isOneZ (Int.gcd n d : Int) (by omega)) (L rfl) t1 ?_)
    refine mV (L rfl) rfl (swg (g:=16) rfl (by simp [hg1]) (c_fa un24 rfl sz4 (by decide) (by exact rfl) (L rfl)) rfl t1 t1 ?_)
    refine swg (g:=16) rfl (by simp [hg1]) (c_l1 ag4 (by rfl) (by rfl) (L rfl)) rfl t1 t1 ?_
    refine swg (g:=16) rfl (by simp [hg1]) (c_no (L rfl)) rfl t1 t0 ?_
    refine sw (c_pt (by simp [hg1]) (L rfl)) t2 t0 ?_
    exact seq_nil ⟨⟨ob rfl (by simp only [hg1,true_and]; exact (decide_not ..).symm),rfl,rfl,rfl,rfl,trivial⟩,t4⟩
   ·refine lp2 ag24 sz24 (L rfl) rfl rfl (cK hG hX cl69 hN (isOneZ (Int.gcd n d : Int) (by omega)) (L rfl) t1 ?_)
    refine mV (L rfl) rfl (swn (g:=16) rfl (by simp [hg1]) (L rfl) rfl ?_)
    refine swn (g:=16) rfl (by simp [hg1]) (L rfl) rfl ?_
    refine swn (g:=16) rfl (by simp [hg1]) (L rfl) rfl ?_
    refine sw (c_pf (by simp [hg1]) (L rfl)) t2 t0 ?_
    exact seq_nil ⟨⟨ob rfl (by simp [hg1]),rfl,rfl,rfl,rfl,trivial⟩,t4⟩
  refine ex_if rfl (fun h2=>?_) (fun h2=>?_)
  ·have h2:=dt h2
   have hh:=sgcd_one (n:=n) (d:=d) (by omega) h2.2
   refine exr (lp2 ag24 sz24 (L rfl) rfl rfl (lp2 ag24 sz24 (L rfl) rfl rfl (sw (c_bp (vs:=[_,_]) un26 zv26 (.cons rfl (.cons rfl (.cons rfl (.cons rfl .nil)))) ((Places.cons sz24 (Places.cons sz24 Places.nil))).to rfl (.cons rfl pa2 rfl pu2 (.cons rfl pa2 rfl (.skip (.skip pu2)) .nil)) (.cons (.cons (.cons (.cons .nil)))) (L rfl)) t2 t0 (sb (c_sm sz26 (by rfl) pa4 rfl pu4) t2 t1 ?_))))
   refine zn [(4,_)] [(4,_)] t1 t1 (ex_ret ?_)
   refine ⟨.inr rfl,ResVs.cast (.cons (.agg rfl rfl rfl ag26 sz26 (.cons (.cons (.cons (.cons .nil))))) .nil) ?_⟩
   exact congrArg (· :: []) (cN (by rw [ovr_num h0,hh,Int.ediv_one]) (by rw [ovr_den h0,hh,Int.ediv_one]))
  ·refine ex_skip (show Exec _ _ _ _ _ from ?_)
   refine ex_seq (exr (lp2 ag24 sz24 (L rfl) rfl rfl (cK hG hX cl60 hN (signZ (Int.gcd n d : Int) (by omega)) (L rfl) t1 ?_)))
   refine sw (c_e (L rfl)) t2 t0 (zn [(2,_),(3,_),(4,_),(5,_),(26,_)] [(2,_),(3,_),(4,_),(5,_)] t5 t4 ?_)
   refine ex_if rfl (fun h3=>?_) (fun h3=>?_)
   ·exact absurd (dt h3) (gs h0)
   ·refine ex_skip (show Exec _ _ _ _ _ from ?_)
    refine ex_seq (exr (lp2 ag24 sz24 (L rfl) rfl rfl (cK hG hX cl60 hN (signZ d (by omega)) (L rfl) t1 ?_)))
    refine sw (c_ls (L rfl)) t2 t0 (zn [(2,_),(3,_),(4,_),(5,_),(30,_)] [(2,_),(3,_),(4,_),(5,_)] t5 t4 ?_)
    refine ex_if rfl (fun h4=>?_) (fun h4=>?_)
    ·have h4:=dt h4
     rw [sg0] at h4
     rw [sgn h4] at hs hw
     refine exr0 (lp2 ag24 sz24 (L rfl) rfl rfl (cK hG hX cl72 hN (negZ (Int.gcd n d : Int) (by omega)) (L rfl) t1 ?_))
     refine sb (c_sm sz24 (by rfl) pa2 rfl pu2) t2 t1 ?_
     refine seq_nil (exd (by rfl) ?_)
     refine lp2 ag24 sz24 (L rfl) rfl rfl (lp2 ag24 sz24 (L rfl) rfl rfl (cK hG hX cl74 hN (wholeZ n (-(Int.gcd n d : Int)) (by omega) (by omega) hs) (L rfl) t2 ?_))
     refine lp2 ag24 sz24 (L rfl) rfl rfl (lp2 ag24 sz24 (L rfl) rfl rfl (cK hG hX cl74 hN (wholeZ d (-(Int.gcd n d : Int)) (by omega) (by omega) hs) (L rfl) t2 ?_))
     refine sw (c_bp (vs:=[_,_]) un26 zv26 (.cons rfl (.cons rfl (.cons rfl (.cons rfl .nil)))) ((Places.cons sz24 (Places.cons sz24 Places.nil))).to rfl (.cons rfl pa2 rfl pu2 (.cons rfl pa2 rfl (.skip (.skip pu2)) .nil)) (.cons (.cons (.cons (.cons .nil)))) (L rfl)) t2 t0 (sb (c_sm sz26 (by rfl) pa4 rfl pu4) t2 t1 ?_)
     refine seq_nil ⟨aoks [⟨[2],[2],[33],[]⟩,⟨[5],[5],[34],[]⟩,⟨[33,34],[],[35],[]⟩,⟨[3],[3],[36],[]⟩,⟨[5],[5],[37],[]⟩,⟨[36,37],[],[38],[]⟩,⟨[35,38],[],[39],[]⟩,⟨[4,39],[4],[],[4]⟩] (by rfl) (by rfl) (by decide),[(4,_)],[(4,_)],t1,t1,?_⟩
     refine ex_ret ?_
     refine ⟨.inr rfl,ResVs.cast (.cons (.agg rfl rfl rfl ag26 sz26 (.cons (.cons (.cons (.cons .nil))))) .nil) ?_⟩
     exact congrArg (· :: []) (cN (by rw [ovr_num h0,sgn h4]) (by rw [ovr_den h0,sgn h4]))
    ·have h4:=df h4
     rw [sg0] at h4
     rw [sgp h4] at hs hw
     refine ex_skip (show Exec _ _ _ _ _ from ?_)
     refine exd (by rfl) ?_
     refine lp2 ag24 sz24 (L rfl) rfl rfl (lp2 ag24 sz24 (L rfl) rfl rfl (cK hG hX cl74 hN (wholeZ n (Int.gcd n d : Int) (by omega) (by omega) hs) (L rfl) t2 ?_))
     refine lp2 ag24 sz24 (L rfl) rfl rfl (lp2 ag24 sz24 (L rfl) rfl rfl (cK hG hX cl74 hN (wholeZ d (Int.gcd n d : Int) (by omega) (by omega) hs) (L rfl) t2 ?_))
     refine sw (c_bp (vs:=[_,_]) un26 zv26 (.cons rfl (.cons rfl (.cons rfl (.cons rfl .nil)))) ((Places.cons sz24 (Places.cons sz24 Places.nil))).to rfl (.cons rfl pa2 rfl pu2 (.cons rfl pa2 rfl (.skip (.skip pu2)) .nil)) (.cons (.cons (.cons (.cons .nil)))) (L rfl)) t2 t0 (sb (c_sm sz26 (by rfl) pa4 rfl pu4) t2 t1 ?_)
     refine seq_nil ⟨aoks [⟨[2],[2],[33],[]⟩,⟨[5],[5],[34],[]⟩,⟨[33,34],[],[35],[]⟩,⟨[3],[3],[36],[]⟩,⟨[5],[5],[37],[]⟩,⟨[36,37],[],[38],[]⟩,⟨[35,38],[],[39],[]⟩,⟨[4,39],[4],[],[4]⟩] (by rfl) (by rfl) (by decide),[(4,_)],[(4,_)],t1,t1,?_⟩
     refine ex_ret ?_
     refine ⟨.inr rfl,ResVs.cast (.cons (.agg rfl rfl rfl ag26 sz26 (.cons (.cons (.cons (.cons .nil))))) .nil) ?_⟩
     exact congrArg (· :: []) (cN (by rw [ovr_num h0,sgp h4]) (by rw [ovr_den h0,sgp h4]))
end Go.Proofs.YtcifhkfpmhifaaaGreatDoor.N
set_option maxRecDepth 100000
set_option maxHeartbeats 4000000
namespace Go.Proofs.YtcifhkfpmhifaaaGreatDoor.N
open Go Go.Proofs.YtcifhkfpmhifaaaGreatDoor.SH Go.Proofs.YtcifhkfpmhifaaaGreatDoor.NumA
open Go.Proofs.Tryz renaming call17 → cl17,call24 → cl24,call28 → cl28,call33 → cl33,call37 → cl37,call59 → cl59,call60 → cl60,call61 → cl61,call63 → cl63,call65 → cl65,call66 → cl66,call67 → cl67,call69 → cl69,call70 → cl70,call72 → cl72,call76 → cl76,isAgg24 → ag24,isAgg26 → ag26,sizeOf24 → sz24,sizeOf26 → sz26,underlying26 → un26,zeroValue26 → zv26
theorem nand2 {a b : Prop} (h : ¬ (a ∧ b)) : ¬ a ∨ (a ∧ ¬ b):=by
 by_cases ha : a
 ·exact .inr ⟨ha,fun hb=>h ⟨ha,hb⟩⟩
 ·exact .inl ha
theorem sgt {d : Int} : 0 < d.sign ↔ 0 < d:=by
 rcases sign3 d with h | h | h <;> (rw [h.1]; simp <;> omega)
theorem cmp0 {a b : Int} : cmpI a b = 0 ↔ a = b:=by unfold cmpI; repeat' split <;> omega
theorem gn1 (a : Int) {b : Int} (h : 0 < b) (hb : nw b < 1000000000) : nw (Int.gcd a b : Int) < 999999999999:=Nat.lt_of_lt_of_le (gn (Int.ne_of_gt h) hb) (by decide)
theorem qneg_says (a : Rat) (ha : qw a < 1000000000) : Says E 28 [pQ a] (pQ (-a)):=by
 refine says_of (xs:=[pQ (-a)]) Tryz.func28 rfl Tryz.ntmps28 Tryz.results28 (by simp) fun F hG hX0 hnt hdf P0=>?_
 obtain ⟨L,hX,hN⟩:=pro hnt hX0 hG
 have h1:=nw_num_le a
 refine exr (swb (c_bx (k:=1) (n:=4) pa4 rfl rfl (P0 _ rfl) (L rfl)) t1 t0 ⟨rfl,rfl⟩ (swb (c_al (k:=2) (n:=4) zv26 (.cons rfl (.cons rfl (.cons rfl (.cons rfl .nil)))) rfl (P0 _ rfl) (L rfl)) t0 t0 ⟨rfl,rfl⟩ (zn [(1,_),(2,_)] [(1,_),(2,_)] t2 t2 (exd (by rfl) ?_))))
 refine sw (c_fa un26 rfl sz24 (by decide) (by exact rfl) (L rfl)) t1 t1 ?_
 refine lp2 ag24 sz24 (L rfl) rfl rfl (cK hG hX cl72 hN (negZ a.num (by omega)) (L rfl) t1 ?_)
 refine sw (c_fa un26 rfl sz24 (by decide) (by exact rfl) (L rfl)) t1 t1 ?_
 refine lp2 ag24 sz24 (L rfl) rfl rfl (sw (c_bp (vs:=[_,_]) un26 zv26 (.cons rfl (.cons rfl (.cons rfl (.cons rfl .nil)))) ((Places.cons sz24 (Places.cons sz24 Places.nil))).to rfl (.cons rfl pa2 rfl pu2 (.cons rfl pa2 rfl (.skip (.skip pu2)) .nil)) (.cons (.cons (.cons (.cons .nil)))) (L rfl)) t2 t0 (sb (c_sm sz26 (by rfl) pa4 rfl pu4) t2 t1 ?_))
 refine seq_nil ⟨aoks [⟨[1],[1],[3],[]⟩,⟨[3],[1],[4],[]⟩,⟨[4],[],[5],[]⟩,⟨[1],[1],[6],[]⟩,⟨[6],[1],[7],[]⟩,⟨[5,7],[],[8],[]⟩,⟨[2,8],[2],[],[2]⟩] (by rfl) (by rfl) (by decide),[(2,_)],[(2,_)],t1,t1,?_⟩
 refine ex_ret ?_
 refine ⟨.inr rfl,ResVs.cast (.cons (.agg rfl rfl rfl ag26 sz26 (.cons (.cons (.cons (.cons .nil))))) .nil) ?_⟩
 exact congrArg (· :: []) (cN rfl rfl)
theorem qwhole_says (n : Int) : Says E 17 [pZ n] (pQ (n : Rat)):=by
 refine says_of (xs:=[pQ (n : Rat)]) Tryz.func17 rfl Tryz.ntmps17 Tryz.results17 (by simp) fun F hG hX0 hnt hdf P0=>?_
 obtain ⟨L,hX,hN⟩:=pro hnt hX0 hG
 refine exr (swb (c_bx (k:=1) (n:=2) pa2 rfl rfl (P0 _ rfl) (L rfl)) t1 t0 ⟨rfl,rfl⟩ (swb (c_al (k:=2) (n:=4) zv26 (.cons rfl (.cons rfl (.cons rfl (.cons rfl .nil)))) rfl (P0 _ rfl) (L rfl)) t0 t0 ⟨rfl,rfl⟩ (zn [(1,_),(2,_)] [(1,_),(2,_)] t2 t2 (exd (by rfl) ?_))))
 refine lp2 ag24 sz24 (L rfl) rfl rfl (cK hG hX cl63 hN one_says (L rfl) t0 (sw (c_bp (vs:=[_,_]) un26 zv26 (.cons rfl (.cons rfl (.cons rfl (.cons rfl .nil)))) ((Places.cons sz24 (Places.cons sz24 Places.nil))).to rfl (.cons rfl pa2 rfl pu2 (.cons rfl pa2 rfl (.skip (.skip pu2)) .nil)) (.cons (.cons (.cons (.cons .nil)))) (L rfl)) t2 t0 (sb (c_sm sz26 (by rfl) pa4 rfl pu4) t2 t1 ?_)))
 refine seq_nil ⟨aoks [⟨[1],[1],[3],[]⟩,⟨[],[],[4],[]⟩,⟨[3,4],[],[5],[]⟩,⟨[2,5],[2],[],[2]⟩] (by rfl) (by rfl) (by decide),[(2,_)],[(2,_)],t1,t1,?_⟩
 refine ex_ret ?_
 refine ⟨.inr rfl,ResVs.cast (.cons (.agg rfl rfl rfl ag26 sz26 (.cons (.cons (.cons (.cons .nil))))) .nil) ?_⟩
 exact congrArg (· :: []) (cN rfl rfl)
theorem qsign_says (a : Rat) (ha : qw a < 1000000000) : Says E 24 [pQ a] (vZ (cmpQ a 0)):=by
 refine says_of (xs:=[vZ (cmpQ a 0)]) Tryz.func24 rfl Tryz.ntmps24 Tryz.results24 (by simp) fun F hG hX0 hnt hdf P0=>?_
 obtain ⟨L,hX,hN⟩:=pro hnt hX0 hG
 have h1:=nw_num_le a
 refine exr (swb (c_bx (k:=1) (n:=4) pa4 rfl rfl (P0 _ rfl) (L rfl)) t1 t0 ⟨rfl,rfl⟩ (aV (L rfl) rfl (zn [(1,_)] [(1,_)] t1 t1 (exr (sw (c_fa un26 rfl sz24 (by decide) (by exact rfl) (L rfl)) t1 t1 ?_)))))
 refine lp2 ag24 sz24 (L rfl) rfl rfl (cK hG hX cl60 hN (signZ a.num (by omega)) (L rfl) t1 ?_)
 refine aV (L rfl) rfl (zn [(2,_)] [] t1 trivial (ex_ret ?_))
 refine ⟨.inr rfl,ResVs.cast (.cons (.tmp rfl) .nil) ?_⟩
 rw [q_sign]
theorem qmul_says (a b : Rat) (ha : qw a < 1000000000) (hb : qw b < 1000000000) : Says E 37 [pQ a,pQ b] (pQ (a * b)):=by
 refine says_of (xs:=[pQ (a * b)]) Tryz.func37 rfl Tryz.ntmps37 Tryz.results37 (by simp) fun F hG hX0 hnt hdf P0=>?_
 obtain ⟨L,hX,hN⟩:=pro hnt hX0 hG
 have h1:=nw_num_le a
 have h2:=nw_num_le b
 have h3:=nw_den_le a
 have h4:=nw_den_le b
 have h5:=nw_mul a.num b.num
 have h6:=nw_mul a.den b.den
 refine exr (swb (c_bx (k:=2) (n:=4) pa4 rfl rfl (P0 _ rfl) (L rfl)) t1 t0 ⟨rfl,rfl⟩ (swb (c_bx (k:=3) (n:=4) pa4 rfl rfl (P0 _ rfl) (L rfl)) t1 t0 ⟨rfl,rfl⟩ (swb (c_al (k:=4) (n:=4) zv26 (.cons rfl (.cons rfl (.cons rfl (.cons rfl .nil)))) rfl (P0 _ rfl) (L rfl)) t0 t0 ⟨rfl,rfl⟩ (zn [(2,_),(3,_),(4,_)] [(2,_),(3,_),(4,_)] t3 t3 (exd (by rfl) ?_)))))
 refine sw (c_fa un26 rfl sz24 (by decide) (by exact rfl) (L rfl)) t1 t1 ?_
 refine lp2 ag24 sz24 (L rfl) rfl rfl (sw (c_fa un26 rfl sz24 (by decide) (by exact rfl) (L rfl)) t1 t1 ?_)
 refine lp2 ag24 sz24 (L rfl) rfl rfl (cK hG hX cl70 hN (mulZ a.num b.num (by omega) (by omega)) (L rfl) t2 ?_)
 refine sw (c_fa un26 rfl sz24 (by decide) (by exact rfl) (L rfl)) t1 t1 ?_
 refine lp2 ag24 sz24 (L rfl) rfl rfl (sw (c_fa un26 rfl sz24 (by decide) (by exact rfl) (L rfl)) t1 t1 ?_)
 refine lp2 ag24 sz24 (L rfl) rfl rfl (cK hG hX cl70 hN (mulZ a.den b.den (by omega) (by omega)) (L rfl) t2 ?_)
 refine cK hG hX cl61 hN (overZ (a.num * b.num) (a.den * b.den) (Int.mul_ne_zero (den_ne a) (den_ne b)) (by omega) (by omega)) (L rfl) t2 ?_
 refine sb (c_sm sz26 (by rfl) pa4 rfl pu4) t2 t1 ?_
 refine seq_nil ⟨aoks [⟨[2],[2],[5],[]⟩,⟨[5],[2],[6],[]⟩,⟨[3],[3],[7],[]⟩,⟨[7],[3],[8],[]⟩,⟨[6,8],[],[9],[]⟩,⟨[2],[2],[10],[]⟩,⟨[10],[2],[11],[]⟩,⟨[3],[3],[12],[]⟩,⟨[12],[3],[13],[]⟩,⟨[11,13],[],[14],[]⟩,⟨[9,14],[],[15],[]⟩,⟨[4,15],[4],[],[4]⟩] (by rfl) (by rfl) (by decide),[(4,_)],[(4,_)],t1,t1,?_⟩
 refine ex_ret ?_
 refine ⟨.inr rfl,ResVs.cast (.cons (.agg rfl rfl rfl ag26 sz26 (.cons (.cons (.cons (.cons .nil))))) .nil) ?_⟩
 rw [q_mul]
theorem qadd_says (a b : Rat) (ha : qw a < 1000000000) (hb : qw b < 1000000000) : Says E 33 [pQ a,pQ b] (pQ (a + b)):=by
 refine says_of (xs:=[pQ (a + b)]) Tryz.func33 rfl Tryz.ntmps33 Tryz.results33 (by simp) fun F hG hX0 hnt hdf P0=>?_
 obtain ⟨L,hX,hN⟩:=pro hnt hX0 hG
 have h1:=nw_num_le a
 have h2:=nw_num_le b
 have h3:=nw_den_le a
 have h4:=nw_den_le b
 have h5:=nw_mul a.num b.den
 have h6:=nw_mul b.num a.den
 have h7:=nw_mul a.den b.den
 have h8:=nw_add (a.num * b.den) (b.num * a.den)
 refine exr (swb (c_bx (k:=2) (n:=4) pa4 rfl rfl (P0 _ rfl) (L rfl)) t1 t0 ⟨rfl,rfl⟩ (swb (c_bx (k:=3) (n:=4) pa4 rfl rfl (P0 _ rfl) (L rfl)) t1 t0 ⟨rfl,rfl⟩ (swb (c_al (k:=4) (n:=4) zv26 (.cons rfl (.cons rfl (.cons rfl (.cons rfl .nil)))) rfl (P0 _ rfl) (L rfl)) t0 t0 ⟨rfl,rfl⟩ (zn [(2,_),(3,_),(4,_)] [(2,_),(3,_),(4,_)] t3 t3 (ex_seq ?_)))))
 refine exm (sl:=[(12,vb (decide ((a.den : Int) = 1 ∧ (b.den : Int) = 1)))]) (sl0:=[(2,_),(3,_),(4,_)]) (hb:=[]) (hb0:=[(2,_),(3,_),(4,_)]) t3 t3 ?_ ?_
 ·by_cases hd : (a.den : Int) = 1
  ·refine sw (c_fa un26 rfl sz24 (by decide) (by exact rfl) (L rfl)) t1 t1 ?_
   refine lp2 ag24 sz24 (L rfl) rfl rfl (cK hG hX cl69 hN (isOneZ a.den (by omega)) (L rfl) t1 ?_)
   refine mV (L rfl) rfl (swg (g:=8) rfl (by simpa using hd) (c_fa un26 rfl sz24 (by decide) (by exact rfl) (L rfl)) rfl t1 t1 ?_)
   refine swg (g:=8) rfl (by simpa using hd) (c_lp ag24 sz24 (by rfl) (by exact al2) rfl (L rfl)) rfl t1 t1 ?_
   refine swg (g:=8) rfl (by simpa using hd) (c_c hG hX cl69 rfl hN (isOneZ b.den (by omega)) (L rfl)) rfl t1 t0 ?_
   refine sw (c_pt (by simpa using hd) (L rfl)) t2 t0 ?_
   exact seq_nil ⟨⟨ob rfl (by simp only [hd,true_and]),rfl,rfl,rfl,trivial⟩,t3⟩
  ·refine sw (c_fa un26 rfl sz24 (by decide) (by exact rfl) (L rfl)) t1 t1 ?_
   refine lp2 ag24 sz24 (L rfl) rfl rfl (cK hG hX cl69 hN (isOneZ a.den (by omega)) (L rfl) t1 ?_)
   refine mV (L rfl) rfl (swn (g:=8) rfl (by simpa using hd) (L rfl) rfl ?_)
   refine swn (g:=8) rfl (by simpa using hd) (L rfl) rfl ?_
   refine swn (g:=8) rfl (by simpa using hd) (L rfl) rfl ?_
   refine sw (c_pf (by simpa using hd) (L rfl)) t2 t0 ?_
   exact seq_nil ⟨⟨ob rfl (by simp only [hd,false_and]; rfl),rfl,rfl,rfl,trivial⟩,t3⟩
 refine ex_if rfl (fun hc=>?_) (fun hc=>?_)
 ·have hc:=dt hc
  refine exr (sw (c_fa un26 rfl sz24 (by decide) (by exact rfl) (L rfl)) t1 t1 ?_)
  refine lp2 ag24 sz24 (L rfl) rfl rfl (sw (c_fa un26 rfl sz24 (by decide) (by exact rfl) (L rfl)) t1 t1 ?_)
  refine lp2 ag24 sz24 (L rfl) rfl rfl (cK hG hX cl76 hN (addZ a.num b.num (by omega) (by omega)) (L rfl) t2 ?_)
  refine cK hG hX cl17 hN (qwhole_says (a.num + b.num)) (L rfl) t1 (sb (c_sm sz26 (by rfl) pa4 rfl pu4) t2 t1 ?_)
  refine zn [(4,_)] [(4,_)] t1 t1 (ex_ret ?_)
  refine ⟨.inr rfl,ResVs.cast (.cons (.agg rfl rfl rfl ag26 sz26 (.cons (.cons (.cons (.cons .nil))))) .nil) ?_⟩
  rw [← q_add,hc.1,hc.2,Int.mul_one,Int.mul_one,Int.mul_one,divInt_one']
 ·refine ex_skip (show Exec _ _ _ _ _ from ?_)
  refine exd (by rfl) ?_
  refine sw (c_fa un26 rfl sz24 (by decide) (by exact rfl) (L rfl)) t1 t1 ?_
  refine lp2 ag24 sz24 (L rfl) rfl rfl (sw (c_fa un26 rfl sz24 (by decide) (by exact rfl) (L rfl)) t1 t1 ?_)
  refine lp2 ag24 sz24 (L rfl) rfl rfl (cK hG hX cl70 hN (mulZ a.num b.den (by omega) (by omega)) (L rfl) t2 ?_)
  refine sw (c_fa un26 rfl sz24 (by decide) (by exact rfl) (L rfl)) t1 t1 ?_
  refine lp2 ag24 sz24 (L rfl) rfl rfl (sw (c_fa un26 rfl sz24 (by decide) (by exact rfl) (L rfl)) t1 t1 ?_)
  refine lp2 ag24 sz24 (L rfl) rfl rfl (cK hG hX cl70 hN (mulZ b.num a.den (by omega) (by omega)) (L rfl) t2 ?_)
  refine cK hG hX cl76 hN (addZ (a.num * b.den) (b.num * a.den) (by omega) (by omega)) (L rfl) t2 ?_
  refine sw (c_fa un26 rfl sz24 (by decide) (by exact rfl) (L rfl)) t1 t1 ?_
  refine lp2 ag24 sz24 (L rfl) rfl rfl (sw (c_fa un26 rfl sz24 (by decide) (by exact rfl) (L rfl)) t1 t1 ?_)
  refine lp2 ag24 sz24 (L rfl) rfl rfl (cK hG hX cl70 hN (mulZ a.den b.den (by omega) (by omega)) (L rfl) t2 ?_)
  refine cK hG hX cl61 hN (overZ (a.num * b.den + b.num * a.den) (a.den * b.den) (Int.mul_ne_zero (den_ne a) (den_ne b)) (by omega) (by omega)) (L rfl) t2 ?_
  refine sb (c_sm sz26 (by rfl) pa4 rfl pu4) t2 t1 ?_
  refine seq_nil ⟨aoks [⟨[2],[2],[19],[]⟩,⟨[19],[2],[20],[]⟩,⟨[3],[3],[21],[]⟩,⟨[21],[3],[22],[]⟩,⟨[20,22],[],[23],[]⟩,⟨[3],[3],[24],[]⟩,⟨[24],[3],[25],[]⟩,⟨[2],[2],[26],[]⟩,⟨[26],[2],[27],[]⟩,⟨[25,27],[],[28],[]⟩,⟨[23,28],[],[29],[]⟩,⟨[2],[2],[30],[]⟩,⟨[30],[2],[31],[]⟩,⟨[3],[3],[32],[]⟩,⟨[32],[3],[33],[]⟩,⟨[31,33],[],[34],[]⟩,⟨[29,34],[],[35],[]⟩,⟨[4,35],[4],[],[4]⟩] (by rfl) (by rfl) (by decide),[(4,_)],[(4,_)],t1,t1,?_⟩
  refine ex_ret ?_
  refine ⟨.inr rfl,ResVs.cast (.cons (.agg rfl rfl rfl ag26 sz26 (.cons (.cons (.cons (.cons .nil))))) .nil) ?_⟩
  rw [q_add]
theorem qsub_says (a b : Rat) (ha : qw a < 1000000000) (hb : qw b < 1000000000) : Says E 35 [pQ a,pQ b] (pQ (a - b)):=by
 refine says_of (xs:=[pQ (a - b)]) Tryz.func35 rfl Tryz.ntmps35 Tryz.results35 (by simp) fun F hG hX0 hnt hdf P0=>?_
 obtain ⟨L,hX,hN⟩:=pro hnt hX0 hG
 refine exr (swb (c_bx (k:=2) (n:=4) pa4 rfl rfl (P0 _ rfl) (L rfl)) t1 t0 ⟨rfl,rfl⟩ (swb (c_bx (k:=3) (n:=4) pa4 rfl rfl (P0 _ rfl) (L rfl)) t1 t0 ⟨rfl,rfl⟩ (swb (c_al (k:=4) (n:=4) zv26 (.cons rfl (.cons rfl (.cons rfl (.cons rfl .nil)))) rfl (P0 _ rfl) (L rfl)) t0 t0 ⟨rfl,rfl⟩ (zn [(2,_),(3,_),(4,_)] [(2,_),(3,_),(4,_)] t3 t3 (exd (by rfl) ?_)))))
 refine lp4 ag26 sz26 (L rfl) rfl rfl (lp4 ag26 sz26 (L rfl) rfl rfl (cK hG hX cl28 hN (qneg_says b hb) (L rfl) t1 (cK hG hX cl33 hN (qadd_says a (-b) ha (by rw [qw_neg]; exact hb)) (L rfl) t2 ?_)))
 refine sb (c_sm sz26 (by rfl) pa4 rfl pu4) t2 t1 ?_
 refine seq_nil ⟨aoks [⟨[2],[2],[5],[]⟩,⟨[3],[3],[6],[]⟩,⟨[6],[],[7],[]⟩,⟨[5,7],[],[8],[]⟩,⟨[4,8],[4],[],[4]⟩] (by rfl) (by rfl) (by decide),[(4,_)],[(4,_)],t1,t1,?_⟩
 refine ex_ret ?_
 refine ⟨.inr rfl,ResVs.cast (.cons (.agg rfl rfl rfl ag26 sz26 (.cons (.cons (.cons (.cons .nil))))) .nil) ?_⟩
 rw [← Rat.sub_eq_add_neg]
theorem qinv_says (a : Rat) (ha : qw a < 1000000000) (h0 : a ≠ 0) : Says E 67 [pQ a] (pQ a⁻¹):=by
 refine says_of (xs:=[pQ a⁻¹]) Tryz.func67 rfl Tryz.ntmps67 Tryz.results67 (by simp) fun F hG hX0 hnt hdf P0=>?_
 obtain ⟨L,hX,hN⟩:=pro hnt hX0 hG
 have h1:=nw_num_le a
 have h3:=nw_den_le a
 refine exr (swb (c_bx (k:=1) (n:=4) pa4 rfl rfl (P0 _ rfl) (L rfl)) t1 t0 ⟨rfl,rfl⟩ (swb (c_al (k:=2) (n:=4) zv26 (.cons rfl (.cons rfl (.cons rfl (.cons rfl .nil)))) rfl (P0 _ rfl) (L rfl)) t0 t0 ⟨rfl,rfl⟩ (zn [(1,_),(2,_)] [(1,_),(2,_)] t2 t2 (exr (sw (c_fa un26 rfl sz24 (by decide) (by exact rfl) (L rfl)) t1 t1 ?_)))))
 refine lp2 ag24 sz24 (L rfl) rfl rfl (sw (c_fa un26 rfl sz24 (by decide) (by exact rfl) (L rfl)) t1 t1 ?_)
 refine lp2 ag24 sz24 (L rfl) rfl rfl (cK hG hX cl61 hN (overZ a.den a.num (num_ne.2 h0) (by omega) (by omega)) (L rfl) t2 ?_)
 refine sb (c_sm sz26 (by rfl) pa4 rfl pu4) t2 t1 ?_
 refine zn [(2,_)] [(2,_)] t1 t1 (ex_ret ?_)
 refine ⟨.inr rfl,ResVs.cast (.cons (.agg rfl rfl rfl ag26 sz26 (.cons (.cons (.cons (.cons .nil))))) .nil) ?_⟩
 rw [q_inv]
theorem qdiv_says (a b : Rat) (ha : qw a < 1000000000) (hb : qw b < 1000000000) (h0 : b ≠ 0) : Says E 22 [pQ a,pQ b] (.tup [pQ (a / b),vZ 0]):=by
 refine says_of (xs:=[pQ (a / b),vZ 0]) Tryz.func22 rfl Tryz.ntmps22 Tryz.results22 (by simp) fun F hG hX0 hnt hdf P0=>?_
 obtain ⟨L,hX,hN⟩:=pro hnt hX0 hG
 have hi:=qw_inv h0
 refine exr (swb (c_bx (k:=2) (n:=4) pa4 rfl rfl (P0 _ rfl) (L rfl)) t1 t0 ⟨rfl,rfl⟩ (swb (c_bx (k:=3) (n:=4) pa4 rfl rfl (P0 _ rfl) (L rfl)) t1 t0 ⟨rfl,rfl⟩ (swb (c_al (k:=4) (n:=4) zv26 (.cons rfl (.cons rfl (.cons rfl (.cons rfl .nil)))) rfl (P0 _ rfl) (L rfl)) t0 t0 ⟨rfl,rfl⟩ (aV (L rfl) rfl (zn [(2,_),(3,_),(4,_)] [(2,_),(3,_),(4,_)] t3 t3 (ex_seq (exr (lp4 ag26 sz26 (L rfl) rfl rfl (cK hG hX cl24 hN (qsign_says b hb) (L rfl) t1 (sw (c_e (L rfl)) t2 t0 (zn [(2,_),(3,_),(4,_),(8,_)] [(2,_),(3,_),(4,_)] t4 t3 ?_)))))))))))
 refine ex_if rfl (fun hc=>?_) (fun hc=>?_)
 ·have hc:=dt hc
  rw [← q_sign,q_sign0] at hc
  exact absurd hc h0
 ·refine ex_skip (show Exec _ _ _ _ _ from ?_)
  refine exd (by rfl) ?_
  refine lp4 ag26 sz26 (L rfl) rfl rfl (lp4 ag26 sz26 (L rfl) rfl rfl (cK hG hX cl67 hN (qinv_says b hb h0) (L rfl) t1 (cK hG hX cl37 hN (qmul_says a b⁻¹ ha (by omega)) (L rfl) t2 ?_)))
  refine sb (c_sm sz26 (by rfl) pa4 rfl pu4) t2 t1 ?_
  refine aV (L rfl) rfl ?_
  refine seq_nil ⟨aoks [⟨[2],[2],[10],[]⟩,⟨[3],[3],[11],[]⟩,⟨[11],[],[12],[]⟩,⟨[10,12],[],[13],[]⟩,⟨[4,13],[4],[],[4]⟩,⟨[],[],[5],[]⟩] (by rfl) (by rfl) (by decide),[(4,_),(5,_)],[(4,_)],t2,t1,?_⟩
  refine ex_ret ?_
  refine ⟨.inr rfl,ResVs.cast (.cons (.agg rfl rfl rfl ag26 sz26 (.cons (.cons (.cons (.cons .nil))))) (.cons (.tmp rfl) .nil)) ?_⟩
  rw [← Rat.div_def]
theorem qcmp_says (a b : Rat) (ha : qw a < 1000000000) (hb : qw b < 1000000000) : Says E 26 [pQ a,pQ b] (vZ (cmpQ a b)):=by
 refine says_of (xs:=[vZ (cmpQ a b)]) Tryz.func26 rfl Tryz.ntmps26 Tryz.results26 (by simp) fun F hG hX0 hnt hdf P0=>?_
 obtain ⟨L,hX,hN⟩:=pro hnt hX0 hG
 have h1:=nw_num_le a
 have h2:=nw_num_le b
 have h3:=nw_den_le a
 have h4:=nw_den_le b
 have h5:=nw_mul a.num b.den
 have h6:=nw_mul b.num a.den
 refine exr (swb (c_bx (k:=2) (n:=4) pa4 rfl rfl (P0 _ rfl) (L rfl)) t1 t0 ⟨rfl,rfl⟩ (swb (c_bx (k:=3) (n:=4) pa4 rfl rfl (P0 _ rfl) (L rfl)) t1 t0 ⟨rfl,rfl⟩ (aV (L rfl) rfl (zn [(2,_),(3,_)] [(2,_),(3,_)] t2 t2 (ex_seq ?_)))))
 refine exm (sl:=[(12,vb (decide ((a.den : Int) = 1 ∧ (b.den : Int) = 1)))]) (sl0:=[(2,_),(3,_)]) (hb:=[]) (hb0:=[(2,_),(3,_)]) t2 t2 ?_ ?_
 ·by_cases hd : (a.den : Int) = 1
  ·refine sw (c_fa un26 rfl sz24 (by decide) (by exact rfl) (L rfl)) t1 t1 ?_
   refine lp2 ag24 sz24 (L rfl) rfl rfl (cK hG hX cl69 hN (isOneZ a.den (by omega)) (L rfl) t1 ?_)
   refine mV (L rfl) rfl (swg (g:=8) rfl (by simpa using hd) (c_fa un26 rfl sz24 (by decide) (by exact rfl) (L rfl)) rfl t1 t1 ?_)
   refine swg (g:=8) rfl (by simpa using hd) (c_lp ag24 sz24 (by rfl) (by exact al2) rfl (L rfl)) rfl t1 t1 ?_
   refine swg (g:=8) rfl (by simpa using hd) (c_c hG hX cl69 rfl hN (isOneZ b.den (by omega)) (L rfl)) rfl t1 t0 ?_
   refine sw (c_pt (by simpa using hd) (L rfl)) t2 t0 ?_
   exact seq_nil ⟨⟨ob rfl (by simp only [hd,true_and]),rfl,rfl,trivial⟩,t2⟩
  ·refine sw (c_fa un26 rfl sz24 (by decide) (by exact rfl) (L rfl)) t1 t1 ?_
   refine lp2 ag24 sz24 (L rfl) rfl rfl (cK hG hX cl69 hN (isOneZ a.den (by omega)) (L rfl) t1 ?_)
   refine mV (L rfl) rfl (swn (g:=8) rfl (by simpa using hd) (L rfl) rfl ?_)
   refine swn (g:=8) rfl (by simpa using hd) (L rfl) rfl ?_
   refine swn (g:=8) rfl (by simpa using hd) (L rfl) rfl ?_
   refine sw (c_pf (by simpa using hd) (L rfl)) t2 t0 ?_
   exact seq_nil ⟨⟨ob rfl (by simp only [hd,false_and]; rfl),rfl,rfl,trivial⟩,t2⟩
 refine ex_if rfl (fun hc=>?_) (fun hc=>?_)
 ·have hc:=dt hc
  refine exr (sw (c_fa un26 rfl sz24 (by decide) (by exact rfl) (L rfl)) t1 t1 ?_)
  refine lp2 ag24 sz24 (L rfl) rfl rfl (sw (c_fa un26 rfl sz24 (by decide) (by exact rfl) (L rfl)) t1 t1 ?_)
  refine lp2 ag24 sz24 (L rfl) rfl rfl (cK hG hX cl65 hN (cmpZ a.num b.num (by omega) (by omega)) (L rfl) t2 ?_)
  refine aV (L rfl) rfl (zn [(4,_)] [] t1 trivial (ex_ret ?_))
  refine ⟨.inr rfl,ResVs.cast (.cons (.tmp rfl) .nil) ?_⟩
  rw [← q_cmp,hc.1,hc.2,Int.mul_one,Int.mul_one]
 ·refine ex_skip (show Exec _ _ _ _ _ from ?_)
  refine exd (by rfl) ?_
  refine sw (c_fa un26 rfl sz24 (by decide) (by exact rfl) (L rfl)) t1 t1 ?_
  refine lp2 ag24 sz24 (L rfl) rfl rfl (sw (c_fa un26 rfl sz24 (by decide) (by exact rfl) (L rfl)) t1 t1 ?_)
  refine lp2 ag24 sz24 (L rfl) rfl rfl (cK hG hX cl70 hN (mulZ a.num b.den (by omega) (by omega)) (L rfl) t2 ?_)
  refine sw (c_fa un26 rfl sz24 (by decide) (by exact rfl) (L rfl)) t1 t1 ?_
  refine lp2 ag24 sz24 (L rfl) rfl rfl (sw (c_fa un26 rfl sz24 (by decide) (by exact rfl) (L rfl)) t1 t1 ?_)
  refine lp2 ag24 sz24 (L rfl) rfl rfl (cK hG hX cl70 hN (mulZ b.num a.den (by omega) (by omega)) (L rfl) t2 ?_)
  refine cK hG hX cl65 hN (cmpZ (a.num * b.den) (b.num * a.den) (by omega) (by omega)) (L rfl) t2 ?_
  refine aV (L rfl) rfl ?_
  refine seq_nil ⟨aoks [⟨[2],[2],[18],[]⟩,⟨[18],[2],[19],[]⟩,⟨[3],[3],[20],[]⟩,⟨[20],[3],[21],[]⟩,⟨[19,21],[],[22],[]⟩,⟨[3],[3],[23],[]⟩,⟨[23],[3],[24],[]⟩,⟨[2],[2],[25],[]⟩,⟨[25],[2],[26],[]⟩,⟨[24,26],[],[27],[]⟩,⟨[22,27],[],[28],[]⟩,⟨[28],[],[4],[]⟩] (by rfl) (by rfl) (by decide),[(4,_)],[],t1,trivial,?_⟩
  refine ex_ret ?_
  refine ⟨.inr rfl,ResVs.cast (.cons (.tmp rfl) .nil) ?_⟩
  rw [q_cmp]
theorem qis_no (m n : Bool) (ws vs : List Int) (hl : ws.length < 1000000000) (hl2 : vs.length < 1000000000) (hn : ¬ (canon m ws = true ∧ canon n vs = true)) : Says E 19 [pR m ws n vs] (bZ false):=by
 refine says_of (xs:=[bZ false]) Tryz.func19 rfl Tryz.ntmps19 Tryz.results19 (by simp) fun F hG hX0 hnt hdf P0=>?_
 obtain ⟨L,hX,hN⟩:=pro hnt hX0 hG
 refine exr (swb (c_bx (k:=1) (n:=4) pa4 rfl rfl (P0 _ rfl) (L rfl)) t1 t0 ⟨rfl,rfl⟩ (aV (L rfl) rfl (zn [(1,_)] [(1,_)] t1 t1 ?_)))
 refine exm (sl:=[(2,vb false)]) (sl0:=[]) (hb:=[]) (hb0:=[]) t0 t0 ?_ ?_
 ·rcases nand2 hn with h1 | ⟨h1,h2⟩
  ·refine sw (c_fa un26 rfl sz24 (by decide) (by exact rfl) (L rfl)) t1 t1 ?_
   refine lp2 ag24 sz24 (L rfl) rfl rfl (cK hG hX cl59 hN (is_says m ws (by omega)) (L rfl) t1 ?_)
   refine mV (L rfl) rfl (swn (g:=6) rfl (by simpa using h1) (L rfl) rfl ?_)
   refine swn (g:=6) rfl (by simpa using h1) (L rfl) rfl ?_
   refine swn (g:=6) rfl (by simpa using h1) (L rfl) rfl ?_
   refine sw (c_pf (by simpa using h1) (L rfl)) t2 t0 ?_
   refine mV (L rfl) rfl (swn (g:=11) rfl rfl (L rfl) rfl (swn (g:=11) rfl rfl (L rfl) rfl (swn (g:=11) rfl rfl (L rfl) rfl (swn (g:=11) rfl rfl (L rfl) rfl (sw (c_pf rfl (L rfl)) t2 t0 (mV (L rfl) rfl (swn (g:=17) rfl rfl (L rfl) rfl (swn (g:=17) rfl rfl (L rfl) rfl (swn (g:=17) rfl rfl (L rfl) rfl (swn (g:=17) rfl rfl (L rfl) rfl (swn (g:=17) rfl rfl (L rfl) rfl ?_)))))))))))
   refine swn (g:=17) rfl rfl (L rfl) rfl (swn (g:=17) rfl rfl (L rfl) rfl (swn (g:=17) rfl rfl (L rfl) rfl (sw (c_pf rfl (L rfl)) t2 t0 (aV (L rfl) rfl ?_))))
   exact seq_nil ⟨⟨ob rfl rfl,trivial⟩,trivial⟩
  ·refine sw (c_fa un26 rfl sz24 (by decide) (by exact rfl) (L rfl)) t1 t1 ?_
   refine lp2 ag24 sz24 (L rfl) rfl rfl (cK hG hX cl59 hN (is_says m ws (by omega)) (L rfl) t1 ?_)
   refine mV (L rfl) rfl (swg (g:=6) rfl h1 (c_fa un26 rfl sz24 (by decide) (by exact rfl) (L rfl)) rfl t1 t1 ?_)
   refine swg (g:=6) rfl h1 (c_lp ag24 sz24 (by rfl) (by exact al2) rfl (L rfl)) rfl t1 t1 ?_
   refine swg (g:=6) rfl h1 (c_c hG hX cl59 rfl hN (is_says n vs (by omega)) (L rfl)) rfl t1 t0 ?_
   refine sw (c_pt h1 (L rfl)) t2 t0 (mV (L rfl) rfl (swn (g:=11) rfl (by simpa using h2) (L rfl) rfl ?_))
   refine swn (g:=11) rfl (by simpa using h2) (L rfl) rfl ?_
   refine swn (g:=11) rfl (by simpa using h2) (L rfl) rfl ?_
   refine swn (g:=11) rfl (by simpa using h2) (L rfl) rfl ?_
   refine sw (c_pf (by simpa using h2) (L rfl)) t2 t0 ?_
   refine mV (L rfl) rfl (swn (g:=17) rfl rfl (L rfl) rfl (swn (g:=17) rfl rfl (L rfl) rfl (swn (g:=17) rfl rfl (L rfl) rfl (swn (g:=17) rfl rfl (L rfl) rfl (swn (g:=17) rfl rfl (L rfl) rfl (swn (g:=17) rfl rfl (L rfl) rfl (swn (g:=17) rfl rfl (L rfl) rfl (swn (g:=17) rfl rfl (L rfl) rfl (sw (c_pf rfl (L rfl)) t2 t0 (aV (L rfl) rfl ?_))))))))))
   exact seq_nil ⟨⟨ob rfl rfl,trivial⟩,trivial⟩
 refine ex_ret ?_
 refine ⟨.inr rfl,ResVs.cast (.cons (.tmp rfl) .nil) ?_⟩
 rfl
theorem qis_z (a b : Int) (ha : nw a < 1000000000) (hb : nw b < 1000000000) : Says E 19 [pN a b] (bZ (decide (0 < b ∧ (Int.gcd a b : Int) = 1))):=by
 refine says_of (xs:=[bZ (decide (0 < b ∧ (Int.gcd a b : Int) = 1))]) Tryz.func19 rfl Tryz.ntmps19 Tryz.results19 (by simp) fun F hG hX0 hnt hdf P0=>?_
 obtain ⟨L,hX,hN⟩:=pro hnt hX0 hG
 refine exr (swb (c_bx (k:=1) (n:=4) pa4 rfl rfl (P0 _ rfl) (L rfl)) t1 t0 ⟨rfl,rfl⟩ (aV (L rfl) rfl (zn [(1,_)] [(1,_)] t1 t1 ?_)))
 refine exm (sl:=[(2,vb (decide (0 < b ∧ (Int.gcd a b : Int) = 1)))]) (sl0:=[]) (hb:=[]) (hb0:=[]) t0 t0 ?_ ?_
 ·by_cases h1 : 0 < b
  ·refine sw (c_fa un26 rfl sz24 (by decide) (by exact rfl) (L rfl)) t1 t1 ?_
   refine lp2 ag24 sz24 (L rfl) rfl rfl (cK hG hX cl59 hN (isZ a (by omega)) (L rfl) t1 ?_)
   refine mV (L rfl) rfl (swg (g:=6) rfl rfl (c_fa un26 rfl sz24 (by decide) (by exact rfl) (L rfl)) rfl t1 t1 ?_)
   refine swg (g:=6) rfl rfl (c_lp ag24 sz24 (by rfl) (by exact al2) rfl (L rfl)) rfl t1 t1 ?_
   refine swg (g:=6) rfl rfl (c_c hG hX cl59 rfl hN (isZ b (by omega)) (L rfl)) rfl t1 t0 ?_
   refine sw (c_pt rfl (L rfl)) t2 t0 (mV (L rfl) rfl (swg (g:=11) rfl rfl (c_fa un26 rfl sz24 (by decide) (by exact rfl) (L rfl)) rfl t1 t1 ?_))
   refine swg (g:=11) rfl rfl (c_lp ag24 sz24 (by rfl) (by exact al2) rfl (L rfl)) rfl t1 t1 ?_
   refine swg (g:=11) rfl rfl (c_c hG hX cl60 rfl hN (signZ b (by omega)) (L rfl)) rfl t1 t0 ?_
   refine swg (g:=11) rfl rfl (c_gt (L rfl)) rfl t2 t0 (sw (c_pt rfl (L rfl)) t2 t0 (mV (L rfl) rfl (swg (g:=17) rfl (decide_eq_true (sgt.2 h1)) (c_fa un26 rfl sz24 (by decide) (by exact rfl) (L rfl)) rfl t1 t1 ?_)))
   refine swg (g:=17) rfl (decide_eq_true (sgt.2 h1)) (c_lp ag24 sz24 (by rfl) (by exact al2) rfl (L rfl)) rfl t1 t1 ?_
   refine swg (g:=17) rfl (decide_eq_true (sgt.2 h1)) (c_fa un26 rfl sz24 (by decide) (by exact rfl) (L rfl)) rfl t1 t1 ?_
   refine swg (g:=17) rfl (decide_eq_true (sgt.2 h1)) (c_lp ag24 sz24 (by rfl) (by exact al2) rfl (L rfl)) rfl t1 t1 ?_
   refine swg (g:=17) rfl (decide_eq_true (sgt.2 h1)) (c_c hG hX cl66 rfl hN (gcdZ a b (by omega) (by omega)) (L rfl)) rfl t2 t0 ?_
   refine swg (g:=17) rfl (decide_eq_true (sgt.2 h1)) (c_c hG hX cl63 rfl hN one_says (L rfl)) rfl trivial trivial (swg (g:=17) rfl (decide_eq_true (sgt.2 h1)) (c_c hG hX cl65 rfl hN (cmpZ (Int.gcd a b : Int) 1 (gn1 a h1 hb) (by rw [nw_one]; decide)) (L rfl)) rfl t2 t0 ?_)
   refine swg (g:=17) rfl (decide_eq_true (sgt.2 h1)) (c_e (L rfl)) rfl t2 t0 (sw (c_pt (decide_eq_true (sgt.2 h1)) (L rfl)) t2 t0 (aV (L rfl) rfl ?_))
   exact seq_nil ⟨⟨ob rfl (by rw [dec_eq (and_iff_right h1)]; exact dec_eq cmp0),trivial⟩,trivial⟩
  ·refine sw (c_fa un26 rfl sz24 (by decide) (by exact rfl) (L rfl)) t1 t1 ?_
   refine lp2 ag24 sz24 (L rfl) rfl rfl (cK hG hX cl59 hN (isZ a (by omega)) (L rfl) t1 ?_)
   refine mV (L rfl) rfl (swg (g:=6) rfl rfl (c_fa un26 rfl sz24 (by decide) (by exact rfl) (L rfl)) rfl t1 t1 ?_)
   refine swg (g:=6) rfl rfl (c_lp ag24 sz24 (by rfl) (by exact al2) rfl (L rfl)) rfl t1 t1 ?_
   refine swg (g:=6) rfl rfl (c_c hG hX cl59 rfl hN (isZ b (by omega)) (L rfl)) rfl t1 t0 ?_
   refine sw (c_pt rfl (L rfl)) t2 t0 (mV (L rfl) rfl (swg (g:=11) rfl rfl (c_fa un26 rfl sz24 (by decide) (by exact rfl) (L rfl)) rfl t1 t1 ?_))
   refine swg (g:=11) rfl rfl (c_lp ag24 sz24 (by rfl) (by exact al2) rfl (L rfl)) rfl t1 t1 ?_
   refine swg (g:=11) rfl rfl (c_c hG hX cl60 rfl hN (signZ b (by omega)) (L rfl)) rfl t1 t0 ?_
   refine swg (g:=11) rfl rfl (c_gt (L rfl)) rfl t2 t0 (sw (c_pt rfl (L rfl)) t2 t0 (mV (L rfl) rfl (swn (g:=17) rfl (decide_eq_false (mt sgt.1 h1)) (L rfl) rfl (swn (g:=17) rfl (decide_eq_false (mt sgt.1 h1)) (L rfl) rfl (swn (g:=17) rfl (decide_eq_false (mt sgt.1 h1)) (L rfl) rfl (swn (g:=17) rfl (decide_eq_false (mt sgt.1 h1)) (L rfl) rfl (swn (g:=17) rfl (decide_eq_false (mt sgt.1 h1)) (L rfl) rfl (swn (g:=17) rfl (decide_eq_false (mt sgt.1 h1)) (L rfl) rfl (swn (g:=17) rfl (decide_eq_false (mt sgt.1 h1)) (L rfl) rfl (swn (g:=17) rfl (decide_eq_false (mt sgt.1 h1)) (L rfl) rfl (sw (c_pf (decide_eq_false (mt sgt.1 h1)) (L rfl)) t2 t0 ?_)))))))))))
   refine aV (L rfl) rfl ?_
   exact seq_nil ⟨⟨ob rfl (decide_eq_false (fun h=>h1 h.1)).symm,trivial⟩,trivial⟩
 refine ex_ret ?_
 refine ⟨.inr rfl,ResVs.cast (.cons (.tmp rfl) .nil) ?_⟩
 rfl
end Go.Proofs.YtcifhkfpmhifaaaGreatDoor.N
set_option maxRecDepth 100000
set_option maxHeartbeats 4000000
namespace Go.Proofs.YtcifhkfpmhifaaaGreatDoor.N
open Go Go.Proofs.YtcifhkfpmhifaaaGreatDoor.SH Go.Proofs.YtcifhkfpmhifaaaGreatDoor.NumA
open Go.Proofs.Tryz renaming call103 → cl103,call14 → cl14,call15 → cl15,call25 → cl25,call29 → cl29,call30 → cl30,call34 → cl34,call43 → cl43,call44 → cl44,call45 → cl45,call62 → cl62,call64 → cl64,call68 → cl68,call71 → cl71,call73 → cl73,call77 → cl77,isAgg22 → ag22,isAgg24 → ag24,isAgg26 → ag26,isAgg4 → ag4,isAgg68 → ag68,sizeOf22 → sz22,sizeOf24 → sz24,sizeOf26 → sz26,sizeOf4 → sz4,sizeOf68 → sz68,underlying22 → un22,underlying24 → un24,underlying26 → un26,zeroValue24 → zv24,zeroValue26 → zv26
theorem rnegZ (a : Int) (ha : nw a < 999999999999) : Says E 73 [pZ a] (pZ (-a)):=by
 have:=rneg_says (decide (a < 0)) (digs a.natAbs) (by unfold nw at ha; omega) (wd_digs _)
 rwa [if_pos (canon_digs a),sg_digs] at this
theorem risZ (a : Int) (ha : nw a < 999999999999) : Says E 15 [pZ a] (bZ true):=by
 have:=ris_says (decide (a < 0)) (digs a.natAbs) (by unfold nw at ha; omega)
 rwa [canon_digs a] at this
theorem digs_inj {a b : Int} : ((decide (a < 0)) = decide (b < 0) ∧ digs a.natAbs = digs b.natAbs) ↔ a = b:=by
 constructor
 ·rintro ⟨h1,h2⟩
  have:=congrArg val h2
  rw [val_digs,val_digs] at this
  have h1 : a < 0 ↔ b < 0:=by simpa using h1
  omega
 ·rintro rfl; exact ⟨rfl,rfl⟩
theorem rsameZ (a b : Int) (ha : nw a < 999999999999) (hb : nw b < 999999999999) : Says E 30 [pZ a,pZ b] (bZ (decide (a = b))):=by
 have:=rsame_says (decide (a < 0)) (decide (b < 0)) (digs a.natAbs) (digs b.natAbs) (by unfold nw at ha; omega) (by unfold nw at hb; omega)
 rwa [dec_eq digs_inj] at this
theorem risOneZ (n : Int) (h : nw n < 999999999999) : Says E 71 [pZ n] (bZ (decide (n = 1))):=by
 refine says_of (xs:=[bZ (decide (n = 1))]) Tryz.func71 rfl Tryz.ntmps71 Tryz.results71 (by simp) fun F hG hX0 hnt hdf P0=>?_
 obtain ⟨L,hX,hN⟩:=pro hnt hX0 hG
 unfold nw at h
 refine exr (swb (c_bx (k:=1) (n:=2) pa2 rfl rfl (P0 _ rfl) (L rfl)) t1 t0 ⟨rfl,rfl⟩ (aV (L rfl) rfl (zn [(1,_)] [(1,_)] t1 t1 ?_)))
 refine exm (sl:=[(2,vb (decide (n = 1)))]) (sl0:=[]) (hb:=[]) (hb0:=[]) t0 t0 ?_ ?_
 ·rcases one3 n with ⟨h1,h2⟩ | ⟨h1,h2,h3⟩ | ⟨h1,h2,h3⟩
  ·refine sw (c_fa un24 rfl sz22 (by decide) (by exact rfl) (L rfl)) t1 t1 ?_
   refine sw (c_l1 ag22 (by rfl) (by rfl) (L rfl)) t1 t1 ?_
   refine sw (c_ln un22 (L rfl)) t1 t0 (sw (c_e (L rfl)) t2 t0 (mV (L rfl) rfl (swn (g:=7) rfl (by simp; omega) (L rfl) rfl ?_)))
   refine swn (g:=7) rfl (by simp; omega) (L rfl) rfl ?_
   refine swn (g:=7) rfl (by simp; omega) (L rfl) rfl ?_
   refine swn (g:=7) rfl (by simp; omega) (L rfl) rfl ?_
   refine swn (g:=7) rfl (by simp; omega) (L rfl) rfl ?_
   refine sw (c_pf (by simp; omega) (L rfl)) t2 t0 ?_
   refine mV (L rfl) rfl (swn (g:=14) rfl rfl (L rfl) rfl (swn (g:=14) rfl rfl (L rfl) rfl (swn (g:=14) rfl rfl (L rfl) rfl (sw (c_pf rfl (L rfl)) t2 t0 (aV (L rfl) rfl ?_)))))
   exact seq_nil ⟨⟨ob rfl (by simp [h2]),trivial⟩,trivial⟩
  ·refine sw (c_fa un24 rfl sz22 (by decide) (by exact rfl) (L rfl)) t1 t1 ?_
   refine sw (c_l1 ag22 (by rfl) (by rfl) (L rfl)) t1 t1 ?_
   refine sw (c_ln un22 (L rfl)) t1 t0 (sw (c_e (L rfl)) t2 t0 (mV (L rfl) rfl (swg (g:=7) rfl (by simp; omega) (c_fa un24 rfl sz22 (by decide) (by exact rfl) (L rfl)) rfl t1 t1 ?_)))
   refine swg (g:=7) rfl (by simp; omega) (c_l1 ag22 (by rfl) (by rfl) (L rfl)) rfl t1 t1 ?_
   refine swg (g:=7) rfl (by simp; omega) (ixJ un22 sz68 (j:=0) rfl (by omega) (by simp) (L rfl)) rfl t2 t0 ?_
   refine swg (g:=7) rfl (by simp; omega) (c_li ag68 (by first | exact getW (by omega) | rfl) (L rfl)) rfl t1 t0 ?_
   refine swg (g:=7) rfl (by simp; omega) (c_e (L rfl)) rfl t2 t0 ?_
   refine sw (c_pt (by simp; omega) (L rfl)) t2 t0 ?_
   refine mV (L rfl) rfl (swn (g:=14) rfl (by simpa using h2) (L rfl) rfl ?_)
   refine swn (g:=14) rfl (by simpa using h2) (L rfl) rfl ?_
   refine swn (g:=14) rfl (by simpa using h2) (L rfl) rfl ?_
   refine sw (c_pf (by simpa using h2) (L rfl)) t2 t0 ?_
   refine aV (L rfl) rfl ?_
   exact seq_nil ⟨⟨ob rfl (by simp [h3]),trivial⟩,trivial⟩
  ·refine sw (c_fa un24 rfl sz22 (by decide) (by exact rfl) (L rfl)) t1 t1 ?_
   refine sw (c_l1 ag22 (by rfl) (by rfl) (L rfl)) t1 t1 ?_
   refine sw (c_ln un22 (L rfl)) t1 t0 (sw (c_e (L rfl)) t2 t0 (mV (L rfl) rfl (swg (g:=7) rfl (by simp; omega) (c_fa un24 rfl sz22 (by decide) (by exact rfl) (L rfl)) rfl t1 t1 ?_)))
   refine swg (g:=7) rfl (by simp; omega) (c_l1 ag22 (by rfl) (by rfl) (L rfl)) rfl t1 t1 ?_
   refine swg (g:=7) rfl (by simp; omega) (ixJ un22 sz68 (j:=0) rfl (by omega) (by simp) (L rfl)) rfl t2 t0 ?_
   refine swg (g:=7) rfl (by simp; omega) (c_li ag68 (by first | exact getW (by omega) | rfl) (L rfl)) rfl t1 t0 ?_
   refine swg (g:=7) rfl (by simp; omega) (c_e (L rfl)) rfl t2 t0 ?_
   refine sw (c_pt (by simp; omega) (L rfl)) t2 t0 ?_
   refine mV (L rfl) rfl (swg (g:=14) rfl (by simpa using h2) (c_fa un24 rfl sz4 (by decide) (by exact rfl) (L rfl)) rfl t1 t1 ?_)
   refine swg (g:=14) rfl (by simpa using h2) (c_l1 ag4 (by rfl) (by rfl) (L rfl)) rfl t1 t1 ?_
   refine swg (g:=14) rfl (by simpa using h2) (c_no (L rfl)) rfl t1 t0 ?_
   refine sw (c_pt (by simpa using h2) (L rfl)) t2 t0 ?_
   refine aV (L rfl) rfl ?_
   exact seq_nil ⟨⟨ob rfl (by rw [dec_eq h3]; exact (decide_not ..).symm),trivial⟩,trivial⟩
 refine ex_ret ?_
 refine ⟨.inr rfl,ResVs.cast (.cons (.tmp rfl) .nil) ?_⟩
 rfl
theorem rone_says  : Says E 64 [] (pZ 1):=by
 refine says_of (xs:=[pZ 1]) Tryz.func64 rfl Tryz.ntmps64 Tryz.results64 (by simp) fun F hG hX0 hnt hdf P0=>?_
 obtain ⟨L,hX,hN⟩:=pro hnt hX0 hG
 refine exr (swb (c_al (k:=0) (n:=2) zv24 (.cons rfl (.cons rfl .nil)) rfl (P0 _ rfl) (L rfl)) t0 t0 ⟨rfl,rfl⟩ (zn [(0,_)] [(0,_)] t1 t1 (exr (cK hG hX cl45 hN (rof_says 1 (by decide) (by decide)) (L rfl) t1 ?_))))
 refine sb (c_sm sz24 (by rfl) pa2 rfl pu2) t2 t1 ?_
 refine zn [(0,_)] [(0,_)] t1 t1 (ex_ret ?_)
 refine ⟨.inr rfl,ResVs.cast (.cons (.agg rfl rfl rfl ag24 sz24 (.cons (.cons .nil))) .nil) ?_⟩
 rfl
theorem roverZ (n d : Int) (h0 : d ≠ 0) (hn : nw n < 9000000000) (hd : nw d < 9000000000) : Says E 62 [pZ n,pZ d] (pQ (Rat.divInt n d)):=by
 refine says_of (xs:=[pQ (Rat.divInt n d)]) Tryz.func62 rfl Tryz.ntmps62 Tryz.results62 (by simp) fun F hG hX0 hnt hdf P0=>?_
 obtain ⟨L,hX,hN⟩:=pro hnt hX0 hG
 have hg:=gn (n:=n) h0 hd
 have hs:=sgcd_ne (n:=n) h0
 have hw:=sgcd_nw (n:=n) h0
 refine exr (swb (c_bx (k:=2) (n:=2) pa2 rfl rfl (P0 _ rfl) (L rfl)) t1 t0 ⟨rfl,rfl⟩ (swb (c_bx (k:=3) (n:=2) pa2 rfl rfl (P0 _ rfl) (L rfl)) t1 t0 ⟨rfl,rfl⟩ (swb (c_al (k:=4) (n:=4) zv26 (.cons rfl (.cons rfl (.cons rfl (.cons rfl .nil)))) rfl (P0 _ rfl) (L rfl)) t0 t0 ⟨rfl,rfl⟩ (zn [(2,_),(3,_),(4,_)] [(2,_),(3,_),(4,_)] t3 t3 (ex_seq (exr (lp2 ag24 sz24 (L rfl) rfl rfl (cK hG hX cl71 hN (risOneZ d (by omega)) (L rfl) t1 ?_))))))))
 refine zn [(2,_),(3,_),(4,_),(7,_)] [(2,_),(3,_),(4,_)] t4 t3 ?_
 refine ex_if rfl (fun h1=>?_) (fun h1=>?_)
 ·have h1:=dt h1
  refine exr (lp2 ag24 sz24 (L rfl) rfl rfl (lp2 ag24 sz24 (L rfl) rfl rfl (sw (c_bp (vs:=[_,_]) un26 zv26 (.cons rfl (.cons rfl (.cons rfl (.cons rfl .nil)))) ((Places.cons sz24 (Places.cons sz24 Places.nil))).to rfl (.cons rfl pa2 rfl pu2 (.cons rfl pa2 rfl (.skip (.skip pu2)) .nil)) (.cons (.cons (.cons (.cons .nil)))) (L rfl)) t2 t0 (sb (c_sm sz26 (by rfl) pa4 rfl pu4) t2 t1 ?_))))
  refine zn [(4,_)] [(4,_)] t1 t1 (ex_ret ?_)
  refine ⟨.inr rfl,ResVs.cast (.cons (.agg rfl rfl rfl ag26 sz26 (.cons (.cons (.cons (.cons .nil))))) .nil) ?_⟩
  exact congrArg (· :: []) (cN (by rw [h1,divInt_one']; rfl) (by rw [h1,divInt_one']; rfl))
 ·refine ex_skip (show Exec _ _ _ _ _ from ?_)
  refine exr (lp2 ag24 sz24 (L rfl) rfl rfl (lp2 ag24 sz24 (L rfl) rfl rfl (cK hG hX cl44 hN (rgcdZ n d (by omega) (by omega)) (L rfl) t2 ?_)))
  refine swb (c_al (k:=5) (n:=2) zv24 (.cons rfl (.cons rfl .nil)) rfl (P0 _ rfl) (L rfl)) t0 t0 ⟨rfl,rfl⟩ (sb (c_sm sz24 (by rfl) pa2 rfl pu2) t2 t1 ?_)
  refine zn [(2,_),(3,_),(4,_),(5,_)] [(2,_),(3,_),(4,_),(5,_)] t4 t4 (ex_seq ?_)
  refine exm (sl:=[(20,vb (decide ((Int.gcd n d : Int) = 1 ∧ ¬ d < 0)))]) (sl0:=[(2,_),(3,_),(4,_),(5,_)]) (hb:=[]) (hb0:=[(2,_),(3,_),(4,_),(5,_)]) t4 t4 ?_ ?_
  ·by_cases hg1 : (Int.gcd n d : Int) = 1
   ·refine lp2 ag24 sz24 (L rfl) rfl rfl (cK hG hX cl71 hN (risOneZ (Int.gcd n d : Int) (by omega)) (L rfl) t1 ?_)
    refine mV (L rfl) rfl (swg (g:=16) rfl (by simp [hg1]) (c_fa un24 rfl sz4 (by decide) (by exact rfl) (L rfl)) rfl t1 t1 ?_)
    refine swg (g:=16) rfl (by simp [hg1]) (c_l1 ag4 (by rfl) (by rfl) (L rfl)) rfl t1 t1 ?_
    refine swg (g:=16) rfl (by simp [hg1]) (c_no (L rfl)) rfl t1 t0 ?_
    refine sw (c_pt (by simp [hg1]) (L rfl)) t2 t0 ?_
    exact seq_nil ⟨⟨ob rfl (by simp only [hg1,true_and]; exact (decide_not ..).symm),rfl,rfl,rfl,rfl,trivial⟩,t4⟩
   ·refine lp2 ag24 sz24 (L rfl) rfl rfl (cK hG hX cl71 hN (risOneZ (Int.gcd n d : Int) (by omega)) (L rfl) t1 ?_)
    refine mV (L rfl) rfl (swn (g:=16) rfl (by simp [hg1]) (L rfl) rfl ?_)
    refine swn (g:=16) rfl (by simp [hg1]) (L rfl) rfl ?_
    refine swn (g:=16) rfl (by simp [hg1]) (L rfl) rfl ?_
    refine sw (c_pf (by simp [hg1]) (L rfl)) t2 t0 ?_
    exact seq_nil ⟨⟨ob rfl (by simp [hg1]),rfl,rfl,rfl,rfl,trivial⟩,t4⟩
  refine ex_if rfl (fun h2=>?_) (fun h2=>?_)
  ·have h2:=dt h2
   have hh:=sgcd_one (n:=n) (d:=d) (by omega) h2.2
   refine exr (lp2 ag24 sz24 (L rfl) rfl rfl (lp2 ag24 sz24 (L rfl) rfl rfl (sw (c_bp (vs:=[_,_]) un26 zv26 (.cons rfl (.cons rfl (.cons rfl (.cons rfl .nil)))) ((Places.cons sz24 (Places.cons sz24 Places.nil))).to rfl (.cons rfl pa2 rfl pu2 (.cons rfl pa2 rfl (.skip (.skip pu2)) .nil)) (.cons (.cons (.cons (.cons .nil)))) (L rfl)) t2 t0 (sb (c_sm sz26 (by rfl) pa4 rfl pu4) t2 t1 ?_))))
   refine zn [(4,_)] [(4,_)] t1 t1 (ex_ret ?_)
   refine ⟨.inr rfl,ResVs.cast (.cons (.agg rfl rfl rfl ag26 sz26 (.cons (.cons (.cons (.cons .nil))))) .nil) ?_⟩
   exact congrArg (· :: []) (cN (by rw [ovr_num h0,hh,Int.ediv_one]) (by rw [ovr_den h0,hh,Int.ediv_one]))
  ·refine ex_skip (show Exec _ _ _ _ _ from ?_)
   refine ex_seq (exr (lp2 ag24 sz24 (L rfl) rfl rfl (cK hG hX cl43 hN (rsignZ d (by omega)) (L rfl) t1 ?_)))
   refine sw (c_ls (L rfl)) t2 t0 (zn [(2,_),(3,_),(4,_),(5,_),(26,_)] [(2,_),(3,_),(4,_),(5,_)] t5 t4 ?_)
   refine ex_if rfl (fun h4=>?_) (fun h4=>?_)
   ·have h4:=dt h4
    rw [sg0] at h4
    rw [sgn h4] at hs hw
    refine exr0 (lp2 ag24 sz24 (L rfl) rfl rfl (cK hG hX cl73 hN (rnegZ (Int.gcd n d : Int) (by omega)) (L rfl) t1 ?_))
    refine sb (c_sm sz24 (by rfl) pa2 rfl pu2) t2 t1 ?_
    refine seq_nil (exd (by rfl) ?_)
    refine lp2 ag24 sz24 (L rfl) rfl rfl (lp2 ag24 sz24 (L rfl) rfl rfl (cK hG hX cl103 hN (rquoZ n (-(Int.gcd n d : Int)) (by omega) (by omega) hs) (L rfl) t2 ?_))
    refine lp2 ag24 sz24 (L rfl) rfl rfl (lp2 ag24 sz24 (L rfl) rfl rfl (cK hG hX cl103 hN (rquoZ d (-(Int.gcd n d : Int)) (by omega) (by omega) hs) (L rfl) t2 ?_))
    refine sw (c_bp (vs:=[_,_]) un26 zv26 (.cons rfl (.cons rfl (.cons rfl (.cons rfl .nil)))) ((Places.cons sz24 (Places.cons sz24 Places.nil))).to rfl (.cons rfl pa2 rfl pu2 (.cons rfl pa2 rfl (.skip (.skip pu2)) .nil)) (.cons (.cons (.cons (.cons .nil)))) (L rfl)) t2 t0 (sb (c_sm sz26 (by rfl) pa4 rfl pu4) t2 t1 ?_)
    refine seq_nil ⟨aoks [⟨[2],[2],[29],[]⟩,⟨[5],[5],[30],[]⟩,⟨[29,30],[],[31],[]⟩,⟨[3],[3],[32],[]⟩,⟨[5],[5],[33],[]⟩,⟨[32,33],[],[34],[]⟩,⟨[31,34],[],[35],[]⟩,⟨[4,35],[4],[],[4]⟩] (by rfl) (by rfl) (by decide),[(4,_)],[(4,_)],t1,t1,?_⟩
    refine ex_ret ?_
    refine ⟨.inr rfl,ResVs.cast (.cons (.agg rfl rfl rfl ag26 sz26 (.cons (.cons (.cons (.cons .nil))))) .nil) ?_⟩
    exact congrArg (· :: []) (cN (by rw [ovr_num h0,sgn h4]) (by rw [ovr_den h0,sgn h4]))
   ·have h4:=df h4
    rw [sg0] at h4
    rw [sgp h4] at hs hw
    refine ex_skip (show Exec _ _ _ _ _ from ?_)
    refine exd (by rfl) ?_
    refine lp2 ag24 sz24 (L rfl) rfl rfl (lp2 ag24 sz24 (L rfl) rfl rfl (cK hG hX cl103 hN (rquoZ n (Int.gcd n d : Int) (by omega) (by omega) hs) (L rfl) t2 ?_))
    refine lp2 ag24 sz24 (L rfl) rfl rfl (lp2 ag24 sz24 (L rfl) rfl rfl (cK hG hX cl103 hN (rquoZ d (Int.gcd n d : Int) (by omega) (by omega) hs) (L rfl) t2 ?_))
    refine sw (c_bp (vs:=[_,_]) un26 zv26 (.cons rfl (.cons rfl (.cons rfl (.cons rfl .nil)))) ((Places.cons sz24 (Places.cons sz24 Places.nil))).to rfl (.cons rfl pa2 rfl pu2 (.cons rfl pa2 rfl (.skip (.skip pu2)) .nil)) (.cons (.cons (.cons (.cons .nil)))) (L rfl)) t2 t0 (sb (c_sm sz26 (by rfl) pa4 rfl pu4) t2 t1 ?_)
    refine seq_nil ⟨aoks [⟨[2],[2],[29],[]⟩,⟨[5],[5],[30],[]⟩,⟨[29,30],[],[31],[]⟩,⟨[3],[3],[32],[]⟩,⟨[5],[5],[33],[]⟩,⟨[32,33],[],[34],[]⟩,⟨[31,34],[],[35],[]⟩,⟨[4,35],[4],[],[4]⟩] (by rfl) (by rfl) (by decide),[(4,_)],[(4,_)],t1,t1,?_⟩
    refine ex_ret ?_
    refine ⟨.inr rfl,ResVs.cast (.cons (.agg rfl rfl rfl ag26 sz26 (.cons (.cons (.cons (.cons .nil))))) .nil) ?_⟩
    exact congrArg (· :: []) (cN (by rw [ovr_num h0,sgp h4]) (by rw [ovr_den h0,sgp h4]))
theorem rqis_no (m n : Bool) (ws vs : List Int) (hl : ws.length < 1000000000) (hl2 : vs.length < 1000000000) (hn : ¬ (canon m ws = true ∧ canon n vs = true)) : Says E 20 [pR m ws n vs] (bZ false):=by
 refine says_of (xs:=[bZ false]) Tryz.func20 rfl Tryz.ntmps20 Tryz.results20 (by simp) fun F hG hX0 hnt hdf P0=>?_
 obtain ⟨L,hX,hN⟩:=pro hnt hX0 hG
 refine exr (swb (c_bx (k:=1) (n:=4) pa4 rfl rfl (P0 _ rfl) (L rfl)) t1 t0 ⟨rfl,rfl⟩ (aV (L rfl) rfl (zn [(1,_)] [(1,_)] t1 t1 ?_)))
 refine exm (sl:=[(2,vb false)]) (sl0:=[]) (hb:=[]) (hb0:=[]) t0 t0 ?_ ?_
 ·rcases nand2 hn with h1 | ⟨h1,h2⟩
  ·refine sw (c_fa un26 rfl sz24 (by decide) (by exact rfl) (L rfl)) t1 t1 ?_
   refine lp2 ag24 sz24 (L rfl) rfl rfl (cK hG hX cl15 hN (ris_says m ws (by omega)) (L rfl) t1 ?_)
   refine mV (L rfl) rfl (swn (g:=6) rfl (by simpa using h1) (L rfl) rfl ?_)
   refine swn (g:=6) rfl (by simpa using h1) (L rfl) rfl ?_
   refine swn (g:=6) rfl (by simpa using h1) (L rfl) rfl ?_
   refine sw (c_pf (by simpa using h1) (L rfl)) t2 t0 ?_
   refine mV (L rfl) rfl (swn (g:=11) rfl rfl (L rfl) rfl (swn (g:=11) rfl rfl (L rfl) rfl (swn (g:=11) rfl rfl (L rfl) rfl (swn (g:=11) rfl rfl (L rfl) rfl (sw (c_pf rfl (L rfl)) t2 t0 (mV (L rfl) rfl (swn (g:=17) rfl rfl (L rfl) rfl (swn (g:=17) rfl rfl (L rfl) rfl (swn (g:=17) rfl rfl (L rfl) rfl (swn (g:=17) rfl rfl (L rfl) rfl (swn (g:=17) rfl rfl (L rfl) rfl ?_)))))))))))
   refine swn (g:=17) rfl rfl (L rfl) rfl (swn (g:=17) rfl rfl (L rfl) rfl (sw (c_pf rfl (L rfl)) t2 t0 (aV (L rfl) rfl ?_)))
   exact seq_nil ⟨⟨ob rfl rfl,trivial⟩,trivial⟩
  ·refine sw (c_fa un26 rfl sz24 (by decide) (by exact rfl) (L rfl)) t1 t1 ?_
   refine lp2 ag24 sz24 (L rfl) rfl rfl (cK hG hX cl15 hN (ris_says m ws (by omega)) (L rfl) t1 ?_)
   refine mV (L rfl) rfl (swg (g:=6) rfl h1 (c_fa un26 rfl sz24 (by decide) (by exact rfl) (L rfl)) rfl t1 t1 ?_)
   refine swg (g:=6) rfl h1 (c_lp ag24 sz24 (by rfl) (by exact al2) rfl (L rfl)) rfl t1 t1 ?_
   refine swg (g:=6) rfl h1 (c_c hG hX cl15 rfl hN (ris_says n vs (by omega)) (L rfl)) rfl t1 t0 ?_
   refine sw (c_pt h1 (L rfl)) t2 t0 (mV (L rfl) rfl (swn (g:=11) rfl (by simpa using h2) (L rfl) rfl ?_))
   refine swn (g:=11) rfl (by simpa using h2) (L rfl) rfl ?_
   refine swn (g:=11) rfl (by simpa using h2) (L rfl) rfl ?_
   refine swn (g:=11) rfl (by simpa using h2) (L rfl) rfl ?_
   refine sw (c_pf (by simpa using h2) (L rfl)) t2 t0 ?_
   refine mV (L rfl) rfl (swn (g:=17) rfl rfl (L rfl) rfl (swn (g:=17) rfl rfl (L rfl) rfl (swn (g:=17) rfl rfl (L rfl) rfl (swn (g:=17) rfl rfl (L rfl) rfl (swn (g:=17) rfl rfl (L rfl) rfl (swn (g:=17) rfl rfl (L rfl) rfl (swn (g:=17) rfl rfl (L rfl) rfl (sw (c_pf rfl (L rfl)) t2 t0 (aV (L rfl) rfl ?_)))))))))
   exact seq_nil ⟨⟨ob rfl rfl,trivial⟩,trivial⟩
 refine ex_ret ?_
 refine ⟨.inr rfl,ResVs.cast (.cons (.tmp rfl) .nil) ?_⟩
 rfl
theorem rqis_z (a b : Int) (ha : nw a < 1000000000) (hb : nw b < 1000000000) : Says E 20 [pN a b] (bZ (decide (0 < b ∧ (Int.gcd a b : Int) = 1))):=by
 refine says_of (xs:=[bZ (decide (0 < b ∧ (Int.gcd a b : Int) = 1))]) Tryz.func20 rfl Tryz.ntmps20 Tryz.results20 (by simp) fun F hG hX0 hnt hdf P0=>?_
 obtain ⟨L,hX,hN⟩:=pro hnt hX0 hG
 refine exr (swb (c_bx (k:=1) (n:=4) pa4 rfl rfl (P0 _ rfl) (L rfl)) t1 t0 ⟨rfl,rfl⟩ (aV (L rfl) rfl (zn [(1,_)] [(1,_)] t1 t1 ?_)))
 refine exm (sl:=[(2,vb (decide (0 < b ∧ (Int.gcd a b : Int) = 1)))]) (sl0:=[]) (hb:=[]) (hb0:=[]) t0 t0 ?_ ?_
 ·by_cases h1 : 0 < b
  ·refine sw (c_fa un26 rfl sz24 (by decide) (by exact rfl) (L rfl)) t1 t1 ?_
   refine lp2 ag24 sz24 (L rfl) rfl rfl (cK hG hX cl15 hN (risZ a (by omega)) (L rfl) t1 ?_)
   refine mV (L rfl) rfl (swg (g:=6) rfl rfl (c_fa un26 rfl sz24 (by decide) (by exact rfl) (L rfl)) rfl t1 t1 ?_)
   refine swg (g:=6) rfl rfl (c_lp ag24 sz24 (by rfl) (by exact al2) rfl (L rfl)) rfl t1 t1 ?_
   refine swg (g:=6) rfl rfl (c_c hG hX cl15 rfl hN (risZ b (by omega)) (L rfl)) rfl t1 t0 ?_
   refine sw (c_pt rfl (L rfl)) t2 t0 (mV (L rfl) rfl (swg (g:=11) rfl rfl (c_fa un26 rfl sz24 (by decide) (by exact rfl) (L rfl)) rfl t1 t1 ?_))
   refine swg (g:=11) rfl rfl (c_lp ag24 sz24 (by rfl) (by exact al2) rfl (L rfl)) rfl t1 t1 ?_
   refine swg (g:=11) rfl rfl (c_c hG hX cl43 rfl hN (rsignZ b (by omega)) (L rfl)) rfl t1 t0 ?_
   refine swg (g:=11) rfl rfl (c_gt (L rfl)) rfl t2 t0 (sw (c_pt rfl (L rfl)) t2 t0 (mV (L rfl) rfl (swg (g:=17) rfl (decide_eq_true (sgt.2 h1)) (c_fa un26 rfl sz24 (by decide) (by exact rfl) (L rfl)) rfl t1 t1 ?_)))
   refine swg (g:=17) rfl (decide_eq_true (sgt.2 h1)) (c_lp ag24 sz24 (by rfl) (by exact al2) rfl (L rfl)) rfl t1 t1 ?_
   refine swg (g:=17) rfl (decide_eq_true (sgt.2 h1)) (c_fa un26 rfl sz24 (by decide) (by exact rfl) (L rfl)) rfl t1 t1 ?_
   refine swg (g:=17) rfl (decide_eq_true (sgt.2 h1)) (c_lp ag24 sz24 (by rfl) (by exact al2) rfl (L rfl)) rfl t1 t1 ?_
   refine swg (g:=17) rfl (decide_eq_true (sgt.2 h1)) (c_c hG hX cl44 rfl hN (rgcdZ a b (by omega) (by omega)) (L rfl)) rfl t2 t0 ?_
   refine swg (g:=17) rfl (decide_eq_true (sgt.2 h1)) (c_c hG hX cl64 rfl hN rone_says (L rfl)) rfl trivial trivial (swg (g:=17) rfl (decide_eq_true (sgt.2 h1)) (c_c hG hX cl30 rfl hN (rsameZ (Int.gcd a b : Int) 1 (gn1 a h1 hb) (by rw [nw_one]; decide)) (L rfl)) rfl t2 t0 ?_)
   refine sw (c_pt (decide_eq_true (sgt.2 h1)) (L rfl)) t2 t0 (aV (L rfl) rfl ?_)
   exact seq_nil ⟨⟨ob rfl (by rw [dec_eq (and_iff_right h1)]),trivial⟩,trivial⟩
  ·refine sw (c_fa un26 rfl sz24 (by decide) (by exact rfl) (L rfl)) t1 t1 ?_
   refine lp2 ag24 sz24 (L rfl) rfl rfl (cK hG hX cl15 hN (risZ a (by omega)) (L rfl) t1 ?_)
   refine mV (L rfl) rfl (swg (g:=6) rfl rfl (c_fa un26 rfl sz24 (by decide) (by exact rfl) (L rfl)) rfl t1 t1 ?_)
   refine swg (g:=6) rfl rfl (c_lp ag24 sz24 (by rfl) (by exact al2) rfl (L rfl)) rfl t1 t1 ?_
   refine swg (g:=6) rfl rfl (c_c hG hX cl15 rfl hN (risZ b (by omega)) (L rfl)) rfl t1 t0 ?_
   refine sw (c_pt rfl (L rfl)) t2 t0 (mV (L rfl) rfl (swg (g:=11) rfl rfl (c_fa un26 rfl sz24 (by decide) (by exact rfl) (L rfl)) rfl t1 t1 ?_))
   refine swg (g:=11) rfl rfl (c_lp ag24 sz24 (by rfl) (by exact al2) rfl (L rfl)) rfl t1 t1 ?_
   refine swg (g:=11) rfl rfl (c_c hG hX cl43 rfl hN (rsignZ b (by omega)) (L rfl)) rfl t1 t0 ?_
   refine swg (g:=11) rfl rfl (c_gt (L rfl)) rfl t2 t0 (sw (c_pt rfl (L rfl)) t2 t0 (mV (L rfl) rfl (swn (g:=17) rfl (decide_eq_false (mt sgt.1 h1)) (L rfl) rfl (swn (g:=17) rfl (decide_eq_false (mt sgt.1 h1)) (L rfl) rfl (swn (g:=17) rfl (decide_eq_false (mt sgt.1 h1)) (L rfl) rfl (swn (g:=17) rfl (decide_eq_false (mt sgt.1 h1)) (L rfl) rfl (swn (g:=17) rfl (decide_eq_false (mt sgt.1 h1)) (L rfl) rfl (swn (g:=17) rfl (decide_eq_false (mt sgt.1 h1)) (L rfl) rfl (swn (g:=17) rfl (decide_eq_false (mt sgt.1 h1)) (L rfl) rfl (sw (c_pf (decide_eq_false (mt sgt.1 h1)) (L rfl)) t2 t0 (aV (L rfl) rfl ?_)))))))))))
   exact seq_nil ⟨⟨ob rfl (decide_eq_false (fun h=>h1 h.1)).symm,trivial⟩,trivial⟩
 refine ex_ret ?_
 refine ⟨.inr rfl,ResVs.cast (.cons (.tmp rfl) .nil) ?_⟩
 rfl
theorem rmake_says (n d : Int) (h0 : d ≠ 0) (hn : nw n < 9000000000) (hd : nw d < 9000000000) : Says E 14 [pZ n,pZ d] (.tup [pQ (Rat.divInt n d),vZ 0]):=by
 refine says_of (xs:=[pQ (Rat.divInt n d),vZ 0]) Tryz.func14 rfl Tryz.ntmps14 Tryz.results14 (by simp) fun F hG hX0 hnt hdf P0=>?_
 obtain ⟨L,hX,hN⟩:=pro hnt hX0 hG
 refine exr (swb (c_bx (k:=2) (n:=2) pa2 rfl rfl (P0 _ rfl) (L rfl)) t1 t0 ⟨rfl,rfl⟩ (swb (c_bx (k:=3) (n:=2) pa2 rfl rfl (P0 _ rfl) (L rfl)) t1 t0 ⟨rfl,rfl⟩ (swb (c_al (k:=4) (n:=4) zv26 (.cons rfl (.cons rfl (.cons rfl (.cons rfl .nil)))) rfl (P0 _ rfl) (L rfl)) t0 t0 ⟨rfl,rfl⟩ (aV (L rfl) rfl (zn [(2,_),(3,_),(4,_)] [(2,_),(3,_),(4,_)] t3 t3 (ex_seq (exr (lp2 ag24 sz24 (L rfl) rfl rfl (cK hG hX cl15 hN (risZ n (by omega)) (L rfl) t1 ?_)))))))))
 refine sw (c_no (L rfl)) t1 t0 (mV (L rfl) rfl (swg (g:=9) rfl rfl (c_lp ag24 sz24 (by rfl) (by exact al2) rfl (L rfl)) rfl t1 t1 ?_))
 refine swg (g:=9) rfl rfl (c_c hG hX cl15 rfl hN (risZ d (by omega)) (L rfl)) rfl t1 t0 ?_
 refine swg (g:=9) rfl rfl (c_no (L rfl)) rfl t1 t0 (sw (c_pf rfl (L rfl)) t2 t0 (zn [(2,_),(3,_),(4,_),(13,_)] [(2,_),(3,_),(4,_)] t4 t3 ?_))
 refine ex_if rfl (fun hc=>?_) (fun hc=>?_)
 ·cases hc
 ·refine ex_skip (show Exec _ _ _ _ _ from ?_)
  refine ex_seq (exr (lp2 ag24 sz24 (L rfl) rfl rfl (cK hG hX cl43 hN (rsignZ d (by omega)) (L rfl) t1 ?_)))
  refine sw (c_e (L rfl)) t2 t0 (zn [(2,_),(3,_),(4,_),(17,_)] [(2,_),(3,_),(4,_)] t4 t3 ?_)
  refine ex_if rfl (fun hz=>?_) (fun hz=>?_)
  ·have hz:=dt hz
   exact absurd (Int.sign_eq_zero_iff_zero.1 hz) h0
  ·refine ex_skip (show Exec _ _ _ _ _ from ?_)
   refine exr (lp2 ag24 sz24 (L rfl) rfl rfl (lp2 ag24 sz24 (L rfl) rfl rfl (cK hG hX cl62 hN (roverZ n d h0 hn hd) (L rfl) t2 (sb (c_sm sz26 (by rfl) pa4 rfl pu4) t2 t1 ?_))))
   refine aV (L rfl) rfl (zn [(4,_),(5,_)] [(4,_)] t2 t1 (ex_ret ?_))
   refine ⟨.inr rfl,ResVs.cast (.cons (.agg rfl rfl rfl ag26 sz26 (.cons (.cons (.cons (.cons .nil))))) (.cons (.tmp rfl) .nil)) ?_⟩
   rfl
theorem nw64 {n : Int} (h : -9223372036854775808 ≤ n) (h1 : n < 9223372036854775808) : nw n ≤ 2:=nw_le (by omega)
theorem rqof_says (n d : Int) (h : -9223372036854775808 ≤ n) (h1 : n < 9223372036854775808) (h2 : -9223372036854775808 ≤ d) (h3 : d < 9223372036854775808) (h0 : d ≠ 0) : Says E 12 [vZ n,vZ d] (.tup [pQ (Rat.divInt n d),vZ 0]):=by
 refine says_of (xs:=[pQ (Rat.divInt n d),vZ 0]) Tryz.func12 rfl Tryz.ntmps12 Tryz.results12 (by simp) fun F hG hX0 hnt hdf P0=>?_
 obtain ⟨L,hX,hN⟩:=pro hnt hX0 hG
 have k1:=nw64 h h1
 have k2:=nw64 h2 h3
 refine exr (swb (c_al (k:=4) (n:=4) zv26 (.cons rfl (.cons rfl (.cons rfl (.cons rfl .nil)))) rfl (P0 _ rfl) (L rfl)) t0 t0 ⟨rfl,rfl⟩ (aV (L rfl) rfl (zn [(0,_),(1,_),(4,_)] [(4,_)] t3 t1 (exr (mV (L rfl) rfl (cK hG hX cl45 hN (rof_says n h h1) (L rfl) t1 (mV (L rfl) rfl (cK hG hX cl45 hN (rof_says d h2 h3) (L rfl) t1 (cK hG hX cl14 hN (rmake_says n d h0 (by omega) (by omega)) (L rfl) t2 ?_)))))))))
 refine sw (c_ex rfl (L rfl)) t1 t0 (sw (c_ex rfl (L rfl)) t1 t0 (sb (c_sm sz26 (by rfl) pa4 rfl pu4) t2 t1 ?_))
 refine aV (L rfl) rfl (zn [(4,_),(5,_)] [(4,_)] t2 t1 (ex_ret ?_))
 refine ⟨.inr rfl,ResVs.cast (.cons (.agg rfl rfl rfl ag26 sz26 (.cons (.cons (.cons (.cons .nil))))) (.cons (.tmp rfl) .nil)) ?_⟩
 rfl
end Go.Proofs.YtcifhkfpmhifaaaGreatDoor.N
set_option maxRecDepth 100000
set_option maxHeartbeats 4000000
namespace Go.Proofs.YtcifhkfpmhifaaaGreatDoor.N
open Go Go.Proofs.YtcifhkfpmhifaaaGreatDoor.SH Go.Proofs.YtcifhkfpmhifaaaGreatDoor.NumA
open Go.Proofs.Tryz renaming call12 → cl12,call13 → cl13,call14 → cl14,call15 → cl15,call18 → cl18,call43 → cl43,call45 → cl45,call58 → cl58,call59 → cl59,call60 → cl60,call61 → cl61,call64 → cl64,call74 → cl74,call75 → cl75,isAgg24 → ag24,isAgg26 → ag26,sizeOf24 → sz24,sizeOf26 → sz26,underlying26 → un26,zeroValue24 → zv24,zeroValue26 → zv26
@[reducible] def cQ (a : Rat) : List Pure:=[.a (.bool (decide (a.num < 0))),.sl (digs a.num.natAbs).length (encW (digs a.num.natAbs)),.a (.bool (decide ((a.den : Int) < 0))),.sl (digs (a.den : Int).natAbs).length (encW (digs (a.den : Int).natAbs))]
def encQ : List Rat → List Pure
 | []=>[]
 | a :: v=>cQ a ++ encQ v
@[simp] theorem encQ_length : ∀ v : List Rat,(encQ v).length = v.length * 4
 | []=>rfl
 | a :: v=>by simp only [encQ,List.length_append,encQ_length v,cQ,List.length_cons,List.length_nil]; omega
theorem getQ : ∀ {v : List Rat} {i : Nat},i < v.length → ((encQ v).drop (i * 4)).take 4 = cQ (v.getD i 0)
 | [],i,h=>by simp at h
 | a :: v,0,_=>by simp [encQ,cQ]
 | a :: v,i + 1,h=>by
  have:=getQ (v:=v) (i:=i) (by simpa using h)
  rw [show (i + 1) * 4 = i * 4 + 1 + 1 + 1 + 1 by omega]
  simp only [encQ,cQ,List.cons_append,List.nil_append,List.drop_succ_cons,List.getD_cons_succ]
  exact this
@[reducible] def pV (v : List Rat) : Pure:=.sl v.length (encQ v)
structure RQ where
 m : Bool
 ws : List Int
 n : Bool
 vs : List Int
instance : Inhabited RQ:=⟨⟨false,[],false,[]⟩⟩
def RQ.of (a : Rat) : RQ:=⟨decide (a.num < 0),digs a.num.natAbs,decide ((a.den : Int) < 0),digs (a.den : Int).natAbs⟩
def RQ.is (r : RQ) : Bool:=canon r.m r.ws && (canon r.n r.vs && decide (0 < sg r.n (val r.vs) ∧ (Int.gcd (sg r.m (val r.ws)) (sg r.n (val r.vs)) : Int) = 1))
def RQ.wd (r : RQ) : Prop:=Wd r.ws ∧ Wd r.vs
theorem sg_of (n : Int) : sg (decide (n < 0)) (val (digs n.natAbs)) = n:=by
 rw [val_digs]; unfold sg; split <;> rename_i h <;> simp at h <;> omega
theorem RQ.is_of (a : Rat) : (RQ.of a).is = true:=by
 simp only [RQ.is,RQ.of,canon_digs,sg_of,Bool.true_and,decide_eq_true_eq]
 refine ⟨by exact_mod_cast a.den_pos,?_⟩
 have:=a.reduced
 unfold Nat.Coprime at this
 unfold Int.gcd
 exact_mod_cast this
@[reducible] def cR (r : RQ) : List Pure:=[.a (.bool r.m),.sl r.ws.length (encW r.ws),.a (.bool r.n),.sl r.vs.length (encW r.vs)]
theorem qis_says {r : RQ} (hw : r.wd) (hl : r.ws.length < 1000000000) (hl2 : r.vs.length < 1000000000) : Says E 19 [.agg (cR r)] (bZ r.is):=by
 obtain ⟨m,ws,n,vs⟩:=r
 by_cases h : canon m ws = true ∧ canon n vs = true
 ·obtain ⟨e1,e2⟩:=canon_eq hw.1 h.1
  obtain ⟨e3,e4⟩:=canon_eq hw.2 h.2
  have:=qis_z (sg m (val ws)) (sg n (val vs)) (by unfold nw; simp only at e2 hl; rw [e2]; exact hl) (by unfold nw; simp only at e4 hl2; rw [e4]; exact hl2)
  rw [pN,e1,e2,e3,e4] at this
  rw [RQ.is,show canon (RQ.mk m ws n vs).m (RQ.mk m ws n vs).ws = true from h.1,show canon (RQ.mk m ws n vs).n (RQ.mk m ws n vs).vs = true from h.2]
  exact this
 ·have:=qis_no m n ws vs hl hl2 h
  have e : (RQ.mk m ws n vs).is = false:=by
   rw [RQ.is,Bool.eq_false_iff]; simp only [Bool.and_eq_true,ne_eq]; exact fun hh=>h ⟨hh.1,hh.2.1⟩
  rw [e]; exact this
theorem rqis_says {r : RQ} (hw : r.wd) (hl : r.ws.length < 1000000000) (hl2 : r.vs.length < 1000000000) : Says E 20 [.agg (cR r)] (bZ r.is):=by
 obtain ⟨m,ws,n,vs⟩:=r
 by_cases h : canon m ws = true ∧ canon n vs = true
 ·obtain ⟨e1,e2⟩:=canon_eq hw.1 h.1
  obtain ⟨e3,e4⟩:=canon_eq hw.2 h.2
  have:=rqis_z (sg m (val ws)) (sg n (val vs)) (by unfold nw; simp only at e2 hl; rw [e2]; exact hl) (by unfold nw; simp only at e4 hl2; rw [e4]; exact hl2)
  rw [pN,e1,e2,e3,e4] at this
  rw [RQ.is,show canon (RQ.mk m ws n vs).m (RQ.mk m ws n vs).ws = true from h.1,show canon (RQ.mk m ws n vs).n (RQ.mk m ws n vs).vs = true from h.2]
  exact this
 ·have:=rqis_no m n ws vs hl hl2 h
  have e : (RQ.mk m ws n vs).is = false:=by
   rw [RQ.is,Bool.eq_false_iff]; simp only [Bool.and_eq_true,ne_eq]; exact fun hh=>h ⟨hh.1,hh.2.1⟩
  rw [e]; exact this
def RQ.sm (r : RQ) : Prop:=r.wd ∧ r.ws.length < 1000000000 ∧ r.vs.length < 1000000000
theorem RQ.sm_of {a : Rat} (h : qw a < 1000000000) : (RQ.of a).sm:=by
 have h1:=nw_num_le a
 have h2:=nw_den_le a
 exact ⟨⟨wd_digs _,wd_digs _⟩,by show nw a.num < _; omega,by show nw (a.den : Int) < _; omega⟩
def R0 : RQ:=⟨false,[],false,[]⟩
def mkE (a b : Bool × List Int) : Int:=if canon a.1 a.2 = true ∧ canon b.1 b.2 = true then (if sg b.1 (val b.2) = 0 then 5 else 0) else 3
def mkR (a b : Bool × List Int) : RQ:=if mkE a b = 0 then RQ.of (Rat.divInt (sg a.1 (val a.2)) (sg b.1 (val b.2))) else R0
theorem make_no (m n : Bool) (ws vs : List Int) (hl : ws.length < 1000000000) (hl2 : vs.length < 1000000000) (hn : ¬ (canon m ws = true ∧ canon n vs = true)) : Says E 13 [pI m ws,pI n vs] (.tup [.agg (cR R0),vZ 3]):=by
 refine says_of (xs:=[.agg (cR R0),vZ 3]) Tryz.func13 rfl Tryz.ntmps13 Tryz.results13 (by simp) fun F hG hX0 hnt hdf P0=>?_
 obtain ⟨L,hX,hN⟩:=pro hnt hX0 hG
 refine exr (swb (c_bx (k:=2) (n:=2) pa2 rfl rfl (P0 _ rfl) (L rfl)) t1 t0 ⟨rfl,rfl⟩ (swb (c_bx (k:=3) (n:=2) pa2 rfl rfl (P0 _ rfl) (L rfl)) t1 t0 ⟨rfl,rfl⟩ (swb (c_al (k:=4) (n:=4) zv26 (.cons rfl (.cons rfl (.cons rfl (.cons rfl .nil)))) rfl (P0 _ rfl) (L rfl)) t0 t0 ⟨rfl,rfl⟩ (aV (L rfl) rfl (zn [(2,_),(3,_),(4,_)] [(2,_),(3,_),(4,_)] t3 t3 (ex_seq (ex_block ?_)))))))
 refine exm (sl:=[(6,vb true)]) (sl0:=[(2,_),(3,_),(4,_)]) (hb:=[]) (hb0:=[(2,_),(3,_),(4,_)]) t3 t3 ?_ ?_
 ·rcases nand2 hn with h1 | ⟨h1,h2⟩
  ·refine lp2 ag24 sz24 (L rfl) rfl rfl (cK hG hX cl59 hN (is_says m ws (by omega)) (L rfl) t1 ?_)
   refine sw (c_no (L rfl)) t1 t0 (mV (L rfl) rfl (swn (g:=10) rfl (by simpa using h1) (L rfl) rfl ?_))
   refine swn (g:=10) rfl (by simpa using h1) (L rfl) rfl ?_
   refine swn (g:=10) rfl (by simpa using h1) (L rfl) rfl ?_
   refine sw (c_pt (by simpa using h1) (L rfl)) t2 t0 ?_
   refine aV (L rfl) rfl ?_
   exact seq_nil ⟨⟨ob rfl rfl,rfl,rfl,rfl,trivial⟩,t3⟩
  ·refine lp2 ag24 sz24 (L rfl) rfl rfl (cK hG hX cl59 hN (is_says m ws (by omega)) (L rfl) t1 ?_)
   refine sw (c_no (L rfl)) t1 t0 (mV (L rfl) rfl (swg (g:=10) rfl (by simpa using h1) (c_lp ag24 sz24 (by rfl) (by exact al2) rfl (L rfl)) rfl t1 t1 ?_))
   refine swg (g:=10) rfl (by simpa using h1) (c_c hG hX cl59 rfl hN (is_says n vs (by omega)) (L rfl)) rfl t1 t0 ?_
   refine swg (g:=10) rfl (by simpa using h1) (c_no (L rfl)) rfl t1 t0 ?_
   refine sw (c_pf (by simpa using h1) (L rfl)) t2 t0 ?_
   refine aV (L rfl) rfl ?_
   exact seq_nil ⟨⟨ob rfl (by simpa using h2),rfl,rfl,rfl,trivial⟩,t3⟩
 refine ex_if rfl (fun hc=>?_) (fun hc=>?_)
 ·refine exr (sw (c_pc (c_bp (vs:=[]) un26 zv26 (.cons rfl (.cons rfl (.cons rfl (.cons rfl .nil)))) ((Places.cons sz24 (Places.cons sz24 Places.nil))).to rfl .nil (.cons (.cons (.cons (.cons .nil)))) (L rfl)) (.agg (.cons .same (.cons .nil (.cons .same (.cons .nil .nil)))))) t0 t0 (sb (c_sm sz26 (by rfl) pa4 rfl pu4) t2 t1 ?_))
  refine aV (L rfl) rfl (zn [(4,_),(5,_)] [(4,_)] t2 t1 (ex_ret ?_))
  refine ⟨.inr rfl,ResVs.cast (.cons (.agg rfl rfl rfl ag26 sz26 (.cons (.cons (.cons (.cons .nil))))) (.cons (.tmp rfl) .nil)) ?_⟩
  rfl
 ·cases hc
theorem make_z0 (a : Int) (ha : nw a < 1000000000) : Says E 13 [pZ a,pZ 0] (.tup [.agg (cR R0),vZ 5]):=by
 refine says_of (xs:=[.agg (cR R0),vZ 5]) Tryz.func13 rfl Tryz.ntmps13 Tryz.results13 (by simp) fun F hG hX0 hnt hdf P0=>?_
 obtain ⟨L,hX,hN⟩:=pro hnt hX0 hG
 refine exr (swb (c_bx (k:=2) (n:=2) pa2 rfl rfl (P0 _ rfl) (L rfl)) t1 t0 ⟨rfl,rfl⟩ (swb (c_bx (k:=3) (n:=2) pa2 rfl rfl (P0 _ rfl) (L rfl)) t1 t0 ⟨rfl,rfl⟩ (swb (c_al (k:=4) (n:=4) zv26 (.cons rfl (.cons rfl (.cons rfl (.cons rfl .nil)))) rfl (P0 _ rfl) (L rfl)) t0 t0 ⟨rfl,rfl⟩ (aV (L rfl) rfl (zn [(2,_),(3,_),(4,_)] [(2,_),(3,_),(4,_)] t3 t3 (ex_seq (ex_block (exr (lp2 ag24 sz24 (L rfl) rfl rfl (cK hG hX cl59 hN (isZ a (by omega)) (L rfl) t1 ?_))))))))))
 refine sw (c_no (L rfl)) t1 t0 (mV (L rfl) rfl (swg (g:=10) rfl rfl (c_lp ag24 sz24 (by rfl) (by exact al2) rfl (L rfl)) rfl t1 t1 ?_))
 refine swg (g:=10) rfl rfl (c_c hG hX cl59 rfl hN (isZ 0 (by rw [nw_zero.2 rfl]; decide)) (L rfl)) rfl t1 t0 ?_
 refine swg (g:=10) rfl rfl (c_no (L rfl)) rfl t1 t0 (sw (c_pf rfl (L rfl)) t2 t0 (aV (L rfl) rfl (zn [(2,_),(3,_),(4,_),(6,_)] [(2,_),(3,_),(4,_)] t4 t3 ?_)))
 refine ex_if rfl (fun hc=>?_) (fun hc=>?_)
 ·cases hc
 ·refine exr (lp2 ag24 sz24 (L rfl) rfl rfl (cK hG hX cl60 hN (signZ 0 (by rw [nw_zero.2 rfl]; decide)) (L rfl) t1 ?_))
  refine sw (c_e (L rfl)) t2 t0 (aV (L rfl) rfl (zn [(2,_),(3,_),(4,_),(16,_)] [(2,_),(3,_),(4,_)] t4 t3 ?_))
  refine ex_if rfl (fun hz=>?_) (fun hz=>?_)
  ·refine exr (sw (c_pc (c_bp (vs:=[]) un26 zv26 (.cons rfl (.cons rfl (.cons rfl (.cons rfl .nil)))) ((Places.cons sz24 (Places.cons sz24 Places.nil))).to rfl .nil (.cons (.cons (.cons (.cons .nil)))) (L rfl)) (.agg (.cons .same (.cons .nil (.cons .same (.cons .nil .nil)))))) t0 t0 (sb (c_sm sz26 (by rfl) pa4 rfl pu4) t2 t1 ?_))
   refine aV (L rfl) rfl (zn [(4,_),(5,_)] [(4,_)] t2 t1 (ex_ret ?_))
   refine ⟨.inr rfl,ResVs.cast (.cons (.agg rfl rfl rfl ag26 sz26 (.cons (.cons (.cons (.cons .nil))))) (.cons (.tmp rfl) .nil)) ?_⟩
   rfl
  ·cases hz
theorem make_z (n d : Int) (h0 : d ≠ 0) (hn : nw n < 9000000000) (hd : nw d < 9000000000) : Says E 13 [pZ n,pZ d] (.tup [pQ (Rat.divInt n d),vZ 0]):=by
 refine says_of (xs:=[pQ (Rat.divInt n d),vZ 0]) Tryz.func13 rfl Tryz.ntmps13 Tryz.results13 (by simp) fun F hG hX0 hnt hdf P0=>?_
 obtain ⟨L,hX,hN⟩:=pro hnt hX0 hG
 refine exr (swb (c_bx (k:=2) (n:=2) pa2 rfl rfl (P0 _ rfl) (L rfl)) t1 t0 ⟨rfl,rfl⟩ (swb (c_bx (k:=3) (n:=2) pa2 rfl rfl (P0 _ rfl) (L rfl)) t1 t0 ⟨rfl,rfl⟩ (swb (c_al (k:=4) (n:=4) zv26 (.cons rfl (.cons rfl (.cons rfl (.cons rfl .nil)))) rfl (P0 _ rfl) (L rfl)) t0 t0 ⟨rfl,rfl⟩ (aV (L rfl) rfl (zn [(2,_),(3,_),(4,_)] [(2,_),(3,_),(4,_)] t3 t3 (ex_seq (ex_block (exr (lp2 ag24 sz24 (L rfl) rfl rfl (cK hG hX cl59 hN (isZ n (by omega)) (L rfl) t1 ?_))))))))))
 refine sw (c_no (L rfl)) t1 t0 (mV (L rfl) rfl (swg (g:=10) rfl rfl (c_lp ag24 sz24 (by rfl) (by exact al2) rfl (L rfl)) rfl t1 t1 ?_))
 refine swg (g:=10) rfl rfl (c_c hG hX cl59 rfl hN (isZ d (by omega)) (L rfl)) rfl t1 t0 ?_
 refine swg (g:=10) rfl rfl (c_no (L rfl)) rfl t1 t0 (sw (c_pf rfl (L rfl)) t2 t0 (aV (L rfl) rfl (zn [(2,_),(3,_),(4,_),(6,_)] [(2,_),(3,_),(4,_)] t4 t3 ?_)))
 refine ex_if rfl (fun hc=>?_) (fun hc=>?_)
 ·cases hc
 ·refine exr (lp2 ag24 sz24 (L rfl) rfl rfl (cK hG hX cl60 hN (signZ d (by omega)) (L rfl) t1 ?_))
  refine sw (c_e (L rfl)) t2 t0 (aV (L rfl) rfl (zn [(2,_),(3,_),(4,_),(16,_)] [(2,_),(3,_),(4,_)] t4 t3 ?_))
  refine ex_if rfl (fun hz=>?_) (fun hz=>?_)
  ·have hz:=dt hz
   exact absurd (Int.sign_eq_zero_iff_zero.1 hz) h0
  ·refine ex_skip (show Exec _ _ _ _ _ from ?_)
   refine exr (lp2 ag24 sz24 (L rfl) rfl rfl (lp2 ag24 sz24 (L rfl) rfl rfl (cK hG hX cl61 hN (overZ n d h0 (by omega) (by omega)) (L rfl) t2 ?_)))
   refine sb (c_sm sz26 (by rfl) pa4 rfl pu4) t2 t1 ?_
   refine aV (L rfl) rfl (zn [(4,_),(5,_)] [(4,_)] t2 t1 (ex_ret ?_))
   refine ⟨.inr rfl,ResVs.cast (.cons (.agg rfl rfl rfl ag26 sz26 (.cons (.cons (.cons (.cons .nil))))) (.cons (.tmp rfl) .nil)) ?_⟩
   rfl
theorem nw_sg {m : Bool} {ws : List Int} (h : Wd ws) (hc : canon m ws = true) : nw (sg m (val ws)) = ws.length:=by
 rw [nw,(canon_eq h hc).2]
theorem make_says (m n : Bool) (ws vs : List Int) (hl : ws.length < 1000000000) (hl2 : vs.length < 1000000000) (h : Wd ws) (h2 : Wd vs) : Says E 13 [pI m ws,pI n vs] (.tup [.agg (cR (mkR (m,ws) (n,vs))),vZ (mkE (m,ws) (n,vs))]):=by
 by_cases hn : canon m ws = true ∧ canon n vs = true
 ·have e1:=nw_sg h hn.1
  have e2:=nw_sg h2 hn.2
  rw [pI_eq h hn.1,pI_eq h2 hn.2]
  by_cases h0 : sg n (val vs) = 0
  ·have e : mkE (m,ws) (n,vs) = 5:=by rw [mkE,if_pos hn,if_pos h0]
   rw [mkR,e,if_neg (by decide),h0]
   exact make_z0 _ (by omega)
  ·have e : mkE (m,ws) (n,vs) = 0:=by rw [mkE,if_pos hn,if_neg h0]
   rw [mkR,e,if_pos rfl]
   exact make_z _ _ h0 (by omega) (by omega)
 ·have e : mkE (m,ws) (n,vs) = 3:=by rw [mkE,if_neg hn]
  rw [mkR,e,if_neg (by decide)]
  exact make_no m n ws vs hl hl2 hn
theorem rmake_no (m n : Bool) (ws vs : List Int) (hl : ws.length < 1000000000) (hl2 : vs.length < 1000000000) (hn : ¬ (canon m ws = true ∧ canon n vs = true)) : Says E 14 [pI m ws,pI n vs] (.tup [.agg (cR R0),vZ 3]):=by
 refine says_of (xs:=[.agg (cR R0),vZ 3]) Tryz.func14 rfl Tryz.ntmps14 Tryz.results14 (by simp) fun F hG hX0 hnt hdf P0=>?_
 obtain ⟨L,hX,hN⟩:=pro hnt hX0 hG
 refine exr (swb (c_bx (k:=2) (n:=2) pa2 rfl rfl (P0 _ rfl) (L rfl)) t1 t0 ⟨rfl,rfl⟩ (swb (c_bx (k:=3) (n:=2) pa2 rfl rfl (P0 _ rfl) (L rfl)) t1 t0 ⟨rfl,rfl⟩ (swb (c_al (k:=4) (n:=4) zv26 (.cons rfl (.cons rfl (.cons rfl (.cons rfl .nil)))) rfl (P0 _ rfl) (L rfl)) t0 t0 ⟨rfl,rfl⟩ (aV (L rfl) rfl (zn [(2,_),(3,_),(4,_)] [(2,_),(3,_),(4,_)] t3 t3 (ex_seq ?_))))))
 refine exm (sl:=[(13,vb true)]) (sl0:=[(2,_),(3,_),(4,_)]) (hb:=[]) (hb0:=[(2,_),(3,_),(4,_)]) t3 t3 ?_ ?_
 ·rcases nand2 hn with h1 | ⟨h1,h2⟩
  ·refine lp2 ag24 sz24 (L rfl) rfl rfl (cK hG hX cl15 hN (ris_says m ws (by omega)) (L rfl) t1 ?_)
   refine sw (c_no (L rfl)) t1 t0 (mV (L rfl) rfl (swn (g:=9) rfl (by simpa using h1) (L rfl) rfl ?_))
   refine swn (g:=9) rfl (by simpa using h1) (L rfl) rfl ?_
   refine swn (g:=9) rfl (by simpa using h1) (L rfl) rfl ?_
   refine sw (c_pt (by simpa using h1) (L rfl)) t2 t0 ?_
   exact seq_nil ⟨⟨ob rfl rfl,rfl,rfl,rfl,trivial⟩,t3⟩
  ·refine lp2 ag24 sz24 (L rfl) rfl rfl (cK hG hX cl15 hN (ris_says m ws (by omega)) (L rfl) t1 ?_)
   refine sw (c_no (L rfl)) t1 t0 (mV (L rfl) rfl (swg (g:=9) rfl (by simpa using h1) (c_lp ag24 sz24 (by rfl) (by exact al2) rfl (L rfl)) rfl t1 t1 ?_))
   refine swg (g:=9) rfl (by simpa using h1) (c_c hG hX cl15 rfl hN (ris_says n vs (by omega)) (L rfl)) rfl t1 t0 ?_
   refine swg (g:=9) rfl (by simpa using h1) (c_no (L rfl)) rfl t1 t0 ?_
   refine sw (c_pf (by simpa using h1) (L rfl)) t2 t0 ?_
   exact seq_nil ⟨⟨ob rfl (by simpa using h2),rfl,rfl,rfl,trivial⟩,t3⟩
 refine ex_if rfl (fun hc=>?_) (fun hc=>?_)
 ·refine exr (sw (c_pc (c_bp (vs:=[]) un26 zv26 (.cons rfl (.cons rfl (.cons rfl (.cons rfl .nil)))) ((Places.cons sz24 (Places.cons sz24 Places.nil))).to rfl .nil (.cons (.cons (.cons (.cons .nil)))) (L rfl)) (.agg (.cons .same (.cons .nil (.cons .same (.cons .nil .nil)))))) t0 t0 (sb (c_sm sz26 (by rfl) pa4 rfl pu4) t2 t1 ?_))
  refine aV (L rfl) rfl (zn [(4,_),(5,_)] [(4,_)] t2 t1 (ex_ret ?_))
  refine ⟨.inr rfl,ResVs.cast (.cons (.agg rfl rfl rfl ag26 sz26 (.cons (.cons (.cons (.cons .nil))))) (.cons (.tmp rfl) .nil)) ?_⟩
  rfl
 ·cases hc
theorem rmake_z0 (a : Int) (ha : nw a < 1000000000) : Says E 14 [pZ a,pZ 0] (.tup [.agg (cR R0),vZ 5]):=by
 refine says_of (xs:=[.agg (cR R0),vZ 5]) Tryz.func14 rfl Tryz.ntmps14 Tryz.results14 (by simp) fun F hG hX0 hnt hdf P0=>?_
 obtain ⟨L,hX,hN⟩:=pro hnt hX0 hG
 refine exr (swb (c_bx (k:=2) (n:=2) pa2 rfl rfl (P0 _ rfl) (L rfl)) t1 t0 ⟨rfl,rfl⟩ (swb (c_bx (k:=3) (n:=2) pa2 rfl rfl (P0 _ rfl) (L rfl)) t1 t0 ⟨rfl,rfl⟩ (swb (c_al (k:=4) (n:=4) zv26 (.cons rfl (.cons rfl (.cons rfl (.cons rfl .nil)))) rfl (P0 _ rfl) (L rfl)) t0 t0 ⟨rfl,rfl⟩ (aV (L rfl) rfl (zn [(2,_),(3,_),(4,_)] [(2,_),(3,_),(4,_)] t3 t3 (ex_seq (exr (lp2 ag24 sz24 (L rfl) rfl rfl (cK hG hX cl15 hN (risZ a (by omega)) (L rfl) t1 ?_)))))))))
 refine sw (c_no (L rfl)) t1 t0 (mV (L rfl) rfl (swg (g:=9) rfl rfl (c_lp ag24 sz24 (by rfl) (by exact al2) rfl (L rfl)) rfl t1 t1 ?_))
 refine swg (g:=9) rfl rfl (c_c hG hX cl15 rfl hN (risZ 0 (by rw [nw_zero.2 rfl]; decide)) (L rfl)) rfl t1 t0 ?_
 refine swg (g:=9) rfl rfl (c_no (L rfl)) rfl t1 t0 (sw (c_pf rfl (L rfl)) t2 t0 (zn [(2,_),(3,_),(4,_),(13,_)] [(2,_),(3,_),(4,_)] t4 t3 ?_))
 refine ex_if rfl (fun hc=>?_) (fun hc=>?_)
 ·cases hc
 ·refine ex_skip (show Exec _ _ _ _ _ from ?_)
  refine ex_seq (exr (lp2 ag24 sz24 (L rfl) rfl rfl (cK hG hX cl43 hN (rsignZ 0 (by rw [nw_zero.2 rfl]; decide)) (L rfl) t1 ?_)))
  refine sw (c_e (L rfl)) t2 t0 (zn [(2,_),(3,_),(4,_),(17,_)] [(2,_),(3,_),(4,_)] t4 t3 ?_)
  refine ex_if rfl (fun hz=>?_) (fun hz=>?_)
  ·refine exr (sw (c_pc (c_bp (vs:=[]) un26 zv26 (.cons rfl (.cons rfl (.cons rfl (.cons rfl .nil)))) ((Places.cons sz24 (Places.cons sz24 Places.nil))).to rfl .nil (.cons (.cons (.cons (.cons .nil)))) (L rfl)) (.agg (.cons .same (.cons .nil (.cons .same (.cons .nil .nil)))))) t0 t0 (sb (c_sm sz26 (by rfl) pa4 rfl pu4) t2 t1 ?_))
   refine aV (L rfl) rfl (zn [(4,_),(5,_)] [(4,_)] t2 t1 (ex_ret ?_))
   refine ⟨.inr rfl,ResVs.cast (.cons (.agg rfl rfl rfl ag26 sz26 (.cons (.cons (.cons (.cons .nil))))) (.cons (.tmp rfl) .nil)) ?_⟩
   rfl
  ·cases hz
theorem rmakeR_says (m n : Bool) (ws vs : List Int) (hl : ws.length < 1000000000) (hl2 : vs.length < 1000000000) (h : Wd ws) (h2 : Wd vs) : Says E 14 [pI m ws,pI n vs] (.tup [.agg (cR (mkR (m,ws) (n,vs))),vZ (mkE (m,ws) (n,vs))]):=by
 by_cases hn : canon m ws = true ∧ canon n vs = true
 ·have e1:=nw_sg h hn.1
  have e2:=nw_sg h2 hn.2
  rw [pI_eq h hn.1,pI_eq h2 hn.2]
  by_cases h0 : sg n (val vs) = 0
  ·have e : mkE (m,ws) (n,vs) = 5:=by rw [mkE,if_pos hn,if_pos h0]
   rw [mkR,e,if_neg (by decide),h0]
   exact rmake_z0 _ (by omega)
  ·have e : mkE (m,ws) (n,vs) = 0:=by rw [mkE,if_pos hn,if_neg h0]
   rw [mkR,e,if_pos rfl]
   exact rmake_says _ _ h0 (by omega) (by omega)
 ·have e : mkE (m,ws) (n,vs) = 3:=by rw [mkE,if_neg hn]
  rw [mkR,e,if_neg (by decide)]
  exact rmake_no m n ws vs hl hl2 hn
@[reducible] def zP (n : Int) : Bool × List Int:=(decide (n < 0),digs n.natAbs)
theorem qof_says (n d : Int) (h : -9223372036854775808 ≤ n) (h1 : n < 9223372036854775808) (h2 : -9223372036854775808 ≤ d) (h3 : d < 9223372036854775808) : Says E 11 [vZ n,vZ d] (.tup [.agg (cR (mkR (zP n) (zP d))),vZ (mkE (zP n) (zP d))]):=by
 refine says_of (xs:=[.agg (cR (mkR (zP n) (zP d))),vZ (mkE (zP n) (zP d))]) Tryz.func11 rfl Tryz.ntmps11 Tryz.results11 (by simp) fun F hG hX0 hnt hdf P0=>?_
 obtain ⟨L,hX,hN⟩:=pro hnt hX0 hG
 have k1:=nw64 h h1
 have k2:=nw64 h2 h3
 refine exr (swb (c_al (k:=4) (n:=4) zv26 (.cons rfl (.cons rfl (.cons rfl (.cons rfl .nil)))) rfl (P0 _ rfl) (L rfl)) t0 t0 ⟨rfl,rfl⟩ (aV (L rfl) rfl (zn [(0,_),(1,_),(4,_)] [(4,_)] t3 t1 (exr (mV (L rfl) rfl (cK hG hX cl58 hN (of_says n h h1) (L rfl) t1 (mV (L rfl) rfl (cK hG hX cl58 hN (of_says d h2 h3) (L rfl) t1 (cK hG hX cl13 hN (make_says _ _ (digs n.natAbs) (digs d.natAbs) (by unfold nw at k1; omega) (by unfold nw at k2; omega) (wd_digs _) (wd_digs _)) (L rfl) t2 ?_)))))))))
 refine sw (c_ex rfl (L rfl)) t1 t0 (sw (c_ex rfl (L rfl)) t1 t0 (sb (c_sm sz26 (by rfl) pa4 rfl pu4) t2 t1 ?_))
 refine aV (L rfl) rfl (zn [(4,_),(5,_)] [(4,_)] t2 t1 (ex_ret ?_))
 refine ⟨.inr rfl,ResVs.cast (.cons (.agg rfl rfl rfl ag26 sz26 (.cons (.cons (.cons (.cons .nil))))) (.cons (.tmp rfl) .nil)) ?_⟩
 rfl
theorem rqofR_says (n d : Int) (h : -9223372036854775808 ≤ n) (h1 : n < 9223372036854775808) (h2 : -9223372036854775808 ≤ d) (h3 : d < 9223372036854775808) : Says E 12 [vZ n,vZ d] (.tup [.agg (cR (mkR (zP n) (zP d))),vZ (mkE (zP n) (zP d))]):=by
 refine says_of (xs:=[.agg (cR (mkR (zP n) (zP d))),vZ (mkE (zP n) (zP d))]) Tryz.func12 rfl Tryz.ntmps12 Tryz.results12 (by simp) fun F hG hX0 hnt hdf P0=>?_
 obtain ⟨L,hX,hN⟩:=pro hnt hX0 hG
 have k1:=nw64 h h1
 have k2:=nw64 h2 h3
 refine exr (swb (c_al (k:=4) (n:=4) zv26 (.cons rfl (.cons rfl (.cons rfl (.cons rfl .nil)))) rfl (P0 _ rfl) (L rfl)) t0 t0 ⟨rfl,rfl⟩ (aV (L rfl) rfl (zn [(0,_),(1,_),(4,_)] [(4,_)] t3 t1 (exr (mV (L rfl) rfl (cK hG hX cl45 hN (rof_says n h h1) (L rfl) t1 (mV (L rfl) rfl (cK hG hX cl45 hN (rof_says d h2 h3) (L rfl) t1 (cK hG hX cl14 hN (rmakeR_says _ _ (digs n.natAbs) (digs d.natAbs) (by unfold nw at k1; omega) (by unfold nw at k2; omega) (wd_digs _) (wd_digs _)) (L rfl) t2 ?_)))))))))
 refine sw (c_ex rfl (L rfl)) t1 t0 (sw (c_ex rfl (L rfl)) t1 t0 (sb (c_sm sz26 (by rfl) pa4 rfl pu4) t2 t1 ?_))
 refine aV (L rfl) rfl (zn [(4,_),(5,_)] [(4,_)] t2 t1 (ex_ret ?_))
 refine ⟨.inr rfl,ResVs.cast (.cons (.agg rfl rfl rfl ag26 sz26 (.cons (.cons (.cons (.cons .nil))))) (.cons (.tmp rfl) .nil)) ?_⟩
 rfl
theorem lof_says (n d : Int) (h : -9223372036854775808 ≤ n) (h1 : n < 9223372036854775808) (h2 : -9223372036854775808 ≤ d) (h3 : d < 9223372036854775808) (h0 : d ≠ 0) : Says E 49 [vZ n,vZ d] (pQ (Rat.divInt n d)):=by
 refine says_of (xs:=[pQ (Rat.divInt n d)]) Tryz.func49 rfl Tryz.ntmps49 Tryz.results49 (by simp) fun F hG hX0 hnt hdf P0=>?_
 obtain ⟨L,hX,hN⟩:=pro hnt hX0 hG
 refine exr (swb (c_al (k:=4) (n:=4) zv26 (.cons rfl (.cons rfl (.cons rfl (.cons rfl .nil)))) rfl (P0 _ rfl) (L rfl)) t0 t0 ⟨rfl,rfl⟩ (zn [(0,_),(1,_),(4,_)] [(4,_)] t3 t1 (exr (mV (L rfl) rfl (mV (L rfl) rfl (cK hG hX cl12 hN (rqof_says n d h h1 h2 h3 h0) (L rfl) t2 (mV (L rfl) rfl (sw (c_ex rfl (L rfl)) t1 t0 (sw (c_ex rfl (L rfl)) t1 t0 (swb (c_al (k:=5) (n:=4) zv26 (.cons rfl (.cons rfl (.cons rfl (.cons rfl .nil)))) rfl (P0 _ rfl) (L rfl)) t0 t0 ⟨rfl,rfl⟩ (sb (c_sm sz26 (by rfl) pa4 rfl pu4) t2 t1 ?_)))))))))))
 refine aV (L rfl) rfl (zn [(4,_),(5,_)] [(4,_),(5,_)] t2 t2 (exr (lp4 ag26 sz26 (L rfl) rfl rfl (sb (c_sm sz26 (by rfl) pa4 rfl pu4) t2 t1 ?_))))
 refine zn [(4,_)] [(4,_)] t1 t1 (ex_ret ?_)
 refine ⟨.inr rfl,ResVs.cast (.cons (.agg rfl rfl rfl ag26 sz26 (.cons (.cons (.cons (.cons .nil))))) .nil) ?_⟩
 rfl
theorem rqwhole_says (n : Int) : Says E 18 [pZ n] (pQ (n : Rat)):=by
 refine says_of (xs:=[pQ (n : Rat)]) Tryz.func18 rfl Tryz.ntmps18 Tryz.results18 (by simp) fun F hG hX0 hnt hdf P0=>?_
 obtain ⟨L,hX,hN⟩:=pro hnt hX0 hG
 refine exr (swb (c_bx (k:=1) (n:=2) pa2 rfl rfl (P0 _ rfl) (L rfl)) t1 t0 ⟨rfl,rfl⟩ (swb (c_al (k:=2) (n:=4) zv26 (.cons rfl (.cons rfl (.cons rfl (.cons rfl .nil)))) rfl (P0 _ rfl) (L rfl)) t0 t0 ⟨rfl,rfl⟩ (zn [(1,_),(2,_)] [(1,_),(2,_)] t2 t2 (exd (by rfl) ?_))))
 refine lp2 ag24 sz24 (L rfl) rfl rfl (cK hG hX cl64 hN rone_says (L rfl) t0 (sw (c_bp (vs:=[_,_]) un26 zv26 (.cons rfl (.cons rfl (.cons rfl (.cons rfl .nil)))) ((Places.cons sz24 (Places.cons sz24 Places.nil))).to rfl (.cons rfl pa2 rfl pu2 (.cons rfl pa2 rfl (.skip (.skip pu2)) .nil)) (.cons (.cons (.cons (.cons .nil)))) (L rfl)) t2 t0 (sb (c_sm sz26 (by rfl) pa4 rfl pu4) t2 t1 ?_)))
 refine seq_nil ⟨aoks [⟨[1],[1],[3],[]⟩,⟨[],[],[4],[]⟩,⟨[3,4],[],[5],[]⟩,⟨[2,5],[2],[],[2]⟩] (by rfl) (by rfl) (by decide),[(2,_)],[(2,_)],t1,t1,?_⟩
 refine ex_ret ?_
 refine ⟨.inr rfl,ResVs.cast (.cons (.agg rfl rfl rfl ag26 sz26 (.cons (.cons (.cons (.cons .nil))))) .nil) ?_⟩
 exact congrArg (· :: []) (cN rfl rfl)
theorem qfloor_says (a : Rat) (ha : qw a < 1000000000) : Says E 31 [pQ a] (pZ a.floor):=by
 refine says_of (xs:=[pZ a.floor]) Tryz.func31 rfl Tryz.ntmps31 Tryz.results31 (by simp) fun F hG hX0 hnt hdf P0=>?_
 obtain ⟨L,hX,hN⟩:=pro hnt hX0 hG
 have h1:=nw_num_le a
 have h2:=nw_den_le a
 refine exr (swb (c_bx (k:=1) (n:=4) pa4 rfl rfl (P0 _ rfl) (L rfl)) t1 t0 ⟨rfl,rfl⟩ (swb (c_al (k:=2) (n:=2) zv24 (.cons rfl (.cons rfl .nil)) rfl (P0 _ rfl) (L rfl)) t0 t0 ⟨rfl,rfl⟩ (zn [(1,_),(2,_)] [(1,_),(2,_)] t2 t2 (exr (sw (c_fa un26 rfl sz24 (by decide) (by exact rfl) (L rfl)) t1 t1 ?_)))))
 refine lp2 ag24 sz24 (L rfl) rfl rfl (sw (c_fa un26 rfl sz24 (by decide) (by exact rfl) (L rfl)) t1 t1 ?_)
 refine lp2 ag24 sz24 (L rfl) rfl rfl (cK hG hX cl74 hN (wholeZ a.num a.den (by omega) (by omega) (den_ne a)) (L rfl) t2 ?_)
 refine sb (c_sm sz24 (by rfl) pa2 rfl pu2) t2 t1 ?_
 refine zn [(2,_)] [(2,_)] t1 t1 (ex_ret ?_)
 refine ⟨.inr rfl,ResVs.cast (.cons (.agg rfl rfl rfl ag24 sz24 (.cons (.cons .nil))) .nil) ?_⟩
 rw [Rat.floor_def]
end Go.Proofs.YtcifhkfpmhifaaaGreatDoor.N
namespace Go.Proofs.YtcifhkfpmhifaaaGreatDoor.SH
open Go Go.RowKit Go.ChangeShapes Go.WideShapes Go.ChangeAt
variable {H : Type} {enc : TypeId × Value → H} {P : Program}
theorem trodAll_stays (hl : laidOutB P = true) {W W' : World} (hb : Below W.heap.size W W') : ∀ {ts : List TypeId} {vs : List Value} {ds : List (DataW H)} {ps : List MemPlace},
    (ts.all fun t=>P.readableRec t && decide (t < P.types.size)) = true → DataW.TrodAll enc P W 0 (fun _=>true) true ts vs ds ps → (∀ x ∈ ps,x.block < W.heap.size) →
    DataW.TrodAll enc P W' 0 (fun b=>decide (b < W.heap.size)) true ts vs ds ps
  | [],vs,ds,ps,_,h,_=>by
    obtain ⟨rfl,rfl,rfl⟩:=trodAll_nil h
    rfl
  | t :: ts,vs,ds,ps,hr,h,hlt=>by
    obtain ⟨v,vs',d,ds',p,q,rfl,rfl,rfl,h1,h2⟩:=trodAll_cons h
    simp only [List.all_cons,Bool.and_eq_true,decide_eq_true_eq] at hr
    exact trodAll_cons_mk (Below.trod hl hr.1.1 hr.1.2 h1 hb fun x hx=>hlt x (List.mem_append_left _ hx)) (trodAll_stays hl hb hr.2 h2 fun x hx=>hlt x (List.mem_append_right _ hx))
theorem post_law {fn : Func} {s : ChangeSpec} {apart fresh handsOn : Bool} {W W' : World} {args : Array Value} {ds gs : List (DataW H)} {before : List MemPlace} {tb : TypeId} (hl : laidOutB P = true) (hr : (fn.params.toList.all fun t => P.readableRec t && decide (t < P.types.size)) = true) (htb : P.underlying tb = some .bool) (hrt : fn.resultTypes = #[tb]) (hv : s.vars = [])
    (hW : DataW.Whole enc P fn.params.toList s.vars apart W args.toList ds gs before) (hb : Below W.heap.size W W') (hs : s.fn H (ds ++ gs) = { results:=[.lit (.bool true)],args:=ds }) : s.post enc P fn apart fresh handsOn false W args (.bool true) W':=by
  have hW':=hW
  obtain ⟨p,q,hA,hV,rfl,hfz,hnd⟩:=hW
  rw [hv] at hV
  obtain ⟨rfl,rfl⟩:=trodVars_none hV
  refine ⟨ds,[],p ++ [],[],p,[],hW',?_,?_,?_,hb.frame _,fun h=>by cases h⟩
  · rw [hs,hrt]; exact trodAll_mk1 (shut_bool htb true)
  · rw [hs]; exact trodAll_stays hl hb hr hA fun x hx=>hW'.lt x (List.mem_append_left _ hx)
  · rw [hs,hv]; rfl
end Go.Proofs.YtcifhkfpmhifaaaGreatDoor.SH
set_option maxRecDepth 100000
namespace Go.Proofs.YtcifhkfpmhifaaaGreatDoor.N
open Go Go.Proofs.YtcifhkfpmhifaaaGreatDoor.SH Go.Proofs.YtcifhkfpmhifaaaGreatDoor.NumA Go.Proofs.YtcifhkfpmhifaaaGreatDoor Go.RowKit Go.ChangeShapes Go.WideShapes Go.ChangeAt Go.Joins
theorem own : ownKnob Tryz.prog.godebug = none:=by kernel_rfl
theorem laidOut : laidOutB Tryz.prog = true:=by kernel_rfl
theorem cells24 : Tryz.prog.cellsOf 24 = 2:=by kernel_rfl
theorem cells26 : Tryz.prog.cellsOf 26 = 4:=by kernel_rfl
theorem cells68 : Tryz.prog.cellsOf 68 = 1:=by kernel_rfl
theorem cells22 : Tryz.prog.cellsOf 22 = 1:=by kernel_rfl
theorem cells4 : Tryz.prog.cellsOf 4 = 1:=by kernel_rfl
theorem row_of_ints {w : World} {a : Addr} {k : IntKind} {zs : List Int} {n : Nat} (hcell : ∀ i, i < zs.length → w.cell? (a.add i) = some (.int k (zs.getD i 0))) (hn : n ≤ zs.length) :
    RelS (fun _=>True) (hp w) ((zs.take n).map fun z=>.a (.int k z)) (some a):=by
  by_cases h0 : n = 0
  · subst h0; trivial
  · obtain ⟨b,off,rfl,hc⟩:=ints_at hcell (by omega)
    refine RelS.of trivial (RelAt.of fun i y hy=>?_)
    rw [List.getElem?_map,List.getElem?_take] at hy
    split at hy
    · rename_i hi
      have hi' : i < zs.length:=by omega
      rw [List.getElem?_eq_getElem hi'] at hy
      simp only [Option.map_some,Option.some.injEq] at hy
      subst hy
      refine ⟨.int k zs[i],?_,rfl,by simp [Rel]⟩
      rw [← cell_eq,hc i hi',List.getD_eq_getElem?_getD,List.getElem?_eq_getElem hi']
      rfl
    · cases hy
section
variable {H : Type} {enc : TypeId × Value → H} {W : World}
theorem int_cells {n : Nat} {cs : List Value} {y : DataW H × List MemPlace} (h : DataW.trod enc Tryz.prog W 0 (fun _ => true) true n 24 cs = some y) :
    ∃ neg ws c0 c1,Wd ws ∧ cs = [c0,c1] ∧ Rel (fun _=>True) (hp W) (.a (.bool neg)) c0 ∧ Rel (fun _=>True) (hp W) (.sl ws.length (encW ws)) c1 ∧ c0.oneCell' = true ∧ c1.oneCell' = true:=by
  obtain ⟨y0,y1,m,-,hl,h0,h1⟩:=trod_struct2 Tryz.underlying24 h
  rw [cells24] at hl
  match cs,hl with
  | [c0,c1],_ =>
    have h0' : DataW.trod enc Tryz.prog W 0 (fun _=>true) true m 4 [c0] = some y0:=by simpa [cells4] using h0
    have h1' : DataW.trod enc Tryz.prog W 0 (fun _=>true) true m 22 [c1] = some y1:=by simpa [cells22] using h1
    obtain ⟨b,hb,-⟩:=DataW.trod_bool Tryz.underlying4 h0'
    obtain rfl : c0 = .bool b:=by simpa using hb
    rcases open_ints Tryz.underlying22 Tryz.underlying68 cells68 h1' with ⟨hcs,hx⟩ | ⟨a,len,cap,zs,hcs,_,hl,hm,hz,hx,hcell,hwz⟩
    · obtain rfl : c1 = .slice none 0 0:=by simpa using hcs
      exact ⟨b,[],_,_,Wd.nil,rfl,by simp [Rel],⟨none,0,rfl,Nat.le_refl _,trivial⟩,rfl,rfl⟩
    · obtain rfl : c1 = .slice (some a) len cap:=by simpa using hcs
      simp only [if_true] at hz
      have hlen : (zs.take len).length = len:=by rw [List.length_take]; omega
      refine ⟨b,zs.take len,_,_,fun w hw=>?_,rfl,by simp [Rel],⟨some a,cap,by rw [hlen],by rw [hlen]; exact hl,row_of_ints hcell (by omega)⟩,rfl,rfl⟩
      have:=hwz w (List.mem_of_mem_take hw)
      simp only [Lit.wf,Bool.and_eq_true,decide_eq_true_eq] at this
      exact ⟨this.1,Int.lt_of_le_of_lt this.2 (by decide)⟩
theorem rat_cells {n : Nat} {cs : List Value} {y : DataW H × List MemPlace} (h : DataW.trod enc Tryz.prog W 0 (fun _ => true) true n 26 cs = some y) :
    ∃ r : RQ,r.wd ∧ RelL (fun _=>True) (hp W) (cR r) cs ∧ ∀ c ∈ cs,c.oneCell' = true:=by
  obtain ⟨y0,y1,m,-,hl,h0,h1⟩:=trod_struct2 Tryz.underlying26 h
  rw [cells26] at hl
  match cs,hl with
  | [c0,c1,c2,c3],_ =>
    have h0' : DataW.trod enc Tryz.prog W 0 (fun _=>true) true m 24 [c0,c1] = some y0:=by simpa [cells24] using h0
    have h1' : DataW.trod enc Tryz.prog W 0 (fun _=>true) true m 24 [c2,c3] = some y1:=by simpa [cells24] using h1
    obtain ⟨b,ws,d0,d1,w1,e1,a1,a2,o1,o2⟩:=int_cells h0'
    obtain ⟨b',vs,d2,d3,w2,e2,a3,a4,o3,o4⟩:=int_cells h1'
    simp only [List.cons.injEq,and_true] at e1 e2
    obtain ⟨rfl,rfl⟩:=e1
    obtain ⟨rfl,rfl⟩:=e2
    refine ⟨⟨b,ws,b',vs⟩,⟨w1,w2⟩,⟨_,_,rfl,a1,_,_,rfl,a2,_,_,rfl,a3,_,_,rfl,a4,rfl⟩,fun c hc=>?_⟩
    simp only [List.mem_cons,List.not_mem_nil,or_false] at hc
    rcases hc with rfl | rfl | rfl | rfl <;> assumption
theorem rat_arg {r : Reach} {b0 : Nat} {v : Value} {d : DataW H} {p : List MemPlace} (hv : Value.okWide Tryz.prog W r b0 26 v) (h : DataW.Trod enc Tryz.prog W 0 (fun _ => true) true 26 v d p) :
    ∃ r : RQ,r.wd ∧ Rel (fun _=>True) (hp W) (.agg (cR r)) v:=by
  obtain ⟨cs,rfl,-⟩:=okWide_struct Tryz.underlying26 hv
  obtain ⟨n,h⟩:=h
  obtain ⟨r,hw,hr,ho⟩:=rat_cells h
  exact ⟨r,hw,cs.toList,by simp [Value.cells],hr,ho⟩
theorem int_arg {r : Reach} {b0 : Nat} {v : Value} {d : DataW H} {p : List MemPlace} (hv : Value.okWide Tryz.prog W r b0 24 v) (h : DataW.Trod enc Tryz.prog W 0 (fun _ => true) true 24 v d p) :
    ∃ neg ws,Wd ws ∧ Rel (fun _=>True) (hp W) (pI neg ws) v:=by
  obtain ⟨cs,rfl,-⟩:=okWide_struct Tryz.underlying24 hv
  obtain ⟨n,h⟩:=h
  obtain ⟨b,ws,c0,c1,hw,e,a1,a2,o1,o2⟩:=int_cells h
  have e' : cs.toList = [c0,c1]:=by simpa [Value.cells] using e
  refine ⟨b,ws,hw,cs.toList,by simp,by rw [e']; exact ⟨_,_,rfl,a1,_,_,rfl,a2,rfl⟩,?_⟩
  rw [e']
  intro c hc
  simp only [List.mem_cons,List.not_mem_nil,or_false] at hc
  rcases hc with rfl | rfl <;> assumption
end
theorem int_bd {n : Int} (h : (Lit.int .i64 n).wf = true) : -9223372036854775808 ≤ n ∧ n < 9223372036854775808:=by
  simp only [Lit.wf,Bool.and_eq_true,decide_eq_true_eq] at h
  exact ⟨h.1,Int.lt_of_le_of_lt h.2 (by decide)⟩
abbrev laid : List (String × DataW Unit):=[("math/bits.deBruijn32tab",Rows.laid_math_bits_deBruijn32tab),("math/bits.deBruijn64tab",Rows.laid_math_bits_deBruijn64tab),("internal/strconv.uint64pow10",Rows.laid_internal_strconv_uint64pow10)]
theorem laid_met (os : Os) (args : Array Value) : laidMetH Tryz.prog laid ((World.laidAll Tryz.prog os laid).forCall (fun _ _=>0) ⟨#[],args,[]⟩).memory:=by
  rw [MakeChecks.laidMetH_plain _ _ _ (by kernel_rfl)]; exact laidMet_laidAll _ (by kernel_rfl) (by kernel_rfl)
theorem globT : (Tryz.prog.globals[1]?).map (·.type) = some 148:=by kernel_rfl
theorem tab_of_laid {W : World} (h : laidMetH Tryz.prog laid W) : Tab W:=by
  rw [MakeChecks.laidMetH_plain _ _ _ (by kernel_rfl)] at h
  exact Lib.tabIs_of_head tabG globT Tryz.underlying148 Tryz.underlying78 (by kernel_rfl) (by kernel_rfl) h.tail.tail
end Go.Proofs.YtcifhkfpmhifaaaGreatDoor.N
namespace Go.Proofs.YtcifhkfpmhifaaaGreatDoor.NumA
def bq (a : Rat) : Nat:=max (bl a.num.natAbs) (bl a.den)
def qE (a : Rat) (n : Int) : Int:=if a = 0 ∧ n < 0 then 5 else if 1 < bq a ∧ 1048576 / bq a < n.natAbs then 2 else 0
theorem bq_small {a : Rat} (h : bq a ≤ 1) : a = 0 ∨ a = 1 ∨ a = -1:=by
  have h1 : bl a.num.natAbs ≤ 1:=by unfold bq at h; omega
  have h2 : bl a.den ≤ 1:=by unfold bq at h; omega
  have h1 : a.num.natAbs < 2:=by simpa using bl_spec.1 h1
  have h2 : a.den < 2:=by simpa using bl_spec.1 h2
  have h3:=a.den_pos
  have hd : a.den = 1:=by omega
  rcases (show a.num = 0 ∨ a.num = 1 ∨ a.num = -1 by omega) with e | e | e
  · exact .inl (Rat.num_eq_zero.1 e)
  · exact .inr (.inl (Rat.ext (by rw [e]; rfl) (by rw [hd]; rfl)))
  · exact .inr (.inr (Rat.ext (by rw [e]; rfl) (by rw [hd]; rfl)))
theorem sq_unit {a : Rat} (h : a = 1 ∨ a = -1) : a * a = 1:=by rcases h with rfl | rfl <;> grind
theorem unit_pow {a : Rat} (h : a = 1 ∨ a = -1) : ∀ n : Nat,a ^ n = if n % 2 = 0 then 1 else a
  | 0=>by rw [Rat.pow_zero,if_pos rfl]
  | n + 1=>by
    rw [Rat.pow_succ,unit_pow h n]
    have h2:=sq_unit h
    by_cases e : n % 2 = 0
    · rw [if_pos e,if_neg (by omega),Rat.one_mul]
    · rw [if_neg e,if_pos (by omega),h2]
theorem zpow_cases (a : Rat) (n : Int) : (0 ≤ n ∧ a ^ n = a ^ n.natAbs) ∨ (n < 0 ∧ a ^ n = (a ^ n.natAbs)⁻¹):=by
  by_cases h : 0 ≤ n
  · left
    refine ⟨h,?_⟩
    rw [← Rat.zpow_natCast]; congr 1; omega
  · right
    refine ⟨by omega,?_⟩
    rw [← Rat.zpow_natCast,← Rat.zpow_neg]; congr 1; omega
theorem unit_zpow {a : Rat} (h : a = 1 ∨ a = -1) (n : Int) : a ^ n = if n % 2 = 0 then 1 else a:=by
  have e:=unit_pow h n.natAbs
  rcases zpow_cases a n with ⟨h0,h1⟩ | ⟨h0,h1⟩
  · rw [h1,e]; by_cases c : n % 2 = 0
    · rw [if_pos c,if_pos (by omega)]
    · rw [if_neg c,if_neg (by omega)]
  · rw [h1,e]; by_cases c : n % 2 = 0
    · rw [if_pos c,if_pos (by omega)]; exact Rat.inv_eq_of_mul_eq_one (Rat.one_mul 1)
    · rw [if_neg c,if_neg (by omega)]; exact Rat.inv_eq_of_mul_eq_one (sq_unit h)
theorem zero_zpow {n : Int} (h : 0 < n) : (0 : Rat) ^ n = 0:=by
  rcases zpow_cases 0 n with ⟨_,h1⟩ | ⟨h0,_⟩
  · rw [h1]
    obtain ⟨m,hm⟩ : ∃ m,n.natAbs = m + 1:=⟨n.natAbs - 1,by omega⟩
    rw [hm,Rat.pow_succ,Rat.mul_zero]
  · omega
theorem small_even {a : Rat} {n : Int} (h : bq a ≤ 1) (h0 : ¬ n = 0) (hn : ¬ (a = 0 ∧ n < 0)) (he : n % 2 = 0) : a ^ n = a * a:=by
  rcases bq_small h with rfl | h
  · have h1 : ¬ n < 0:=fun c=>hn ⟨rfl,c⟩
    rw [zero_zpow (by omega),Rat.mul_zero]
  · rw [unit_zpow h,if_pos he,sq_unit h]
theorem small_odd {a : Rat} {n : Int} (h : bq a ≤ 1) (hn : ¬ (a = 0 ∧ n < 0)) (he : ¬ n % 2 = 0) : a ^ n = a:=by
  rcases bq_small h with rfl | h
  · have h1 : ¬ n < 0:=fun c=>hn ⟨rfl,c⟩
    exact zero_zpow (by omega)
  · rw [unit_zpow h,if_neg he]
theorem qE_small {a : Rat} {n : Int} (h : bq a ≤ 1) (hn : ¬ (a = 0 ∧ n < 0)) : qE a n = 0:=by rw [qE,if_neg hn,if_neg (by omega)]
theorem lim_iff {k n : Nat} (hk : 0 < k) : 1048576 < n * k ↔ 1048576 / k < n:=by
  rw [Nat.div_lt_iff_lt_mul hk]
theorem pow_ok {A : Int} {k e : Nat} (h1 : bl A.natAbs ≤ k) (h2 : e ≤ 1048576 / k) (hk : 0 < k) : powE true A (e : Int) = 0 ∧ powV true A (e : Int) = A ^ e:=by
  have hE : powE true A (e : Int) = 0:=by
    rw [powE,if_pos rfl,if_neg (by omega),if_neg]
    rintro ⟨c1,c2⟩
    have : 1048576 / k ≤ 1048576 / bl A.natAbs:=Nat.div_le_div_left h1 (by omega)
    simp only [Int.toNat_natCast] at c2
    omega
  exact ⟨hE,by rw [powV,if_pos hE,Int.toNat_natCast]⟩
theorem bl_le_nw' (a : Int) : bl a.natAbs ≤ 32 * nw a:=by
  rw [bl_spec,Nat.pow_mul]
  have h1:=nw_lt (a:=a)
  have : ((a.natAbs : Nat) : Int) < ((4294967296 ^ nw a : Nat) : Int):=by rw [Int.natCast_pow]; exact h1
  exact Int.ofNat_lt.1 this
end Go.Proofs.YtcifhkfpmhifaaaGreatDoor.NumA
set_option maxRecDepth 100000
set_option maxHeartbeats 4000000
namespace Go.Proofs.YtcifhkfpmhifaaaGreatDoor.N
open Go Go.Proofs.YtcifhkfpmhifaaaGreatDoor.SH Go.Proofs.YtcifhkfpmhifaaaGreatDoor.NumA
open Go.Proofs.Tryz renaming call100 → cl100,call101 → cl101,call20 → cl20,call30 → cl30,call78 → cl78,isAgg22 → ag22,isAgg24 → ag24,isAgg26 → ag26,sizeOf22 → sz22,sizeOf24 → sz24,sizeOf26 → sz26,underlying22 → un22,underlying24 → un24,underlying26 → un26,zeroValue26 → zv26
def eqR (a b : RQ) : Bool:=decide (a.m = b.m ∧ a.ws = b.ws) && decide (a.n = b.n ∧ a.vs = b.vs)
theorem eqR_iff {a b : RQ} : eqR a b = true ↔ a = b:=by
 obtain ⟨m,ws,n,vs⟩:=a
 obtain ⟨m',ws',n',vs'⟩:=b
 simp only [eqR,Bool.and_eq_true,decide_eq_true_eq,RQ.mk.injEq]
 constructor
 ·rintro ⟨⟨h1,h2⟩,h3,h4⟩; exact ⟨h1,h2,h3,h4⟩
 ·rintro ⟨h1,h2,h3,h4⟩; exact ⟨⟨h1,h2⟩,h3,h4⟩
theorem RQ.of_inj {a b : Rat} (h : RQ.of a = RQ.of b) : a = b:=by
 simp only [RQ.of,RQ.mk.injEq] at h
 have h1:=digs_inj.1 ⟨h.1,h.2.1⟩
 have h2:=digs_inj.1 ⟨h.2.2.1,h.2.2.2⟩
 exact q_ext h1 h2
theorem eqR_of (a b : Rat) : eqR (RQ.of a) (RQ.of b) = decide (a = b):=by
 rw [Bool.eq_iff_iff,eqR_iff,decide_eq_true_iff]
 exact ⟨RQ.of_inj,fun h=>by rw [h]⟩
theorem and_t {p : Prop} [Decidable p] (h : p) (b : Bool) : (decide p && b) = b:=by rw [decide_eq_true h,Bool.true_and]
theorem and_f {p : Prop} [Decidable p] (h : ¬ p) (b : Bool) : (decide p && b) = false:=by rw [decide_eq_false h,Bool.false_and]
theorem rsameR0 (m n m' n' : Bool) (ws vs ws' vs' : List Int) (h1 : ws.length < 1000000000) (h2 : vs.length < 1000000000) (h3 : ws'.length < 1000000000) (h4 : vs'.length < 1000000000) : Says E 16 [pR m ws n vs,pR m' ws' n' vs'] (bZ (decide (m = m' ∧ ws = ws') && decide (n = n' ∧ vs = vs'))):=by
 refine says_of (xs:=[bZ (decide (m = m' ∧ ws = ws') && decide (n = n' ∧ vs = vs'))]) Tryz.func16 rfl Tryz.ntmps16 Tryz.results16 (by simp) fun F hG hX0 hnt hdf P0=>?_
 obtain ⟨L,hX,hN⟩:=pro hnt hX0 hG
 refine exr (swb (c_bx (k:=2) (n:=4) pa4 rfl rfl (P0 _ rfl) (L rfl)) t1 t0 ⟨rfl,rfl⟩ (swb (c_bx (k:=3) (n:=4) pa4 rfl rfl (P0 _ rfl) (L rfl)) t1 t0 ⟨rfl,rfl⟩ (aV (L rfl) rfl (zn [(2,_),(3,_)] [(2,_),(3,_)] t2 t2 ?_))))
 refine exm (sl:=[(4,vb (decide (m = m' ∧ ws = ws') && decide (n = n' ∧ vs = vs')))]) (sl0:=[]) (hb:=[]) (hb0:=[]) t0 t0 ?_ ?_
 ·by_cases hh : m = m' ∧ ws = ws'
  ·refine sw (c_fa un26 rfl sz24 (by decide) (by exact rfl) (L rfl)) t1 t1 ?_
   refine lp2 ag24 sz24 (L rfl) rfl rfl (sw (c_fa un26 rfl sz24 (by decide) (by exact rfl) (L rfl)) t1 t1 ?_)
   refine lp2 ag24 sz24 (L rfl) rfl rfl (cK hG hX cl30 hN (rsame_says m m' ws ws' (by omega) (by omega)) (L rfl) t2 ?_)
   refine mV (L rfl) rfl (swg (g:=10) rfl (decide_eq_true hh) (c_fa un26 rfl sz24 (by decide) (by exact rfl) (L rfl)) rfl t1 t1 ?_)
   refine swg (g:=10) rfl (decide_eq_true hh) (c_lp ag24 sz24 (by rfl) (by exact al2) rfl (L rfl)) rfl t1 t1 ?_
   refine swg (g:=10) rfl (decide_eq_true hh) (c_fa un26 rfl sz24 (by decide) (by exact rfl) (L rfl)) rfl t1 t1 ?_
   refine swg (g:=10) rfl (decide_eq_true hh) (c_lp ag24 sz24 (by rfl) (by exact al2) rfl (L rfl)) rfl t1 t1 ?_
   refine swg (g:=10) rfl (decide_eq_true hh) (c_c hG hX cl30 rfl hN (rsame_says n n' vs vs' (by omega) (by omega)) (L rfl)) rfl t2 t0 ?_
   refine sw (c_pt (decide_eq_true hh) (L rfl)) t2 t0 (aV (L rfl) rfl ?_)
   exact seq_nil ⟨⟨ob rfl (and_t hh _).symm,trivial⟩,trivial⟩
  ·refine sw (c_fa un26 rfl sz24 (by decide) (by exact rfl) (L rfl)) t1 t1 ?_
   refine lp2 ag24 sz24 (L rfl) rfl rfl (sw (c_fa un26 rfl sz24 (by decide) (by exact rfl) (L rfl)) t1 t1 ?_)
   refine lp2 ag24 sz24 (L rfl) rfl rfl (cK hG hX cl30 hN (rsame_says m m' ws ws' (by omega) (by omega)) (L rfl) t2 ?_)
   refine mV (L rfl) rfl (swn (g:=10) rfl (decide_eq_false hh) (L rfl) rfl (swn (g:=10) rfl (decide_eq_false hh) (L rfl) rfl (swn (g:=10) rfl (decide_eq_false hh) (L rfl) rfl (swn (g:=10) rfl (decide_eq_false hh) (L rfl) rfl (swn (g:=10) rfl (decide_eq_false hh) (L rfl) rfl (sw (c_pf (decide_eq_false hh) (L rfl)) t2 t0 (aV (L rfl) rfl ?_)))))))
   exact seq_nil ⟨⟨ob rfl (and_f hh _).symm,trivial⟩,trivial⟩
 refine ex_ret ?_
 refine ⟨.inr rfl,ResVs.cast (.cons (.tmp rfl) .nil) ?_⟩
 rfl
theorem rsameR {a b : RQ} (ha : a.sm) (hb : b.sm) : Says E 16 [.agg (cR a),.agg (cR b)] (bZ (eqR a b)):=rsameR0 _ _ _ _ _ _ _ _ ha.2.1 ha.2.2 hb.2.1 hb.2.2
theorem rqsame_says (a b : Rat) (ha : qw a < 1000000000) (hb : qw b < 1000000000) : Says E 16 [pQ a,pQ b] (bZ (decide (a = b))):=by
 have:=rsameR (RQ.sm_of ha) (RQ.sm_of hb)
 rwa [eqR_of] at this
end Go.Proofs.YtcifhkfpmhifaaaGreatDoor.N
namespace Go.Proofs.YtcifhkfpmhifaaaGreatDoor.SH
open Go Go.RowKit
def StepN (P : Program) (F : Fr) (ops : Array Oper) (o : Oper) (S S' : St) : Prop :=
  ∀ a w,Sat F S a w → ∀ (Q : Exit → Act → World → Prop) (K : Act → World → Prop),(∀ a' w',Sat F S' a' w' → K a' w') →
    if Region.wanted o (yielded ops a.tmps) then o.wp P a w K Q ∨ (∀ n,o.wpIn (fen F) n P a w K Q) else K (a.put o.dst undef) w
inductive SeqS (P : Program) (F : Fr) (ops : Array Oper) : List Oper → St → (St → Prop) → Prop
  | nil {S : St} {K : St → Prop} : K S → SeqS P F ops [] S K
  | cons {o : Oper} {os : List Oper} {S S1 : St} {K : St → Prop} : StepN P F ops o S S1 → SeqS P F ops os S1 K → SeqS P F ops (o :: os) S K
theorem seqS_ops {P : Program} {F : Fr} {ops : Array Oper} {Q : Exit → Act → World → Prop} (hnd : ∀ o ∈ ops.toList, ∀ c, o.op ≠ .defer c) (m : Nat) {K : St → Prop} (hQ : ∀ S' a w, K S' → Sat F S' a w → Q .normal a w) : ∀ {os : List Oper} {S : St} {n : Nat}, SeqS P F ops os S K →
    (∀ j,os[j]? = ops[n + j]?) → ∀ a w,Sat F S a w → wpOpsIn (fen F) m P ops Q ((List.range os.length).map (n + ·)) a w:=by
  intro os S n h
  induction h generalizing n with
  | nil hK=>intro _ a w hS; exact hQ _ a w hK hS
  | @cons o os S S1 K hop _ ih =>
    intro hj a w hS
    have h0 : ops[n]? = some o:=by have:=hj 0; simpa using this.symm
    rw [List.length_cons,List.range_succ_eq_map,List.map_cons,List.map_map,Nat.add_zero,wpOpsIn_cons]
    refine opIn_of h0 (hnd o (List.mem_of_getElem? (by rw [Array.getElem?_toList]; exact h0))) (hop a w hS Q _ fun a' w' h'=>?_)
    have:=ih hQ (n:=n + 1) (fun j=>by have:=hj (j + 1); simp only [List.getElem?_cons_succ] at this; rw [this]; congr 1; omega) a' w' h'
    have e : (fun x=>n + 1 + x) = ((fun x=>n + x) ∘ Nat.succ):=by funext x; simp; omega
    rwa [e] at this
section
variable {P : Program} {F : Fr} {Q : Exit → St → Prop} {S : St}
theorem ex_regionS {id : Nat} {l : List Oper} {K : St → Prop} (h : SeqS P F l.toArray l S K) (hQ : ∀ S',K S' → Q .normal S') (hnd : noDef l = true:=by rfl) : Exec P F (.region id l.toArray false) S Q:=⟨fun m a w hS=>by
  refine wpIn_region ?_
  have:=seqS_ops (by simpa using noDef_all hnd) m (Q:=fun e a' w'=>(∃ S',Q e S' ∧ Sat F S' a' w') ∨ (e = .ret ∧ F.esc a' w')) (fun S' a w hK hS=>.inl ⟨S',hQ S' hK,hS⟩) h (n:=0) (fun j=>by simp) a w hS
  simpa using this⟩
theorem exrN {id : Nat} {l : List Oper} {y : Code} (h : SeqS P F l.toArray l S fun S1=>∃ sl hb,HasS S1 sl ∧ HasB S1 hb ∧ Exec P F y ⟨sl,hb⟩ Q) (hnd : noDef l = true:=by rfl) : Exec P F (.seq (.region id l.toArray false) y) S Q :=
  ex_seq (ex_regionS h (fun _ ⟨_,_,h1,h2,hn⟩=>hn.weak (le_of h1 h2)) hnd)
end
section
variable {P : Program} {F : Fr} {ops : Array Oper} {sl : List (Nat × PV)} {hb : List (Nat × Blk)} {op : Op} {T : TypeId} {pos : String} {aft : Array Edge} {os : List Oper} {dst : Option Nat} {rs : List (Operand × PV)} {rb : List (Nat × Blk)} {fr : Option Nat} {K : St → Prop}
theorem nsw {d : Nat} {v : PV} (hc : CoreOk P F ⟨dst,op,T,pos,aft,none⟩ ⟨rs,rb,none,[(d,v)],[]⟩) (h1 : Reads ⟨sl,hb⟩ rs) (h2 : ReadsB ⟨sl,hb⟩ rb) (hn : SeqS P F ops os ⟨(d,v) :: sl,hb⟩ K) : SeqS P F ops (⟨dst,op,T,pos,aft,none⟩ :: os) ⟨sl,hb⟩ K :=
  .cons (fun a w hS Q K' hK=>opok_plain rfl hc _ a w hS (holds_of h1 h2 trivial) Q K' hK) hn
end
mutual
def PV.only (ks : List Nat) : PV → Bool
  | .p _=>true
  | .at_ j _ _=>ks.contains j
  | .im _ _=>true
  | .ref j _ _ _=>ks.contains j
  | .agg xs=>PV.onlyL ks xs
  | .tup xs=>PV.onlyL ks xs
  | .clo _ f c=>PV.onlyL ks f && PV.onlyL ks c
  | .ifc _ x=>x.only ks
  | .dead=>true
def PV.onlyL (ks : List Nat) : List PV → Bool
  | []=>true
  | x :: xs=>x.only ks && PV.onlyL ks xs
end
mutual
theorem PV.only_free {ks : List Nat} {k : Nat} (hk : ks.contains k = false) : ∀ x : PV,x.only ks = true → x.free k = true
  | .p _,_=>rfl
  | .at_ j _ _,h=>by
    simp only [PV.only] at h; simp only [PV.free]
    have : j ≠ k:=fun e=>by rw [e,hk] at h; cases h
    simpa using this
  | .im _ _,_=>rfl
  | .ref j _ _ _,h=>by
    simp only [PV.only] at h; simp only [PV.free]
    have : j ≠ k:=fun e=>by rw [e,hk] at h; cases h
    simpa using this
  | .agg xs,h=>by simp only [PV.only] at h; simp only [PV.free]; exact PV.onlyL_free hk xs h
  | .tup xs,h=>by simp only [PV.only] at h; simp only [PV.free]; exact PV.onlyL_free hk xs h
  | .clo _ f c,h=>by
    simp only [PV.only,Bool.and_eq_true] at h; simp only [PV.free,Bool.and_eq_true]
    exact ⟨PV.onlyL_free hk f h.1,PV.onlyL_free hk c h.2⟩
  | .ifc _ x,h=>by simp only [PV.only] at h; simp only [PV.free]; exact PV.only_free hk x h
  | .dead,_=>rfl
theorem PV.onlyL_free {ks : List Nat} {k : Nat} (hk : ks.contains k = false) : ∀ xs : List PV,PV.onlyL ks xs = true → PV.freeL k xs = true
  | [],_=>rfl
  | x :: xs,h=>by
    simp only [PV.onlyL,Bool.and_eq_true] at h; simp only [PV.freeL,Bool.and_eq_true]
    exact ⟨PV.only_free hk x h.1,PV.onlyL_free hk xs h.2⟩
end
theorem PV.only_mem {ks : List Nat} {k : Nat} {x : PV} (h : x.only ks = true) (hk : x.free k = false) : k ∈ ks:=by
  cases e : ks.contains k with
  | true=>simpa using e
  | false=>rw [PV.only_free e x h] at hk; cases hk
def Cells.only (ks : List Nat) : Cells → Bool
  | .pure _=>true
  | .mix vs=>PV.onlyL ks vs
theorem Cells.only_get {ks : List Nat} {c : Cells} {i : Nat} {x : PV} (h : c.only ks = true) (hx : c.get i = some x) : x.only ks = true:=by
  cases c with
  | pure xs =>
    simp only [Cells.get,Option.map_eq_some_iff] at hx
    obtain ⟨y,_,rfl⟩:=hx; rfl
  | mix vs =>
    simp only [Cells.only] at h
    have : ∀ (l : List PV) (i : Nat),PV.onlyL ks l = true → l[i]? = some x → x.only ks = true:=by
      intro l
      induction l with
      | nil=>intro i _ h; simp at h
      | cons y l ih =>
        intro i hl hi
        simp only [PV.onlyL,Bool.and_eq_true] at hl
        cases i with
        | zero => obtain rfl : y = x := by simpa using hi
                  exact hl.1
        | succ i=>exact ih i hl.2 (by simpa using hi)
    exact this vs i h hx
def Cells.ren (κ : Nat → Nat) : Cells → Cells
  | .pure xs=>.pure xs
  | .mix vs=>.mix (vs.map (PV.ren κ))
def Blk.ren (κ : Nat → Nat) (B : Blk) : Blk:=⟨B.T,B.sz,B.cs.ren κ⟩
theorem Cells.ren_len (κ : Nat → Nat) (c : Cells) : (c.ren κ).len = c.len:=by cases c <;> simp [Cells.ren,Cells.len]
theorem Cells.ren_get (κ : Nat → Nat) (c : Cells) (i : Nat) : (c.ren κ).get i = (c.get i).map (PV.ren κ):=by
  cases c with
  | pure xs=>simp only [Cells.ren,Cells.get,Option.map_map]; congr 1
  | mix vs=>simp [Cells.ren,Cells.get]
end Go.Proofs.YtcifhkfpmhifaaaGreatDoor.SH
namespace Go.Proofs.YtcifhkfpmhifaaaGreatDoor.SH
open Go Go.RowKit
mutual
theorem ren_of {β β0 : Nat → Option Blk} {ρ : Nat → Nat} {ok : Nat → Prop} {Hp : Nat → Option Obj} {κ : Nat → Nat} (hH : ∀ j B,β0 j = some B → ∃ B',β (κ j) = some B' ∧ B'.sz = B.sz ∧ B'.cs.len = B.cs.len) : ∀ (x : PV) (v : Value),RelV β ρ ok Hp (x.ren κ) v → RelV β0 (fun j=>ρ (κ j)) ok Hp x v
  | .p x,v,h=>by simpa only [PV.ren,RelV] using h
  | .at_ k o t,v,h=>by
    simp only [PV.ren,RelV] at h ⊢
    intro B hB
    obtain ⟨B',h1,h2,h3⟩:=hH k B hB
    rw [← h3]; exact h B' h1
  | .im xs o,v,h=>by simpa only [PV.ren,RelV] using h
  | .ref k o n t,v,h=>by
    simp only [PV.ren,RelV] at h ⊢
    refine ⟨h.1,fun B hB=>?_⟩
    obtain ⟨B',h1,h2,h3⟩:=hH k B hB
    rw [← h3,← h2]; exact h.2 B' h1
  | .agg xs,v,h=>by
    simp only [PV.ren,RelV] at h ⊢
    obtain ⟨cs,h1,h2,h3⟩:=h
    exact ⟨cs,h1,renL_of hH xs cs h2,h3⟩
  | .tup xs,v,h=>by
    simp only [PV.ren,RelV] at h ⊢
    obtain ⟨cs,h1,h2⟩:=h
    exact ⟨cs,h1,renL_of hH xs cs h2⟩
  | .clo f a b,v,h=>by
    simp only [PV.ren,RelV] at h ⊢
    obtain ⟨fs,cs,h1,h2,h3⟩:=h
    exact ⟨fs,cs,h1,renL_of hH a fs h2,renL_of hH b cs h3⟩
  | .ifc t x,v,h=>by
    simp only [PV.ren,RelV] at h ⊢
    obtain ⟨y,h1,h2⟩:=h
    exact ⟨y,h1,ren_of hH x y h2⟩
  | .dead,_,_=>by simp [RelV]
theorem renL_of {β β0 : Nat → Option Blk} {ρ : Nat → Nat} {ok : Nat → Prop} {Hp : Nat → Option Obj} {κ : Nat → Nat} (hH : ∀ j B,β0 j = some B → ∃ B',β (κ j) = some B' ∧ B'.sz = B.sz ∧ B'.cs.len = B.cs.len) : ∀ (xs : List PV) (vs : List Value),RelVL β ρ ok Hp (PV.renL κ xs) vs → RelVL β0 (fun j=>ρ (κ j)) ok Hp xs vs
  | [],v,h=>by simpa only [PV.renL,RelVL] using h
  | x :: xs,vs,h=>by
    simp only [PV.renL,RelVL] at h ⊢
    obtain ⟨v,r,h1,h2,h3⟩:=h
    exact ⟨v,r,h1,ren_of hH x v h2,renL_of hH xs r h3⟩
end
mutual
theorem ren_to {β β0 : Nat → Option Blk} {ρ ρ0 : Nat → Nat} {ok : Nat → Prop} {Hp : Nat → Option Obj} {κ : Nat → Nat} {K : Nat → Prop} (hH : ∀ j,K j → ∀ B',β (κ j) = some B' → ∃ B,β0 j = some B ∧ B'.sz = B.sz ∧ B'.cs.len = B.cs.len ∧ ρ (κ j) = ρ0 j) : ∀ (x : PV) (v : Value),(∀ k,x.free k = false → K k) → RelV β0 ρ0 ok Hp x v → RelV β ρ ok Hp (x.ren κ) v
  | .p x,v,_,h=>by simpa only [PV.ren,RelV] using h
  | .at_ k o t,v,hf,h=>by
    simp only [PV.ren,RelV] at h ⊢
    intro B' hB'
    obtain ⟨B,h1,h2,h3,h4⟩:=hH k (hf k (by simp [PV.free])) B' hB'
    rw [h3,h4]; exact h B h1
  | .im xs o,v,_,h=>by simpa only [PV.ren,RelV] using h
  | .ref k o n t,v,hf,h=>by
    simp only [PV.ren,RelV] at h ⊢
    refine ⟨h.1,fun B' hB'=>?_⟩
    obtain ⟨B,h1,h2,h3,h4⟩:=hH k (hf k (by simp [PV.free])) B' hB'
    rw [h3,h4,h2]; exact h.2 B h1
  | .agg xs,v,hf,h=>by
    simp only [PV.ren,RelV] at h ⊢
    obtain ⟨cs,h1,h2,h3⟩:=h
    exact ⟨cs,h1,renL_to hH xs cs (fun k hk=>hf k (by simpa [PV.free] using hk)) h2,h3⟩
  | .tup xs,v,hf,h=>by
    simp only [PV.ren,RelV] at h ⊢
    obtain ⟨cs,h1,h2⟩:=h
    exact ⟨cs,h1,renL_to hH xs cs (fun k hk=>hf k (by simpa [PV.free] using hk)) h2⟩
  | .clo f a b,v,hf,h=>by
    simp only [PV.ren,RelV] at h ⊢
    obtain ⟨fs,cs,h1,h2,h3⟩:=h
    exact ⟨fs,cs,h1,renL_to hH a fs (fun k hk=>hf k (by simp [PV.free,hk])) h2,renL_to hH b cs (fun k hk=>hf k (by simp [PV.free,hk])) h3⟩
  | .ifc t x,v,hf,h=>by
    simp only [PV.ren,RelV] at h ⊢
    obtain ⟨y,h1,h2⟩:=h
    exact ⟨y,h1,ren_to hH x y (fun k hk=>hf k (by simpa [PV.free] using hk)) h2⟩
  | .dead,_,_,_=>by simp [PV.ren,RelV]
theorem renL_to {β β0 : Nat → Option Blk} {ρ ρ0 : Nat → Nat} {ok : Nat → Prop} {Hp : Nat → Option Obj} {κ : Nat → Nat} {K : Nat → Prop} (hH : ∀ j,K j → ∀ B',β (κ j) = some B' → ∃ B,β0 j = some B ∧ B'.sz = B.sz ∧ B'.cs.len = B.cs.len ∧ ρ (κ j) = ρ0 j) : ∀ (xs : List PV) (vs : List Value),(∀ k,PV.freeL k xs = false → K k) → RelVL β0 ρ0 ok Hp xs vs → RelVL β ρ ok Hp (PV.renL κ xs) vs
  | [],v,_,h=>by simpa only [PV.renL,RelVL] using h
  | x :: xs,vs,hf,h=>by
    simp only [PV.renL,RelVL] at h ⊢
    obtain ⟨v,r,h1,h2,h3⟩:=h
    exact ⟨v,r,h1,ren_to hH x v (fun k hk=>hf k (by simp [PV.freeL,hk])) h2,renL_to hH xs r (fun k hk=>hf k (by simp [PV.freeL,hk])) h3⟩
end
def okG (ok : Nat → Prop) (w : World) (H' : List (Nat × Blk)) (ρ' : Nat → Nat) (b : Nat) : Prop:=(ok b ∨ w.heap.size ≤ b) ∧ ∀ j,H'.lookup j ≠ none → b ≠ ρ' j
structure GPost (E : Env) (st : Nat → Bool) (ok : Nat → Prop) (ρ : Nat → Nat) (w : World) (H H' : List (Nat × Blk)) (r : PV) (v : Value) (ρ' : Nat → Nat) (w' : World) : Prop where
  res : RelV (lk H') ρ' (okG ok w H' ρ') (hp w') r v
  blk : ∀ j B',H'.lookup j = some B' → BlkAt (lk H') ρ' (okG ok w H' ρ') (hp w') j B'
  inj : ∀ j j',H'.lookup j ≠ none → H'.lookup j' ≠ none → ρ' j = ρ' j' → j = j'
  old : ∀ j,H'.lookup j ≠ none → H.lookup j ≠ none → (∃ i,H.lookup i ≠ none ∧ ρ' j = ρ i) ∨ w.heap.size ≤ ρ' j
  new : ∀ j,H'.lookup j ≠ none → H.lookup j = none → w.heap.size ≤ ρ' j
  stay : ∀ j,H'.lookup j ≠ none → H.lookup j ≠ none → st j = true → ρ' j = ρ j ∧ ∀ c T,hp w (ρ j) = some (.cells c T (0,0)) → ∃ c' T',hp w' (ρ j) = some (.cells c' T' (0,0)) ∧ c'.size = c.size
  os : w'.os = w.os
  tape : w'.tape = w.tape
  output : w'.output = w.output
  size : w.heap.size ≤ w'.heap.size
  frame : ∀ b,b < w.heap.size → (∀ j,H.lookup j ≠ none → b ≠ ρ j) → w'.heap[b]? = w.heap[b]?
def SaysG (E : Env) (st : Nat → Bool) (f : FuncId) (args : List PV) (H H' : List (Nat × Blk)) (r : PV) : Prop :=
  ∀ (ok : Nat → Prop) (ρ : Nat → Nat) (w : World) (vals : List Value),E.G w →
    (∀ j B,H.lookup j = some B → BlkAt (lk H) ρ ok (hp w) j B ∧ E.ng ≤ ρ j ∧ ¬ ok (ρ j)) →
    (∀ j j',H.lookup j ≠ none → H.lookup j' ≠ none → ρ j = ρ j' → j = j') → RelVL (lk H) ρ ok (hp w) args vals →
    Calls E.P f vals.toArray w fun e w'=>∃ v ρ',e = .returned v ∧ GPost E st ok ρ w H H' r v ρ' w'
theorem lookup_some {l : List (Nat × Blk)} {j : Nat} (h : l.lookup j ≠ none) : ∃ B,l.lookup j = some B:=Option.ne_none_iff_exists'.1 h
structure GFr (E : Env) (st : Nat → Bool) (H : List (Nat × Blk)) (n : Nat) (F : Fr) : Prop where
  g : E.G F.w0
  x : ∀ b,F.X b → E.ng ≤ b
  nt : F.nt = n
  df : F.df = []
  p0 : ∀ k,H.lookup k = none → F.pin k = none
  ps : ∀ k,st k = false → F.pin k = none
  lo : ∀ k,F.lo k = (H.lookup k).isNone
  ro : F.ro = none
theorem saysG_of0 {E : Env} {st : Nat → Bool} {f : FuncId} {fn : Func} {c : Code} {args : List PV} {H H' : List (Nat × Blk)} {r : PV} {n : Nat} {Q : Exit → St → Prop} (hf : E.P.funcs[f]? = some fn) (hb : fn.body = some c) (hn : fn.ntmps = n) (hle : args.length ≤ n)
    (hQ : ∀ e S,Q e S → (e = .normal ∨ e = .ret) ∧ HasB S H' ∧ ∀ F ρ tmps w',SatR F ρ S ⟨tmps,[]⟩ w' → ∃ v,(results fn tmps).run E.P w' = .ok v w' ∧ RelV S.blk ρ (okI F S.blk ρ) (hp w') r v)
    (h : ∀ F : Fr,GFr E st H n F → Exec E.P F c ⟨argSlotsV 0 args,H⟩ Q) : SaysG E st f args H H' r:=by
  intro ok ρ w vals hG hH hinj hrel
  have hvl:=relVL_length hrel
  let F : Fr:=⟨w,ok,fun b=>∃ j,H.lookup j ≠ none ∧ b = ρ j,n,[],fun j=>if H.lookup j ≠ none ∧ st j = true then match hp w (ρ j) with | some (.cells c _ _)=>some (ρ j,c.size) | _=>none else none,none,fun _ _=>False,fun k=>(H.lookup k).isNone⟩
  have hpin : ∀ j B c,st j = true → H.lookup j = some B → hp w (ρ j) = some (.cells c B.T (0,0)) → F.pin j = some (ρ j,c.size):=fun j B c hf hj hc=>by
    simp only [F]
    rw [if_pos ⟨by simp [hj],hf⟩,hc]
  have hcarry : Carry ok (okI F (lk H) ρ) (hp w) (hp w):=fun b hb _=>⟨⟨.inl hb,fun k hk e=>by obtain ⟨B,hB⟩:=lookup_some hk; exact (hH k B hB).2.2 (e ▸ hb)⟩,rfl⟩
  have hkeep : Keep (fun _=>True) (lk H) (lk H) ρ ρ (hp w) (hp w):=fun k _ B hB=>⟨B,hB,rfl,Nat.le_refl _,fun _=>⟨rfl,fun c T fr hc=>⟨c,T,fr,hc,rfl⟩⟩⟩
  have hS : SatR F ρ ⟨argSlotsV 0 args,H⟩ { tmps:=vals.toArray ++ Array.replicate (fn.ntmps - vals.toArray.size) undef,defers:=[] } w:=by
    refine ⟨fun t v ht=>?_,fun k B hB=>?_,hinj,⟨rfl,rfl,rfl,Nat.le_refl _,fun _ _ _=>rfl⟩,?_,Marks.nil rfl,fun j b m hj hS=>?_⟩
    · obtain ⟨j,rfl,hx⟩:=argSlotsV_get ht
      obtain ⟨u,hu,hru⟩:=relVL_get hrel hx
      refine ⟨u,?_,RelV.mono hcarry hkeep v u (fun _ _=>trivial) hru⟩
      rw [Nat.zero_add,Array.getElem?_append_left (by have:=(List.getElem?_eq_some_iff.1 hu).1; simpa using this)]
      simpa using hu
    · obtain ⟨⟨c,h1,h2,h3⟩,h4,h5⟩:=hH k B hB
      have hB' : H.lookup k = some B:=hB
      refine ⟨c,h1,.inl ⟨⟨k,by simp [hB'],rfl⟩,by simp [F,hB']⟩,h2,fun i x hx=>?_⟩
      obtain ⟨u,hu,ho,hru⟩:=h3 i x hx
      exact ⟨u,hu,ho,RelV.mono hcarry hkeep x u (fun _ _=>trivial) hru⟩
    · simp [F,hn]; omega
    · obtain ⟨B,hB⟩:=lookup_some (l:=H) (j:=j) hS
      obtain ⟨⟨c,h1,_⟩,_⟩:=hH j B hB
      have hjf : st j = true:=by
        by_cases hjf : st j = true
        · exact hjf
        · simp only [F] at hj; rw [if_neg (fun h=>hjf h.2)] at hj; cases hj
      rw [hpin j B c hjf hB h1] at hj
      injection hj with hj
      injection hj with hj1 hj2
      subst hj1 hj2
      exact ⟨rfl,c,B.T,h1,rfl⟩
  refine calls_exec hf hb rfl rfl (fun _ _ h=>h) ⟨ρ,hS⟩ (h F ⟨hG,fun b ⟨j,hj,e⟩=>by obtain ⟨B,hB⟩:=lookup_some hj; subst e; exact (hH j B hB).2.1,rfl,rfl,fun k hk2=>by simp only [F]; rw [if_neg (fun h=>h.1 hk2)],fun k hk2=>by simp only [F]; rw [if_neg (fun h=>by rw [h.2] at hk2; cases hk2)],fun _=>rfl,rfl⟩) fun e S' hq=>⟨(hQ e S' hq).1,fun ρ' tmps w' hS'=>?_⟩
  obtain ⟨-,hHB,hres⟩:=hQ e S' hq
  obtain ⟨v,hv,hrv⟩:=hres F ρ' tmps w' hS'
  have hsb : ∀ j B',H'.lookup j = some B' → S'.blk j = some B':=fun j B' hj=>hHB.all j B' hj
  have hcar : Carry (okI F S'.blk ρ') (okG ok w H' ρ') (hp w') (hp w'):=fun b hb _=>⟨⟨hb.1,fun j hj e=>by
    obtain ⟨B',hB'⟩:=lookup_some hj
    exact hb.2 j (by simp [hsb j B' hB']) e⟩,rfl⟩
  have hkp : ∀ K : Nat → Prop,Keep K S'.blk (lk H') ρ' ρ' (hp w') (hp w'):=fun K k _ B hB=>⟨B,hsb k B hB,rfl,Nat.le_refl _,fun _=>⟨rfl,fun c T fr hc=>⟨c,T,fr,hc,rfl⟩⟩⟩
  refine ⟨v,hv,v,ρ',rfl,RelV.mono (K:=fun _=>True) hcar (hkp _) r v (fun _ _=>trivial) hrv,fun j B' hj=>?_,fun j j' h1 h2 e=>?_,fun j h1 h2=>?_,fun j h1 h2=>?_,fun j h1 h2 h3=>?_,hS'.frame.os,hS'.frame.tape,hS'.frame.output,hS'.frame.size,fun b hb hx=>hS'.frame.block b hb (fun ⟨j,hj,e⟩=>hx j hj e)⟩
  · obtain ⟨c',f1,_,f3,f4⟩:=hS'.blks j B' (hsb j B' hj)
    refine ⟨c',f1,f3,fun i x hx=>?_⟩
    obtain ⟨u,hu,ho,hru⟩:=f4 i x hx
    exact ⟨u,hu,ho,RelV.mono (K:=fun _=>True) hcar (hkp _) x u (fun _ _=>trivial) hru⟩
  · obtain ⟨B,hB⟩:=lookup_some h1
    obtain ⟨B',hB'⟩:=lookup_some h2
    exact hS'.inj j j' (by simp [hsb j B hB]) (by simp [hsb j' B' hB']) e
  · obtain ⟨B,hB⟩:=lookup_some h1
    obtain ⟨_,_,f2,_⟩:=hS'.blks j B (hsb j B hB)
    rcases f2 with ⟨⟨i,hi,e⟩,_⟩ | f2
    · exact .inl ⟨i,hi,e⟩
    · exact .inr f2
  · obtain ⟨B,hB⟩:=lookup_some h1
    obtain ⟨_,_,f2,_⟩:=hS'.blks j B (hsb j B hB)
    rcases f2 with ⟨_,f2⟩ | f2
    · simp only [F,h2] at f2; cases f2
    · exact f2
  · obtain ⟨B',hB'⟩:=lookup_some h1
    obtain ⟨B,hB⟩:=lookup_some h2
    obtain ⟨⟨c,g1,_⟩,_⟩:=hH j B hB
    obtain ⟨e1,c',T',e2,e3⟩:=hS'.pin j _ _ (hpin j B c h3 hB g1) (by simp [hsb j B' hB'])
    refine ⟨e1,fun c2 T2 hc2=>⟨c',T',e2,?_⟩⟩
    rw [g1] at hc2
    injection hc2 with hc2
    injection hc2 with hc2
    rw [e3,hc2]
theorem saysG_tmp {E : Env} {st : Nat → Bool} {f : FuncId} {fn : Func} {c : Code} {args : List PV} {H H' : List (Nat × Blk)} {r : PV} {t0 n : Nat} (hf : E.P.funcs[f]? = some fn) (hb : fn.body = some c) (hn : fn.ntmps = n) (hr : fn.results = #[.tmp t0]) (hle : args.length ≤ n)
    (h : ∀ F : Fr,GFr E st H n F → Exec E.P F c ⟨argSlotsV 0 args,H⟩ (fun e S=>(e = .normal ∨ e = .ret) ∧ S.slot t0 = some r ∧ HasB S H')) : SaysG E st f args H H' r :=
  saysG_of0 hf hb hn hle (fun e S hq=>⟨hq.1,hq.2.2,fun F ρ tmps w' hS'=>by
    obtain ⟨v,hu,hrv⟩:=hS'.slots t0 r hq.2.1
    refine ⟨v,?_,hrv⟩
    have e : results fn tmps = (do let vs ← [ResultVar.tmp t0].toArray.mapM (resRun tmps); pure (if h : vs.size = 1 then vs[0] else .tuple vs)):=by
      unfold results
      rw [hr]
      rfl
    have hm : ([ResultVar.tmp t0].toArray.mapM (resRun tmps)).run E.P w' = .ok #[v] w':=by
      rw [List.mapM_toArray]
      simp [List.mapM_cons,resRun,Array.getD_eq_getD_getElem?,hu]
    rw [e]
    simp only [Sem.run_bind,hm,Result.andThen_ok,Sem.run_pure]
    rfl⟩) h
def Stays (st : Nat → Bool) (S S' : St) (κ : Nat → Nat) (H H' : List (Nat × Blk)) (k : Nat) : Prop :=
  S'.blk k = none ∨ (S'.blk k = S.blk k ∧ ∀ j,(H.lookup j ≠ none ∨ H'.lookup j ≠ none) → κ j ≠ k) ∨ ∃ j B0 B1,κ j = k ∧ st j = true ∧ H.lookup j = some B0 ∧ H'.lookup j = some B1 ∧ B1.sz = B0.sz ∧ B1.cs.len = B0.cs.len
structure GCall (st : Nat → Bool) (F : Fr) (S S' : St) (κ : Nat → Nat) (H H' : List (Nat × Blk)) (r : PV) (d : Nat) : Prop where
  h1 : ∀ j B,H.lookup j = some B → S.blk (κ j) = some (B.ren κ)
  inj : ∀ j j',(H.lookup j ≠ none ∨ H'.lookup j ≠ none) → (H.lookup j' ≠ none ∨ H'.lookup j' ≠ none) → κ j = κ j' → j = j'
  lo : ∀ i j,H.lookup i ≠ none → H.lookup j ≠ none → H'.lookup j ≠ none → st j = false → F.lo (κ i) = false → F.lo (κ j) = false
  blk : ∀ k B',S'.blk k = some B' → (∃ j B,κ j = k ∧ H'.lookup j = some B ∧ B' = B.ren κ) ∨ (S.blk k = some B' ∧ (∀ j,(H.lookup j ≠ none ∨ H'.lookup j ≠ none) → κ j ≠ k) ∧ ∀ i x,B'.cs.get i = some x → ∀ q,x.free q = false → Stays st S S' κ H H' q)
  slot : ∀ t v,S'.slot t = some v → (t = d ∧ v = r.ren κ) ∨ (t ≠ d ∧ S.slot t = some v ∧ ∀ q,v.free q = false → Stays st S S' κ H H' q)
  res : ∀ q,r.free q = false → H'.lookup q ≠ none
  cont : ∀ j B,H'.lookup j = some B → ∀ i x,B.cs.get i = some x → ∀ q,x.free q = false → H'.lookup q ≠ none
  pin : ∀ j,H'.lookup j ≠ none → F.pin (κ j) ≠ none → H.lookup j ≠ none ∧ st j = true
open Classical in
theorem stepG_wp {E : Env} {st : Nat → Bool} {F : Fr} (hG : E.G F.w0) (hX : ∀ b, F.X b → E.ng ≤ b) (hng : E.ng ≤ F.w0.heap.size) {d : Nat} {f : FuncId} {o : Oper} {xs : List PV} {S S' : St} {H H' : List (Nat × Blk)} {r : PV} (κ : Nat → Nat) (hs : SaysG E st f xs H H' r) (hd : o.dst = some d) (hlt : d < F.nt)
    (hargs : ∀ ρ a w,SatR F ρ S a w → ∃ vals : List Value,(execOp a.eval o).run E.P w = .ok (.enter f vals.toArray) w ∧ RelVL S.blk ρ (okI F S.blk ρ) (hp w) (PV.renL κ xs) vals)
    (C : GCall st F S S' κ H H' r d) : ∀ a w,Sat F S a w → ∀ (Q : Exit → Act → World → Prop) (K : Act → World → Prop),(∀ a' w',Sat F S' a' w' → K a' w') → o.wp E.P a w K Q:=by
  intro a w ⟨ρ,h⟩ Q K hK
  obtain ⟨vals,hrun,hvals⟩:=hargs ρ a w h
  unfold Oper.wp
  rw [hrun]
  simp only [Oper.upon]
  have hne : ∀ k,S.blk k ≠ none → ρ k < w.heap.size:=fun k hk=>by
    obtain ⟨B,hB⟩:=Option.ne_none_iff_exists'.1 hk
    obtain ⟨c,e1,_⟩:=h.blks k B hB; exact World.size_lt e1
  have hSH : ∀ j,H.lookup j ≠ none → S.blk (κ j) ≠ none:=fun j hj=>by
    obtain ⟨B,hB⟩:=lookup_some hj; rw [C.h1 j B hB]; simp
  have hrel : RelVL (lk H) (fun j=>ρ (κ j)) (okI F S.blk ρ) (hp w) xs vals:=renL_of (fun j B hB=>⟨B.ren κ,C.h1 j B hB,rfl,Cells.ren_len κ B.cs⟩) xs _ hvals
  have hGw : E.G w:=E.stab F.w0 w hG fun b hb=>h.frame.block b (by omega) (fun hx=>by have:=hX b hx; omega)
  have hpre : ∀ j B,H.lookup j = some B → BlkAt (lk H) (fun j=>ρ (κ j)) (okI F S.blk ρ) (hp w) j B ∧ E.ng ≤ ρ (κ j) ∧ ¬ okI F S.blk ρ (ρ (κ j)):=fun j B hj=>by
    have hB:=C.h1 j B hj
    obtain ⟨c,e1,e2,e3,e4⟩:=h.blks (κ j) _ hB
    refine ⟨⟨c,e1,by rw [← Cells.ren_len κ]; exact e3,fun i x hx=>?_⟩,?_,fun hok=>hok.2 (κ j) (by simp [hB]) rfl⟩
    · obtain ⟨u,hu,ho,hru⟩:=e4 i (x.ren κ) (by show (B.cs.ren κ).get i = _; rw [Cells.ren_get,hx]; rfl)
      exact ⟨u,hu,ho,ren_of (fun j B hB=>⟨B.ren κ,C.h1 j B hB,rfl,Cells.ren_len κ B.cs⟩) x u hru⟩
    · rcases e2 with e2 | e2
      · exact hX _ e2.1
      · omega
  refine Calls.mono (hs (okI F S.blk ρ) (fun j=>ρ (κ j)) w _ hGw hpre (fun j j' hj hj' e=>C.inj j j' (.inl hj) (.inl hj') (h.inj _ _ (hSH j hj) (hSH j' hj') e)) hrel) fun e w' ⟨v,ρ',he,hp'⟩=>?_
  subst he
  let ρn : Nat → Nat:=fun k=>if hh : ∃ j,κ j = k ∧ H'.lookup j ≠ none then ρ' (Classical.choose hh) else ρ k
  have n1 : ∀ j,H'.lookup j ≠ none → ρn (κ j) = ρ' j:=fun j hj=>by
    have hh : ∃ i,κ i = κ j ∧ H'.lookup i ≠ none:=⟨j,rfl,hj⟩
    simp only [ρn,dif_pos hh]
    have:=Classical.choose_spec hh
    rw [C.inj _ j (.inr this.2) (.inr hj) this.1]
  have n2 : ∀ k,(∀ j,H'.lookup j ≠ none → κ j ≠ k) → ρn k = ρ k:=fun k hk=>by
    simp only [ρn]; rw [dif_neg (fun ⟨j,h1,h2⟩=>hk j h2 h1)]
  have hother : ∀ b,b < w.heap.size → (∀ j,H.lookup j ≠ none → b ≠ ρ (κ j)) → hp w' b = hp w b:=fun b hb hn=>hp'.frame b hb hn
  have hplace : ∀ j,H'.lookup j ≠ none → (∃ i,H.lookup i ≠ none ∧ ρ' j = ρ (κ i)) ∨ w.heap.size ≤ ρ' j:=fun j hj=>by
    by_cases hj' : H.lookup j = none
    · exact .inr (hp'.new j hj hj')
    · exact hp'.old j hj hj'
  have hkept : ∀ k B,S.blk k = some B → (∀ j,(H.lookup j ≠ none ∨ H'.lookup j ≠ none) → κ j ≠ k) → ρn k = ρ k ∧ hp w' (ρ k) = hp w (ρ k):=fun k B hB hk=>by
    refine ⟨n2 k fun j hj=>hk j (.inr hj),hother _ (hne k (by simp [hB])) fun j hj e=>hk j (.inl hj) (h.inj _ _ (hSH j hj) (by simp [hB]) e.symm)⟩
  have hown : ∀ b,okI F S.blk ρ b → b < w.heap.size → ∀ k,S'.blk k ≠ none → b ≠ ρn k:=fun b hb hbs k hk e=>by
    obtain ⟨B',hB'⟩:=Option.ne_none_iff_exists'.1 hk
    rcases C.blk k B' hB' with ⟨j,B,rfl,hj,_⟩ | ⟨hB,hk2,_⟩
    · rw [n1 j (by simp [hj])] at e
      rcases hplace j (by simp [hj]) with ⟨i,hi,e2⟩ | e2
      · exact hb.2 (κ i) (hSH i hi) (by rw [e,e2])
      · omega
    · rw [(hkept k B' hB hk2).1] at e
      exact hb.2 k (by simp [hB]) e
  have hcar : Carry (okI F S.blk ρ) (okI F S'.blk ρn) (hp w) (hp w'):=fun b hb hne'=>by
    have hbs : b < w.heap.size:=by
      obtain ⟨o,ho⟩:=Option.ne_none_iff_exists'.1 hne'; exact World.size_lt ho
    exact ⟨⟨hb.1,hown b hb hbs⟩,hother b hbs fun j hj e=>hb.2 (κ j) (hSH j hj) e⟩
  have hcar2 : Carry (okG (okI F S.blk ρ) w H' ρ') (okI F S'.blk ρn) (hp w') (hp w'):=fun b hb _=>by
    refine ⟨⟨?_,fun k hk e=>?_⟩,rfl⟩
    · rcases hb.1 with hb1 | hb1
      · exact hb1.1
      · exact .inr (Nat.le_trans h.frame.size hb1)
    · obtain ⟨B',hB'⟩:=Option.ne_none_iff_exists'.1 hk
      rcases C.blk k B' hB' with ⟨j,B,rfl,hj,_⟩ | ⟨hB,hk2,_⟩
      · rw [n1 j (by simp [hj])] at e; exact hb.2 j (by simp [hj]) e
      · rw [(hkept k B' hB hk2).1] at e
        rcases hb.1 with hb1 | hb1
        · exact hb1.2 k (by simp [hB]) e
        · have:=hne k (by simp [hB]); omega
  have hren : ∀ j,H'.lookup j ≠ none → ∀ B',S'.blk (κ j) = some B' → ∃ B,lk H' j = some B ∧ B'.sz = B.sz ∧ B'.cs.len = B.cs.len ∧ ρn (κ j) = ρ' j:=fun j hj B' hB'=>by
    rcases C.blk _ B' hB' with ⟨i,B,e1,hi,rfl⟩ | ⟨_,hk2,_⟩
    · obtain rfl:=C.inj i j (.inr (by simp [hi])) (.inr hj) e1
      exact ⟨B,hi,rfl,Cells.ren_len κ B.cs,n1 i hj⟩
    · exact absurd rfl (hk2 j (.inr hj))
  have hput : ∀ t,t ≠ d → (a.put o.dst v).tmps[t]? = a.tmps[t]?:=fun t ht=>by
    rw [hd]; simp only [Act.put]; rw [Array.getElem?_setIfInBounds_ne (Ne.symm ht)]
  have hkeep : Keep (Stays st S S' κ H H') S.blk S'.blk ρ ρn (hp w) (hp w'):=fun k hst B' hB'=>by
    rcases hst with h0 | ⟨h0,hk2⟩ | ⟨j,B0,B1,rfl,hf,g0,g1,g2,g3⟩
    · rw [h0] at hB'; cases hB'
    · rw [h0] at hB'
      obtain ⟨e1,e2⟩:=hkept k B' hB' hk2
      exact ⟨B',hB',rfl,Nat.le_refl _,fun _=>⟨e1,fun c T fr hc=>⟨c,T,fr,by rw [e2]; exact hc,rfl⟩⟩⟩
    · rcases C.blk _ B' hB' with ⟨i,B,e1,hi,rfl⟩ | ⟨_,hk2,_⟩
      · obtain rfl:=C.inj i j (.inr (by simp [hi])) (.inr (by simp [g1])) e1
        rw [g1] at hi; injection hi with hi; subst hi
        obtain ⟨s1,s2⟩:=hp'.stay i (by simp [g1]) (by simp [g0]) hf
        refine ⟨B0.ren κ,C.h1 i B0 g0,g2,by show (B0.cs.ren κ).len ≤ (B1.cs.ren κ).len; rw [Cells.ren_len,Cells.ren_len]; omega,fun _=>⟨(n1 i (by simp [g1])).trans s1,fun c T fr hc=>?_⟩⟩
        obtain ⟨c0,e1',_⟩:=h.blks (κ i) _ (C.h1 i B0 g0)
        have hc':=hc
        rw [e1'] at hc'
        injection hc' with hc'
        injection hc' with q1 q2 q3
        subst q1
        obtain ⟨c',T',r1,r2⟩:=s2 _ _ e1'
        exact ⟨c',T',(0,0),r1,r2⟩
      · exact absurd rfl (hk2 j (.inr (by simp [g1])))
  show K (a.put o.dst v) w'
  refine hK _ _ ⟨ρn,h.upd (S':=S') (Kp:=Stays st S S' κ H H') ⟨hp'.os.trans h.frame.os,hp'.tape.trans h.frame.tape,hp'.output.trans h.frame.output,Nat.le_trans h.frame.size hp'.size,fun b hb hx=>?_⟩ (by simp [hd,Act.put,h.nt]) (by simp [hd,Act.put]) hcar hkeep (fun k k' h1 h2 e=>?_) (fun j b n hj hS=>?_) (fun t v' ht=>?_) (fun k B' hB'=>?_)⟩
  · rw [hp'.frame b (Nat.lt_of_lt_of_le hb h.frame.size) fun j hj e=>?_]
    · exact h.frame.block b hb hx
    · obtain ⟨B,hB⟩:=lookup_some hj
      obtain ⟨_,_,e2,_⟩:=h.blks (κ j) _ (C.h1 j B hB)
      subst e
      rcases e2 with e2 | e2
      · exact hx e2.1
      · omega
  · obtain ⟨B,hB⟩:=Option.ne_none_iff_exists'.1 h1
    obtain ⟨B',hB'⟩:=Option.ne_none_iff_exists'.1 h2
    rcases C.blk k B hB with ⟨j,C1,rfl,hj,_⟩ | ⟨g1,g2,_⟩ <;> rcases C.blk k' B' hB' with ⟨j',C2,rfl,hj',_⟩ | ⟨g1',g2',_⟩
    · rw [n1 j (by simp [hj]),n1 j' (by simp [hj'])] at e
      rw [hp'.inj j j' (by simp [hj]) (by simp [hj']) e]
    · rw [n1 j (by simp [hj]),(hkept k' B' g1' g2').1] at e
      rcases hplace j (by simp [hj]) with ⟨i,hi,e2⟩ | e2
      · exact absurd (h.inj (κ i) k' (hSH i hi) (by simp [g1']) (by rw [← e2,e])) (g2' i (.inl hi))
      · have:=hne k' (by simp [g1']); omega
    · rw [n1 j' (by simp [hj']),(hkept k B g1 g2).1] at e
      rcases hplace j' (by simp [hj']) with ⟨i,hi,e2⟩ | e2
      · exact absurd (h.inj (κ i) k (hSH i hi) (by simp [g1]) (by rw [← e2,e])) (g2 i (.inl hi))
      · have:=hne k (by simp [g1]); omega
    · rw [(hkept k B g1 g2).1,(hkept k' B' g1' g2').1] at e
      exact h.inj k k' (by simp [g1]) (by simp [g1']) e
  · obtain ⟨B',hB'⟩:=Option.ne_none_iff_exists'.1 hS
    rcases C.blk j B' hB' with ⟨i,B,rfl,hi,_⟩ | ⟨g1,g2,_⟩
    · obtain ⟨q1,q2⟩:=C.pin i (by simp [hi]) (by simp [hj])
      obtain ⟨s1,s2⟩:=hp'.stay i (by simp [hi]) q1 q2
      exact ⟨hSH i q1,(n1 i (by simp [hi])).trans s1,s2⟩
    · obtain ⟨e1,e2⟩:=hkept j B' g1 g2
      exact ⟨by simp [g1],e1,fun c T hc=>⟨c,T,by rw [e2]; exact hc,rfl⟩⟩
  · rcases C.slot t v' ht with ⟨rfl,rfl⟩ | ⟨h1,h2,h3⟩
    · refine .inr ⟨v,?_,?_⟩
      · rw [hd]; simp only [Act.put]; rw [Array.getElem?_setIfInBounds_self_of_lt (by rw [h.nt]; exact hlt)]
      · exact RelV.mono (K:=fun _=>True) hcar2 (fun k _ B hB=>⟨B,hB,rfl,Nat.le_refl _,fun _=>⟨rfl,fun c T fr hc=>⟨c,T,fr,hc,rfl⟩⟩⟩) _ v (fun _ _=>trivial) (ren_to (K:=fun q=>H'.lookup q ≠ none) hren r v C.res hp'.res)
    · exact .inl ⟨h2,hput t h1,h3⟩
  · rcases C.blk k B' hB' with ⟨j,B,rfl,hj,rfl⟩ | ⟨g1,g2,g3⟩
    · obtain ⟨c,f1,f2,f3⟩:=hp'.blk j B hj
      refine .inr ⟨c,by rw [n1 j (by simp [hj])]; exact f1,?_,by show (B.cs.ren κ).len ≤ _; rw [Cells.ren_len]; exact f2,fun i x hx=>?_⟩
      · rw [n1 j (by simp [hj])]
        by_cases hjH : H.lookup j = none
        · exact .inr (Nat.le_trans h.frame.size (hp'.new j (by simp [hj]) hjH))
        · rcases hp'.old j (by simp [hj]) hjH with ⟨i,hi,e2⟩ | e2
          · obtain ⟨Bi,hBi⟩:=lookup_some hi
            obtain ⟨Bj,hBj⟩:=lookup_some hjH
            by_cases hf : st j = true
            · rw [(hp'.stay j (by simp [hj]) hjH hf).1]
              obtain ⟨_,_,q2,_⟩:=h.blks (κ j) _ (C.h1 j Bj hBj)
              exact q2
            · rw [e2]
              obtain ⟨_,_,q2,_⟩:=h.blks (κ i) _ (C.h1 i Bi hBi)
              rcases q2 with ⟨q2,q3⟩ | q2
              · exact .inl ⟨q2,C.lo i j hi hjH (by simp [hj]) (by simpa using hf) q3⟩
              · exact .inr q2
          · exact .inr (Nat.le_trans h.frame.size e2)
      · have hx' : (B.cs.ren κ).get i = some x:=hx
        rw [Cells.ren_get,Option.map_eq_some_iff] at hx'
        obtain ⟨y,hy,rfl⟩:=hx'
        obtain ⟨u,hu,ho,hru⟩:=f3 i y hy
        exact ⟨u,hu,ho,RelV.mono (K:=fun _=>True) hcar2 (fun k _ B hB=>⟨B,hB,rfl,Nat.le_refl _,fun _=>⟨rfl,fun c T fr hc=>⟨c,T,fr,hc,rfl⟩⟩⟩) _ u (fun _ _=>trivial) (ren_to (K:=fun q=>H'.lookup q ≠ none) hren y u (C.cont j B hj i y hy) hru)⟩
    · obtain ⟨e1,e2⟩:=hkept k B' g1 g2
      exact .inl ⟨g1,e1,e2,g3⟩
theorem stepG {E : Env} {st : Nat → Bool} {F : Fr} (hG : E.G F.w0) (hX : ∀ b, F.X b → E.ng ≤ b) (hng : E.ng ≤ F.w0.heap.size) {ops : Array Oper} {d : Nat} {f : FuncId} {o : Oper} {xs : List PV} {S S' : St} {H H' : List (Nat × Blk)} {r : PV} (κ : Nat → Nat) (hs : SaysG E st f xs H H' r) (hd : o.dst = some d) (hg : o.guard = none) (hlt : d < F.nt)
    (hargs : ∀ ρ a w,SatR F ρ S a w → ∃ vals : List Value,(execOp a.eval o).run E.P w = .ok (.enter f vals.toArray) w ∧ RelVL S.blk ρ (okI F S.blk ρ) (hp w) (PV.renL κ xs) vals)
    (C : GCall st F S S' κ H H' r d) : StepN E.P F ops o S S':=by
  intro a w h Q K hK
  have hw : Region.wanted o (yielded ops a.tmps) = true:=by simp [Region.wanted,hg]
  rw [if_pos hw]
  exact .inl (stepG_wp hG hX hng κ hs hd hlt hargs C a w h Q K hK)
end Go.Proofs.YtcifhkfpmhifaaaGreatDoor.SH
namespace Go.Proofs.YtcifhkfpmhifaaaGreatDoor.SH
open Go Go.RowKit
theorem SatR.move {F F' : Fr} {ρ ρ' : Nat → Nat} {S S' : St} {a a' : Act} {w w' : World} {Kp : Nat → Prop} (h : SatR F ρ S a w) (hfr : Frame F' w') (hnt : a'.tmps.size = F'.nt) (hdf : Marks F' a'.defers w')
    (hc : Carry (okI F S.blk ρ) (okI F' S'.blk ρ') (hp w) (hp w')) (hk : Keep Kp S.blk S'.blk ρ ρ' (hp w) (hp w'))
    (hinj : ∀ k k',S'.blk k ≠ none → S'.blk k' ≠ none → ρ' k = ρ' k' → k = k')
    (hpin : ∀ j b n,F'.pin j = some (b,n) → S'.blk j ≠ none → ρ' j = b ∧ ∃ c T,hp w' b = some (.cells c T (0,0)) ∧ c.size = n)
    (hs : ∀ t v,S'.slot t = some v → (S.slot t = some v ∧ a'.tmps[t]? = a.tmps[t]? ∧ ∀ k,v.free k = false → Kp k) ∨ ∃ u,a'.tmps[t]? = some u ∧ RelV S'.blk ρ' (okI F' S'.blk ρ') (hp w') v u)
    (hb : ∀ k B,S'.blk k = some B → (S.blk k = some B ∧ ρ' k = ρ k ∧ hp w' (ρ k) = hp w (ρ k) ∧ ((F'.X (ρ k) ∧ F'.lo k = false) ∨ F'.w0.heap.size ≤ ρ k) ∧ ∀ i x,B.cs.get i = some x → ∀ j,x.free j = false → Kp j) ∨
      ∃ c,hp w' (ρ' k) = some (.cells c B.T (0,0)) ∧ ((F'.X (ρ' k) ∧ F'.lo k = false) ∨ F'.w0.heap.size ≤ ρ' k) ∧ B.cs.len ≤ c.size ∧ ∀ i x,B.cs.get i = some x → ∃ u,c[i]? = some u ∧ u.oneCell' = true ∧ RelV S'.blk ρ' (okI F' S'.blk ρ') (hp w') x u) :
    SatR F' ρ' S' a' w' where
  slots t v ht:=by
    rcases hs t v ht with ⟨h1,h2,h3⟩ | h
    · obtain ⟨u,hu,hr⟩:=h.slots t v h1
      exact ⟨u,by rw [h2]; exact hu,RelV.mono hc hk v u h3 hr⟩
    · exact h
  blks k B hB:=by
    rcases hb k B hB with ⟨h1,h2,h3,h5,h4⟩ | h
    · obtain ⟨c,e1,e2,e3,e4⟩:=h.blks k B h1
      refine ⟨c,by rw [h2,h3]; exact e1,by rw [h2]; exact h5,e3,fun i x hx=>?_⟩
      obtain ⟨u,hu,h1c,hr⟩:=e4 i x hx
      exact ⟨u,hu,h1c,RelV.mono hc hk x u (h4 i x hx) hr⟩
    · exact h
  inj:=hinj
  frame:=hfr
  nt:=hnt
  df:=hdf
  pin:=hpin
theorem SatR.weakR {F : Fr} {ρ : Nat → Nat} {S S' : St} {a : Act} {w : World} (h : SatR F ρ S a w) (hle : S'.le S) : SatR F ρ S' a w:=by
  have hne : ∀ k,S'.blk k ≠ none → S.blk k ≠ none ∧ ρ k = ρ k:=fun k hk=>by
    obtain ⟨B,hB⟩:=Option.ne_none_iff_exists'.1 hk
    exact ⟨by rw [hle.2 k B hB]; simp,rfl⟩
  exact h.upd (Kp:=fun _=>True) h.frame h.nt rfl (fun b hb' _=>⟨okI_mono hne hb',rfl⟩) (fun k _ B' hB'=>⟨B',hle.2 k B' hB',rfl,Nat.le_refl _,fun _=>⟨rfl,fun c T fr hc=>⟨c,T,fr,hc,rfl⟩⟩⟩)
    (fun k k' h1 h2 h3=>h.inj k k' (hne k h1).1 (hne k' h2).1 h3) (fun j _ _ _ hj=>⟨(hne j hj).1,rfl,fun c T hc=>⟨c,T,hc,rfl⟩⟩) (fun t v ht=>.inl ⟨hle.1 t v ht,rfl,fun _ _=>trivial⟩) (fun k B hB=>.inl ⟨hle.2 k B hB,rfl,rfl,fun _ _ _ _ _=>trivial⟩)
theorem lookup_mem {l : List (Nat × Blk)} {j : Nat} {B : Blk} (h : l.lookup j = some B) : (j,B) ∈ l:=by
  induction l with
  | nil=>simp at h
  | cons p l ih =>
    obtain ⟨s,u⟩:=p
    rw [List.lookup_cons] at h
    split at h
    · rename_i e; injection h with h; subst h; simp [beq_iff_eq.1 e]
    · simp [ih h]
end Go.Proofs.YtcifhkfpmhifaaaGreatDoor.SH
namespace Go.Proofs.YtcifhkfpmhifaaaGreatDoor.SH
open Go Go.RowKit
end Go.Proofs.YtcifhkfpmhifaaaGreatDoor.SH
namespace Go.Proofs.YtcifhkfpmhifaaaGreatDoor.SH
open Go Go.RowKit
end Go.Proofs.YtcifhkfpmhifaaaGreatDoor.SH
namespace Go.Proofs.YtcifhkfpmhifaaaGreatDoor.SH
open Go Go.RowKit
mutual
theorem PV.ren_id : ∀ x : PV,x.ren (fun j=>j) = x
  | .p _=>rfl
  | .at_ _ _ _=>rfl
  | .im _ _=>rfl
  | .ref _ _ _ _=>rfl
  | .agg xs=>by simp only [PV.ren]; rw [PV.renL_id xs]
  | .tup xs=>by simp only [PV.ren]; rw [PV.renL_id xs]
  | .clo _ a b=>by simp only [PV.ren]; rw [PV.renL_id a,PV.renL_id b]
  | .ifc _ x=>by simp only [PV.ren]; rw [PV.ren_id x]
  | .dead=>rfl
theorem PV.renL_id : ∀ xs : List PV,PV.renL (fun j=>j) xs = xs
  | []=>rfl
  | x :: xs=>by simp only [PV.renL]; rw [PV.ren_id x,PV.renL_id xs]
end
theorem map_ren_id (xs : List PV) : xs.map (PV.ren fun j=>j) = xs:=by rw [← renL_map,PV.renL_id]
theorem Blk.ren_id (B : Blk) : B.ren (fun j=>j) = B:=by
  obtain ⟨T,sz,cs⟩:=B
  cases cs with
  | pure xs=>rfl
  | mix vs=>simp only [Blk.ren,Cells.ren,map_ren_id]
def Whole (H : List (Nat × Blk)) : Prop:=∀ j B,H.lookup j = some B → ∀ i x,B.cs.get i = some x → ∀ q,x.free q = false → H.lookup q ≠ none
end Go.Proofs.YtcifhkfpmhifaaaGreatDoor.SH
namespace Go.Proofs.YtcifhkfpmhifaaaGreatDoor.SH
open Go Go.RowKit
end Go.Proofs.YtcifhkfpmhifaaaGreatDoor.SH
namespace Go.Proofs.YtcifhkfpmhifaaaGreatDoor.SH
open Go Go.RowKit
end Go.Proofs.YtcifhkfpmhifaaaGreatDoor.SH
namespace Go.Proofs.YtcifhkfpmhifaaaGreatDoor.SH
open Go Go.RowKit
structure NCall (st : Nat → Bool) (F : Fr) (S : St) (H H' : List (Nat × Blk)) (slR : List (Nat × PV)) (hb2 : List (Nat × Blk)) : Prop where
  h1 : ∀ j B,H.lookup j = some B → S.blk j = some B
  hs : HasS S slR
  h2 : ∀ k B,hb2.lookup k = some B → H'.lookup k = some B ∨ (S.blk k = some B ∧ H.lookup k = none ∧ H'.lookup k = none ∧ ∀ i x,B.cs.get i = some x → ∀ q,x.free q = false → st q = false → H'.lookup q = none)
  fix : ∀ q B1,st q = true → H'.lookup q = some B1 → ∃ B0,H.lookup q = some B0 ∧ B1.sz = B0.sz ∧ B1.cs.len = B0.cs.len
  slot : ∀ t v,slR.lookup t = some v → ∀ q,v.free q = false → st q = false → H'.lookup q = none
  lo : ∀ j,H.lookup j ≠ none → st j = false → F.lo j = false
  pin : ∀ j,F.pin j ≠ none → st j = true
  whole : Whole H'
theorem nsI {E : Env} {st : Nat → Bool} {F : Fr} (hG : E.G F.w0) (hX : ∀ b, F.X b → E.ng ≤ b) (hng : E.ng ≤ F.w0.heap.size) {ops : Array Oper} {d : Nat} {f : FuncId} {op : Op} {T : TypeId} {pos : String} {aft : Array Edge} {xs : List PV} {S : St} {H H' : List (Nat × Blk)} {r : PV} {rs : List (Operand × PV)} {os : List Oper} {K : St → Prop} (slR : List (Nat × PV)) (hb2 : List (Nat × Blk)) (hs : SaysG E st f xs H H' r) (hlt : d < F.nt)
    (hargs : ∀ ρ S a w,SatR F ρ S a w → (∀ p ∈ rs,S.opd p.1 = some p.2) → ∃ vals : List Value,(execOp a.eval ⟨some d,op,T,pos,aft,none⟩).run E.P w = .ok (.enter f vals.toArray) w ∧ RelVL S.blk ρ (okI F S.blk ρ) (hp w) xs vals)
    (hr : Reads S rs) (C : NCall st F S H H' slR hb2) (hres : ∀ q,r.free q = false → H'.lookup q ≠ none) (hd : slR.lookup d = none) (hn : SeqS E.P F ops os ⟨(d,r) :: slR,hb2⟩ K) : SeqS E.P F ops (⟨some d,op,T,pos,aft,none⟩ :: os) S K:=by
  have hstay : ∀ q,(st q = false → H'.lookup q = none) → Stays st S ⟨(d,r) :: slR,hb2⟩ (fun j=>j) H H' q:=fun q hq=>by
    cases e : hb2.lookup q with
    | none=>exact .inl e
    | some B =>
      rcases C.h2 q B e with h | ⟨h3,h4,h5,_⟩
      · have hst : st q = true := by
          cases e2 : st q with
          | true=>rfl
          | false=>rw [hq e2] at h; cases h
        obtain ⟨B0,h6,h7,h8⟩:=C.fix q B hst h
        exact .inr (.inr ⟨q,B0,B,rfl,hst,h6,h,h7,h8⟩)
      · exact .inr (.inl ⟨by rw [h3]; exact e,fun j hj e2=>by subst e2; exact hj.elim (fun h=>h h4) (fun h=>h h5)⟩)
  refine .cons (stepG hG hX hng (fun j=>j) hs rfl rfl hlt (fun ρ a w hS=>?_) ⟨fun j B hj=>by rw [Blk.ren_id]; exact C.h1 j B hj,fun _ _ _ _ h=>h,fun i j _ h2 _ h4 _=>C.lo j h2 h4,fun k B' hk=>?_,fun t v ht=>?_,hres,C.whole,fun j hj hp=>?_⟩) hn
  · rw [PV.renL_id]; exact hargs ρ S a w hS hr.all
  · rcases C.h2 k B' hk with h | ⟨h3,h4,h5,h6⟩
    · exact .inl ⟨k,B',rfl,h,(Blk.ren_id B').symm⟩
    · exact .inr ⟨h3,fun j hj e2=>by subst e2; exact hj.elim (fun h=>h h4) (fun h=>h h5),fun i x hx q hq=>hstay q (h6 i x hx q hq)⟩
  · simp only [St.slot,List.lookup_cons] at ht
    by_cases e : t = d
    · subst e; simp only [BEq.rfl,Option.some.injEq] at ht; exact .inl ⟨rfl,by rw [PV.ren_id]; exact ht.symm⟩
    · rw [show (t == d) = false by simpa using e] at ht
      exact .inr ⟨e,C.hs.all t v ht,fun q hq=>hstay q (C.slot t v ht q hq)⟩
  · have h:=C.pin j hp
    obtain ⟨B1,hB1⟩:=lookup_some hj
    obtain ⟨B0,h0,_⟩:=C.fix j B1 h hB1
    exact ⟨by rw [h0]; simp,h⟩
end Go.Proofs.YtcifhkfpmhifaaaGreatDoor.SH
namespace Go.Proofs.YtcifhkfpmhifaaaGreatDoor.SH
open Go Go.RowKit
theorem lookup_mem' {α : Type} : ∀ {l : List (Nat × α)} {j : Nat} {B : α} (_ : l.lookup j = some B),(j,B) ∈ l
  | [],_,_,h=>by simp at h
  | (k,C) :: l,j,B,h=>by
    rw [List.lookup_cons] at h
    split at h
    · rename_i e; injection h with h; subst h; simp [beq_iff_eq.1 e]
    · simp [lookup_mem' h]
end Go.Proofs.YtcifhkfpmhifaaaGreatDoor.SH
namespace Go.Proofs.YtcifhkfpmhifaaaGreatDoor.SH
open Go
end Go.Proofs.YtcifhkfpmhifaaaGreatDoor.SH
namespace Go.Proofs.YtcifhkfpmhifaaaGreatDoor.SH
open Go
section
variable {P : Program} {F : Fr} {d : Nat} {T : TypeId} {pos : String} {aft : Array Edge} {g : Option (Nat × Bool)} {x y : Operand} {xT yT : TypeId}
end
end Go.Proofs.YtcifhkfpmhifaaaGreatDoor.SH
namespace Go.Proofs.YtcifhkfpmhifaaaGreatDoor.SH
open Go
theorem core_nilCheck {P : Program} {F : Fr} {d : Nat} {T : TypeId} {pos : String} {aft : Array Edge} {g : Option (Nat × Bool)} {x : Operand} {k off tot : Nat} {B : Blk} (hl : B.cs.len = tot) (hlt : d < F.nt) : CoreOk P F ⟨some d,.nilCheck x,T,pos,aft,g⟩ { rs:=[(x,.at_ k off tot)],rb:=[(k,B)],ws:=[(d,.at_ k off tot)] } :=
  core_val rfl hlt rfl rfl fun ρ S a w h hA=>by
    have hx:=hA.rs (x,.at_ k off tot) (by simp)
    have he:=at_eval h hx (hA.rb (k,B) (by simp)) hl
    exact ⟨.pointer (some ⟨ρ k,off,none⟩),by simp [execOp,he],by rw [← he]; exact opd_rel h hx⟩
end Go.Proofs.YtcifhkfpmhifaaaGreatDoor.SH
namespace Go.Proofs.YtcifhkfpmhifaaaGreatDoor.SH
open Go Go.RowKit
end Go.Proofs.YtcifhkfpmhifaaaGreatDoor.SH
namespace Go.Proofs.YtcifhkfpmhifaaaGreatDoor.SH
open Go
end Go.Proofs.YtcifhkfpmhifaaaGreatDoor.SH
namespace Go.Proofs.YtcifhkfpmhifaaaGreatDoor.SH
open Go
end Go.Proofs.YtcifhkfpmhifaaaGreatDoor.SH
namespace Go.Proofs.YtcifhkfpmhifaaaGreatDoor.SH
open Go Go.RowKit
end Go.Proofs.YtcifhkfpmhifaaaGreatDoor.SH
namespace Go.Proofs.YtcifhkfpmhifaaaGreatDoor.SH
open Go Go.RowKit
section
variable {P : Program} {F : Fr} {d : Nat} {T : TypeId} {pos : String} {aft : Array Edge} {g : Option (Nat × Bool)} {t tx : TypeId}
end
section
variable {P : Program} {F : Fr} {ops : Array Oper} {sl : List (Nat × PV)} {hb : List (Nat × Blk)} {op : Op} {T : TypeId} {pos : String} {aft : Array Edge} {os : List Oper} {dst : Option Nat} {rs : List (Operand × PV)} {rb wb : List (Nat × Blk)} {fr : Option Nat}
end
end Go.Proofs.YtcifhkfpmhifaaaGreatDoor.SH
namespace Go.Proofs.YtcifhkfpmhifaaaGreatDoor.SH
open Go
end Go.Proofs.YtcifhkfpmhifaaaGreatDoor.SH
namespace Go.Proofs.YtcifhkfpmhifaaaGreatDoor.SH
open Go
end Go.Proofs.YtcifhkfpmhifaaaGreatDoor.SH
namespace Go.Proofs.YtcifhkfpmhifaaaGreatDoor.SH
open Go
end Go.Proofs.YtcifhkfpmhifaaaGreatDoor.SH
namespace Go.Proofs.YtcifhkfpmhifaaaGreatDoor.SH
open Go
theorem ex_cutB {P : Program} {F : Fr} {Q Q0 : Exit → St → Prop} {S : St} {x y : Code} {sl sl0 : List (Nat × PV)} {hb hb0 : List (Nat × Blk)} (_ : HasS S sl0) (_ : HasB S hb0) (hq : ∀ S',Exec P F y S' Q → Q0 .normal S') (h : Exec P F x S (QSeq (fun S1=>HasS S1 (sl ++ sl0) ∧ HasB S1 (hb ++ hb0)) Q0)) (hn : Exec P F y ⟨sl ++ sl0,hb ++ hb0⟩ Q) : Exec P F x S Q0:=by
  refine ⟨fun n a w hS=>wpIn_mono (h.run n a w hS) fun e a' w' hq'=>hq'.elim (fun ⟨S',h1,h4⟩=>.inl ⟨S',?_,h4⟩) .inr⟩
  cases e with
  | normal=>exact hq _ (hn.weak (le_of h1.1 h1.2))
  | _=>exact h1
end Go.Proofs.YtcifhkfpmhifaaaGreatDoor.SH
set_option maxRecDepth 100000
set_option maxHeartbeats 4000000
namespace Go.Proofs.YtcifhkfpmhifaaaGreatDoor.N
open Go Go.Proofs.YtcifhkfpmhifaaaGreatDoor.SH Go.Proofs.YtcifhkfpmhifaaaGreatDoor.NumA
open Go.Proofs.Tryz renaming call17 → cl17,call24 → cl24,call37 → cl37,call63 → cl63,call67 → cl67,call79 → cl79,call80 → cl80,isAgg24 → ag24,isAgg26 → ag26,sizeOf24 → sz24,sizeOf26 → sz26,underlying26 → un26,zeroValue24 → zv24,zeroValue26 → zv26
@[reducible] def bQ (a : Rat) : Blk:=⟨26,4,.mix [.p (.a (.bool (decide (a.num < 0)))),.p (.sl (digs a.num.natAbs).length (encW (digs a.num.natAbs))),.p (.a (.bool (decide ((a.den : Int) < 0)))),.p (.sl (digs (a.den : Int).natAbs).length (encW (digs (a.den : Int).natAbs)))]⟩
theorem max_e (x y : Nat) : (if (x : Int) < y then (y : Int) else x) = ((max x y : Nat) : Int):=by split <;> omega
theorem tm2 (n : Int) : n.tmod 2 = 0 ↔ n % 2 = 0:=by
 rw [← Int.dvd_iff_tmod_eq_zero,Int.dvd_iff_emod_eq_zero]
theorem cmpQ0 {a : Rat} : cmpQ a 0 = 0 ↔ a = 0:=by rw [← q_sign,q_sign0]
theorem inv_powN (a : Rat) : ∀ m : Nat,a⁻¹ ^ m = (a ^ m)⁻¹
 | 0=>by rw [Rat.pow_zero,Rat.pow_zero]; exact (Rat.inv_eq_of_mul_eq_one (Rat.one_mul 1)).symm
 | m + 1=>by rw [Rat.pow_succ,inv_powN a m,Rat.pow_succ,Rat.inv_mul_rev,Rat.mul_comm]
def qP (a : Rat) (n : Int) : RQ:=if qE a n = 0 then RQ.of (a ^ n) else R0
theorem nabs_pos {n : Int} {k : Nat} (h : 1048576 < n) (hk : 1 < k) : 1048576 < n.natAbs * k:=by
 have : n.natAbs * 1 ≤ n.natAbs * k:=Nat.mul_le_mul_left _ (by omega)
 omega
theorem nabs_neg {n : Int} {k : Nat} (h : n < -1048576) (hk : 1 < k) : 1048576 < n.natAbs * k:=by
 have : n.natAbs * 1 ≤ n.natAbs * k:=Nat.mul_le_mul_left _ (by omega)
 omega
theorem max_neg {n : Int} (h : -1048576 ≤ n) (h1 : n ≤ 1048576) {k : Nat} (hk : k < 1000000000) : IntKind.i64.wrap ((if n < 0 - n then 0 - n else n) * (k : Int)) = ((n.natAbs * k : Nat) : Int):=by
 have e : (if n < 0 - n then 0 - n else n) = (n.natAbs : Int):=by split <;> omega
 have h2 : n.natAbs * k ≤ 1048576 * k:=Nat.mul_le_mul_right _ (by omega)
 rw [e,← Int.natCast_mul]
 exact w64 (by omega) (by omega)
theorem qpow_says (a : Rat) (n : Int) (ha : qw a < 9999999) (hn0 : -9223372036854775808 ≤ n) (hn1 : n < 9223372036854775808) : Says E 40 [pQ a,vZ n] (.tup [.agg (cR (qP a n)),vZ (qE a n)]):=by
 refine says_of (xs:=[.agg (cR (qP a n)),vZ (qE a n)]) Tryz.func40 rfl Tryz.ntmps40 Tryz.results40 (by simp) fun F hG hX0 hnt hdf P0=>?_
 obtain ⟨L,hX,hN⟩:=pro hnt hX0 hG
 have h1:=nw_num_le a
 have h2:=nw_den_le a
 have hb1 : bl a.num.natAbs ≤ bq a:=Nat.le_max_left _ _
 have hb2 : bl (a.den : Int).natAbs ≤ bq a:=by rw [Int.natAbs_natCast]; exact Nat.le_max_right _ _
 have hb3:=bl_le_nw' a.num
 have hb4:=bl_le_nw' a.den
 have hbb : bq a < 1000000000:=by rw [bq]; rw [Int.natAbs_natCast] at hb4; omega
 have e0 : (a.den : Int).natAbs = a.den:=Int.natAbs_natCast _
 refine exr (swb (c_bx (k:=2) (n:=4) pa4 rfl rfl (P0 _ rfl) (L rfl)) t1 t0 ⟨rfl,rfl⟩ (swb (c_al (k:=4) (n:=4) zv26 (.cons rfl (.cons rfl (.cons rfl (.cons rfl .nil)))) rfl (P0 _ rfl) (L rfl)) t0 t0 ⟨rfl,rfl⟩ (aV (L rfl) rfl (zn [(1,_),(2,_),(4,_)] [(2,_),(4,_)] t3 t2 (exd (by rfl) ?_)))))
 refine sw (c_fa un26 rfl sz24 (by decide) (by exact rfl) (L rfl)) t1 t1 ?_
 refine lp2 ag24 sz24 (L rfl) rfl rfl (cK hG hX cl79 hN (bitsZ a.num (by omega)) (L rfl) t1 ?_)
 refine sw (c_fa un26 rfl sz24 (by decide) (by exact rfl) (L rfl)) t1 t1 ?_
 refine lp2 ag24 sz24 (L rfl) rfl rfl (cK hG hX cl79 hN (bitsZ a.den (by omega)) (L rfl) t1 ?_)
 refine sw (c_mx (L rfl)) t2 t0 (aV (L rfl) rfl ?_)
 refine seq_nil ⟨aoks [⟨[2],[2],[11],[]⟩,⟨[11],[2],[12],[]⟩,⟨[12],[],[13],[]⟩,⟨[2],[2],[14],[]⟩,⟨[14],[2],[15],[]⟩,⟨[15],[],[16],[]⟩,⟨[13,16],[],[17],[]⟩,⟨[17],[],[6],[]⟩] (by rfl) (by rfl) (by decide),[(1,_),(2,_),(4,_),(6,vi ((bq a : Nat) : Int))],[(2,_),(4,_)],⟨rfl,rfl,rfl,oi (max_e _ _) rfl,trivial⟩,t2,?_⟩
 refine ex_seq (ex_block (exr (mV (L rfl) rfl (sw (c_e (L rfl)) t2 t0 (aV (L rfl) rfl (zn [(1,_),(2,_),(4,_),(6,_),(18,_)] [(2,_),(4,_)] t5 t2 ?_))))))
 refine ex_if rfl (fun hz=>?_) (fun hz=>?_)
 ·have hz:=dt hz
  refine exr (cK hG hX cl63 hN one_says (L rfl) t0 (cK hG hX cl17 hN (qwhole_says 1) (L rfl) t1 (sb (c_sm sz26 (by rfl) pa4 rfl pu4) t2 t1 ?_)))
  refine aV (L rfl) rfl (zn [(4,_),(5,_)] [(4,_)] t2 t1 (ex_ret ?_))
  refine ⟨.inr rfl,ResVs.cast (.cons (.agg rfl rfl rfl ag26 sz26 (.cons (.cons (.cons (.cons .nil))))) (.cons (.tmp rfl) .nil)) ?_⟩
  have e : qE a n = 0:=by rw [qE,if_neg (by omega),if_neg (by rw [hz]; simp)]
  rw [qP,e,if_pos rfl,hz,Rat.zpow_zero]; rfl
 ·have hz:=df hz
  refine exm (sl:=[(23,vb (decide (a = 0 ∧ n < 0)))]) (sl0:=[(1,_),(2,_),(4,_),(6,_)]) (hb:=[]) (hb0:=[(2,_),(4,_)]) t4 t2 ?_ ?_
  ·by_cases h0 : a = 0
   ·refine lp4 ag26 sz26 (L rfl) rfl rfl (cK hG hX cl24 hN (qsign_says a (by omega)) (L rfl) t1 ?_)
    refine sw (c_e (L rfl)) t2 t0 (mV (L rfl) rfl (gV (g:=27) rfl (decide_eq_true (cmpQ0.2 h0)) (L rfl) rfl rfl (swg (g:=27) rfl (decide_eq_true (cmpQ0.2 h0)) (c_ls (L rfl)) rfl t2 t0 (sw (c_pt (decide_eq_true (cmpQ0.2 h0)) (L rfl)) t2 t0 (aV (L rfl) rfl ?_)))))
    exact seq_nil ⟨⟨ob rfl (dec_eq (by simp [h0])),rfl,rfl,rfl,rfl,trivial⟩,t2⟩
   ·refine lp4 ag26 sz26 (L rfl) rfl rfl (cK hG hX cl24 hN (qsign_says a (by omega)) (L rfl) t1 ?_)
    refine sw (c_e (L rfl)) t2 t0 (mV (L rfl) rfl (swn (g:=27) rfl (decide_eq_false (mt cmpQ0.1 h0)) (L rfl) rfl (swn (g:=27) rfl (decide_eq_false (mt cmpQ0.1 h0)) (L rfl) rfl (sw (c_pf (decide_eq_false (mt cmpQ0.1 h0)) (L rfl)) t2 t0 (aV (L rfl) rfl ?_)))))
    exact seq_nil ⟨⟨ob rfl (by simp [h0]),rfl,rfl,rfl,rfl,trivial⟩,t2⟩
  refine ex_if rfl (fun hn=>?_) (fun hn=>?_)
  ·have hn:=dt hn
   refine exr (sw (c_pc (c_bp (vs:=[]) un26 zv26 (.cons rfl (.cons rfl (.cons rfl (.cons rfl .nil)))) ((Places.cons sz24 (Places.cons sz24 Places.nil))).to rfl .nil (.cons (.cons (.cons (.cons .nil)))) (L rfl)) (.agg (.cons .same (.cons .nil (.cons .same (.cons .nil .nil)))))) t0 t0 (sb (c_sm sz26 (by rfl) pa4 rfl pu4) t2 t1 ?_))
   refine aV (L rfl) rfl (zn [(4,_),(5,_)] [(4,_)] t2 t1 (ex_ret ?_))
   refine ⟨.inr rfl,ResVs.cast (.cons (.agg rfl rfl rfl ag26 sz26 (.cons (.cons (.cons (.cons .nil))))) (.cons (.tmp rfl) .nil)) ?_⟩
   have e : qE a n = 5:=by rw [qE,if_pos hn]
   rw [qP,e,if_neg (by decide)]; rfl
  ·have hn:=df hn
   refine exm (sl:=[(32,vb (decide (bq a ≤ 1 ∧ n % 2 = 0)))]) (sl0:=[(1,_),(2,_),(4,_),(6,_)]) (hb:=[]) (hb0:=[(2,_),(4,_)]) t4 t2 ?_ ?_
   ·by_cases hk : bq a ≤ 1
    ·refine mV (L rfl) rfl (sw (c_le (L rfl)) t2 t0 (mV (L rfl) rfl (gV (g:=35) rfl (decide_eq_true (by omega)) (L rfl) rfl rfl ?_)))
     refine swg (g:=35) rfl (decide_eq_true (by omega)) (c_r (L rfl) (by decide) rfl) rfl t2 t0 ?_
     refine swg (g:=35) rfl (decide_eq_true (by omega)) (c_e (L rfl)) rfl t2 t0 ?_
     refine sw (c_pt (decide_eq_true (by omega)) (L rfl)) t2 t0 ?_
     refine aV (L rfl) rfl ?_
     exact seq_nil ⟨⟨ob rfl (dec_eq (by rw [tm2]; simp [hk])),rfl,rfl,rfl,rfl,trivial⟩,t2⟩
    ·refine mV (L rfl) rfl (sw (c_le (L rfl)) t2 t0 (mV (L rfl) rfl (swn (g:=35) rfl (decide_eq_false (by omega)) (L rfl) rfl ?_)))
     refine swn (g:=35) rfl (decide_eq_false (by omega)) (L rfl) rfl ?_
     refine swn (g:=35) rfl (decide_eq_false (by omega)) (L rfl) rfl ?_
     refine sw (c_pf (decide_eq_false (by omega)) (L rfl)) t2 t0 ?_
     refine aV (L rfl) rfl ?_
     exact seq_nil ⟨⟨ob rfl (by simp [hk]),rfl,rfl,rfl,rfl,trivial⟩,t2⟩
   refine ex_if rfl (fun he=>?_) (fun he=>?_)
   ·have he:=dt he
    refine exr (lp4 ag26 sz26 (L rfl) rfl rfl (lp4 ag26 sz26 (L rfl) rfl rfl (cK hG hX cl37 hN (qmul_says a a (by omega) (by omega)) (L rfl) t2 ?_)))
    refine sb (c_sm sz26 (by rfl) pa4 rfl pu4) t2 t1 ?_
    refine aV (L rfl) rfl (zn [(4,_),(5,_)] [(4,_)] t2 t1 (ex_ret ?_))
    refine ⟨.inr rfl,ResVs.cast (.cons (.agg rfl rfl rfl ag26 sz26 (.cons (.cons (.cons (.cons .nil))))) (.cons (.tmp rfl) .nil)) ?_⟩
    have e:=qE_small he.1 hn
    rw [qP,e,if_pos rfl,small_even he.1 hz hn he.2]; rfl
   ·have he:=df he
    refine exr (mV (L rfl) rfl (sw (c_le (L rfl)) t2 t0 (aV (L rfl) rfl (zn [(1,_),(2,_),(4,_),(6,_),(43,_)] [(2,_),(4,_)] t5 t2 ?_))))
    refine ex_if rfl (fun hk=>?_) (fun hk=>?_)
    ·have hk:=dt hk
     refine exr (lp4 ag26 sz26 (L rfl) rfl rfl (sb (c_sm sz26 (by rfl) pa4 rfl pu4) t2 t1 ?_))
     refine aV (L rfl) rfl (zn [(4,_),(5,_)] [(4,_)] t2 t1 (ex_ret ?_))
     refine ⟨.inr rfl,ResVs.cast (.cons (.agg rfl rfl rfl ag26 sz26 (.cons (.cons (.cons (.cons .nil))))) (.cons (.tmp rfl) .nil)) ?_⟩
     have e:=qE_small (n:=n) (by omega) hn
     rw [qP,e,if_pos rfl,small_odd (by omega) hn (fun c=>he ⟨by omega,c⟩)]; rfl
    ·have hk:=df hk
     have hk : 1 < bq a:=by omega
     refine exm (sl:=[(47,vb (decide (1048576 < n.natAbs * bq a)))]) (sl0:=[(1,_),(2,_),(4,_)]) (hb:=[]) (hb0:=[(2,_),(4,_)]) t3 t2 ?_ ?_
     ·by_cases c1 : 1048576 < n; rotate_left; by_cases c2 : n < -1048576; rotate_left 2
      ·refine mV (L rfl) rfl (sw (c_gt (L rfl)) t2 t0 (mV (L rfl) rfl (swn (g:=50) rfl (decide_eq_true c1) (L rfl) rfl (swn (g:=50) rfl (decide_eq_true c1) (L rfl) rfl (sw (c_pt (decide_eq_true c1) (L rfl)) t2 t0 (mV (L rfl) rfl (swn (g:=54) rfl rfl (L rfl) rfl (swn (g:=54) rfl rfl (L rfl) rfl (swn (g:=54) rfl rfl (L rfl) rfl (swn (g:=54) rfl rfl (L rfl) rfl (swn (g:=54) rfl rfl (L rfl) rfl ?_)))))))))))
       refine swn (g:=54) rfl rfl (L rfl) rfl (swn (g:=54) rfl rfl (L rfl) rfl (sw (c_pt rfl (L rfl)) t2 t0 (aV (L rfl) rfl ?_)))
       exact seq_nil ⟨⟨ob rfl (decide_eq_true (nabs_pos c1 hk)).symm,rfl,rfl,rfl,trivial⟩,t2⟩
      ·refine mV (L rfl) rfl (sw (c_gt (L rfl)) t2 t0 (mV (L rfl) rfl (gV (g:=50) rfl (decide_eq_false c1) (L rfl) rfl rfl (swg (g:=50) rfl (decide_eq_false c1) (c_ls (L rfl)) rfl t2 t0 (sw (c_pf (decide_eq_false c1) (L rfl)) t2 t0 (mV (L rfl) rfl (swn (g:=54) rfl (decide_eq_true c2) (L rfl) rfl (swn (g:=54) rfl (decide_eq_true c2) (L rfl) rfl (swn (g:=54) rfl (decide_eq_true c2) (L rfl) rfl (swn (g:=54) rfl (decide_eq_true c2) (L rfl) rfl (swn (g:=54) rfl (decide_eq_true c2) (L rfl) rfl ?_)))))))))))
       refine swn (g:=54) rfl (decide_eq_true c2) (L rfl) rfl (swn (g:=54) rfl (decide_eq_true c2) (L rfl) rfl (sw (c_pt (decide_eq_true c2) (L rfl)) t2 t0 (aV (L rfl) rfl ?_)))
       exact seq_nil ⟨⟨ob rfl (decide_eq_true (nabs_neg c2 hk)).symm,rfl,rfl,rfl,trivial⟩,t2⟩
      ·refine mV (L rfl) rfl (sw (c_gt (L rfl)) t2 t0 (mV (L rfl) rfl (gV (g:=50) rfl (decide_eq_false c1) (L rfl) rfl rfl (swg (g:=50) rfl (decide_eq_false c1) (c_ls (L rfl)) rfl t2 t0 (sw (c_pf (decide_eq_false c1) (L rfl)) t2 t0 (mV (L rfl) rfl (gV (g:=54) rfl (decide_eq_false c2) (L rfl) rfl rfl (gV (g:=54) rfl (decide_eq_false c2) (L rfl) rfl rfl (swg (g:=54) rfl (decide_eq_false c2) (c_ng (L rfl) (w64 (by omega) (by omega))) rfl t1 t0 ?_)))))))))
       refine swg (g:=54) rfl (decide_eq_false c2) (c_mx (L rfl)) rfl t2 t0 (gV (g:=54) rfl (decide_eq_false c2) (L rfl) rfl rfl (swg (g:=54) rfl (decide_eq_false c2) (c_mu (L rfl) (max_neg (n:=n) (by omega) (by omega) hbb)) rfl t2 t0 ?_))
       refine swg (g:=54) rfl (decide_eq_false c2) (c_gt (L rfl)) rfl t2 t0 (sw (c_pf (decide_eq_false c2) (L rfl)) t2 t0 (aV (L rfl) rfl ?_))
       exact seq_nil ⟨⟨ob rfl (dec_eq (by omega)),rfl,rfl,rfl,trivial⟩,t2⟩
     refine ex_if rfl (fun hL=>?_) (fun hL=>?_)
     ·have hL:=dt hL
      rw [lim_iff (by omega)] at hL
      refine exr (sw (c_pc (c_bp (vs:=[]) un26 zv26 (.cons rfl (.cons rfl (.cons rfl (.cons rfl .nil)))) ((Places.cons sz24 (Places.cons sz24 Places.nil))).to rfl .nil (.cons (.cons (.cons (.cons .nil)))) (L rfl)) (.agg (.cons .same (.cons .nil (.cons .same (.cons .nil .nil)))))) t0 t0 (sb (c_sm sz26 (by rfl) pa4 rfl pu4) t2 t1 ?_))
      refine aV (L rfl) rfl (zn [(4,_),(5,_)] [(4,_)] t2 t1 (ex_ret ?_))
      refine ⟨.inr rfl,ResVs.cast (.cons (.agg rfl rfl rfl ag26 sz26 (.cons (.cons (.cons (.cons .nil))))) (.cons (.tmp rfl) .nil)) ?_⟩
      have e : qE a n = 2:=by rw [qE,if_neg hn,if_pos ⟨hk,hL⟩]
      rw [qP,e,if_neg (by decide)]; rfl
     ·have hL:=df hL
      rw [lim_iff (by omega)] at hL
      have hL : n.natAbs ≤ 1048576 / bq a:=by omega
      have hLM : 1048576 / bq a ≤ 1048576:=Nat.div_le_self _ _
      have eE : qE a n = 0:=by rw [qE,if_neg hn,if_neg (by omega)]
      rw [qP,eE,if_pos rfl]
      obtain ⟨b,hb⟩ : ∃ b,b = if n < 0 then a⁻¹ else a:=⟨_,rfl⟩
      obtain ⟨M,hM⟩ : ∃ M,M = n.natAbs:=⟨_,rfl⟩
      have hbq : bl b.num.natAbs ≤ bq a ∧ bl (b.den : Int).natAbs ≤ bq a ∧ nw b.num < 9999999 ∧ nw (b.den : Int) < 9999999:=by
       rw [hb]; split
       ·have ha0 : a.num ≠ 0:=fun c=>hn ⟨Rat.num_eq_zero.1 c,by assumption⟩
        have e1 : (a⁻¹).num.natAbs = a.den:=by
         rw [Rat.num_inv,Int.natAbs_mul,Int.natAbs_sign_of_ne_zero ha0,Nat.one_mul]; rfl
        have e2 : ((a⁻¹).den : Int).natAbs = a.num.natAbs:=by rw [Rat.den_inv,if_neg ha0]; omega
        unfold nw at h1 h2 ⊢
        rw [e1,e2]
        rw [e0] at hb2 h2
        exact ⟨hb2,hb1,by omega,by omega⟩
       ·exact ⟨hb1,hb2,by omega,by omega⟩
      have hbM : b ^ M = a ^ n:=by
       rw [hb,hM]
       rcases zpow_cases a n with ⟨c1,c2⟩ | ⟨c1,c2⟩
       ·rw [if_neg (by omega),c2]
       ·rw [if_pos c1,c2,inv_powN]
      refine exr (mV (L rfl) rfl (sw (c_ls (L rfl)) t2 t0 (aV (L rfl) rfl (zn [(1,_),(2,_),(4,_),(64,_)] [(2,_),(4,_)] t4 t2 ?_))))
      refine ex_cutB (sl:=[(1,vi (M : Int))]) (sl0:=[(2,_),(4,_)]) (hb:=[(2,bQ b)]) (hb0:=[(4,_)]) t2 t1 (fun _ h=>h) ?_ ?_
      ·refine ex_if rfl (fun hg=>?_) (fun hg=>?_)
       ·have hg:=dt hg
        have ha0 : a ≠ 0:=fun c=>hn ⟨c,hg⟩
        refine exr0 (lp4 ag26 sz26 (L rfl) rfl rfl (cK hG hX cl67 hN (qinv_says a (by omega) ha0) (L rfl) t1 ?_))
        refine mV (L rfl) rfl (sw (c_ng (L rfl) (w64 (by omega) (by omega))) t1 t0 ?_)
        refine sb (c_sm sz26 (by rfl) pa4 rfl pu4) t2 t1 ?_
        refine aV (L rfl) rfl (seq_nil ?_)
        exact ⟨⟨oi (by omega) rfl,(by first | exact rfl | exact oi (by omega) rfl),(by first | exact rfl | exact oi (by omega) rfl),trivial⟩,⟨obl rfl (by rw [hb,if_pos hg]),rfl,trivial⟩⟩
       ·have hg:=df hg
        refine ex_skip ?_
        exact ⟨⟨oi (by omega) rfl,(by first | exact rfl | exact oi (by omega) rfl),(by first | exact rfl | exact oi (by omega) rfl),trivial⟩,⟨obl rfl (by rw [hb,if_neg hg]),rfl,trivial⟩⟩
      ·have p1:=powZ b.num M hbq.2.2.1 (by omega) (by omega)
       have p2:=powZ b.den M hbq.2.2.2 (by omega) (by omega)
       obtain ⟨k1,k2⟩:=pow_ok hbq.1 (hM ▸ hL) (by omega)
       obtain ⟨k3,k4⟩:=pow_ok hbq.2.1 (hM ▸ hL) (by omega)
       rw [k1,k2] at p1
       rw [k3,k4] at p2
       refine exr (sw (c_fa un26 rfl sz24 (by decide) (by exact rfl) (L rfl)) t1 t1 ?_)
       refine lp2 ag24 sz24 (L rfl) rfl rfl (mV (L rfl) rfl (cK hG hX cl80 hN p1 (L rfl) t2 (mV (L rfl) rfl (sw (c_ex rfl (L rfl)) t1 t0 (sw (c_ex rfl (L rfl)) t1 t0 (swb (c_al (k:=7) (n:=2) zv24 (.cons rfl (.cons rfl .nil)) rfl (P0 _ rfl) (L rfl)) t0 t0 ⟨rfl,rfl⟩ (sb (c_sm sz24 (by rfl) pa2 rfl pu2) t2 t1 ?_)))))))
       refine aV (L rfl) rfl (zn [(1,_),(2,_),(4,_),(7,_),(8,_)] [(2,_),(4,_),(7,_)] t5 t3 (exr (sw (c_fa un26 rfl sz24 (by decide) (by exact rfl) (L rfl)) t1 t1 ?_)))
       refine lp2 ag24 sz24 (L rfl) rfl rfl (mV (L rfl) rfl (cK hG hX cl80 hN p2 (L rfl) t2 (mV (L rfl) rfl (sw (c_ex rfl (L rfl)) t1 t0 (sw (c_ex rfl (L rfl)) t1 t0 (swb (c_al (k:=9) (n:=2) zv24 (.cons rfl (.cons rfl .nil)) rfl (P0 _ rfl) (L rfl)) t0 t0 ⟨rfl,rfl⟩ (sb (c_sm sz24 (by rfl) pa2 rfl pu2) t2 t1 ?_)))))))
       refine aV (L rfl) rfl (zn [(4,_),(7,_),(8,_),(9,_),(10,_)] [(4,_),(7,_),(9,_)] t5 t3 (ex_seq (exr (mV (L rfl) rfl (sw (c_n (L rfl)) t2 t0 (mV (L rfl) rfl (gV (g:=87) rfl rfl (L rfl) rfl rfl (swg (g:=87) rfl rfl (c_n (L rfl)) rfl t2 t0 (sw (c_pf rfl (L rfl)) t2 t0 (zn [(4,_),(7,_),(9,_),(90,_)] [(4,_),(7,_),(9,_)] t4 t3 (ex_false rfl rfl ?_)))))))))))
       refine ex_skip (show Exec _ _ _ _ _ from ?_)
       refine exr (lp2 ag24 sz24 (L rfl) rfl rfl (lp2 ag24 sz24 (L rfl) rfl rfl (sw (c_bp (vs:=[_,_]) un26 zv26 (.cons rfl (.cons rfl (.cons rfl (.cons rfl .nil)))) ((Places.cons sz24 (Places.cons sz24 Places.nil))).to rfl (.cons rfl pa2 rfl pu2 (.cons rfl pa2 rfl (.skip (.skip pu2)) .nil)) (.cons (.cons (.cons (.cons .nil)))) (L rfl)) t2 t0 (sb (c_sm sz26 (by rfl) pa4 rfl pu4) t2 t1 ?_))))
       refine aV (L rfl) rfl (zn [(4,_),(5,_)] [(4,_)] t2 t1 (ex_ret ?_))
       refine ⟨.inr rfl,ResVs.cast (.cons (.agg rfl rfl rfl ag26 sz26 (.cons (.cons (.cons (.cons .nil))))) (.cons (.tmp rfl) .nil)) ?_⟩
       rw [← hbM]; exact congrArg (· :: [vZ 0]) (cN (Rat.num_pow b M) (by rw [Rat.den_pow,Int.natCast_pow]))
end Go.Proofs.YtcifhkfpmhifaaaGreatDoor.N
set_option maxRecDepth 100000
set_option maxHeartbeats 4000000
namespace Go.Proofs.YtcifhkfpmhifaaaGreatDoor.N
open Go Go.Proofs.YtcifhkfpmhifaaaGreatDoor.SH Go.Proofs.YtcifhkfpmhifaaaGreatDoor.NumA
open Go.Proofs.Tryz renaming call25 → cl25,call39 → cl39,call62 → cl62,call81 → cl81,call82 → cl82,isAgg24 → ag24,isAgg26 → ag26,sizeOf24 → sz24,sizeOf26 → sz26,underlying26 → un26,zeroValue24 → zv24,zeroValue26 → zv26
end Go.Proofs.YtcifhkfpmhifaaaGreatDoor.N
set_option maxRecDepth 100000
set_option maxHeartbeats 4000000
namespace Go.Proofs.YtcifhkfpmhifaaaGreatDoor.N
open Go Go.Proofs.YtcifhkfpmhifaaaGreatDoor.SH Go.Proofs.YtcifhkfpmhifaaaGreatDoor.NumA
open Go.Proofs.Tryz renaming call63 → cl63,call66 → cl66,call70 → cl70,call74 → cl74,call83 → cl83,isAgg24 → ag24,isAgg26 → ag26,sizeOf24 → sz24,sizeOf26 → sz26,typeInfo24 → ti24,underlying26 → un26,underlying47 → un47,underlying48 → un48,zeroValue24 → zv24,zeroValue26 → zv26
@[reducible] def cZ (n : Int) : List Pure:=[.a (.bool (decide (n < 0))),.sl (digs n.natAbs).length (encW (digs n.natAbs))]
def encZ : List Int → List Pure
 | []=>[]
 | a :: v=>cZ a ++ encZ v
@[simp] theorem encZ_length : ∀ v : List Int,(encZ v).length = v.length * 2
 | []=>rfl
 | a :: v=>by simp only [encZ,List.length_append,encZ_length v,cZ,List.length_cons,List.length_nil]; omega
theorem encZ_app : ∀ v u : List Int,encZ (v ++ u) = encZ v ++ encZ u
 | [],u=>rfl
 | a :: v,u=>by simp only [List.cons_append,encZ,encZ_app v u,List.append_assoc]
theorem getZ : ∀ {v : List Int} {i : Nat},i < v.length → ((encZ v).drop (i * 2)).take 2 = cZ (v.getD i 0)
 | [],i,h=>by simp at h
 | a :: v,0,_=>by simp [encZ,cZ]
 | a :: v,i + 1,h=>by
  have:=getZ (v:=v) (i:=i) (by simpa using h)
  rw [show (i + 1) * 2 = i * 2 + 1 + 1 by omega]
  simp only [encZ,cZ,List.cons_append,List.nil_append,List.drop_succ_cons,List.getD_cons_succ]
  exact this
@[reducible] def pVZ (v : List Int) : Pure:=.sl v.length (encZ v)
@[reducible] def rowZ (v : List Int) : Blk:=⟨24,2,.pure (encZ v)⟩
theorem rowZn (v : List Int) (a : Int) : (⟨24,2,.pure (encZ v ++ cZ a)⟩ : Blk) = rowZ (v ++ [a]):=by rw [rowZ,encZ_app]; simp [encZ]
theorem gDZ {v : List Int} {i : Nat} (h : i < v.length) : v.getD i 0 ∈ v:=by simp [List.getD_eq_getElem?_getD,h]
theorem takeZ {v : List Int} {i : Nat} (h : i < v.length) : v.take (i + 1) = v.take i ++ [v.getD i 0]:=by
 rw [List.take_add_one]; simp [List.getD_eq_getElem?_getD,h]
def lcmS (o x : Int) : Int:=o * (x / Int.gcd o x)
def lcmF (l : List Int) : Int:=l.foldl lcmS 1
theorem lcmF_take {l : List Int} {i : Nat} (h : i < l.length) : lcmF (l.take (i + 1)) = lcmS (lcmF (l.take i)) (l.getD i 0):=by
 rw [takeZ h]; simp [lcmF]
theorem quo_le {o x : Int} (hx : x ≠ 0) : (x / (Int.gcd o x : Int)).natAbs ≤ x.natAbs :=
 Nat.le_of_dvd (by omega) (Int.natAbs_dvd_natAbs.2 (Int.ediv_dvd_of_dvd (Int.gcd_dvd_right ..)))
theorem nw_lcm {B : Nat} : ∀ {l : List Int} {o : Int} {k : Nat},(∀ x ∈ l,nw x ≤ B) → nw o ≤ k → nw (l.foldl lcmS o) ≤ k + l.length * B
 | [],o,k,_,h=>by simpa using h
 | x :: l,o,k,hB,h=>by
  rw [List.foldl_cons]
  have h1 : nw (lcmS o x) ≤ k + B:=by
   have h2:=nw_mul o (x / (Int.gcd o x : Int))
   have h3 : nw (x / (Int.gcd o x : Int)) ≤ nw x:=by
    refine nw_mono ?_
    by_cases hx : x = 0
    ·subst hx; simp
    ·exact quo_le hx
   have:=hB x (by simp)
   unfold lcmS; omega
  have:=nw_lcm (l:=l) (k:=k + B) (fun y hy=>hB y (by simp [hy])) h1
  rw [List.length_cons,Nat.add_mul]; omega
theorem nw_lcmF {B : Nat} {l : List Int} (h : ∀ x ∈ l,nw x ≤ B) (i : Nat) : nw (lcmF (l.take i)) ≤ 1 + l.length * B:=by
 have:=nw_lcm (l:=l.take i) (o:=1) (k:=1) (fun x hx=>h x (List.mem_of_mem_take hx)) (by rw [nw_one]; exact Nat.le_refl _)
 have h2 : (l.take i).length * B ≤ l.length * B:=Nat.mul_le_mul_right _ (by simp; omega)
 unfold lcmF; omega
theorem mult_says (l : List Int) (B : Nat) (hl : l.length < 100000) (h0 : ∀ x ∈ l,x ≠ 0) (hB : ∀ x ∈ l,nw x ≤ B) (hb : 1 + l.length * B < 1000000000) : Says E 83 [pVZ l] (pZ (lcmF l)):=by
 refine says_of (xs:=[pZ (lcmF l)]) Tryz.func83 rfl Tryz.ntmps83 Tryz.results83 (by simp) fun F hG hX0 hnt hdf P0=>?_
 obtain ⟨L,hX,hN⟩:=pro hnt hX0 hG
 refine exr (swb (c_al (k:=2) (n:=2) zv24 (.cons rfl (.cons rfl .nil)) rfl (P0 _ rfl) (L rfl)) t0 t0 ⟨rfl,rfl⟩ (zn [(0,_),(2,_)] [(2,_)] t2 t1 (exr (cK hG hX cl63 hN one_says (L rfl) t0 (swb (c_al (k:=3) (n:=2) zv24 (.cons rfl (.cons rfl .nil)) rfl (P0 _ rfl) (L rfl)) t0 t0 ⟨rfl,rfl⟩ (sb (c_sm sz24 (by rfl) pa2 rfl pu2) t2 t1 ?_))))))
 refine zn [(0,_),(2,_),(3,_)] [(2,_),(3,_)] t3 t2 (ex_seq (exr (mV (L rfl) rfl (sw (c_ln un48 (L rfl)) t1 t0 (mV (L rfl) rfl (zn [(2,_),(3,_),(7,_),(8,_),(9,_)] [(2,_),(3,_)] t5 t2 (ex_block ?_)))))))
 refine exl (α:=Nat) (fun k=>[(9,vi (k:Int))]) (fun k=>[(3,bI (lcmF (l.take k)))]) (fun k=>k ≤ l.length) (fun k=>l.length - k) (0) (sl:=[(2,_),(3,_),(7,_),(8,_)]) (hb:=[(2,_)]) ?_ ⟨(by first | exact rfl | exact oi (by omega) rfl),rfl,rfl,rfl,rfl,trivial⟩ t2 ?_
 ·exact Nat.zero_le _
 intro k hk
 refine exr (sw (c_ls (L rfl)) t2 t0 (zn [(2,_),(3,_),(7,_),(8,_),(9,_),(10,_)] [(2,_),(3,_)] t6 t2 (ex_seq ?_)))
 refine ex_if rfl (fun hc=>?_) (fun hc=>?_)
 ·have hc:=dt hc
  have hkl : k < l.length:=by omega
  have hw:=nw_lcmF hB k
  have hx:=hB _ (gDZ hkl)
  have hxn:=h0 _ (gDZ hkl)
  have hlB : 1 * B ≤ l.length * B:=Nat.mul_le_mul_right _ (by omega)
  have hg:=gn (n:=lcmF (l.take k)) hxn (show nw (l.getD k 0) < 1000000000 by omega)
  have hw2:=nw_lcmF hB (k + 1)
  have hq : nw (l.getD k 0 / (Int.gcd (lcmF (l.take k)) (l.getD k 0) : Int)) ≤ nw (l.getD k 0):=nw_mono (quo_le hxn)
  refine ex_skip (show Exec _ _ _ _ _ from ?_)
  refine ex_seq (ex_block (exr (sw (core_indexAddrJ un48 sz24 (by omega) (by omega) (by simp) (by decide) (L rfl)) t2 t0 ?_)))
  refine sw (c_la ag24 sz24 (getZ hkl) rfl (L rfl)) t1 t0 (swb (c_al (k:=5) (n:=2) zv24 (.cons rfl (.cons rfl .nil)) rfl (P0 _ rfl) (L rfl)) t0 t0 ⟨rfl,rfl⟩ (sb (c_sm sz24 (by rfl) pa2 rfl pu2) t2 t1 ?_))
  refine zn [(2,_),(3,_),(5,_),(7,_),(8,_),(9,_)] [(2,_),(3,_),(5,_)] t6 t3 (exd0 (by rfl) ?_)
  refine lp2 ag24 sz24 (L rfl) rfl rfl (lp2 ag24 sz24 (L rfl) rfl rfl (lp2 ag24 sz24 (L rfl) rfl rfl (lp2 ag24 sz24 (L rfl) rfl rfl (cK hG hX cl66 hN (gcdZ (lcmF (l.take k)) (l.getD k 0) (by omega) (by omega)) (L rfl) t2 ?_))))
  refine cK hG hX cl74 hN (wholeZ (l.getD k 0) (Int.gcd (lcmF (l.take k)) (l.getD k 0) : Int) (by omega) (by omega) (gz hxn)) (L rfl) t2 ?_
  refine cK hG hX cl70 hN (mulZ (lcmF (l.take k)) (l.getD k 0 / (Int.gcd (lcmF (l.take k)) (l.getD k 0) : Int)) (by omega) (by omega)) (L rfl) t2 ?_
  refine sb (c_sm sz24 (by rfl) pa2 rfl pu2) t2 t1 ?_
  refine seq_nil ⟨aoks [⟨[3],[3],[13],[]⟩,⟨[5],[5],[14],[]⟩,⟨[3],[3],[15],[]⟩,⟨[5],[5],[16],[]⟩,⟨[15,16],[],[17],[]⟩,⟨[14,17],[],[18],[]⟩,⟨[13,18],[],[19],[]⟩,⟨[3,19],[3],[],[3]⟩] (by rfl) (by rfl) (by decide),?_⟩
  refine exr0 (sw (c_ad (L rfl) (w64 (by omega) (by omega))) t2 t0 ?_)
  refine mV (L rfl) rfl (seq_nil ?_)
  exact ⟨k + 1,(by omega),by omega,le_of ⟨(by first | exact rfl | exact oi (by omega) rfl),rfl,rfl,rfl,rfl,trivial⟩ ⟨obl rfl (by rw [lcmF_take hkl]; rfl),rfl,trivial⟩⟩
 ·have hc:=df hc
  refine ex_exit (show Exec _ _ _ _ _ from ?_)
  refine exr (lp2 ag24 sz24 (L rfl) rfl rfl (sb (c_sm sz24 (by rfl) pa2 rfl pu2) t2 t1 ?_))
  refine zn [(2,_)] [(2,_)] t1 t1 (ex_ret ?_)
  refine ⟨.inr rfl,ResVs.cast (.cons (.agg rfl rfl rfl ag24 sz24 (.cons (.cons .nil))) .nil) ?_⟩
  rw [List.take_of_length_le (by omega)]
def comD (l : List Rat) : Int:=lcmF (l.map fun a=>(a.den : Int))
def comN (l : List Rat) : List Int:=l.map fun a=>a.num * (comD l / a.den)
theorem denL {l : List Rat} {i : Nat} (h : i < l.length) : (l.map fun a=>(a.den : Int)).take (i + 1) = (l.map fun a=>(a.den : Int)).take i ++ [((l.getD i 0).den : Int)]:=by
 rw [takeZ (by simpa using h)]; simp [List.getD_eq_getElem?_getD,h]
theorem comNL {l : List Rat} {i : Nat} (h : i < l.length) : (comN l).take (i + 1) = (comN l).take i ++ [(l.getD i 0).num * (comD l / (l.getD i 0).den)]:=by
 rw [takeZ (by simpa [comN] using h)]; simp [comN,List.getD_eq_getElem?_getD,h]
theorem com_bd {l : List Rat} {B : Nat} (hB : ∀ a ∈ l,qw a ≤ B) : ∀ x ∈ l.map (fun a=>(a.den : Int)),nw x ≤ B:=by
 intro x hx
 obtain ⟨a,ha,rfl⟩:=List.mem_map.1 hx
 exact Nat.le_trans (nw_den_le a) (hB a ha)
theorem comD_nw {l : List Rat} {B : Nat} (hB : ∀ a ∈ l,qw a ≤ B) : nw (comD l) ≤ 1 + l.length * B:=by
 have:=nw_lcmF (com_bd hB) l.length
 rw [List.take_of_length_le (by simp)] at this
 rw [List.length_map] at this
 exact this
theorem quo_le' {a b : Int} : nw (a / b) ≤ nw a:=nw_mono (Int.natAbs_ediv_le_natAbs a b)
theorem gDQ {v : List Rat} {i : Nat} (h : i < v.length) : v.getD i 0 ∈ v:=by simp [List.getD_eq_getElem?_getD,h]
theorem com_says (l : List Rat) (B : Nat) (h1 : 0 < l.length) (hl : l.length < 100000) (hB : ∀ a ∈ l,qw a ≤ B) (hb : 1 + l.length * B < 900000000) : Says E 42 [pV l] (.tup [pVZ (comN l),pZ (comD l),vZ 0]):=by
 refine says_of (xs:=[pVZ (comN l),pZ (comD l),vZ 0]) Tryz.func42 rfl Tryz.ntmps42 Tryz.results42 (by simp) fun F hG hX0 hnt hdf P0=>?_
 obtain ⟨L,hX,hN⟩:=pro hnt hX0 hG
 have hBl : 1 * B ≤ l.length * B:=Nat.mul_le_mul_right _ h1
 have hd:=comD_nw hB
 refine exr (aV (L rfl) rfl (swb (c_al (k:=3) (n:=2) zv24 (.cons rfl (.cons rfl .nil)) rfl (P0 _ rfl) (L rfl)) t0 t0 ⟨rfl,rfl⟩ (aV (L rfl) rfl (zn [(0,_),(2,_),(3,_)] [(3,_)] t3 t1 (exr (aV (L rfl) rfl (zn [(0,_),(2,_),(3,_),(5,_)] [(3,_)] t4 t1 (ex_seq (exr (mV (L rfl) rfl (sw (c_ln un47 (L rfl)) t1 t0 ?_)))))))))))
 refine mV (L rfl) rfl (zn [(0,_),(2,_),(3,_),(5,_),(10,_),(11,_),(12,_)] [(3,_)] t7 t1 (ex_block ?_))
 refine exlp (α:=Nat) (fun k=>[(12,vi (k:Int)),(5,.ref 20 0 k (k * 2))]) (fun k=>[(20,rowZ ((l.map fun a=>(a.den : Int)).take k))]) (fun k=>k ≤ l.length ∧ 0 < k) (fun k=>l.length - k) (l.length + 1) (sl:=[(0,_),(2,_),(3,_),(10,_),(11,_)]) (hb:=[(3,_)]) t5 t1 ?_ ?_
 ·refine exr (sw (c_ls (L rfl)) t2 t0 (zn [(0,_),(2,_),(3,_),(5,_),(10,_),(11,_),(12,_),(13,_)] [(3,_)] t8 t1 (ex_seq ?_)))
  refine ex_if rfl (fun hc=>?_) (fun hc=>?_)
  ·refine ex_skip (show Exec _ _ _ _ _ from ?_)
   refine ex_seq (ex_block (exr (sw (core_indexAddrJ un47 sz26 (by decide) (by omega) (by simp) (by decide) (L rfl)) t2 t0 ?_)))
   refine sw (c_la ag26 sz26 (getQ h1) rfl (L rfl)) t1 t0 (swb (c_al (k:=7) (n:=4) zv26 (.cons rfl (.cons rfl (.cons rfl (.cons rfl .nil)))) rfl (P0 _ rfl) (L rfl)) t0 t0 ⟨rfl,rfl⟩ (sb (c_sm sz26 (by rfl) pa4 rfl pu4) t2 t1 ?_))
   refine zn [(0,_),(2,_),(3,_),(5,_),(7,_),(10,_),(11,_),(12,_)] [(3,_),(7,_)] t8 t2 (exr0 (mV (L rfl) rfl (sw (c_fa un26 rfl sz24 (by decide) (by exact rfl) (L rfl)) t1 t1 ?_)))
   refine lp2 ag24 sz24 (L rfl) rfl rfl (sw (c_bI (vs:=[_]) un48 ti24 rfl rfl (by decide) (by decide) rfl (zs_made (.cons rfl (.cons rfl .nil)) rfl) rfl (.cons rfl pa2 rfl pu2 .nil) (.cons (.cons .nil)) (L rfl)) t1 t0 ?_)
   refine swb (apN (k:=20) (sz:=2) un48 un48 ti24 rfl rfl rfl (by decide) (by simp) rfl (by first | (simp [Tryz.t24]; done) | (simp [Tryz.t24]; omega)) (by omega) (P0 _ rfl) (L rfl)) t2 t0 ⟨rfl,rfl⟩ ?_
   refine aV (L rfl) rfl (seq_nil (exr0 (sw (c_ad (L rfl) (w64 (by omega) (by omega))) t2 t0 ?_)))
   refine mV (L rfl) rfl (seq_nil ?_)
   exact ⟨1,(by omega),(by omega),le_of ⟨(by first | exact rfl | exact oi (by omega) rfl),(by first | exact rfl | exact oi (by omega) rfl),rfl,rfl,rfl,rfl,rfl,trivial⟩ ⟨obl rfl (by rw [denL h1]; rfl),rfl,trivial⟩⟩
  ·have hc:=df hc
   omega
 ·intro k hk
  obtain ⟨hk,hk0⟩:=hk
  refine exr (sw (c_ls (L rfl)) t2 t0 (zn [(0,_),(2,_),(3,_),(5,_),(10,_),(11,_),(12,_),(13,_)] [(3,_),(20,_)] t8 t2 (ex_seq ?_)))
  refine ex_if rfl (fun hc=>?_) (fun hc=>?_)
  ·have hc:=dt hc
   have hkl : k < l.length:=by omega
   refine ex_skip (show Exec _ _ _ _ _ from ?_)
   refine ex_seq (ex_block (exr (sw (core_indexAddrJ un47 sz26 (by omega) (by omega) (by simp) (by decide) (L rfl)) t2 t0 ?_)))
   refine sw (c_la ag26 sz26 (getQ hkl) rfl (L rfl)) t1 t0 (swb (c_al (k:=7) (n:=4) zv26 (.cons rfl (.cons rfl (.cons rfl (.cons rfl .nil)))) rfl (P0 _ rfl) (L rfl)) t0 t0 ⟨rfl,rfl⟩ (sb (c_sm sz26 (by rfl) pa4 rfl pu4) t2 t1 ?_))
   refine zn [(0,_),(2,_),(3,_),(5,_),(7,_),(10,_),(11,_),(12,_)] [(3,_),(7,_),(20,_)] t8 t3 (exr0 (mV (L rfl) rfl (sw (c_fa un26 rfl sz24 (by decide) (by exact rfl) (L rfl)) t1 t1 ?_)))
   refine lp2 ag24 sz24 (L rfl) rfl rfl (sw (c_bI (vs:=[_]) un48 ti24 rfl rfl (by decide) (by decide) rfl (zs_made (.cons rfl (.cons rfl .nil)) rfl) rfl (.cons rfl pa2 rfl pu2 .nil) (.cons (.cons .nil)) (L rfl)) t1 t0 ?_)
   refine swb (apP (sz:=2) un48 un48 ti24 rfl rfl rfl (by decide) (by exact (by simp <;> omega)) (by first | omega | rfl) (by simp) rfl rfl rfl (by first | (simp [Tryz.t24]; done) | (simp [Tryz.t24]; omega)) (by omega) (P0 _ rfl) (L rfl)) t2 t1 t0 ?_
   refine aV (L rfl) rfl (seq_nil (exr0 (sw (c_ad (L rfl) (w64 (by omega) (by omega))) t2 t0 ?_)))
   refine mV (L rfl) rfl (seq_nil ?_)
   exact ⟨k + 1,(by omega),(by omega),le_of ⟨(by first | exact rfl | exact oi (by omega) rfl),(by exact ov rfl (by simp; omega)),rfl,rfl,rfl,rfl,rfl,trivial⟩ ⟨obl rfl (by rw [denL hkl]; exact rowZn _ _),rfl,trivial⟩⟩
  ·have hc:=df hc
   obtain rfl : k = l.length:=by omega
   have hm:=mult_says (l.map fun a=>(a.den : Int)) B (by simpa using hl) (fun x hx=>by obtain ⟨a,_,rfl⟩:=List.mem_map.1 hx; exact den_ne a) (com_bd hB) (by rw [List.length_map]; omega)
   rw [show (l.map fun a=>(a.den : Int)).take l.length = l.map fun a=>(a.den : Int) from List.take_of_length_le (by simp)]
   refine ex_exit (show Exec _ _ _ _ _ from ?_)
   refine ex_cv [20] (sl:=[(0,_),(2,_),(3,_),(5,_)]) (hb:=[(3,_)]) (own_none hX0) ⟨⟨_,rfl,.same⟩,⟨_,rfl,.same⟩,⟨_,rfl,.same⟩,⟨_,rfl,(.ref rfl rfl (by exact (by simp <;> omega)) (by first | rfl | omega))⟩,trivial⟩ ⟨⟨rfl,_,rfl,.same⟩,trivial⟩ ?_
   rw [pVZ,List.length_map] at hm
   refine exr (mV (L rfl) rfl (cK hG hX cl83 hN hm (L rfl) t1 (sb (c_sm sz24 (by rfl) pa2 rfl pu2) t2 t1 ?_)))
   refine zn [(0,_),(2,_),(3,_)] [(3,_)] t3 t1 (ex_seq (exr (mV (L rfl) rfl (sw (c_ln un47 (L rfl)) t1 t0 (mV (L rfl) rfl (zn [(2,_),(3,_),(24,_),(25,_),(26,_)] [(3,_)] t5 t1 ?_))))))
   have e1 : lcmF (l.map fun a=>(a.den : Int)) = comD l:=rfl
   rw [e1]
   refine ex_block ?_
   refine exlp (α:=Nat) (fun k=>[(26,vi (k:Int)),(2,.ref 39 0 k (k * 2))]) (fun k=>[(39,rowZ ((comN l).take k))]) (fun k=>k ≤ l.length ∧ 0 < k) (fun k=>l.length - k) (l.length + 1) (sl:=[(3,_),(24,_),(25,_)]) (hb:=[(3,_)]) t3 t1 ?_ ?_
   ·refine exr (sw (c_ls (L rfl)) t2 t0 (zn [(2,_),(3,_),(24,_),(25,_),(26,_),(27,_)] [(3,_)] t6 t1 (ex_seq ?_)))
    refine ex_if rfl (fun hc=>?_) (fun hc=>?_)
    ·have q1:=nw_num_le (l.getD 0 0)
     have q2:=nw_den_le (l.getD 0 0)
     have q3:=hB _ (gDQ h1)
     have q4:=quo_le' (a:=comD l) (b:=(l.getD 0 0).den)
     refine ex_skip (show Exec _ _ _ _ _ from ?_)
     refine ex_seq (ex_block (exr (sw (core_indexAddrJ un47 sz26 (by decide) (by omega) (by simp) (by decide) (L rfl)) t2 t0 ?_)))
     refine sw (c_la ag26 sz26 (getQ h1) rfl (L rfl)) t1 t0 (swb (c_al (k:=9) (n:=4) zv26 (.cons rfl (.cons rfl (.cons rfl (.cons rfl .nil)))) rfl (P0 _ rfl) (L rfl)) t0 t0 ⟨rfl,rfl⟩ (sb (c_sm sz26 (by rfl) pa4 rfl pu4) t2 t1 ?_))
     refine zn [(2,_),(3,_),(9,_),(24,_),(25,_),(26,_)] [(3,_),(9,_)] t6 t2 (exd0 (by rfl) ?_)
     refine mV (L rfl) rfl (sw (c_fa un26 rfl sz24 (by decide) (by exact rfl) (L rfl)) t1 t1 ?_)
     refine lp2 ag24 sz24 (L rfl) rfl rfl (lp2 ag24 sz24 (L rfl) rfl rfl (sw (c_fa un26 rfl sz24 (by decide) (by exact rfl) (L rfl)) t1 t1 ?_))
     refine lp2 ag24 sz24 (L rfl) rfl rfl (cK hG hX cl74 hN (wholeZ (comD l) (l.getD 0 0).den (by omega) (by omega) (den_ne _)) (L rfl) t2 ?_)
     refine cK hG hX cl70 hN (mulZ (l.getD 0 0).num (comD l / (l.getD 0 0).den) (by omega) (by omega)) (L rfl) t2 ?_
     refine sw (c_bI (vs:=[_]) un48 ti24 rfl rfl (by decide) (by decide) rfl (zs_made (.cons rfl (.cons rfl .nil)) rfl) rfl (.cons rfl pa2 rfl pu2 .nil) (.cons (.cons .nil)) (L rfl)) t1 t0 ?_
     refine swb (apN (k:=39) (sz:=2) un48 un48 ti24 rfl rfl rfl (by decide) (by simp) rfl (by first | (simp [Tryz.t24]; done) | (simp [Tryz.t24]; omega)) (by omega) (P0 _ rfl) (L rfl)) t2 t0 ⟨rfl,rfl⟩ ?_
     refine aV (L rfl) rfl ?_
     refine seq_nil ⟨aok rfl rfl,?_⟩
     refine exr0 (sw (c_ad (L rfl) (w64 (by omega) (by omega))) t2 t0 ?_)
     refine mV (L rfl) rfl (seq_nil ?_)
     exact ⟨1,(by omega),(by omega),le_of ⟨(by first | exact rfl | exact oi (by omega) rfl),(by first | exact rfl | exact oi (by omega) rfl),rfl,rfl,rfl,trivial⟩ ⟨obl rfl (by rw [comNL h1]; rfl),rfl,trivial⟩⟩
    ·have hc:=df hc
     omega
   ·intro k hk
    obtain ⟨hk,hk0⟩:=hk
    refine exr (sw (c_ls (L rfl)) t2 t0 (zn [(2,_),(3,_),(24,_),(25,_),(26,_),(27,_)] [(3,_),(39,_)] t6 t2 (ex_seq ?_)))
    refine ex_if rfl (fun hc=>?_) (fun hc=>?_)
    ·have hc:=dt hc
     have hkl : k < l.length:=by omega
     have q1:=nw_num_le (l.getD k 0)
     have q2:=nw_den_le (l.getD k 0)
     have q3:=hB _ (gDQ hkl)
     have q4:=quo_le' (a:=comD l) (b:=(l.getD k 0).den)
     refine ex_skip (show Exec _ _ _ _ _ from ?_)
     refine ex_seq (ex_block (exr (sw (core_indexAddrJ un47 sz26 (by omega) (by omega) (by simp) (by decide) (L rfl)) t2 t0 ?_)))
     refine sw (c_la ag26 sz26 (getQ hkl) rfl (L rfl)) t1 t0 (swb (c_al (k:=9) (n:=4) zv26 (.cons rfl (.cons rfl (.cons rfl (.cons rfl .nil)))) rfl (P0 _ rfl) (L rfl)) t0 t0 ⟨rfl,rfl⟩ (sb (c_sm sz26 (by rfl) pa4 rfl pu4) t2 t1 ?_))
     refine zn [(2,_),(3,_),(9,_),(24,_),(25,_),(26,_)] [(3,_),(9,_),(39,_)] t6 t3 (exd0 (by rfl) ?_)
     refine mV (L rfl) rfl (sw (c_fa un26 rfl sz24 (by decide) (by exact rfl) (L rfl)) t1 t1 ?_)
     refine lp2 ag24 sz24 (L rfl) rfl rfl (lp2 ag24 sz24 (L rfl) rfl rfl (sw (c_fa un26 rfl sz24 (by decide) (by exact rfl) (L rfl)) t1 t1 ?_))
     refine lp2 ag24 sz24 (L rfl) rfl rfl (cK hG hX cl74 hN (wholeZ (comD l) (l.getD k 0).den (by omega) (by omega) (den_ne _)) (L rfl) t2 ?_)
     refine cK hG hX cl70 hN (mulZ (l.getD k 0).num (comD l / (l.getD k 0).den) (by omega) (by omega)) (L rfl) t2 ?_
     refine sw (c_bI (vs:=[_]) un48 ti24 rfl rfl (by decide) (by decide) rfl (zs_made (.cons rfl (.cons rfl .nil)) rfl) rfl (.cons rfl pa2 rfl pu2 .nil) (.cons (.cons .nil)) (L rfl)) t1 t0 ?_
     refine swb (apP (sz:=2) un48 un48 ti24 rfl rfl rfl (by decide) (by exact (by simp [comN] <;> omega)) (by first | omega | rfl) (by simp) rfl rfl rfl (by first | (simp [Tryz.t24]; done) | (simp [Tryz.t24]; omega)) (by omega) (P0 _ rfl) (L rfl)) t2 t1 t0 ?_
     refine aV (L rfl) rfl ?_
     refine seq_nil ⟨aoks [⟨[2],[],[30],[]⟩,⟨[9],[9],[31],[]⟩,⟨[31],[9],[32],[]⟩,⟨[3],[3],[33],[]⟩,⟨[9],[9],[34],[]⟩,⟨[34],[9],[35],[]⟩,⟨[33,35],[],[36],[]⟩,⟨[32,36],[],[37],[]⟩,⟨[37],[],[38],[]⟩,⟨[30,38],[39],[39],[39]⟩,⟨[39],[],[2],[]⟩] (by rfl) (by rfl) (by decide),?_⟩
     refine exr0 (sw (c_ad (L rfl) (w64 (by omega) (by omega))) t2 t0 ?_)
     refine mV (L rfl) rfl (seq_nil ?_)
     exact ⟨k + 1,(by omega),(by omega),le_of ⟨(by first | exact rfl | exact oi (by omega) rfl),(by exact ov rfl (by simp; omega)),rfl,rfl,rfl,trivial⟩ ⟨obl rfl (by rw [comNL hkl]; exact rowZn _ _),rfl,trivial⟩⟩
    ·have hc:=df hc
     obtain rfl : k = l.length:=by omega
     have e2 : (comN l).length = l.length:=by simp [comN]
     rw [show (comN l).take l.length = comN l from List.take_of_length_le (by omega)]
     refine ex_exit (show Exec _ _ _ _ _ from ?_)
     refine exd (by rfl) ?_
     refine mV (L rfl) rfl (lp2 ag24 sz24 (L rfl) rfl rfl (aV (L rfl) rfl (sb (c_sm sz24 (by rfl) pa2 rfl pu2) t2 t1 ?_)))
     refine aV (L rfl) rfl ?_
     refine seq_nil ⟨aoks [⟨[2],[],[41],[]⟩,⟨[3],[3],[42],[]⟩,⟨[41],[],[2],[]⟩,⟨[3,42],[3],[],[3]⟩,⟨[],[],[4],[]⟩] (by rfl) (by rfl) (by decide),[(2,_),(3,_),(4,_)],[(3,_),(39,_)],t3,t2,?_⟩
     refine ex_cv [39] (sl:=[(2,_),(3,_),(4,_)]) (hb:=[(3,_)]) (own_none hX0) ⟨⟨_,rfl,(.ref rfl rfl (by exact (by simp [comN] <;> omega)) (by first | rfl | omega))⟩,⟨_,rfl,.same⟩,⟨_,rfl,.same⟩,trivial⟩ ⟨⟨rfl,_,rfl,.same⟩,trivial⟩ ?_
     refine ex_ret ?_
     refine ⟨.inr rfl,ResVs.cast (.cons (.tmp rfl) (.cons (.agg rfl rfl rfl ag24 sz24 (.cons (.cons .nil))) (.cons (.tmp rfl) .nil))) ?_⟩
     rw [pVZ,e2]
end Go.Proofs.YtcifhkfpmhifaaaGreatDoor.N
set_option maxRecDepth 100000
set_option maxHeartbeats 4000000
namespace Go.Proofs.YtcifhkfpmhifaaaGreatDoor.N
open Go Go.Proofs.YtcifhkfpmhifaaaGreatDoor.SH Go.Proofs.YtcifhkfpmhifaaaGreatDoor.NumA
open Go.Proofs.Tryz renaming call30 → cl30,call63 → cl63,call64 → cl64,call65 → cl65,call98 → cl98,call99 → cl99,isAgg24 → ag24,sizeOf2 → sz2,sizeOf24 → sz24,underlying26 → un26
theorem str_app (a b : List UInt8) : str a ++ str b = str (a ++ b):=by
 apply ByteArray.ext; simp [str]
theorem sz2 {a b : List UInt8} (h : a.length + b.length ≤ 9223372036854775807) : (str a).size + (str b).size ≤ 9223372036854775807:=h
theorem itoa_len (n : Int) : (Lib.itoa n).length ≤ 10 * nw n + 2:=by
 have h : (Lib.decDigits n.natAbs).length ≤ 10 * nw n + 1:=dec_len (ten_big' n)
 unfold Lib.itoa; split
 ·rw [List.length_cons]; omega
 ·rw [show n.toNat = n.natAbs by omega]; omega
theorem printV_Z (n : Int) : printV (decide (n < 0)) (digs n.natAbs) = Lib.itoa n:=by rw [printV,if_pos (canon_digs n),sg_digs]
theorem printZ (n : Int) (h : nw n < 100000) : Says E 98 [pZ n] (pS (Lib.itoa n)):=by
 have:=print_says (decide (n < 0)) (digs n.natAbs) (by unfold nw at h; omega) (wd_digs _)
 rwa [printV_Z] at this
def printQ (a : Rat) : List UInt8:=if (a.den : Int) = 1 then Lib.itoa a.num else Lib.itoa a.num ++ (47 :: Lib.itoa a.den)
theorem qprint_says (a : Rat) (ha : qw a < 100000) : Says E 52 [pQ a] (pS (printQ a)):=by
 refine says_of (xs:=[pS (printQ a)]) Tryz.func52 rfl Tryz.ntmps52 Tryz.results52 (by simp) fun F hG hX0 hnt hdf P0=>?_
 obtain ⟨L,hX,hN⟩:=pro hnt hX0 hG
 have h1:=nw_num_le a
 have h2:=nw_den_le a
 have l1:=itoa_len a.num
 have l2:=itoa_len a.den
 refine exr (swb (c_bx (k:=1) (n:=4) pa4 rfl rfl (P0 _ rfl) (L rfl)) t1 t0 ⟨rfl,rfl⟩ (aV (L rfl) rfl (zn [(1,_)] [(1,_)] t1 t1 (ex_seq (exd (by rfl) ?_)))))
 refine sw (c_fa un26 rfl sz24 (by decide) (by exact rfl) (L rfl)) t1 t1 ?_
 refine lp2 ag24 sz24 (L rfl) rfl rfl (cK hG hX cl63 hN one_says (L rfl) t0 (cK hG hX cl65 hN (cmpZ a.den 1 (by omega) (by rw [nw_one]; decide)) (L rfl) t2 ?_))
 refine sw (c_e (L rfl)) t2 t0 ?_
 refine seq_nil ⟨aoks [⟨[1],[1],[3],[]⟩,⟨[3],[1],[4],[]⟩,⟨[],[],[5],[]⟩,⟨[4,5],[],[6],[]⟩,⟨[6],[],[7],[]⟩] (by rfl) (by rfl) (by decide),[(1,_),(7,_)],[(1,_)],t2,t1,?_⟩
 refine ex_if rfl (fun hc=>?_) (fun hc=>?_)
 ·have hc:=cmp0.1 (dt hc)
  refine exr (sw (c_fa un26 rfl sz24 (by decide) (by exact rfl) (L rfl)) t1 t1 ?_)
  refine lp2 ag24 sz24 (L rfl) rfl rfl (cK hG hX cl98 hN (printZ a.num (by omega)) (L rfl) t1 ?_)
  refine aV (L rfl) rfl (zn [(2,_)] [] t1 trivial (ex_ret ?_))
  refine ⟨.inr rfl,ResVs.cast (.cons (.tmp rfl) .nil) ?_⟩
  rw [printQ,if_pos hc]
 ·have hc : ¬ (a.den : Int) = 1:=fun c=>df hc (cmp0.2 c)
  refine ex_skip (show Exec _ _ _ _ _ from ?_)
  refine exd (by rfl) ?_
  refine sw (c_fa un26 rfl sz24 (by decide) (by exact rfl) (L rfl)) t1 t1 ?_
  refine lp2 ag24 sz24 (L rfl) rfl rfl (cK hG hX cl98 hN (printZ a.num (by omega)) (L rfl) t1 ?_)
  refine sw (c_sa (L rfl) (sz2 (a:=Lib.itoa a.num) (b:=[47]) (by simp; omega)) (show _ = str (Lib.itoa a.num ++ [47]) from str_app _ [47])) t2 t0 ?_
  refine sw (c_fa un26 rfl sz24 (by decide) (by exact rfl) (L rfl)) t1 t1 ?_
  refine lp2 ag24 sz24 (L rfl) rfl rfl (cK hG hX cl98 hN (printZ a.den (by omega)) (L rfl) t1 ?_)
  refine sw (c_sa (L rfl) (sz2 (a:=Lib.itoa a.num ++ [47]) (b:=Lib.itoa a.den) (by simp; omega)) (str_app _ _)) t2 t0 ?_
  refine aV (L rfl) rfl ?_
  refine seq_nil ⟨aoks [⟨[1],[1],[11],[]⟩,⟨[11],[1],[12],[]⟩,⟨[12],[],[13],[]⟩,⟨[13],[],[14],[]⟩,⟨[1],[1],[15],[]⟩,⟨[15],[1],[16],[]⟩,⟨[16],[],[17],[]⟩,⟨[14,17],[],[18],[]⟩,⟨[18],[],[2],[]⟩] (by rfl) (by rfl) (by decide),[(2,_)],[],t1,trivial,?_⟩
  refine ex_ret ?_
  refine ⟨.inr rfl,ResVs.cast (.cons (.tmp rfl) .nil) ?_⟩
  rw [printQ,if_neg hc]; simp
end Go.Proofs.YtcifhkfpmhifaaaGreatDoor.N
set_option maxRecDepth 100000
set_option maxHeartbeats 4000000
namespace Go.Proofs.YtcifhkfpmhifaaaGreatDoor.N
open Go Go.Proofs.YtcifhkfpmhifaaaGreatDoor.SH Go.Proofs.YtcifhkfpmhifaaaGreatDoor.NumA
open Go.Proofs.Tryz renaming call18 → cl18,call30 → cl30,call43 → cl43,call44 → cl44,call64 → cl64,call97 → cl97,isAgg24 → ag24,isAgg26 → ag26,sizeOf24 → sz24,sizeOf26 → sz26,underlying26 → un26,underlying9 → un9,zeroValue24 → zv24,zeroValue26 → zv26
theorem parse_ds {ds : List UInt8} {neg : Bool} (hd : Digits ds) (hn : ds ≠ []) (hl : ds.length ≤ 20000) (hh : (ds.getD 0 0).toNat ≠ 48 ∨ (ds.length = 1 ∧ neg = false)) : parseE (if neg then 45 :: ds else ds) = 0 ∧ parseV (if neg then 45 :: ds else ds) = sg neg (numI ds):=by
 have hlen : 0 < ds.length:=List.length_pos_iff.2 hn
 have h45 : (ds.getD 0 0).toNat ≠ 45:=by have:=hd.get (i:=0) hlen; omega
 have h1 : pNeg (if neg then 45 :: ds else ds) = neg:=by
  cases neg with
  | true=>simp [pNeg]
  | false =>
   have : ¬ (((ds.getD 0 0).toNat : Int) = 45):=by omega
   simp only [pNeg,Bool.false_eq_true,if_false]
   exact decide_eq_false (fun h=>this h.2)
 have h2 : pDs (if neg then 45 :: ds else ds) = ds:=by
  unfold pDs; rw [h1]
  cases neg <;> simp
 have h3 : pBad ds neg = false:=by
  unfold pBad
  refine decide_eq_false ?_
  rintro (h | ⟨h,h'⟩)
  ·omega
  ·rcases hh with hh | ⟨hh,rfl⟩
   ·omega
   ·rcases h' with h' | h'
    ·omega
    ·cases h'
 have h4 : parseE (if neg then 45 :: ds else ds) = 0:=by
  rw [parseE,h1,h2,if_neg,if_neg (by omega)]
  rintro (h | h)
  ·rw [h3] at h; cases h
  ·exact h hd
 refine ⟨h4,?_⟩
 rw [parseV,if_pos h4,h1,h2]
theorem parse_itoa {a : Int} (hw : nw a ≤ 1000) : parseE (Lib.itoa a) = 0 ∧ parseV (Lib.itoa a) = a:=by
 have h:=ten_big' a
 have hd:=fun u=>dec_digits u u (Nat.le_refl _)
 have hne : ∀ u,Lib.decDigits u ≠ []:=fun u e=>by have:=dec_pos u; rw [e] at this; simp at this
 by_cases hn : a < 0
 ·obtain ⟨d1,d2⟩:=hd a.natAbs
  have:=parse_ds (neg:=true) d1 (hne _) (Nat.le_trans (dec_len h) (by omega)) (.inl (dec_head _ _ (Nat.le_refl _) (by omega)))
  rw [if_pos rfl,d2] at this
  rw [Lib.itoa,if_pos hn]
  refine ⟨this.1,this.2.trans ?_⟩
  simp only [sg,if_true]; omega
 ·obtain ⟨d1,d2⟩:=hd a.toNat
  have hl:=dec_len (u:=a.toNat) (k:=10 * nw a) (by rw [show a.toNat = a.natAbs by omega]; exact h)
  have:=parse_ds (neg:=false) d1 (hne _) (Nat.le_trans hl (by omega)) (by
   by_cases h0 : a.toNat = 0
   ·rw [h0,dec_small (by decide)]; exact .inr ⟨rfl,rfl⟩
   ·exact .inl (dec_head _ _ (Nat.le_refl _) (by omega)))
  rw [if_neg (by decide),d2] at this
  rw [Lib.itoa,if_neg hn]
  refine ⟨this.1,this.2.trans ?_⟩
  simp only [sg]; rw [if_neg (by decide)]; omega
theorem itoa_parse {bs : List UInt8} (h : parseE bs = 0) : Lib.itoa (parseV bs) = bs:=by
 have hv : parseV bs = sg (pNeg bs) (numI (pDs bs)):=by rw [parseV,if_pos h]
 rw [parseE] at h
 split at h
 ·omega
 ·rename_i hb
  have hbad : ¬ pBad (pDs bs) (pNeg bs) = true:=fun e=>hb (.inl e)
  have hd : Digits (pDs bs):=by
   by_cases hd : Digits (pDs bs)
   ·exact hd
   ·exact absurd (.inr hd) hb
  unfold pBad at hbad
  rw [decide_eq_true_eq] at hbad
  have hlen : (pDs bs).length ≠ 0:=fun e=>hbad (.inl e)
  obtain ⟨k,hk⟩ : ∃ k,(pDs bs).length = k + 1:=⟨(pDs bs).length - 1,by omega⟩
  have hbd:=numI_bd hd
  rw [hv]
  cases hn : pNeg bs with
  | true =>
   rw [hn] at hbad
   have h48 : ((pDs bs).getD 0 0).toNat ≠ 48:=fun e=>hbad (.inr ⟨by omega,.inr rfl⟩)
   obtain ⟨e1,e2⟩:=dec_num k _ hk hd (.inl h48)
   have hp:=e2 h48
   have e3 : (sg true (numI (pDs bs))).natAbs = (numI (pDs bs)).toNat:=by simp only [sg,if_true]; omega
   rw [Lib.itoa,if_pos (by simp only [sg,if_true]; omega),e3,e1]
   have h0 : bs ≠ []:=by intro e; subst e; simp [pNeg] at hn
   obtain ⟨c,l,rfl⟩:=List.exists_cons_of_ne_nil h0
   unfold pDs
   rw [if_pos hn]
   have : (c.toNat : Int) = 45:=by
    unfold pNeg at hn
    rw [decide_eq_true_eq] at hn
    exact hn.2
   have hc : c = 45:=by
    have h45 : (45 : UInt8).toNat = 45:=rfl
    have : c.toNat = (45 : UInt8).toNat:=by omega
    exact UInt8.toNat_inj.1 this
   rw [hc]; rfl
  | false =>
   rw [hn] at hbad
   have hh : ((pDs bs).getD 0 0).toNat ≠ 48 ∨ k = 0:=by
    by_cases e : ((pDs bs).getD 0 0).toNat = 48
    ·right
     by_cases hk0 : k = 0
     ·exact hk0
     ·exact absurd (.inr ⟨by omega,.inl (by omega)⟩) hbad
    ·exact .inl e
   obtain ⟨e1,-⟩:=dec_num k _ hk hd hh
   have e3 : (sg false (numI (pDs bs))).toNat = (numI (pDs bs)).toNat:=rfl
   rw [Lib.itoa,if_neg (by simp only [sg]; rw [if_neg (by decide)]; omega),e3,e1]
   unfold pDs
   rw [if_neg (by rw [hn]; decide)]
theorem nw_parse (bs : List UInt8) : nw (parseV bs) ≤ bs.length:=by
 unfold parseV
 split
 ·rename_i h
  have hd : Digits (pDs bs):=by
   rw [parseE] at h
   split at h
   ·omega
   ·rename_i hb
    by_cases hd : Digits (pDs bs)
    ·exact hd
    ·exact absurd (.inr hd) hb
  have hl : (pDs bs).length ≤ bs.length:=by unfold pDs; split <;> simp
  obtain ⟨b0,b1⟩:=numI_bd hd
  apply nw_le
  have h1 : (sg (pNeg bs) (numI (pDs bs))).natAbs = (numI (pDs bs)).toNat:=by unfold sg; split <;> omega
  have h2 : (10 : Nat) ^ (pDs bs).length ≤ 4294967296 ^ (pDs bs).length:=Nat.pow_le_pow_left (by decide) _
  have h3 : (4294967296 : Nat) ^ (pDs bs).length ≤ 4294967296 ^ bs.length:=Nat.pow_le_pow_right (by decide) hl
  have h4 : ((10 ^ (pDs bs).length : Nat) : Int) ≤ ((4294967296 ^ bs.length : Nat) : Int):=Int.ofNat_le.2 (Nat.le_trans h2 h3)
  rw [Int.natCast_pow,Int.natCast_pow] at h4
  rw [h1,Int.toNat_of_nonneg b0]
  exact Int.lt_of_lt_of_le b1 h4
 ·rw [nw_zero.2 rfl]; exact Nat.zero_le _
def cutN : List UInt8 → Nat
 | []=>0
 | c :: l=>if c.toNat = 47 then 0 else cutN l + 1
theorem cutN_le : ∀ bs : List UInt8,cutN bs ≤ bs.length
 | []=>Nat.le_refl _
 | c :: l=>by
  have:=cutN_le l
  unfold cutN; split
  ·exact Nat.zero_le _
  ·simpa using this
def ab (bs : List UInt8) : List UInt8:=bs.take (cutN bs)
def be (bs : List UInt8) : List UInt8:=bs.drop (cutN bs + 1)
def pqBad (bs : List UInt8) : Bool:=decide (parseE (be bs) = 3 ∨ pNeg (be bs) = true ∨ parseV (be bs) = 1 ∨ (parseE (be bs) = 0 ∧ parseV (be bs) = 0))
def pqE (bs : List UInt8) : Int :=
 if parseE (ab bs) = 3 then 3
 else if cutN bs = bs.length then parseE (ab bs)
 else if pqBad bs = true then 3
 else if parseE (ab bs) ≠ 0 ∨ parseE (be bs) ≠ 0 then 2
 else if (Int.gcd (parseV (ab bs)) (parseV (be bs)) : Int) = 1 then 0 else 3
def pqV (bs : List UInt8) : RQ:=if pqE bs = 0 then RQ.of (if cutN bs = bs.length then (parseV (ab bs) : Rat) else Rat.divInt (parseV (ab bs)) (parseV (be bs))) else R0
theorem parseE_cases (bs : List UInt8) : parseE bs = 0 ∨ parseE bs = 2 ∨ parseE bs = 3:=by
 unfold parseE; split
 ·exact .inr (.inr rfl)
 ·split
  ·exact .inr (.inl rfl)
  ·exact .inl rfl
theorem pN_of {n d : Int} (hd : 0 < d) (hg : (Int.gcd n d : Int) = 1) : pN n d = pQ (Rat.divInt n d):=by
 have h1 : sgcd n d = 1:=by rw [sgcd,if_neg (by omega)]; exact hg
 exact cN (by rw [ovr_num (by omega),h1,Int.ediv_one]) (by rw [ovr_den (by omega),h1,Int.ediv_one])
theorem parse_pos {bs : List UInt8} (h1 : pNeg bs = false) (h2 : parseV bs ≠ 0) : 0 < parseV bs:=by
 unfold parseV at h2 ⊢
 split
 ·rename_i h
  rw [if_pos h] at h2
  have hd : Digits (pDs bs):=by
   rw [parseE] at h
   split at h
   ·omega
   ·rename_i hb
    by_cases hd : Digits (pDs bs)
    ·exact hd
    ·exact absurd (.inr hd) hb
  have:=(numI_bd hd).1
  rw [h1] at h2 ⊢
  simp only [sg,Bool.false_eq_true,if_false] at h2 ⊢
  omega
 ·rename_i h
  rw [if_neg h] at h2; exact absurd rfl h2
end Go.Proofs.YtcifhkfpmhifaaaGreatDoor.N
set_option maxRecDepth 100000
set_option maxHeartbeats 4000000
namespace Go.Proofs.YtcifhkfpmhifaaaGreatDoor.N
open Go Go.Proofs.YtcifhkfpmhifaaaGreatDoor.SH Go.Proofs.YtcifhkfpmhifaaaGreatDoor.NumA
open Go.Proofs.Tryz renaming call54 → cl54,call56 → cl56,isAgg26 → ag26,sizeOf26 → sz26,typeInfo26 → ti26,underlying47 → un47
end Go.Proofs.YtcifhkfpmhifaaaGreatDoor.N
namespace Go.Proofs.YtcifhkfpmhifaaaGreatDoor.NumA
theorem sub_int (x : Rat) (n : Int) : (x - (n : Rat)).num = x.num - n * x.den ∧ (x - (n : Rat)).den = x.den:=by
  have hc : (x.num - n * x.den).natAbs.Coprime x.den:=by
    have:=x.reduced
    unfold Nat.Coprime at this ⊢
    have h : Int.gcd (x.num - n * x.den) x.den = Int.gcd x.num x.den:=by
      rw [Int.sub_eq_add_neg,← Int.neg_mul,Int.gcd_add_mul_right_left]
    exact h.trans this
  have e : x - (n : Rat) = ⟨x.num - n * x.den,x.den,x.den_nz,hc⟩:=by
    rw [Rat.mk_eq_mkRat,Rat.sub_def',Rat.num_intCast,Rat.den_intCast]
    simp
  rw [e]; exact ⟨rfl,rfl⟩
theorem inv_pos_nd {x : Rat} (h : 0 < x) : (x⁻¹).num = x.den ∧ ((x⁻¹).den : Int) = x.num:=by
  have h1 : 0 < x.num:=by
    rcases Int.lt_trichotomy x.num 0 with c | c | c
    · have:=Rat.num_nonneg.2 (Rat.le_of_lt h); omega
    · rw [Rat.num_eq_zero] at c; rw [c] at h; exact absurd h (by decide)
    · exact c
  rw [Rat.num_inv,Rat.den_inv,Int.sign_eq_one_of_pos h1,if_neg (by omega)]
  omega
def cfE (lo hi : Rat) : Bool:=decide ((lo.floor : Rat) = lo) || decide (((lo.floor + 1 : Int) : Rat) ≤ hi)
def cfX (lo hi : Rat) : Int:=if (lo.floor : Rat) = lo then lo.floor else if ((lo.floor + 1 : Int) : Rat) ≤ hi then lo.floor + 1 else lo.floor
def cfN (lo hi : Rat) : Rat × Rat:=((hi - (lo.floor : Rat))⁻¹,(lo - (lo.floor : Rat))⁻¹)
def cf : Nat → Rat → Rat → List Int
  | 0,_,_=>[]
  | n + 1,lo,hi=>cfX lo hi :: if cfE lo hi = true then [] else cf n (cfN lo hi).1 (cfN lo hi).2
def cfZ : Nat → Rat → Rat → Rat × Rat
  | 0,lo,hi=>(lo,hi)
  | n + 1,lo,hi=>if cfE lo hi = true then (lo,hi) else cfZ n (cfN lo hi).1 (cfN lo hi).2
def Fin' : Nat → Rat → Rat → Prop
  | 0,_,_=>False
  | n + 1,lo,hi=>cfE lo hi = true ∨ Fin' n (cfN lo hi).1 (cfN lo hi).2
theorem cfE_not {lo hi : Rat} (h0 : lo ≤ hi) (h : ¬ cfE lo hi = true) : (lo.floor : Rat) < lo ∧ hi < (lo.floor : Rat) + 1 ∧ 0 < lo - (lo.floor : Rat) ∧ 0 < hi - (lo.floor : Rat):=by
  simp only [cfE,Bool.or_eq_true,decide_eq_true_eq,not_or] at h
  obtain ⟨h1,h2⟩:=h
  have h3:=Rat.floor_le lo
  have h4 : hi < ((lo.floor + 1 : Int) : Rat):=Rat.not_le.1 h2
  rw [Rat.intCast_add] at h4
  have h5 : ((1 : Int) : Rat) = 1:=rfl
  rw [h5] at h4
  have h6 : (lo.floor : Rat) < lo:=Rat.lt_of_le_of_ne h3 h1
  refine ⟨h6,h4,by grind,by grind⟩
theorem cfN_nd {lo hi : Rat} (h0 : lo ≤ hi) (h : ¬ cfE lo hi = true) :
    (cfN lo hi).1.num = hi.den ∧ ((cfN lo hi).1.den : Int) = hi.num - lo.floor * hi.den ∧ (cfN lo hi).2.num = lo.den ∧ ((cfN lo hi).2.den : Int) = lo.num - lo.floor * lo.den:=by
  obtain ⟨h1,h2,h3,h4⟩:=cfE_not h0 h
  obtain ⟨a1,a2⟩:=inv_pos_nd h4
  obtain ⟨b1,b2⟩:=inv_pos_nd h3
  obtain ⟨c1,c2⟩:=sub_int hi lo.floor
  obtain ⟨d1,d2⟩:=sub_int lo lo.floor
  exact ⟨by rw [cfN,a1,c2],by rw [cfN,a2,c1],by rw [cfN,b1,d2],by rw [cfN,b2,d1]⟩
theorem one_lt_inv {x : Rat} (h0 : 0 < x) (h1 : x < 1) : 1 < x⁻¹:=by
  obtain ⟨a1,a2⟩:=inv_pos_nd h0
  rw [Rat.lt_iff] at h1 ⊢
  have e1 : (1 : Rat).num = 1:=rfl
  have e2 : (1 : Rat).den = 1:=rfl
  rw [e1,e2] at h1 ⊢
  rw [a1,a2]; simpa using h1
theorem inv_le_inv {x y : Rat} (h0 : 0 < x) (h : x ≤ y) : y⁻¹ ≤ x⁻¹:=by
  have hy : 0 < y:=by grind
  obtain ⟨a1,a2⟩:=inv_pos_nd h0
  obtain ⟨b1,b2⟩:=inv_pos_nd hy
  rw [Rat.le_iff] at h ⊢
  rw [a1,a2,b1,b2]
  rw [Int.mul_comm (y.den : Int),Int.mul_comm (x.den : Int)]; exact h
theorem cfN_le {lo hi : Rat} (h0 : lo ≤ hi) (h : ¬ cfE lo hi = true) : 1 < (cfN lo hi).1 ∧ (cfN lo hi).1 ≤ (cfN lo hi).2:=by
  obtain ⟨h1,h2,h3,h4⟩:=cfE_not h0 h
  refine ⟨one_lt_inv h4 (by grind),inv_le_inv h3 (by grind)⟩
theorem floor_ge1 {x : Rat} (h : 1 < x) : 1 ≤ x.floor:=by
  rw [Rat.le_floor_iff]; exact Rat.le_of_lt h
theorem num_lt {x : Rat} {n : Int} (h : x < (n : Rat) + 1) : x.num - n * x.den < x.den:=by
  have : x - (n : Rat) < 1:=by grind
  obtain ⟨c1,c2⟩:=sub_int x n
  rw [Rat.lt_iff,c1,c2] at this
  have e1 : (1 : Rat).num = 1:=rfl
  have e2 : (1 : Rat).den = 1:=rfl
  rw [e1,e2] at this; simpa using this
theorem fin_of : ∀ (b : Nat) (lo hi : Rat),lo ≤ hi → lo.den < 2 ^ b → Fin' (2 * b) lo hi
  | 0,lo,_,_,h=>by have:=lo.den_pos; simp at h; omega
  | b + 1,lo,hi,h0,h=>by
    show Fin' (2 * b + 1 + 1) lo hi
    by_cases e1 : cfE lo hi = true
    · exact .inl e1
    · refine .inr ?_
      obtain ⟨a1,a2⟩:=cfN_le h0 e1
      obtain ⟨-,-,n3,n4⟩:=cfN_nd h0 e1
      by_cases e2 : cfE (cfN lo hi).1 (cfN lo hi).2 = true
      · exact .inl e2
      · refine .inr (fin_of b _ _ (cfN_le a2 e2).2 ?_)
        obtain ⟨m1,m2,-,-⟩:=cfN_nd a2 e2
        obtain ⟨-,k2,-,-⟩:=cfE_not a2 e2
        have k3:=num_lt k2
        have k4:=floor_ge1 a1
        generalize (cfN (cfN lo hi).1 (cfN lo hi).2).1.den = D at m2
        generalize (cfN lo hi).1.floor = f at k3 k4 m2
        rw [n3] at k3 m2
        generalize ((cfN lo hi).2.den : Int) = r at k3 m2
        have hr : f * r ≥ 1 * r:=by
          by_cases c : 0 ≤ r
          · exact Int.mul_le_mul_of_nonneg_right k4 c
          · exfalso
            have : f * r ≤ 1 * r:=Int.mul_le_mul_of_nonpos_right k4 (by omega)
            omega
        rw [Nat.pow_succ] at h
        omega
theorem cf_len {n : Nat} {lo hi : Rat} (h : Fin' n lo hi) : 0 < (cf n lo hi).length:=by
  cases n with
  | zero=>exact h.elim
  | succ n=>simp [cf]
def cfV : List Int → Rat
  | []=>0
  | a :: l=>(a : Rat) + (cfV l)⁻¹
theorem cf_le : ∀ (n : Nat) (lo hi : Rat),(cf n lo hi).length ≤ n
  | 0,_,_=>Nat.le_refl _
  | n + 1,lo,hi=>by
    rw [cf,List.length_cons]
    split
    · simp
    · have:=cf_le n (cfN lo hi).1 (cfN lo hi).2; omega
theorem cfX_ge {lo hi : Rat} : lo.floor ≤ cfX lo hi ∧ cfX lo hi ≤ lo.floor + 1:=by
  unfold cfX; repeat' split <;> omega
theorem cfV_pos : ∀ {l : List Int},l ≠ [] → (∀ t ∈ l,1 ≤ t) → 1 ≤ cfV l
  | [],h,_=>absurd rfl h
  | [a],_,h=>by
    have h1:=h a (by simp)
    have h2 : ((1 : Int) : Rat) ≤ (a : Rat):=Rat.intCast_le_intCast.2 h1
    simp only [cfV,Rat.inv_zero]
    have h3 : ((1 : Int) : Rat) = 1:=rfl
    grind
  | a :: b :: l,_,h=>by
    have h1:=h a (by simp)
    have h2 : ((1 : Int) : Rat) ≤ (a : Rat):=Rat.intCast_le_intCast.2 h1
    have h4:=cfV_pos (l:=b :: l) (by simp) (fun t ht=>h t (by simp [ht]))
    have h5 : 0 < (cfV (b :: l))⁻¹:=Rat.inv_pos.2 (by grind)
    rw [cfV]
    have h3 : ((1 : Int) : Rat) = 1:=rfl
    grind
theorem qw_intB (n : Int) : qw (n : Rat) = max (nw n) 1:=by rw [qw,Rat.num_intCast,Rat.den_intCast]; rw [show ((1 : Nat) : Int) = 1 from rfl,nw_one]
theorem cfV_qw {B : Nat} : ∀ {l : List Int},(∀ t ∈ l,nw t ≤ B) → qw (cfV l) ≤ l.length * (B + 2) + 1
  | [],_=>by rw [cfV,qw_zero]; simp
  | a :: l,h=>by
    have h1:=h a (by simp)
    have h2:=cfV_qw (l:=l) (fun t ht=>h t (by simp [ht]))
    have h3:=qw_add (a : Rat) (cfV l)⁻¹
    have h4:=qw_intB a
    have h5 : qw (cfV l)⁻¹ ≤ qw (cfV l):=by
      by_cases c : cfV l = 0
      · rw [c,Rat.inv_zero]; exact Nat.le_refl _
      · exact qw_inv c
    rw [cfV,List.length_cons,Nat.add_mul]; omega
def simpP (lo hi : Rat) : Rat:=cfV (cf (2 * bl lo.den) lo hi)
end Go.Proofs.YtcifhkfpmhifaaaGreatDoor.NumA
namespace Go.Proofs.YtcifhkfpmhifaaaGreatDoor.SH
open Go Go.RowKit
def setL (t : Array Value) (l : List (Nat × Value)) : Array Value:=l.foldl (fun t p=>t.setIfInBounds p.1 p.2) t
theorem setL_size : ∀ (l : List (Nat × Value)) (t : Array Value),(setL t l).size = t.size
  | [],_=>rfl
  | p :: l,t=>by show (setL (t.setIfInBounds p.1 p.2) l).size = _; rw [setL_size l]; simp
theorem zip_none {α β : Type} {ps : List Nat} {vs : List α} {us : List β} {t : Nat} : vs.length = ps.length → us.length = ps.length → (ps.zip vs).lookup t = none → (ps.zip us).lookup t = none:=by
  induction ps generalizing vs us with
  | nil=>intros; rfl
  | cons p ps ih =>
    intro h1 h2 h
    cases vs with
    | nil=>simp at h1
    | cons v vs=>cases us with
      | nil=>simp at h2
      | cons u us =>
        simp only [List.zip_cons_cons,List.lookup_cons] at h ⊢
        split at h
        · cases h
        · exact ih (by simpa using h1) (by simpa using h2) h
theorem zip_at {α : Type} {ps : List Nat} {vs : List α} {i t : Nat} {u : α} (hn : ps.Nodup) (hi : ps[i]? = some t) (hu : vs[i]? = some u) : (ps.zip vs).lookup t = some u:=by
  induction ps generalizing vs i with
  | nil=>simp at hi
  | cons p ps ih =>
    cases vs with
    | nil=>simp at hu
    | cons v vs =>
      rw [List.nodup_cons] at hn
      cases i with
      | zero =>
        simp only [List.getElem?_cons_zero,Option.some.injEq] at hi hu
        subst hi hu
        simp [List.lookup_cons]
      | succ i =>
        simp only [List.getElem?_cons_succ] at hi hu
        have hm:=List.mem_of_getElem? hi
        have hne : (t == p) = false:=by
          rw [beq_eq_false_iff_ne]; intro e; subst e; exact hn.1 hm
        simp only [List.zip_cons_cons,List.lookup_cons,hne]
        exact ih hn.2 hi hu
theorem zip_lookup {α : Type} {ps : List Nat} {vs : List α} {t : Nat} {u : α} (hn : ps.Nodup) (h : (ps.zip vs).lookup t = some u) : ∃ i : Nat,ps[i]? = some t ∧ vs[i]? = some u:=by
  induction ps generalizing vs with
  | nil=>simp at h
  | cons p ps ih =>
    cases vs with
    | nil=>simp at h
    | cons v vs =>
      rw [List.nodup_cons] at hn
      simp only [List.zip_cons_cons,List.lookup_cons] at h
      split at h
      · rename_i e; injection h with h; subst h
        exact ⟨0,by simp [beq_iff_eq.1 e],rfl⟩
      · obtain ⟨i,h1,h2⟩:=ih hn.2 h
        exact ⟨i + 1,h1,h2⟩
theorem setL_get {ps : List Nat} {vs : List Value} {t : Array Value} (hn : ps.Nodup) (hl : vs.length = ps.length) (hlt : ∀ p ∈ ps,p < t.size) (i : Nat) : (setL t (ps.zip vs))[i]? = ((ps.zip vs).lookup i).or t[i]?:=by
  induction ps generalizing vs t with
  | nil=>simp [setL]
  | cons p ps ih =>
    cases vs with
    | nil=>simp at hl
    | cons v vs =>
      rw [List.nodup_cons] at hn
      have:=ih (vs:=vs) (t:=t.setIfInBounds p v) hn.2 (by simpa using hl) (fun q hq=>by simp; exact hlt q (List.mem_cons_of_mem _ hq))
      show (setL (t.setIfInBounds p v) (ps.zip vs))[i]? = _
      rw [this]
      simp only [List.zip_cons_cons,List.lookup_cons]
      by_cases e : i = p
      · subst e
        have hno : (ps.zip vs).lookup i = none:=by
          cases e2 : (ps.zip vs).lookup i with
          | none=>rfl
          | some u=>obtain ⟨j,h1,_⟩:=zip_lookup hn.2 e2; exact absurd (List.mem_of_getElem? h1) hn.1
        rw [hno,Option.none_or,Array.getElem?_setIfInBounds_self_of_lt (hlt i (by simp))]
        simp
      · rw [show (i == p) = false by simpa using e,Array.getElem?_setIfInBounds_ne (Ne.symm e)]
def mkLL (fid : FuncId) (tmps : Array Value) (ps : List Nat) (asx bd : Code) (D : Nat) (st : LoopState) (pe : Option Code) : Loop:={ state:=st,pending:=pe,fn:=fid,tmps:=tmps,params:=ps.toArray,assign:=asx,body:=bd,defers:=D }
def looseB (lq : List Nat) (Hk : List (Nat × Blk)) (S : St) : Bool:=lq.all fun q=>freeSl q S.sl && S.hb.all fun p=>(Hk.lookup p.1).isSome || (!(p.1 == q) && p.2.cs.free q)
structure LooseS (lq : List Nat) (Hk : List (Nat × Blk)) (S : St) : Prop where
  slots : ∀ {q t v},q ∈ lq → S.slot t = some v → v.free q = true
  blks : ∀ {q j B},q ∈ lq → S.blk j = some B → Hk.lookup j = none → j ≠ q ∧ ∀ i x,B.cs.get i = some x → x.free q = true
theorem looseS_of {lq : List Nat} {Hk : List (Nat × Blk)} {S : St} (h : looseB lq Hk S = true) : LooseS lq Hk S:=by
  unfold looseB at h
  rw [List.all_eq_true] at h
  refine ⟨fun {q t v} hq ht=>?_,fun {q j B} hq hB hn=>?_⟩
  · have:=h q hq
    rw [Bool.and_eq_true] at this
    exact freeSl_get this.1 ht
  · have:=h q hq
    rw [Bool.and_eq_true,List.all_eq_true] at this
    have h2:=this.2 (j,B) (lookup_mem hB)
    simp only [hn,Option.isSome_none,Bool.false_or,Bool.and_eq_true,Bool.not_eq_true',beq_eq_false_iff_ne] at h2
    exact ⟨h2.1,fun i x hx=>Cells.free_get h2.2 hx⟩
structure XFrL (E : Env) (lq : List Nat) (H : List (Nat × Blk)) (n : Nat) (F : Fr) : Prop where
  g : E.G F.w0
  x : ∀ b,F.X b → E.ng ≤ b
  nt : F.nt = n
  df : F.df = []
  p0 : ∀ q,H.lookup q = none ∨ q ∈ lq → F.pin q = none
  lo : ∀ q,F.lo q = ((H.lookup q).isNone && !lq.contains q)
  ng : E.ng ≤ F.w0.heap.size
def roundFL (FI : Fr) (nt : Nat) (S : St) (ρ : Nat → Nat) (W W0 : World) (l : Nat) (lq : List Nat) (Hk : List (Nat × Blk)) : Fr :=
  ⟨W0,fun b=>okI FI S.blk ρ b ∧ b < W.heap.size,fun b=>∃ q,Hk.lookup q ≠ none ∧ b = ρ q,nt,[],fun q=>if Hk.lookup q ≠ none ∧ q ∉ lq then match hp W (ρ q) with | some (.cells c _ _)=>some (ρ q,c.size) | _=>none else none,some l,fun _ _=>False,fun q=>(Hk.lookup q).isNone && !lq.contains q⟩
structure ItFrL (FI : Fr) (l D : Nat) (L : Loop) (lq : List Nat) (H : Nat → List (Nat × Blk)) (n : Nat) : Prop where
  ro : FI.ro = none
  loop : FI.w0.heap[l]? = some (.loop L)
  lX : ¬ FI.X l
  lok : ¬ FI.okA l
  llt : l < FI.w0.heap.size
  pinL : ∀ q,q ∈ lq → FI.pin q = none
  keys : ∀ k,k < n → ∀ q,q ∉ lq → ((H (k + 1)).lookup q ≠ none ↔ (H k).lookup q ≠ none)
  keysL : ∀ k,k < n → ∀ q,q ∈ lq → (H k).lookup q ≠ none → (H (k + 1)).lookup q ≠ none
  same : ∀ k,k < n → ∀ q,q ∉ lq → ∀ B B',(H k).lookup q = some B → (H (k + 1)).lookup q = some B' → B'.sz = B.sz ∧ B'.cs.len = B.cs.len
  lo : ∀ k,k ≤ n → ∀ q,(H k).lookup q ≠ none → FI.lo q = false
  cont : ∀ k,k ≤ n → ∀ j B,(H k).lookup j = some B → ∀ i x,B.cs.get i = some x → ∀ q,x.free q = false → (H k).lookup q ≠ none
def YieldsL (P : Program) (F : Fr) (lq : List Nat) (l n : Nat) (encs : Nat → List Pure) (H : Nat → List (Nat × Blk)) : Prop :=
  ∀ k,k < n → ∀ (d : Nat) (fo : Operand) (os : List Operand) (ts : Array TypeId) (T : TypeId) (pos : String) (aft : Array Edge) (g : Option (Nat × Bool)),d < F.nt → os.length = (encs k).length →
    ∀ S a w,Sat F S a w → Ann.holds ⟨(fo,.clo (.yield l) [] []) :: os.zip ((encs k).map .p),H k,none,[(d,.p (.a (.bool true)))],H (k + 1)⟩ S → LooseS lq (H k) S → ∀ (Q : Exit → Act → World → Prop) (K : Act → World → Prop),
      (∀ a' w',Sat F (S.app ⟨(fo,.clo (.yield l) [] []) :: os.zip ((encs k).map .p),H k,none,[(d,.p (.a (.bool true)))],H (k + 1)⟩) a' w' → K a' w') → ∀ m,Oper.wpIn (fen F) m P ⟨some d,.call ⟨.value fo,os.toArray,ts⟩,T,pos,aft,g⟩ a w K Q
theorem yields_ofL {E : Env} {FI : Fr} {nt l D n : Nat} {ps : List Nat} {fid : FuncId} {tmps0 : Array Value} {asx bd : Code} {lq : List Nat} {encs : Nat → List Pure} {H : Nat → List (Nat × Blk)} {sl : List (Nat × PV)} (I : ItFrL FI l D (mkLL fid tmps0 ps asx bd D .ready none) lq H n)
    (hG : E.G FI.w0) (hx : ∀ b,FI.X b → E.ng ≤ b) (hng : E.ng ≤ FI.w0.heap.size) (hlng : E.ng ≤ l) (ht0 : tmps0.size = nt) (hps : ps.Nodup) (hlt : ∀ p ∈ ps,p < nt) (hen : ∀ k,k < n → (encs k).length = ps.length)
    (hout : ∀ k,k ≤ n → ∀ ρ S a W,SatR FI ρ S a W → (∀ q B,(H k).lookup q = some B → S.blk q = some B) → LooseS lq (H k) S → ∀ t v,sl.lookup t = some v → ∃ u,tmps0[t]? = some u ∧ RelV (lk (H k)) ρ (okI FI S.blk ρ) (hp W) v u)
    (hround : ∀ k,k < n → ∃ S1,(∀ F',XFrL E lq (H k) nt F' → Exec E.P F' asx ⟨ps.zip ((encs k).map .p) ++ sl,H k⟩ (fun e S'=>e = .normal ∧ S1.le S')) ∧
      (∀ F',XFrL E lq (H k) nt F' → Exec E.P F' bd S1 (fun e S'=>e = .normal ∧ HasB S' (H (k + 1))))) : YieldsL E.P FI lq l n encs H:=by
  intro k hk d fo os ts T pos aft g hd hol S a W ⟨ρ,h⟩ hA hLS Q K hK m
  obtain ⟨S1,has,hbd⟩:=hround k hk
  have hSH : ∀ q B,(H k).lookup q = some B → S.blk q = some B:=fun q B hq=>hA.rb (q,B) (lookup_mem hq)
  have hSH' : ∀ q,(H k).lookup q ≠ none → S.blk q ≠ none:=fun q hq=>by obtain ⟨B,hB⟩:=lookup_some hq; rw [hSH q B hB]; simp
  have hne : ∀ q,S.blk q ≠ none → ρ q < W.heap.size:=fun q hq=>by
    obtain ⟨B,hB⟩:=Option.ne_none_iff_exists'.1 hq
    obtain ⟨c,e1,_⟩:=h.blks q B hB; exact World.size_lt e1
  have hsz:=h.frame.size
  have hlW : W.heap[l]? = some (.loop (mkLL fid tmps0 ps asx bd D .ready none)):=(h.frame.block l I.llt I.lX).trans I.loop
  have hlown : ∀ q,S.blk q ≠ none → ρ q ≠ l:=fun q hq e=>by
    obtain ⟨B,hB⟩:=Option.ne_none_iff_exists'.1 hq
    obtain ⟨c,e1,_⟩:=h.blks q B hB
    have : hp W l = some (.loop (mkLL fid tmps0 ps asx bd D .ready none)):=hlW
    rw [e,this] at e1; cases e1
  have hlok : ∀ β ρ',¬ okI FI β ρ' l:=fun β ρ' hb=>by
    rcases hb.1 with hb | hb
    · exact I.lok hb
    · have:=I.llt; omega
  have ef : a.eval fo = .func (.yield l) #[] #[]:=by
    have:=opd_rel h (hA.rs (fo,.clo (.yield l) [] []) (by simp))
    simp only [RelV,RelVL] at this
    obtain ⟨fs,cs,h3,rfl,rfl⟩:=this
    exact h3
  have hlen:=hen k hk
  have rr : ∀ i x,(encs k)[i]? = some x → ∃ v,(os.map a.eval)[i]? = some v ∧ Rel (okI FI S.blk ρ) (hp W) x v:=fun i x hx=>by
    have hi:=(List.getElem?_eq_some_iff.1 hx).1
    have ho : os[i]? = some (os[i]'(by omega)):=List.getElem?_eq_getElem (by omega)
    have:=opd_rel h (hA.rs (os[i]'(by omega),.p x) (List.mem_cons_of_mem _ (List.mem_of_getElem? (i:=i) (by rw [List.getElem?_zip_eq_some]; exact ⟨ho,by simp [hx]⟩))))
    simp only [RelV] at this
    exact ⟨_,by rw [List.getElem?_map,ho]; rfl,this⟩
  obtain ⟨vs,hvs⟩ : ∃ vs,vs = os.map a.eval:=⟨_,rfl⟩
  rw [← hvs] at rr
  have hvl : vs.length = ps.length:=by rw [hvs,List.length_map]; omega
  obtain ⟨FR,hFR⟩ : ∃ FR,FR = roundFL FI nt S ρ W W l lq (H k):=⟨_,rfl⟩
  have hGW : E.G W:=E.stab FI.w0 W hG fun b hb=>h.frame.block b (by omega) (fun hx'=>by have:=hx b hx'; omega)
  have hXng : ∀ q,(H k).lookup q ≠ none → E.ng ≤ ρ q:=fun q hq=>by
    obtain ⟨B,hB⟩:=lookup_some hq
    obtain ⟨_,_,e2,_⟩:=h.blks q B (hSH q B hB)
    rcases e2 with e2 | e2
    · exact hx _ e2.1
    · omega
  have hXF : ∀ W0 : World,E.G W0 → E.ng ≤ W0.heap.size → XFrL E lq (H k) nt (roundFL FI nt S ρ W W0 l lq (H k)):=fun W0 h1 h2=>⟨h1,fun b ⟨q,hq,e⟩=>e ▸ hXng q hq,rfl,rfl,fun q hq=>by simp only [roundFL]; rw [if_neg (by rcases hq with hq | hq; simp [hq]; exact fun c=>c.2 hq)],fun _=>rfl,h2⟩
  have hnH : ∀ (β : Nat → Option Blk) (hβ : ∀ q,β q ≠ none → S.blk q ≠ none) b,okI FI S.blk ρ b → b < W.heap.size → ∀ W0,okI (roundFL FI nt S ρ W W0 l lq (H k)) β ρ b:=fun β hβ b hb hbs W0=>⟨.inl ⟨hb,hbs⟩,fun q hq=>hb.2 q (hβ q hq)⟩
  have hs1 : SatR FR ρ ⟨ps.zip ((encs k).map .p) ++ sl,H k⟩ ⟨setL tmps0 (ps.zip vs),[]⟩ W:=by
    rw [hFR]
    have hcar : Carry (okI FI S.blk ρ) (okI (roundFL FI nt S ρ W W l lq (H k)) (lk (H k)) ρ) (hp W) (hp W):=fun b hb hne'=>⟨hnH _ (fun q hq=>hSH' q hq) b hb (by obtain ⟨o,ho⟩:=Option.ne_none_iff_exists'.1 hne'; exact World.size_lt ho) W,rfl⟩
    have hkp : Keep (fun _=>True) S.blk (lk (H k)) ρ ρ (hp W) (hp W):=fun q _ B hB=>⟨B,hSH q B hB,rfl,Nat.le_refl _,fun _=>⟨rfl,fun c T fr hc=>⟨c,T,fr,hc,rfl⟩⟩⟩
    refine h.move (S':=⟨ps.zip ((encs k).map .p) ++ sl,H k⟩) (a':=⟨setL tmps0 (ps.zip vs),[]⟩) (Kp:=fun _=>True) ⟨rfl,rfl,rfl,Nat.le_refl _,fun _ _ _=>rfl⟩ (by show (setL _ _).size = nt; rw [setL_size]; exact ht0) (Marks.nil rfl) hcar hkp (fun q q' h1 h2 e=>h.inj q q' (hSH' q h1) (hSH' q' h2) e) (fun j b m hj hS=>?_) (fun t v ht=>.inr ?_) (fun q B hB=>.inl ⟨hSH q B hB,rfl,rfl,.inl ⟨⟨q,by have hB' : (H k).lookup q = some B:=hB; simp [hB'],rfl⟩,by have hB' : (H k).lookup q = some B:=hB; simp [roundFL,hB']⟩,fun _ _ _ _ _=>trivial⟩)
    · simp only [roundFL] at hj
      have hS' : (H k).lookup j ≠ none:=hS
      by_cases hjl : j ∈ lq
      · rw [if_neg (fun c=>c.2 hjl)] at hj; cases hj
      rw [if_pos ⟨hS',hjl⟩] at hj
      obtain ⟨B,hB⟩:=lookup_some hS'
      obtain ⟨c,e1,_⟩:=h.blks j B (hSH j B hB)
      rw [e1] at hj
      injection hj with hj; injection hj with hj1 hj2
      subst hj1 hj2
      exact ⟨rfl,c,B.T,e1,rfl⟩
    · have hget:=setL_get (t:=tmps0) hps hvl (fun p hp=>by rw [ht0]; exact hlt p hp) t
      simp only [St.slot,lookup_append] at ht
      cases e : (ps.zip ((encs k).map PV.p)).lookup t with
      | some v' =>
        rw [e,Option.some_or] at ht
        injection ht with ht; subst ht
        obtain ⟨i,hi1,hi2⟩:=zip_lookup hps e
        rw [List.getElem?_map] at hi2
        cases e2 : (encs k)[i]? with
        | none=>rw [e2] at hi2; cases hi2
        | some x =>
          rw [e2] at hi2
          injection hi2 with hi2; subst hi2
          obtain ⟨u,hu,hru⟩:=rr i x e2
          refine ⟨u,by rw [hget,zip_at hps hi1 hu]; rfl,?_⟩
          simp only [RelV]; exact Rel.mono hcar _ _ hru
      | none =>
        rw [e,Option.none_or] at ht
        obtain ⟨u,hu,hr⟩:=hout k (by omega) ρ S a W h hSH hLS t v ht
        refine ⟨u,by rw [hget,zip_none (vs:=(encs k).map PV.p) (by simp; omega) hvl e]; exact hu,RelV.mono (K:=fun _=>True) hcar (fun q _ B hB=>⟨B,hB,rfl,Nat.le_refl _,fun _=>⟨rfl,fun c T fr hc=>⟨c,T,fr,hc,rfl⟩⟩⟩) v u (fun _ _=>trivial) hr⟩
  have hyr : (Instr.yield l vs.toArray).run E.P W = .ok (.round l fid (setL tmps0 (ps.zip vs)) asx bd) W:=by
    have:=run_yield (P:=E.P) (args:=vs.toArray) hlW (by simp [mkLL,hvl])
    simpa [mkLL,setL] using this
  have hfw : fen FI = Fence.wide:=by simp [fen,I.ro,Fence.wide]
  unfold Oper.wpIn
  refine ⟨fun f _=>trivial,?_⟩
  rw [Oper.semAt_eq _ _ _ (by intro c e; cases e)]
  have hexec : (execOp a.eval ⟨some d,.call ⟨.value fo,os.toArray,ts⟩,T,pos,aft,g⟩).run E.P W = .ok (.round l fid (setL tmps0 (ps.zip vs)) asx bd) W:=by
    simp [execOp,resolve,ef,Deferred.ofValue,invoke,← hvs,hyr]
  rw [hexec,Oper.uponIn_round,hfw]
  refine ⟨fun hh=>by simp [Fence.wide] at hh,?_⟩
  refine roundIn_of_wpIn trivial ?_
  have hA1:=(has FR (by rw [hFR]; exact hXF W hGW (by omega))).run (m - 1) _ W ⟨ρ,hs1⟩
  rw [show fen FR = Fence.wide.inRound l by rw [hFR]; rfl] at hA1
  refine wpIn_mono hA1 fun ex a1 w1 hq=>?_
  obtain ⟨S',⟨he,hle1⟩,ρ1,hsa⟩:=hq.resolve_right (fun h=>by rw [hFR] at h; exact h.2)
  subst he
  have hsa:=hsa.weakR hle1
  have hRl : ∀ W0 : World,¬ (roundFL FI nt S ρ W W0 l lq (H k)).X l:=fun W0 ⟨q,hq,e⟩=>hlown q (hSH' q hq) e.symm
  have hw0 : FR.w0 = W:=by rw [hFR]; rfl
  have hl1 : w1.heap[l]? = some (.loop (mkLL fid tmps0 ps asx bd D .ready none)):=(hsa.frame.block l (by rw [hw0]; exact World.size_lt hlW) (by rw [hFR]; exact hRl W)).trans (by rw [hw0]; exact hlW)
  obtain ⟨W0b,hW0b⟩ : ∃ W0b,W0b = W.putObj l (.loop (mkLL fid tmps0 ps asx bd D .busy none)):=⟨_,rfl⟩
  obtain ⟨w2,hw2⟩ : ∃ w2,w2 = w1.putObj l (.loop (mkLL fid tmps0 ps asx bd D .busy none)):=⟨_,rfl⟩
  have hbeg : (Instr.beginRound l).run E.P w1 = .ok () w2:=by rw [hw2]; exact run_beginRound hl1 rfl
  have hszb : W0b.heap.size = W.heap.size:=by rw [hW0b]; simp
  have hob : ∀ b,b ≠ l → W0b.heap[b]? = W.heap[b]?:=fun b hb=>by rw [hW0b]; exact World.putObj_heap_other hb
  have ho2 : ∀ b,b ≠ l → w2.heap[b]? = w1.heap[b]?:=fun b hb=>by rw [hw2]; exact World.putObj_heap_other hb
  obtain ⟨FB,hFB⟩ : ∃ FB,FB = roundFL FI nt S ρ W W0b l lq (H k):=⟨_,rfl⟩
  have hlR : ∀ β ρ',¬ okI FR β ρ' l:=fun β ρ' hb=>by
    rw [hFR] at hb
    rcases hb.1 with hb | hb
    · exact hlok _ _ hb.1
    · have:=World.size_lt hlW; have : W.heap.size ≤ l:=hb; omega
  have hl1own : ∀ q B,S1.blk q = some B → ρ1 q ≠ l:=fun q B hB e=>by
    obtain ⟨c,e1,_⟩:=hsa.blks q B hB
    have : hp w1 l = some (.loop (mkLL fid tmps0 ps asx bd D .ready none)):=hl1
    rw [e,this] at e1; cases e1
  have hs2 : SatR FB ρ1 S1 a1 w2:=by
    obtain ⟨Ds,d1,d2,d3⟩:=hsa.df
    have hfr:=hsa.frame
    rw [hFB]
    refine hsa.move (Kp:=fun _=>True) ⟨?_,?_,?_,?_,fun b hb hx'=>?_⟩ (by rw [hsa.nt,hFR]; rfl) ⟨Ds,by rw [d1,hFR]; rfl,d2,fun D' hD'=>?_⟩ (fun b hb _=>⟨⟨?_,hb.2⟩,ho2 b (fun e=>hlR _ _ (e ▸ hb))⟩) (fun q _ B hB=>⟨B,hB,rfl,Nat.le_refl _,fun _=>⟨rfl,fun c T fr hc=>⟨c,T,fr,(ho2 _ (hl1own q B hB)).trans hc,rfl⟩⟩⟩) hsa.inj (fun j b n hj hS=>?_) (fun t v ht=>.inl ⟨ht,rfl,fun _ _=>trivial⟩) (fun q B hB=>.inl ⟨hB,rfl,ho2 _ (hl1own q B hB),?_,fun _ _ _ _ _=>trivial⟩)
    · rw [hw2]; show w1.os = W0b.os; rw [hfr.os,hw0,hW0b]; rfl
    · rw [hw2]; show w1.tape = W0b.tape; rw [hfr.tape,hw0,hW0b]; rfl
    · rw [hw2]; show w1.output = W0b.output; rw [hfr.output,hw0,hW0b]; rfl
    · show W0b.heap.size ≤ w2.heap.size; rw [hszb,hw2]; have:=hfr.size; rw [hw0] at this; simpa using this
    · show w2.heap[b]? = W0b.heap[b]?
      by_cases eb : b = l
      · subst eb; rw [hw2,hW0b,World.putObj_heap_same (World.size_lt hl1),World.putObj_heap_same (World.size_lt hlW)]
      · rw [ho2 b eb,hob b eb]
        have hb' : b < W0b.heap.size:=hb
        have:=hfr.block b (by rw [hw0]; omega) (by rw [hFR]; exact hx')
        rw [hw0] at this; exact this
    · obtain ⟨q1,q2⟩:=d3 D' hD'
      refine ⟨by show W0b.heap.size ≤ D'; rw [hszb]; rw [hw0] at q1; exact q1,(ho2 D' (fun e=>?_)).trans q2⟩
      rw [e,hl1] at q2; cases q2
    · rcases hb.1 with hb1 | hb1
      · rw [hFR] at hb1; exact .inl hb1
      · rw [hw0] at hb1; exact .inr (by show W0b.heap.size ≤ b; omega)
    · have hj' : FR.pin j = some (b,n):=by rw [hFR]; exact hj
      obtain ⟨q1,c,T,q2,q3⟩:=hsa.pin j b n hj' hS
      obtain ⟨B,hB⟩:=Option.ne_none_iff_exists'.1 hS
      exact ⟨q1,c,T,(ho2 b (by rw [← q1]; exact hl1own j B hB)).trans q2,q3⟩
    · obtain ⟨_,_,q2,_⟩:=hsa.blks q B hB
      rcases q2 with q2 | q2
      · rw [hFR] at q2; exact .inl q2
      · rw [hw0] at q2; exact .inr (by show W0b.heap.size ≤ _; omega)
  refine ⟨w2,hbeg,?_⟩
  have hGb : E.G W0b:=E.stab W W0b hGW fun b hb=>hob b (fun e=>by omega)
  have hB1:=(hbd FB (by rw [hFB]; exact hXF W0b hGb (by omega))).run (m - 1) a1 w2 ⟨ρ1,hs2⟩
  rw [show fen FB = Fence.wide.inRound l by rw [hFB]; rfl] at hB1
  refine wpIn_mono hB1 fun ex a3 w3 hq=>?_
  obtain ⟨S3,⟨he,hHB⟩,ρ3,hs3⟩:=hq.resolve_right (fun h=>by rw [hFB] at h; exact h.2)
  subst he
  have hw0b : FB.w0 = W0b:=by rw [hFB]; rfl
  have hl3 : w3.heap[l]? = some (.loop (mkLL fid tmps0 ps asx bd D .busy none)):=(hs3.frame.block l (by rw [hw0b,hszb]; exact World.size_lt hlW) (by rw [hFB]; exact hRl W0b)).trans (by rw [hw0b,hW0b]; exact World.putObj_heap_same (World.size_lt hlW))
  obtain ⟨w4,hw4⟩ : ∃ w4,w4 = w3.putObj l (.loop (mkLL fid tmps0 ps asx bd D .ready none)):=⟨_,rfl⟩
  have hend : (Instr.endRound l none).run E.P w3 = .ok (.bool true) w4:=by rw [hw4]; exact run_endRound none hl3
  have ho4 : ∀ b,b ≠ l → w4.heap[b]? = w3.heap[b]?:=fun b hb=>by rw [hw4]; exact World.putObj_heap_other hb
  have hfr3:=hs3.frame
  refine ⟨_,_,hend,?_⟩
  have hS3 : ∀ q B,(H (k + 1)).lookup q = some B → S3.blk q = some B:=fun q B hq=>hHB.all q B hq
  obtain ⟨ρ',hρ'⟩ : ∃ ρ' : Nat → Nat,ρ' = fun q=>if q ∈ lq then ρ3 q else ρ q:=⟨_,rfl⟩
  have hρL : ∀ q,q ∈ lq → ρ' q = ρ3 q:=fun q hq=>by rw [hρ']; simp only; rw [if_pos hq]
  have hρN : ∀ q,q ∉ lq → ρ' q = ρ q:=fun q hq=>by rw [hρ']; simp only; rw [if_neg hq]
  refine hK _ _ ⟨ρ',?_⟩
  have hkup : ∀ q,(H k).lookup q ≠ none → (H (k + 1)).lookup q ≠ none:=fun q hq=>by
    by_cases hl : q ∈ lq
    · exact I.keysL k hk q hl hq
    · exact (I.keys k hk q hl).2 hq
  have hplace : ∀ q,q ∉ lq → (H (k + 1)).lookup q ≠ none → ρ3 q = ρ q ∧ ∀ c T,hp W (ρ q) = some (.cells c T (0,0)) → ∃ c' T',hp w3 (ρ q) = some (.cells c' T' (0,0)) ∧ c'.size = c.size:=fun q hl hq=>by
    have hq0:=(I.keys k hk q hl).1 hq
    obtain ⟨B0,hB0⟩:=lookup_some hq0
    obtain ⟨B1,hB1⟩:=lookup_some hq
    obtain ⟨c,e1,_⟩:=h.blks q B0 (hSH q B0 hB0)
    have hp0 : FB.pin q = some (ρ q,c.size):=by rw [hFB]; simp only [roundFL]; rw [if_pos ⟨hq0,hl⟩,e1]
    obtain ⟨q1,c',T',q2,q3⟩:=hs3.pin q _ _ hp0 (by rw [hS3 q B1 hB1]; simp)
    refine ⟨q1,fun c2 T2 h2=>⟨c',T',q2,?_⟩⟩
    rw [e1] at h2; injection h2 with h2; injection h2 with h2; rw [q3,h2]
  have hρ3 : ∀ q,(H (k + 1)).lookup q ≠ none → ρ' q = ρ3 q:=fun q hq=>by
    by_cases hl : q ∈ lq
    · exact hρL q hl
    · rw [hρN q hl,(hplace q hl hq).1]
  have horg : ∀ q,(H (k + 1)).lookup q ≠ none → (∃ q',(H k).lookup q' ≠ none ∧ ρ3 q = ρ q') ∨ W.heap.size ≤ ρ3 q:=fun q hq=>by
    obtain ⟨B1,hB1⟩:=lookup_some hq
    obtain ⟨_,_,g2,_⟩:=hs3.blks q B1 (hS3 q B1 hB1)
    rcases g2 with g2 | g2
    · have g3:=g2.1
      rw [hFB] at g3
      obtain ⟨q',h1,h2⟩:=g3
      exact .inl ⟨q',h1,h2⟩
    · rw [hw0b,hszb] at g2; exact .inr g2
  have hkeep : ∀ q,(H k).lookup q = none → S.blk q ≠ none → hp w4 (ρ q) = hp W (ρ q):=fun q hq hS=>by
    have hl':=hlown q hS
    refine (ho4 _ hl').trans ((hfr3.block _ (by rw [hw0b,hszb]; exact hne q hS) (fun hX=>?_)).trans (by rw [hw0b]; exact hob _ hl'))
    rw [hFB] at hX
    obtain ⟨q',h1,h2⟩:=hX
    have:=h.inj q q' hS (hSH' q' h1) h2
    subst this; exact h1 hq
  have hold : ∀ b,okI FI S.blk ρ b → b < W.heap.size → hp w4 b = hp W b:=fun b hb hbs=>by
    have hl' : b ≠ l:=fun e=>hlok _ _ (e ▸ hb)
    refine (ho4 _ hl').trans ((hfr3.block _ (by rw [hw0b,hszb]; exact hbs) (fun hX=>?_)).trans (by rw [hw0b]; exact hob _ hl'))
    rw [hFB] at hX
    obtain ⟨q',h1,h2⟩:=hX
    exact hb.2 q' (hSH' q' h1) h2
  obtain ⟨S',hS'⟩ : ∃ S',S' = S.app ⟨(fo,.clo (.yield l) [] []) :: os.zip ((encs k).map .p),H k,none,[(d,.p (.a (.bool true)))],H (k + 1)⟩:=⟨_,rfl⟩
  rw [← hS']
  have hS'b : ∀ q,S'.blk q = ((H (k + 1)).lookup q).or (S.blk q):=fun q=>by rw [hS']; exact St.app_blk _ _ _
  have hS'o : ∀ q,(H (k + 1)).lookup q = none → S'.blk q ≠ none → S.blk q ≠ none ∧ (H k).lookup q = none ∧ q ∉ lq:=fun q e hq=>by
    have hq':=hq
    rw [hS'b,e,Option.none_or] at hq'
    have e2 : (H k).lookup q = none:=by
      cases e' : (H k).lookup q with
      | none=>rfl
      | some B=>exact absurd e (hkup q (by simp [e']))
    obtain ⟨B,hB⟩:=Option.ne_none_iff_exists'.1 hq'
    exact ⟨hq',e2,fun hl=>(hLS.blks hl hB e2).1 rfl⟩
  have hlown3 : ∀ q,(H (k + 1)).lookup q ≠ none → ρ3 q ≠ l:=fun q hq e=>by
    obtain ⟨B1,hB1⟩:=lookup_some hq
    obtain ⟨c,e1,_⟩:=hs3.blks q B1 (hS3 q B1 hB1)
    have : hp w3 l = some (.loop (mkLL fid tmps0 ps asx bd D .busy none)):=hl3
    rw [e,this] at e1; cases e1
  have hapart : ∀ q r,(H (k + 1)).lookup q ≠ none → (H (k + 1)).lookup r = none → S'.blk r ≠ none → ρ3 q ≠ ρ r:=fun q r hq hr hr' e=>by
    obtain ⟨g1,g2,g3⟩:=hS'o r hr hr'
    rcases horg q hq with ⟨q',h1,h2⟩ | h2
    · have:=h.inj r q' g1 (hSH' q' h1) (by rw [← e]; exact h2)
      subst this; exact h1 g2
    · have:=hne r g1; omega
  have hinj : ∀ q q',S'.blk q ≠ none → S'.blk q' ≠ none → ρ' q = ρ' q' → q = q':=fun q q' h1 h2 e=>by
    by_cases c1 : (H (k + 1)).lookup q = none
    · obtain ⟨a1,a2,a3⟩:=hS'o q c1 h1
      by_cases c2 : (H (k + 1)).lookup q' = none
      · obtain ⟨b1,b2,b3⟩:=hS'o q' c2 h2
        rw [hρN q a3,hρN q' b3] at e
        exact h.inj q q' a1 b1 e
      · rw [hρN q a3,hρ3 q' c2] at e
        exact absurd e.symm (hapart q' q c2 c1 h1)
    · by_cases c2 : (H (k + 1)).lookup q' = none
      · obtain ⟨b1,b2,b3⟩:=hS'o q' c2 h2
        rw [hρN q' b3,hρ3 q c1] at e
        exact absurd e (hapart q q' c1 c2 h2)
      · rw [hρ3 q c1,hρ3 q' c2] at e
        obtain ⟨B,hB⟩:=lookup_some c1
        obtain ⟨B',hB'⟩:=lookup_some c2
        exact hs3.inj q q' (by rw [hS3 q B hB]; simp) (by rw [hS3 q' B' hB']; simp) e
  have hcells : ∀ q,S.blk q ≠ none → ∃ c T,hp W (ρ q) = some (.cells c T (0,0)):=fun q hq=>by
    obtain ⟨B,hB⟩:=Option.ne_none_iff_exists'.1 hq
    obtain ⟨c,e1,_⟩:=h.blks q B hB; exact ⟨c,B.T,e1⟩
  have hsize : ∀ q,q ∉ lq → S'.blk q ≠ none → S.blk q ≠ none ∧ ∀ c T,hp W (ρ q) = some (.cells c T (0,0)) → ∃ c' T',hp w4 (ρ q) = some (.cells c' T' (0,0)) ∧ c'.size = c.size:=fun q hl hq=>by
    by_cases hH : (H (k + 1)).lookup q = none
    · obtain ⟨a1,a2,a3⟩:=hS'o q hH hq
      exact ⟨a1,fun c T hc=>⟨c,T,(hkeep q a2 a1).trans hc,rfl⟩⟩
    · have hSq:=hSH' q ((I.keys k hk q hl).1 hH)
      refine ⟨hSq,fun c T hc=>?_⟩
      obtain ⟨c',T',g1,g2⟩:=(hplace q hl hH).2 c T hc
      exact ⟨c',T',(ho4 _ (hlown q hSq)).trans g1,g2⟩
  have hok' : ∀ b,okI FI S.blk ρ b → b < W.heap.size → okI FI S'.blk ρ' b:=fun b hb hbs=>⟨hb.1,fun q hq e=>by
    by_cases c1 : (H (k + 1)).lookup q = none
    · obtain ⟨a1,a2,a3⟩:=hS'o q c1 hq
      rw [hρN q a3] at e
      exact hb.2 q a1 e
    · rw [hρ3 q c1] at e
      rcases horg q c1 with ⟨q',h1,h2⟩ | h2
      · exact hb.2 q' (hSH' q' h1) (e.trans h2)
      · omega⟩
  have hX3 : ∀ q,(H (k + 1)).lookup q ≠ none → (FI.X (ρ3 q) ∧ FI.lo q = false) ∨ FI.w0.heap.size ≤ ρ3 q:=fun q hq=>by
    rcases horg q hq with ⟨q',h1,h2⟩ | h2
    · obtain ⟨B,hB⟩:=lookup_some h1
      obtain ⟨_,_,e2,_⟩:=h.blks q' B (hSH q' B hB)
      rw [h2]
      rcases e2 with e2 | e2
      · exact .inl ⟨e2.1,I.lo (k + 1) (by omega) q hq⟩
      · exact .inr e2
    · have:=h.frame.size; exact .inr (by omega)
  refine h.upd (S':=S') (ρ':=ρ') (Kp:=fun q=>q ∉ lq) ⟨?_,?_,?_,?_,fun b hb hx'=>?_⟩ (by simp [Act.put,h.nt]) rfl (fun b hb hne'=>?_) (fun q hl B' hB'=>?_) hinj (fun j b n hj hSj=>?_) (fun t v ht=>?_) (fun q B hB=>?_)
  · rw [hw4]; show w3.os = _; rw [hfr3.os,hw0b,hW0b]; exact h.frame.os
  · rw [hw4]; show w3.tape = _; rw [hfr3.tape,hw0b,hW0b]; exact h.frame.tape
  · rw [hw4]; show w3.output = _; rw [hfr3.output,hw0b,hW0b]; exact h.frame.output
  · rw [hw4]; have:=hfr3.size; rw [hw0b,hszb] at this; simp; omega
  · by_cases eb : b = l
    · subst eb; rw [hw4,World.putObj_heap_same (World.size_lt hl3)]; exact I.loop.symm
    · rw [ho4 b eb,hfr3.block b (by rw [hw0b,hszb]; omega) (fun hX=>?_),hw0b,hob b eb]
      · exact h.frame.block b hb hx'
      · rw [hFB] at hX
        obtain ⟨q',h1,h2⟩:=hX
        obtain ⟨B,hB⟩:=lookup_some h1
        obtain ⟨_,_,e2,_⟩:=h.blks q' B (hSH q' B hB)
        rw [← h2] at e2
        rcases e2 with e2 | e2
        · exact hx' e2.1
        · omega
  · have hbs : b < W.heap.size:=by obtain ⟨o,ho⟩:=Option.ne_none_iff_exists'.1 hne'; exact World.size_lt ho
    exact ⟨hok' b hb hbs,hold b hb hbs⟩
  · obtain ⟨hSq,hsz'⟩:=hsize q hl (by simp [hB'])
    obtain ⟨c0,T0,e1⟩:=hcells q hSq
    obtain ⟨c',T',g1,g2⟩:=hsz' _ _ e1
    have hfin : ρ' q = ρ q ∧ ∀ c T fr,hp W (ρ q) = some (.cells c T fr) → ∃ c' T' fr',hp w4 (ρ q) = some (.cells c' T' fr') ∧ c'.size = c.size:=⟨hρN q hl,fun c T fr hc=>by
      rw [e1] at hc; injection hc with hc; injection hc with q1 q2 q3; subst q1
      exact ⟨c',T',(0,0),g1,g2⟩⟩
    rw [hS'b] at hB'
    cases e : (H (k + 1)).lookup q with
    | none =>
      rw [e,Option.none_or] at hB'
      exact ⟨B',hB',rfl,Nat.le_refl _,fun _=>hfin⟩
    | some B1 =>
      rw [e,Option.some_or] at hB'; injection hB' with hB'; subst hB'
      obtain ⟨B0,hB0⟩:=lookup_some ((I.keys k hk q hl).1 (by simp [e]))
      obtain ⟨s1,s2⟩:=I.same k hk q hl B0 B1 hB0 e
      exact ⟨B0,hSH q B0 hB0,s1,by omega,fun _=>hfin⟩
  · have hl : j ∉ lq:=fun hl=>by rw [I.pinL j hl] at hj; cases hj
    obtain ⟨hSq,hsz'⟩:=hsize j hl hSj
    exact ⟨hSq,hρN j hl,hsz'⟩
  · rw [hS',St.app_slot] at ht
    simp only [List.lookup_cons,List.lookup_nil] at ht
    by_cases e : t = d
    · subst e
      simp only [BEq.rfl,Option.some_or,Option.some.injEq] at ht
      subst ht
      exact .inr ⟨.bool true,by simp only [Act.put]; rw [Array.getElem?_setIfInBounds_self_of_lt (by rw [h.nt]; exact hd)],by simp [RelV,Rel]⟩
    · rw [show (t == d) = false by simpa using e,Option.none_or] at ht
      exact .inl ⟨ht,by simp only [Act.put]; rw [Array.getElem?_setIfInBounds_ne (Ne.symm e)],fun j hj hl=>by rw [hLS.slots hl ht] at hj; cases hj⟩
  · cases e : (H (k + 1)).lookup q with
    | none =>
      obtain ⟨a1,a2,a3⟩:=hS'o q e (by simp [hB])
      have hB0:=hB
      rw [hS'b,e,Option.none_or] at hB0
      exact .inl ⟨hB0,hρN q a3,hkeep q a2 a1,fun i x hx j hj hl=>by rw [(hLS.blks hl hB0 a2).2 i x hx] at hj; cases hj⟩
    | some B1 =>
      rw [hS'b,e,Option.some_or] at hB; injection hB with hB; subst hB
      have hq : (H (k + 1)).lookup q ≠ none:=by simp [e]
      obtain ⟨c,f1,f2,f3,f4⟩:=hs3.blks q B1 (hS3 q B1 e)
      refine .inr ⟨c,by rw [hρ3 q hq]; exact (ho4 _ (hlown3 q hq)).trans f1,by rw [hρ3 q hq]; exact hX3 q hq,f3,fun i x hx'=>?_⟩
      obtain ⟨u,hu,ho,hr⟩:=f4 i x hx'
      refine ⟨u,hu,ho,RelV.mono (K:=fun j=>(H (k + 1)).lookup j ≠ none) (fun b hb _=>?_) (fun j hj B' hB'=>?_) x u (I.cont (k + 1) (by omega) q B1 e i x hx') hr⟩
      · have hnl : b ≠ l := by
          rcases hb.1 with hb1 | hb1
          · rw [hFB] at hb1; exact fun e=>hlok _ _ (e ▸ hb1.1)
          · rw [hw0b,hszb] at hb1; exact fun e=>by have:=World.size_lt hlW; omega
        refine ⟨?_,ho4 b hnl⟩
        rcases hb.1 with hb1 | hb1
        · rw [hFB] at hb1
          exact hok' b hb1.1 hb1.2
        · rw [hw0b,hszb] at hb1
          refine ⟨.inr (by have:=h.frame.size; omega),fun j hj e=>?_⟩
          by_cases c1 : (H (k + 1)).lookup j = none
          · obtain ⟨a1,a2,a3⟩:=hS'o j c1 hj
            rw [hρN j a3] at e
            have:=hne j a1; omega
          · rw [hρ3 j c1] at e
            obtain ⟨Bj,hBj⟩:=lookup_some c1
            exact hb.2 j (by rw [hS3 j Bj hBj]; simp) e
      · obtain ⟨Bj,hBj⟩:=lookup_some hj
        rw [hS'b,hBj,Option.some_or] at hB'; injection hB' with hB'; subst hB'
        refine ⟨Bj,hS3 j Bj hBj,rfl,Nat.le_refl _,fun _=>⟨hρ3 j hj,fun c T fr hc=>⟨c,T,fr,?_,rfl⟩⟩⟩
        exact (ho4 _ (hlown3 j hj)).trans hc
end Go.Proofs.YtcifhkfpmhifaaaGreatDoor.SH
namespace Go.Proofs.YtcifhkfpmhifaaaGreatDoor.SH
open Go Go.RowKit
theorem same_allL {lq : List Nat} {n : Nat} {H : Nat → List (Nat × Blk)} (keys : ∀ k, k < n → ∀ q, q ∉ lq → ((H (k + 1)).lookup q ≠ none ↔ (H k).lookup q ≠ none)) (same : ∀ k, k < n → ∀ q, q ∉ lq → ∀ B B', (H k).lookup q = some B → (H (k + 1)).lookup q = some B' → B'.sz = B.sz ∧ B'.cs.len = B.cs.len) :
    ∀ k,k ≤ n → ∀ q,q ∉ lq → ((H k).lookup q ≠ none ↔ (H 0).lookup q ≠ none) ∧ ∀ B B',(H 0).lookup q = some B → (H k).lookup q = some B' → B'.sz = B.sz ∧ B'.cs.len = B.cs.len
  | 0,_,q,_=>⟨Iff.rfl,fun B B' h h'=>by rw [h] at h'; injection h' with h'; subst h'; exact ⟨rfl,rfl⟩⟩
  | k + 1,hk,q,hl=>by
    obtain ⟨h1,h2⟩:=same_allL keys same k (by omega) q hl
    have h3:=keys k (by omega) q hl
    refine ⟨h3.trans h1,fun B B' h h'=>?_⟩
    obtain ⟨B1,hB1⟩:=lookup_some (h3.1 (by simp [h']))
    obtain ⟨a1,a2⟩:=h2 B B1 h hB1
    obtain ⟨b1,b2⟩:=same k (by omega) q hl B1 B' hB1 h'
    exact ⟨b1.trans a1,b2.trans a2⟩
theorem ex_rangeL {E : Env} {F : Fr} {S : St} {Q : Exit → St → Prop} {tg gf n nI : Nat} {ps : List Nat} {asx bd c : Code} {fn : Func} {caps : List PV} {Hc Hc' : List (Nat × Blk)} (lq : List Nat) (H : Nat → List (Nat × Blk)) (encs : Nat → List Pure) {sl : List (Nat × PV)}
    (hG : E.G F.w0) (hX : ∀ b,F.X b → E.ng ≤ b) (hng : E.ng ≤ F.w0.heap.size) (hro : F.ro = none) (hlx : ∀ b,F.X b → ∀ q,q ∈ lq → F.lo q = false) (hpl : ∀ q,q ∈ lq → F.pin q = none) (htg : S.slot tg = some (.clo (.func gf) [] caps)) (hle : St.le ⟨sl,Hc ++ H 0⟩ S)
    (eg : ∀ args w,(callFunc gf args).run E.P w = .ok (.enter gf args) w) (hf : E.P.funcs[gf]? = some fn) (hb : fn.body = some c) (hn : fn.ntmps = nI) (hr : fn.results = #[]) (hcl : caps.length + 1 ≤ nI) (hps : ps.Nodup) (hlt : ∀ p ∈ ps,p < F.nt) (hen : ∀ k,k < n → (encs k).length = ps.length)
    (hdis : ∀ q,Hc.lookup q ≠ none → q ∉ lq ∧ ∀ k,k ≤ n → (H k).lookup q = none)
    (keys : ∀ k,k < n → ∀ q,q ∉ lq → ((H (k + 1)).lookup q ≠ none ↔ (H k).lookup q ≠ none)) (keysL : ∀ k,k < n → ∀ q,q ∈ lq → (H k).lookup q ≠ none → (H (k + 1)).lookup q ≠ none) (same : ∀ k,k < n → ∀ q,q ∉ lq → ∀ B B',(H k).lookup q = some B → (H (k + 1)).lookup q = some B' → B'.sz = B.sz ∧ B'.cs.len = B.cs.len)
    (cont : ∀ k,k ≤ n → ∀ j B,(H k).lookup j = some B → ∀ i x,B.cs.get i = some x → ∀ q,x.free q = false → (H k).lookup q ≠ none)
    (keysc : ∀ q,Hc'.lookup q ≠ none → Hc.lookup q ≠ none) (hsl : ∀ t v,sl.lookup t = some v → ∀ q,v.free q = false → (H 0).lookup q ≠ none ∧ q ∉ lq)
    (hit : ∀ l F',XFrL E lq (Hc ++ H 0) nI F' → F'.ro = none → YieldsL E.P F' lq l n encs H → Exec E.P F' c ⟨(0,.clo (.yield l) [] []) :: argSlotsV 1 caps,Hc ++ H 0⟩ (fun e S'=>(e = .normal ∨ e = .ret) ∧ HasB S' (Hc' ++ H n)))
    (hround : ∀ k,k < n → ∃ S1,(∀ F',XFrL E lq (H k) F.nt F' → Exec E.P F' asx ⟨ps.zip ((encs k).map .p) ++ sl,H k⟩ (fun e S'=>e = .normal ∧ S1.le S')) ∧
      (∀ F',XFrL E lq (H k) F.nt F' → Exec E.P F' bd S1 (fun e S'=>e = .normal ∧ HasB S' (H (k + 1)))))
    (hQ : Q .normal ⟨sl,Hc' ++ H n⟩) : Exec E.P F (.rangeFunc (.tmp tg) ps.toArray asx bd) S Q:=by
  refine ⟨fun nn a w ⟨ρ,h⟩=>wpIn_rangeFunc ?_⟩
  intro fid _
  have hsa:=same_allL keys same
  obtain ⟨uT,huT,hrT⟩:=h.slots tg _ htg
  simp only [RelV,RelVL] at hrT
  obtain ⟨fs,cs,rfl,rfl,hcs⟩:=hrT
  have htgv : a.eval (.tmp tg) = .func (.func gf) #[] cs.toArray:=by simp [Act.eval,Array.getD_eq_getD_getElem?,huT]
  have h0:=h.weakR hle
  let S0 : St:=⟨sl,Hc ++ H 0⟩
  have hS0 : ∀ q,S0.blk q = (Hc.lookup q).or ((H 0).lookup q):=fun q=>lookup_append _ _ _
  have hS0H : ∀ q B,(H 0).lookup q = some B → S0.blk q = some B:=fun q B hq=>by
    rw [hS0]
    cases e : Hc.lookup q with
    | none=>simp [hq]
    | some B'=>have:=(hdis q (by simp [e])).2 0 (by omega); rw [hq] at this; cases this
  obtain ⟨W1,hW1⟩ : ∃ W1,W1 = (w.alloc (.deferred (some []))).alloc (.loop (mkLL fid a.tmps ps asx bd w.heap.size .ready none)):=⟨_,rfl⟩
  have hsz1 : W1.heap.size = w.heap.size + 2:=by rw [hW1]; simp
  have hl1 : W1.heap[w.heap.size + 1]? = some (.loop (mkLL fid a.tmps ps asx bd w.heap.size .ready none)):=by
    rw [hW1]; have:=World.alloc_heap_new (w.alloc (.deferred (some []))) (.loop (mkLL fid a.tmps ps asx bd w.heap.size .ready none)); rwa [World.size_alloc] at this
  have hD1 : W1.heap[w.heap.size]? = some (.deferred (some [])):=by
    rw [hW1]; exact (Below.heap_alloc _ _ _ (by simp)).trans (World.alloc_heap_new w _)
  have hold1 : ∀ b,b < w.heap.size → W1.heap[b]? = w.heap[b]?:=fun b hb=>by
    rw [hW1]; exact (Below.heap_alloc _ _ _ (by simp; omega)).trans (Below.heap_alloc _ _ _ hb)
  have hos1 : W1.os = w.os ∧ W1.tape = w.tape ∧ W1.output = w.output:=by rw [hW1]; exact ⟨rfl,rfl,rfl⟩
  have hfsz:=h.frame.size
  have hne : ∀ q,S0.blk q ≠ none → ρ q < w.heap.size:=fun q hq=>by
    obtain ⟨B,hB⟩:=Option.ne_none_iff_exists'.1 hq
    obtain ⟨c,e1,_⟩:=h0.blks q B hB; exact World.size_lt e1
  have hXng : ∀ q,S0.blk q ≠ none → E.ng ≤ ρ q:=fun q hq=>by
    obtain ⟨B,hB⟩:=Option.ne_none_iff_exists'.1 hq
    obtain ⟨_,_,e2,_⟩:=h0.blks q B hB
    rcases e2 with e2 | e2
    · exact hX _ e2.1
    · omega
  obtain ⟨FI,hFI⟩ : ∃ FI : Fr,FI = ⟨W1,fun b=>okI F S0.blk ρ b ∧ b < w.heap.size,fun b=>∃ q,S0.blk q ≠ none ∧ b = ρ q,nI,[],fun q=>if S0.blk q ≠ none ∧ q ∉ lq then match hp w (ρ q) with | some (.cells c _ _)=>some (ρ q,c.size) | _=>none else none,none,fun _ _=>False,fun q=>(S0.blk q).isNone && !lq.contains q⟩:=⟨_,rfl⟩
  have iw : FI.w0 = W1:=by rw [hFI]
  have ix : ∀ b,FI.X b ↔ ∃ q,S0.blk q ≠ none ∧ b = ρ q:=fun b=>by rw [hFI]
  have ik : ∀ b,FI.okA b ↔ okI F S0.blk ρ b ∧ b < w.heap.size:=fun b=>by rw [hFI]
  have ipin : ∀ q B c,q ∉ lq → S0.blk q = some B → hp w (ρ q) = some (.cells c B.T (0,0)) → FI.pin q = some (ρ q,c.size):=fun q B c hl h1 h2=>by
    rw [hFI]; simp only; rw [if_pos ⟨by rw [h1]; simp,hl⟩,h2]
  have ipinL : ∀ q,q ∈ lq → FI.pin q = none:=fun q hl=>by rw [hFI]; simp only; rw [if_neg (fun c=>c.2 hl)]
  have iXlt : ∀ b,FI.X b → b < w.heap.size:=fun b hb=>by obtain ⟨q,h1,h2⟩:=(ix b).1 hb; rw [h2]; exact hne q h1
  have hGw : E.G w:=E.stab F.w0 w hG fun b hb=>h.frame.block b (by omega) (fun hx'=>by have:=hX b hx'; omega)
  have hG1 : E.G W1:=E.stab w W1 hGw fun b hb=>hold1 b (by omega)
  have iX : XFrL E lq (Hc ++ H 0) nI FI:=⟨by rw [iw]; exact hG1,fun b hb=>by obtain ⟨q,h1,h2⟩:=(ix b).1 hb; rw [h2]; exact hXng q h1,by rw [hFI],by rw [hFI],fun q hq=>by
    rcases hq with hq | hq
    · rw [hFI]; simp only; rw [if_neg (fun c=>c.1 (by simp only [S0,St.blk]; simp [hq]))]
    · exact ipinL q hq,fun q=>by rw [hFI]; rfl,by rw [iw]; omega⟩
  have hcarW : ∀ {ρ' S' a' W},SatR FI ρ' S' a' W → Carry (okI F S0.blk ρ) (okI FI S'.blk ρ') (hp w) (hp W):=fun {ρ' S' a' W} hs b hb hne'=>by
    have hbs : b < w.heap.size:=by obtain ⟨o,ho⟩:=Option.ne_none_iff_exists'.1 hne'; exact World.size_lt ho
    have hnX : ¬ FI.X b:=fun hx'=>by obtain ⟨q,h1,h2⟩:=(ix b).1 hx'; exact hb.2 q h1 h2
    refine ⟨⟨.inl ((ik b).2 ⟨hb,hbs⟩),fun q hq e=>?_⟩,(hs.frame.block b (by rw [iw]; omega) hnX).trans (by rw [iw]; exact hold1 b hbs)⟩
    obtain ⟨B,hB⟩:=Option.ne_none_iff_exists'.1 hq
    obtain ⟨_,_,e2,_⟩:=hs.blks q B hB
    rw [← e] at e2
    rcases e2 with e2 | e2
    · exact hnX e2.1
    · rw [iw] at e2; omega
  have hpinW : ∀ {ρ' S' a' W},SatR FI ρ' S' a' W → ∀ q B,q ∉ lq → S0.blk q = some B → S'.blk q ≠ none → ρ' q = ρ q ∧ ∀ c T,hp w (ρ q) = some (.cells c T (0,0)) → ∃ c' T',hp W (ρ q) = some (.cells c' T' (0,0)) ∧ c'.size = c.size:=fun {ρ' S' a' W} hs q B hl hB hS'=>by
    obtain ⟨c,e1,_⟩:=h0.blks q B hB
    obtain ⟨q1,c',T',q2,q3⟩:=hs.pin q _ _ (ipin q B c hl hB e1) hS'
    refine ⟨q1,fun c2 T2 h2=>⟨c',T',q2,?_⟩⟩
    rw [e1] at h2; injection h2 with h2; injection h2 with h2; rw [q3,h2]
  have hkeepW : ∀ {ρ' S' a' W} (β : Nat → Option Blk),SatR FI ρ' S' a' W → ∀ k,k ≤ n → (∀ q B,(H k).lookup q = some B → S'.blk q = some B) → (∀ q,(H 0).lookup q ≠ none ∧ q ∉ lq → ∀ B,β q = some B → (H k).lookup q = some B) → Keep (fun q=>(H 0).lookup q ≠ none ∧ q ∉ lq) S0.blk β ρ ρ' (hp w) (hp W):=fun {ρ' S' a' W} β hs k hk hH hβ q hq B' hB'=>by
    have hB':=hβ q hq B' hB'
    obtain ⟨B0,hB0⟩:=lookup_some hq.1
    obtain ⟨s1,s2⟩:=(hsa k hk q hq.2).2 B0 B' hB0 hB'
    have hb0:=hS0H q B0 hB0
    obtain ⟨q1,q2⟩:=hpinW hs q B0 hq.2 hb0 (by rw [hH q B' hB']; simp)
    refine ⟨B0,hb0,s1,by omega,fun _=>⟨q1,fun c T fr hc=>?_⟩⟩
    obtain ⟨c0,e1,_⟩:=h0.blks q B0 hb0
    have hc':=hc
    rw [e1] at hc'; injection hc' with hc'; injection hc' with r1 r2 r3; subst r1
    obtain ⟨c',T',g1,g2⟩:=q2 _ _ e1
    exact ⟨c',T',(0,0),g1,g2⟩
  have hIt : ItFrL FI (w.heap.size + 1) w.heap.size (mkLL fid a.tmps ps asx bd w.heap.size .ready none) lq H n:=by
    refine ⟨by rw [hFI],by rw [iw]; exact hl1,fun hh=>by have:=iXlt _ hh; omega,fun hh=>by have:=((ik _).1 hh).2; omega,by rw [iw]; omega,ipinL,keys,keysL,same,fun k hk q hq=>?_,cont⟩
    rw [hFI]; simp only
    by_cases hl : q ∈ lq
    · simp [hl]
    · obtain ⟨B0,hB0⟩:=lookup_some ((hsa k hk q hl).1.1 hq)
      rw [hS0H q B0 hB0]; rfl
  have hY : YieldsL E.P FI lq (w.heap.size + 1) n encs H:=by
    refine yields_ofL (nt:=F.nt) (sl:=sl) hIt (by rw [iw]; exact hG1) iX.x iX.ng (by omega) h.nt hps hlt hen (fun k hk ρ' S' a' W hs hH _ t v ht=>?_) hround
    obtain ⟨u,hu,hr'⟩:=h0.slots t v ht
    refine ⟨u,hu,RelV.mono (hcarW hs) (hkeepW (lk (H k)) hs k hk hH (fun q _ B hB=>hB)) v u (hsl t v ht) hr'⟩
  refine ⟨w.heap.size + 1,[{ target:=.collected w.heap.size,args:=#[] }],W1,{ target:=.fn (.func gf) cs.toArray,args:=#[.func (.yield (w.heap.size + 1)) #[] #[]] },W1,gf,#[.func (.yield (w.heap.size + 1)) #[] #[]] ++ cs.toArray,W1,?_,?_,fun _ _=>trivial,?_,fun hh=>by simp [Fence.wide] at hh,?_⟩
  · show (Instr.enterLoop fid a.tmps ps.toArray asx bd F.ro).run E.P w = _
    rw [hro,hW1]; exact run_enterLoop_outer _ _ _ _ _
  · simp only [resolve,rangeCall,htgv]; simp [Deferred.ofValue,Act.eval]
  · simp [invoke,eg]
  have hfw : fen F = Fence.wide:=by simp [fen,hro,Fence.wide]
  rw [hfw]
  refine callsIn_wide.2 ?_
  rw [show (#[Value.func (.yield (w.heap.size + 1)) #[] #[]] ++ cs.toArray : Array Value) = (Value.func (.yield (w.heap.size + 1)) #[] #[] :: cs).toArray by simp]
  have hcl' : cs.length = caps.length:=relVL_length hcs
  have hSI : SatR FI ρ ⟨(0,.clo (.yield (w.heap.size + 1)) [] []) :: argSlotsV 1 caps,Hc ++ H 0⟩ { tmps:=(Value.func (.yield (w.heap.size + 1)) #[] #[] :: cs).toArray ++ Array.replicate (fn.ntmps - (Value.func (.yield (w.heap.size + 1)) #[] #[] :: cs).toArray.size) undef,defers:=[] } W1:=by
    have hcar : Carry (okI F S.blk ρ) (okI FI (St.blk ⟨(0,.clo (.yield (w.heap.size + 1)) [] []) :: argSlotsV 1 caps,Hc ++ H 0⟩) ρ) (hp w) (hp W1):=fun b hb hne'=>by
      have hbs : b < w.heap.size:=by obtain ⟨o,ho⟩:=Option.ne_none_iff_exists'.1 hne'; exact World.size_lt ho
      have hsub : ∀ q,S0.blk q ≠ none → S.blk q ≠ none:=fun q hq=>by obtain ⟨B,hB⟩:=Option.ne_none_iff_exists'.1 hq; rw [hle.2 q B hB]; simp
      exact ⟨⟨.inl ((ik b).2 ⟨⟨hb.1,fun q hq=>hb.2 q (hsub q hq)⟩,hbs⟩),fun q hq=>hb.2 q (hsub q hq)⟩,hold1 b hbs⟩
    have hkp : Keep (fun _=>True) S.blk (St.blk ⟨(0,.clo (.yield (w.heap.size + 1)) [] []) :: argSlotsV 1 caps,Hc ++ H 0⟩) ρ ρ (hp w) (hp W1):=fun q _ B hB=>⟨B,hle.2 q B hB,rfl,Nat.le_refl _,fun _=>⟨rfl,fun c T fr hc=>⟨c,T,fr,(hold1 _ (hne q (by have hB' : S0.blk q = some B:=hB; simp [hB']))).trans hc,rfl⟩⟩⟩
    refine h.move (Kp:=fun _=>True) (by rw [hFI]; exact ⟨rfl,rfl,rfl,Nat.le_refl _,fun _ _ _=>rfl⟩) (by rw [iX.nt]; simp [hn,hcl']; omega) (Marks.nil iX.df) hcar hkp (fun q q' h1 h2 e=>h0.inj q q' h1 h2 e) (fun j b m hj hS=>?_) (fun t v ht=>.inr ?_) (fun q B hB=>.inl ⟨hle.2 q B hB,rfl,hold1 _ (hne q (by have hB' : S0.blk q = some B:=hB; simp [hB'])),.inl ⟨(ix _).2 ⟨q,by have hB' : S0.blk q = some B:=hB; simp [hB'],rfl⟩,by have hB' : S0.blk q = some B:=hB; rw [hFI]; simp [hB']⟩,fun _ _ _ _ _=>trivial⟩)
    · have hS' : S0.blk j ≠ none:=hS
      obtain ⟨B,hB⟩:=Option.ne_none_iff_exists'.1 hS'
      obtain ⟨c,e1,_⟩:=h0.blks j B hB
      by_cases hjl : j ∈ lq
      · rw [ipinL j hjl] at hj; cases hj
      rw [ipin j B c hjl hB e1] at hj
      injection hj with hj; injection hj with hj1 hj2
      subst hj1 hj2
      exact ⟨rfl,c,B.T,(hold1 _ (hne j hS')).trans e1,rfl⟩
    · simp only [St.slot,List.lookup_cons] at ht
      split at ht
      · rename_i e; injection ht with ht; subst ht
        obtain rfl : t = 0:=by simpa using e
        exact ⟨.func (.yield (w.heap.size + 1)) #[] #[],by rw [Array.getElem?_append_left (by simp)]; simp,by simp [RelV,RelVL]⟩
      · obtain ⟨j,rfl,hx⟩:=argSlotsV_get ht
        obtain ⟨u,hu,hru⟩:=relVL_get hcs hx
        refine ⟨u,?_,RelV.mono hcar hkp v u (fun _ _=>trivial) hru⟩
        have hjl:=(List.getElem?_eq_some_iff.1 hu).1
        rw [Array.getElem?_append_left (by simp; omega)]
        simp [Nat.add_comm 1 j,hu]
  refine calls_exec hf hb (by rw [hFI]) iX.df (by rw [hFI]; exact fun _ _ h=>h) ⟨ρ,hSI⟩ (hit _ FI iX (by rw [hFI]) hY) fun e SE hq=>⟨hq.1,fun ρE tmps W2 hE=>?_⟩
  have hHB:=hq.2
  refine ⟨.tuple #[],by unfold results; rw [hr]; simp,?_⟩
  have hSE : ∀ q B,(Hc' ++ H n).lookup q = some B → SE.blk q = some B:=fun q B hq=>hHB.all q B hq
  have hl2 : W2.heap[w.heap.size + 1]? = some (.loop (mkLL fid a.tmps ps asx bd w.heap.size .ready none)):=(hE.frame.block _ (by rw [iw]; omega) (fun hh=>by have:=iXlt _ hh; omega)).trans (by rw [iw]; exact hl1)
  have hD2 : W2.heap[w.heap.size]? = some (.deferred (some [])):=(hE.frame.block _ (by rw [iw]; omega) (fun hh=>by have:=iXlt _ hh; omega)).trans (by rw [iw]; exact hD1)
  obtain ⟨W4,hW4⟩ : ∃ W4,W4 = W2.putObj (w.heap.size + 1) (.loop (mkLL fid a.tmps ps asx bd w.heap.size .exhausted none)):=⟨_,rfl⟩
  have hend : (Instr.endLoop (w.heap.size + 1)).run E.P W2 = .ok none W4:=by rw [hW4]; exact run_endLoop hl2 (by simp [mkLL])
  refine ⟨none,W4,hend,?_⟩
  have hother : ∀ b,b ≠ w.heap.size + 1 → W4.heap[b]? = W2.heap[b]?:=fun b hb=>by rw [hW4]; exact World.putObj_heap_other hb
  have hsz2:=hE.frame.size
  rw [iw] at hsz2
  have hown : ∀ q,SE.blk q ≠ none → ρE q ≠ w.heap.size + 1 ∧ ρE q ≠ w.heap.size:=fun q hq=>by
    obtain ⟨B,hB⟩:=Option.ne_none_iff_exists'.1 hq
    obtain ⟨c2,q1,_⟩:=hE.blks q B hB
    refine ⟨fun e2=>?_,fun e2=>?_⟩
    · rw [e2] at q1
      have : hp W2 (w.heap.size + 1) = some (.loop (mkLL fid a.tmps ps asx bd w.heap.size .ready none)):=hl2
      rw [this] at q1; cases q1
    · rw [e2] at q1
      have : hp W2 w.heap.size = some (.deferred (some [])):=hD2
      rw [this] at q1; cases q1
  have hend0 : ∀ q B,q ∉ lq → (Hc' ++ H n).lookup q = some B → ∃ B0,S0.blk q = some B0:=fun q B hl hq=>by
    rw [lookup_append] at hq
    cases e : Hc'.lookup q with
    | some B1 =>
      obtain ⟨B0,hB0⟩:=lookup_some (keysc q (by simp [e]))
      exact ⟨B0,by rw [hS0,hB0]; rfl⟩
    | none =>
      rw [e,Option.none_or] at hq
      obtain ⟨B0,hB0⟩:=lookup_some ((hsa n (Nat.le_refl _) q hl).1.1 (by simp [hq]))
      exact ⟨B0,hS0H q B0 hB0⟩
  have hplace : ∀ q B,q ∉ lq → (Hc' ++ H n).lookup q = some B → ρE q = ρ q:=fun q B hl hq=>by
    obtain ⟨B0,hB0⟩:=hend0 q B hl hq
    exact (hpinW hE q B0 hl hB0 (by rw [hSE q B hq]; simp)).1
  have hlI : ∀ b,okI FI SE.blk ρE b → b ≠ w.heap.size + 1:=fun b hb e=>by
    subst e
    rcases hb.1 with hb1 | hb1
    · exact hIt.lok hb1
    · rw [iw] at hb1; omega
  have hokE : ∀ b,okI FI SE.blk ρE b → okI F (St.blk ⟨sl,Hc' ++ H n⟩) ρE b:=fun b hb=>by
    refine ⟨?_,fun q hq=>?_⟩
    · rcases hb.1 with hb1 | hb1
      · exact ((ik b).1 hb1).1.1
      · rw [iw] at hb1; exact .inr (by omega)
    · obtain ⟨B,hB⟩:=Option.ne_none_iff_exists'.1 hq
      exact hb.2 q (by rw [hSE q B hB]; simp)
  have hnX : ∀ b,b < F.w0.heap.size → ¬ F.X b → ¬ FI.X b:=fun b hb hx' hh=>by
    obtain ⟨q,h1,h2⟩:=(ix b).1 hh
    obtain ⟨B,hB⟩:=Option.ne_none_iff_exists'.1 h1
    obtain ⟨_,_,e2,_⟩:=h0.blks q B hB
    rw [← h2] at e2
    rcases e2 with e2 | e2
    · exact hx' e2.1
    · omega
  refine .inl ⟨⟨sl,Hc' ++ H n⟩,hQ,ρE,?_⟩
  have hfr4 : Frame F W4:=by
    have hfE:=hE.frame
    refine ⟨?_,?_,?_,?_,fun b hb hx'=>?_⟩
    · rw [hW4]; show W2.os = _; rw [hfE.os,iw,hos1.1]; exact h.frame.os
    · rw [hW4]; show W2.tape = _; rw [hfE.tape,iw,hos1.2.1]; exact h.frame.tape
    · rw [hW4]; show W2.output = _; rw [hfE.output,iw,hos1.2.2]; exact h.frame.output
    · rw [hW4]; simp; omega
    · rw [hother b (by omega),hfE.block b (by rw [iw]; omega) (hnX b hb hx'),iw,hold1 b (by omega)]; exact h.frame.block b hb hx'
  obtain ⟨Ds,d1,d2,d3⟩:=h.df
  have hcar4 : Carry (okI FI SE.blk ρE) (okI F (St.blk ⟨sl,Hc' ++ H n⟩) ρE) (hp W2) (hp W4):=fun b hb _=>⟨hokE b hb,hother b (hlI b hb)⟩
  have hkeep4 : Keep (fun _=>True) SE.blk (St.blk ⟨sl,Hc' ++ H n⟩) ρE ρE (hp W2) (hp W4):=fun q _ B hB=>⟨B,hSE q B hB,rfl,Nat.le_refl _,fun _=>⟨rfl,fun c T fr hc=>⟨c,T,fr,(hother _ (hown q (by rw [hSE q B hB]; simp)).1).trans hc,rfl⟩⟩⟩
  have hsub : ∀ q,St.blk ⟨sl,Hc' ++ H n⟩ q ≠ none → SE.blk q ≠ none:=fun q hq=>by
    obtain ⟨B,hB⟩:=Option.ne_none_iff_exists'.1 hq
    rw [hSE q B hB]; simp
  refine hE.move (Kp:=fun _=>True) hfr4 h.nt ⟨w.heap.size :: Ds,by rw [d1]; rfl,List.nodup_cons.2 ⟨fun hm=>?_,d2⟩,fun D' hD'=>?_⟩ hcar4 hkeep4 (fun q q' h1 h2 e=>hE.inj q q' (hsub q h1) (hsub q' h2) e) (fun j b m hj hS=>?_) (fun t v ht=>.inr ?_) (fun q B hB=>.inl ⟨hSE q B hB,rfl,hother _ (hown q (by rw [hSE q B hB]; simp)).1,?_,fun _ _ _ _ _=>trivial⟩)
  · obtain ⟨_,q2⟩:=d3 _ hm; have:=World.size_lt q2; omega
  · rcases List.mem_cons.1 hD' with rfl | hD'
    · exact ⟨hfsz,(hother _ (by omega)).trans hD2⟩
    · obtain ⟨q1,q2⟩:=d3 D' hD'
      have hlt':=World.size_lt q2
      refine ⟨q1,(hother _ (by omega)).trans ((hE.frame.block D' (by rw [iw]; omega) (fun hh=>?_)).trans (by rw [iw]; exact (hold1 _ hlt').trans q2))⟩
      obtain ⟨q,h1,h2⟩:=(ix _).1 hh
      obtain ⟨B,hB⟩:=Option.ne_none_iff_exists'.1 h1
      obtain ⟨c,e1,_⟩:=h0.blks q B hB
      have : hp w D' = some (.deferred (some [])):=q2
      rw [← h2,this] at e1; cases e1
  · obtain ⟨B,hB⟩:=Option.ne_none_iff_exists'.1 hS
    have hjl : j ∉ lq:=fun hl=>by rw [hpl j hl] at hj; cases hj
    obtain ⟨B0,hB0⟩:=hend0 j B hjl hB
    obtain ⟨q1,c,T,q2,q3⟩:=h0.pin j b m hj (by show S0.blk j ≠ none; rw [hB0]; simp)
    obtain ⟨r1,r2⟩:=hpinW hE j B0 hjl hB0 (by rw [hSE j B hB]; simp)
    rw [← q1] at q2
    obtain ⟨c',T',g1,g2⟩:=r2 c T q2
    refine ⟨r1.trans q1,c',T',?_,g2.trans q3⟩
    rw [← q1]
    exact (hother _ (by rw [← r1]; exact (hown j (by rw [hSE j B hB]; simp)).1)).trans g1
  · obtain ⟨u,hu,hr'⟩:=h0.slots t v ht
    refine ⟨u,hu,?_⟩
    have m1:=RelV.mono (hcarW hE) (hkeepW (fun q=>(Hc' ++ H n).lookup q) hE n (Nat.le_refl _) (fun q B hq=>?_) (fun q hq B hB=>?_)) v u (hsl t v ht) hr'
    · exact RelV.mono (K:=fun _=>True) hcar4 (fun q _ B hB=>⟨B,hB,rfl,Nat.le_refl _,fun _=>⟨rfl,fun c T fr hc=>⟨c,T,fr,(hother _ (hown q (by rw [hSE q B hB]; simp)).1).trans hc,rfl⟩⟩⟩) v u (fun _ _=>trivial) m1
    · refine hSE q B ?_
      rw [lookup_append]
      cases e : Hc'.lookup q with
      | none=>simp [hq]
      | some B1=>have:=(hdis q (keysc q (by simp [e]))).2 n (Nat.le_refl _); rw [hq] at this; cases this
    · rw [lookup_append] at hB
      cases e : Hc'.lookup q with
      | none=>rw [e,Option.none_or] at hB; exact hB
      | some B1=>exact absurd ((hdis q (keysc q (by simp [e]))).2 0 (by omega)) hq.1
  · by_cases hl : q ∈ lq
    · obtain ⟨_,_,e2,_⟩:=hE.blks q B (hSE q B hB)
      rcases e2 with e2 | e2
      · obtain ⟨q',h1,h2⟩:=(ix _).1 e2.1
        obtain ⟨B0,hB0⟩:=Option.ne_none_iff_exists'.1 h1
        obtain ⟨_,_,e3,_⟩:=h0.blks q' B0 hB0
        rw [← h2] at e3
        rcases e3 with e3 | e3
        · exact .inl ⟨e3.1,hlx _ e3.1 q hl⟩
        · exact .inr e3
      · rw [iw] at e2; exact .inr (by omega)
    · obtain ⟨B0,hB0⟩:=hend0 q B hl hB
      rw [hplace q B hl hB]
      obtain ⟨_,_,e2,_⟩:=h0.blks q B0 hB0
      exact e2
theorem nsY {P : Program} {F : Fr} {ops : Array Oper} {d : Nat} {fo : Operand} {yo : List Operand} {ts : Array TypeId} {T : TypeId} {pos : String} {aft : Array Edge} {lq : List Nat} {l n : Nat} {encs : Nat → List Pure} {H : Nat → List (Nat × Blk)} {os : List Oper} {sl : List (Nat × PV)} {hb : List (Nat × Blk)} {K : St → Prop} (hY : YieldsL P F lq l n encs H) (k : Nat) (hk : k < n) (hlt : d < F.nt) (hol : yo.length = (encs k).length)
    (h1 : Reads ⟨sl,hb⟩ ((fo,.clo (.yield l) [] []) :: yo.zip ((encs k).map .p))) (h2 : ReadsB ⟨sl,hb⟩ (H k)) (h3 : looseB lq (H k) ⟨sl,hb⟩ = true)
    (hn : SeqS P F ops os ⟨(d,.p (.a (.bool true))) :: sl,H (k + 1) ++ hb⟩ K) : SeqS P F ops (⟨some d,.call ⟨.value fo,yo.toArray,ts⟩,T,pos,aft,none⟩ :: os) ⟨sl,hb⟩ K :=
  .cons (fun a w hS Q K' hK=>by
    have hw : Region.wanted ⟨some d,.call ⟨.value fo,yo.toArray,ts⟩,T,pos,aft,none⟩ (yielded ops a.tmps) = true:=rfl
    rw [if_pos hw]
    exact .inr fun m=>hY k hk d fo yo ts T pos aft none hlt hol _ a w hS (holds_of h1 h2 trivial) (looseS_of h3) Q K' hK m) hn
end Go.Proofs.YtcifhkfpmhifaaaGreatDoor.SH
