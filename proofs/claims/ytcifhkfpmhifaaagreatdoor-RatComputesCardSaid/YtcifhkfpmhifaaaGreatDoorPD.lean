/- Part D of the proof: lemmas for the walks of the given functions. No statement of its own. -/
import Derived.Lib.ItoaNum
import Derived.ChangeSame
import Derived.ChangeVars
import Derived.JoinedOf
import Derived.RowKit
import Derived.RowKitTokens
import Derived.LaidLaws
import Derived.LaidHandle
import Derived.Carry
import Derived.OpenShut
import Derived.Lib.SmallJoins
import Derived.Lib.LaidTab
import Derived.Lay
import Derived.LaidMore
import Derived.MakeChecks
import Derived.Stop.LaidErr
import Derived.ProofKit
import Derived.Test.YtcifhkfpmhifaaaGreatDoorRows
import Derived.Test.YtcifhkfpmhifaaaGreatDoorTie
import Derived.RangeFuncSeq
import Derived.Laws.Cover3
import Derived.Test.YtcifhkfpmhifaaaGreatDoorPC
set_option linter.unusedVariables false
set_option linter.unusedSimpArgs false
set_option linter.deprecated false
namespace Go.Proofs.YtcifhkfpmhifaaaGreatDoor.NumA
def str (bs : List UInt8) : ByteArray:=⟨bs.toArray⟩
theorem str_size (bs : List UInt8) : (str bs).size = bs.length:=rfl
theorem str_get {bs : List UInt8} {i : Nat} (h : i < bs.length) : (str bs)[i]? = some (bs.getD i 0):=by
  have h2 : i < (str bs).size:=h
  rw [getElem?_pos (str bs) i h2,List.getD_eq_getElem?_getD,List.getElem?_eq_getElem h]
  rfl
theorem str_extract (bs : List UInt8) (l h : Nat) : (str bs).extract l h = str ((bs.drop l).take (h - l)):=by
  unfold str
  apply ByteArray.ext
  simp
def dg (c : UInt8) : Int:=(c.toNat : Int) - 48
def numI (bs : List UInt8) : Int:=bs.foldl (fun a c=>10 * a + dg c) 0
def Digits (bs : List UInt8) : Prop:=∀ c ∈ bs,48 ≤ c.toNat ∧ c.toNat ≤ 57
theorem Digits.take {bs : List UInt8} (h : Digits bs) (n : Nat) : Digits (bs.take n):=fun c hc=>h c (List.mem_of_mem_take hc)
theorem Digits.drop {bs : List UInt8} (h : Digits bs) (n : Nat) : Digits (bs.drop n):=fun c hc=>h c (List.mem_of_mem_drop hc)
theorem Digits.get {bs : List UInt8} (h : Digits bs) {i : Nat} (hi : i < bs.length) : 48 ≤ (bs.getD i 0).toNat ∧ (bs.getD i 0).toNat ≤ 57:=by
  rw [List.getD_eq_getElem?_getD,List.getElem?_eq_getElem hi]
  exact h _ (List.getElem_mem hi)
theorem numI_snoc (bs : List UInt8) (c : UInt8) : numI (bs ++ [c]) = 10 * numI bs + dg c:=by simp [numI]
theorem numI_take_succ {bs : List UInt8} {i : Nat} (h : i < bs.length) : numI (bs.take (i + 1)) = 10 * numI (bs.take i) + dg (bs.getD i 0):=by
  rw [List.take_succ_eq_append_getElem h,numI_snoc,List.getD_eq_getElem?_getD,List.getElem?_eq_getElem h]; rfl
theorem numI_bd : ∀ {bs : List UInt8},Digits bs → 0 ≤ numI bs ∧ numI bs < 10 ^ bs.length:=by
  intro bs h
  have key : ∀ i,i ≤ bs.length → 0 ≤ numI (bs.take i) ∧ numI (bs.take i) < 10 ^ i:=by
    intro i
    induction i with
    | zero=>intro _; simp [numI]
    | succ i ih =>
      intro hi
      obtain ⟨h1,h2⟩:=ih (by omega)
      have hd:=h.get (i:=i) (by omega)
      rw [numI_take_succ (by omega),Int.pow_succ]
      simp only [dg]
      omega
  have:=key bs.length (Nat.le_refl _)
  rwa [List.take_length] at this
theorem foldl_lin (a : Int) : ∀ bs : List UInt8,bs.foldl (fun a c=>10 * a + dg c) a = a * 10 ^ bs.length + numI bs
  | []=>by simp [numI]
  | c :: bs=>by
    have h1:=foldl_lin (10 * a + dg c) bs
    have h2:=foldl_lin (10 * 0 + dg c) bs
    simp only [numI,List.foldl_cons,List.length_cons] at h1 h2 ⊢
    rw [h1,h2,Int.pow_succ]
    grind
theorem numI_app (asx bs : List UInt8) : numI (asx ++ bs) = numI asx * 10 ^ bs.length + numI bs:=by
  rw [numI,List.foldl_append,foldl_lin]; rfl
def chunks (ds : List UInt8) : List (Int × Int) :=
  if h : ds = [] then [] else (numI (ds.take ((ds.length - 1) % 9 + 1)),(((ds.length - 1) % 9 + 1 : Nat) : Int)) :: chunks (ds.drop ((ds.length - 1) % 9 + 1))
termination_by ds.length
decreasing_by
  have : 0 < ds.length:=List.length_pos_iff.2 h
  simp only [List.length_drop]; omega
theorem chunks_nil : chunks [] = []:=by rw [chunks]; simp
theorem chunks_cons {ds : List UInt8} (h : ds ≠ []) : chunks ds = (numI (ds.take ((ds.length - 1) % 9 + 1)),(((ds.length - 1) % 9 + 1 : Nat) : Int)) :: chunks (ds.drop ((ds.length - 1) % 9 + 1)):=by rw [chunks,dif_neg h]
def stepV (v : Int) (x : Int × Int) : Int:=v * 10 ^ x.2.toNat + x.1
theorem chunks_val (v : Int) : ∀ (n : Nat) (ds : List UInt8),ds.length ≤ n → (chunks ds).foldl stepV v = v * 10 ^ ds.length + numI ds:=by
  intro n
  induction n generalizing v with
  | zero=>intro ds h; have : ds = []:=List.eq_nil_of_length_eq_zero (by omega); subst this; simp [chunks_nil,numI]
  | succ n ih =>
    intro ds h
    by_cases e : ds = []
    · subst e; simp [chunks_nil,numI]
    · have hp : 0 < ds.length:=List.length_pos_iff.2 e
      rw [chunks_cons e,List.foldl_cons,ih _ _ (by simp; omega)]
      obtain ⟨k,hk⟩ : ∃ k,k = (ds.length - 1) % 9 + 1:=⟨_,rfl⟩
      rw [← hk]
      have hkl : k ≤ ds.length:=by omega
      have h1 : numI ds = numI (ds.take k) * 10 ^ (ds.length - k) + numI (ds.drop k):=by
        conv=>lhs; rw [← List.take_append_drop k ds]
        rw [numI_app,List.length_drop]
      have h2 : (10 : Int) ^ ds.length = 10 ^ k * 10 ^ (ds.length - k):=by rw [← Int.pow_add,Nat.add_sub_cancel' hkl]
      rw [h1,h2,List.length_drop]
      simp only [stepV,Int.toNat_natCast]
      grind
theorem chunks_get {ds : List UInt8} (h : Digits ds) : ∀ x ∈ chunks ds,0 ≤ x.1 ∧ x.1 < 1000000000 ∧ 1 ≤ x.2 ∧ x.2 ≤ 9:=by
  have key : ∀ n (ds : List UInt8),ds.length ≤ n → Digits ds → ∀ x ∈ chunks ds,0 ≤ x.1 ∧ x.1 < 1000000000 ∧ 1 ≤ x.2 ∧ x.2 ≤ 9:=by
    intro n
    induction n with
    | zero=>intro ds hl _ x hx; have : ds = []:=List.eq_nil_of_length_eq_zero (by omega); subst this; simp [chunks_nil] at hx
    | succ n ih =>
      intro ds hl hd x hx
      by_cases e : ds = []
      · subst e; simp [chunks_nil] at hx
      · have hp : 0 < ds.length:=List.length_pos_iff.2 e
        rw [chunks_cons e] at hx
        rcases List.mem_cons.1 hx with rfl | hx
        · have hb:=numI_bd (hd.take ((ds.length - 1) % 9 + 1))
          rw [List.length_take,Nat.min_eq_left (by omega)] at hb
          have hp10 : (10 : Int) ^ ((ds.length - 1) % 9 + 1) ≤ 10 ^ 9:=by
            have h2 : ((10 ^ ((ds.length - 1) % 9 + 1) : Nat) : Int) ≤ ((10 ^ 9 : Nat) : Int):=Int.ofNat_le.2 (Nat.pow_le_pow_right (by decide) (by omega))
            rw [Int.natCast_pow] at h2
            exact h2
          simp only
          refine ⟨hb.1,by omega,by omega,by omega⟩
        · exact ih _ (by simp; omega) (hd.drop _) x hx
  exact key ds.length ds (Nat.le_refl _) h
theorem chunks_len (ds : List UInt8) : (chunks ds).length ≤ ds.length:=by
  have key : ∀ n (ds : List UInt8),ds.length ≤ n → (chunks ds).length ≤ ds.length:=by
    intro n
    induction n with
    | zero=>intro ds hl; have : ds = []:=List.eq_nil_of_length_eq_zero (by omega); subst this; simp [chunks_nil]
    | succ n ih =>
      intro ds hl
      by_cases e : ds = []
      · subst e; simp [chunks_nil]
      · have hp : 0 < ds.length:=List.length_pos_iff.2 e
        rw [chunks_cons e,List.length_cons]
        have:=ih (ds.drop ((ds.length - 1) % 9 + 1)) (by simp; omega)
        simp only [List.length_drop] at this
        omega
  exact key ds.length ds (Nat.le_refl _)
def stepW (ws : List Int) (x : Int × Int) : List Int:=if stepV (val ws) x < 4294967296 ^ ws.length then digN ws.length (stepV (val ws) x) else digN (ws.length + 1) (stepV (val ws) x)
structure TenAt (ws : List Int) (p b : Int) (x : Nat × List Int × Int) : Prop where
  le : x.1 ≤ ws.length
  len : x.2.1.length = x.1
  wd : Wd x.2.1
  c0 : 0 ≤ x.2.2
  c1 : x.2.2 < 4294967296
  eq : val x.2.1 + 4294967296 ^ x.1 * x.2.2 = val (ws.take x.1) * p + b
theorem TenAt.zero (ws : List Int) {p b : Int} (h0 : 0 ≤ b) (h1 : b < 4294967296) : TenAt ws p b (0,[],b):=⟨Nat.zero_le _,rfl,Wd.nil,h0,h1,by simp [val]⟩
theorem TenAt.next {ws ys : List Int} {p b c : Int} {i : Nat} (h : Wd ws) (hp : 0 ≤ p ∧ p < 4294967296) (ha : TenAt ws p b (i, ys, c)) (hi : i < ws.length) :
    TenAt ws p b (i + 1,ys ++ [(ws.getD i 0 * p + c) % 4294967296],(ws.getD i 0 * p + c) / 4294967296):=by
  obtain ⟨h1,hl,hw,c0,c1,heq⟩:=ha
  simp only at h1 hl hw c0 c1 heq
  have hwi:=h.getD i
  have hb:=take_bd hwi hp ⟨c0,c1⟩
  refine ⟨hi,by simp [hl],hw.snoc (by omega) (by omega),by simp only; omega,by simp only; omega,?_⟩
  simp only
  have hpp : ws.getD i 0 * p + c = (ws.getD i 0 * p + c) % 4294967296 + 4294967296 * ((ws.getD i 0 * p + c) / 4294967296):=by omega
  rw [val_snoc,hl,val_take_succ' i,Int.pow_succ]
  generalize (ws.getD i 0 * p + c) % 4294967296 = lo at *
  generalize (ws.getD i 0 * p + c) / 4294967296 = hi' at *
  generalize ws.getD i 0 = u at *
  have hc : c = lo + 4294967296 * hi' - u * p:=by omega
  subst hc
  grind
theorem TenAt.end_ {ws ys : List Int} {n b c : Int} (ha : TenAt ws (10 ^ n.toNat) b (ws.length,ys,c)) : (c = 0 → ys = stepW ws (b,n)) ∧ (0 < c → ys ++ [c] = stepW ws (b,n)):=by
  obtain ⟨_,hl,hw,c0,c1,heq⟩:=ha
  simp only at hl hw c0 c1 heq
  rw [List.take_length] at heq
  have hlt:=val_lt hw
  have h0:=val_nonneg hw
  rw [hl] at hlt
  have hP:=Bpos ws.length
  refine ⟨fun hc=>?_,fun hc=>?_⟩
  · subst hc
    rw [Int.mul_zero,Int.add_zero] at heq
    rw [stepW,if_pos (by simp only [stepV]; omega)]
    simp only [stepV]
    rw [← heq,← hl]; exact (digN_val hw).symm
  · have h1 : 4294967296 ^ ws.length * 1 ≤ 4294967296 ^ ws.length * c:=Int.mul_le_mul_of_nonneg_left (by omega) (Int.le_of_lt hP)
    rw [stepW,if_neg (by simp only [stepV]; omega)]
    have hw2 : Wd (ys ++ [c]):=hw.snoc (by omega) c1
    have hv : val (ys ++ [c]) = stepV (val ws) (b,n):=by rw [val_snoc,hl,heq]; rfl
    have:=digN_val hw2
    rw [hv,List.length_append,hl,List.length_singleton] at this
    exact this.symm
theorem stepW_wd (ws : List Int) (x : Int × Int) : Wd (stepW ws x):=by unfold stepW; split <;> exact digN_wd _ _
theorem stepW_len (ws : List Int) (x : Int × Int) : (stepW ws x).length ≤ ws.length + 1 ∧ ws.length ≤ (stepW ws x).length:=by unfold stepW; split <;> rw [digN_length] <;> omega
theorem stepW_val {ws : List Int} (h : Wd ws) {x : Int × Int} (hx : 0 ≤ x.1 ∧ x.1 < 1000000000 ∧ 1 ≤ x.2 ∧ x.2 ≤ 9) : val (stepW ws x) = stepV (val ws) x:=by
  have h0:=val_nonneg h
  have h1:=val_lt h
  have hp10 : (10 : Int) ^ x.2.toNat ≤ 1000000000 ∧ 0 < (10 : Int) ^ x.2.toNat:=by
    have h2 : ((10 ^ x.2.toNat : Nat) : Int) ≤ ((10 ^ 9 : Nat) : Int):=Int.ofNat_le.2 (Nat.pow_le_pow_right (by decide) (by omega))
    rw [Int.natCast_pow] at h2
    exact ⟨h2,Int.pow_pos (by decide)⟩
  have hnn : 0 ≤ stepV (val ws) x:=by
    have:=Int.mul_nonneg h0 (Int.le_of_lt hp10.2)
    simp only [stepV]; omega
  have hub : stepV (val ws) x < 4294967296 ^ (ws.length + 1):=by
    rw [Bsucc]
    have h3 : val ws * 10 ^ x.2.toNat ≤ val ws * 1000000000:=Int.mul_le_mul_of_nonneg_left hp10.1 h0
    have hP:=Bpos ws.length
    simp only [stepV]; omega
  unfold stepW
  split
  · rename_i e; exact val_digN hnn e
  · exact val_digN hnn hub
def wsK (all : List (Int × Int)) (k : Nat) : List Int:=(all.take k).foldl stepW []
theorem wsK_succ {all : List (Int × Int)} {k : Nat} {x : Int × Int} (h : all[k]? = some x) : wsK all (k + 1) = stepW (wsK all k) x:=by
  obtain ⟨hlt,he⟩:=List.getElem?_eq_some_iff.1 h
  unfold wsK
  rw [List.take_succ_eq_append_getElem hlt,List.foldl_append,he]; rfl
theorem wsK_wd (all : List (Int × Int)) : ∀ k,Wd (wsK all k)
  | 0=>Wd.nil
  | k + 1=>by
    cases h : all[k]? with
    | some x=>rw [wsK_succ h]; exact stepW_wd _ _
    | none =>
      have : all.length ≤ k:=by simpa using h
      unfold wsK
      rw [List.take_of_length_le (by omega)]
      have:=wsK_wd all k
      unfold wsK at this
      rwa [List.take_of_length_le (by omega)] at this
theorem wsK_len (all : List (Int × Int)) : ∀ k,(wsK all k).length ≤ k
  | 0=>by simp [wsK]
  | k + 1=>by
    have ih:=wsK_len all k
    cases h : all[k]? with
    | some x=>rw [wsK_succ h]; have:=stepW_len (wsK all k) x; omega
    | none =>
      have : all.length ≤ k:=by simpa using h
      unfold wsK at ih ⊢
      rw [List.take_of_length_le (by omega)] at ih ⊢
      omega
theorem wsK_val (all : List (Int × Int)) (h : ∀ x ∈ all,0 ≤ x.1 ∧ x.1 < 1000000000 ∧ 1 ≤ x.2 ∧ x.2 ≤ 9) : ∀ k,val (wsK all k) = (all.take k).foldl stepV 0
  | 0=>by simp [wsK,val]
  | k + 1=>by
    have ih:=wsK_val all h k
    cases hk : all[k]? with
    | some x =>
      obtain ⟨hlt,he⟩:=List.getElem?_eq_some_iff.1 hk
      rw [wsK_succ hk,stepW_val (wsK_wd all k) (h x (List.mem_of_getElem? hk)),ih,List.take_succ_eq_append_getElem hlt,List.foldl_append,he]; rfl
    | none =>
      have : all.length ≤ k:=by simpa using hk
      unfold wsK at ih ⊢
      rw [List.take_of_length_le (by omega)] at ih ⊢
      exact ih
theorem wsK_end {ds : List UInt8} (h : Digits ds) : val (wsK (chunks ds) (chunks ds).length) = numI ds:=by
  rw [wsK_val _ (chunks_get h),List.take_length,chunks_val 0 _ _ (Nat.le_refl _)]; simp
end Go.Proofs.YtcifhkfpmhifaaaGreatDoor.NumA
namespace Go.Proofs.YtcifhkfpmhifaaaGreatDoor.NumA
open Go.Lib
def padN : Nat → Nat → List UInt8
  | 0,_=>[]
  | k + 1,r=>padN k (r / 10) ++ [UInt8.ofNat (48 + r % 10)]
theorem dec_small {u : Nat} (h : u < 10) : decDigits u = [UInt8.ofNat (48 + u)]:=by rw [decDigits,dif_pos h]
theorem dec_big {u : Nat} (h : ¬ u < 10) : decDigits u = decDigits (u / 10) ++ [UInt8.ofNat (48 + u % 10)]:=by rw [decDigits,dif_neg h]
theorem dec_mul : ∀ (k : Nat) {q r : Nat},0 < q → r < 10 ^ k → decDigits (q * 10 ^ k + r) = decDigits q ++ padN k r
  | 0,q,r,hq,hr=>by simp at hr; subst hr; simp [padN]
  | k + 1,q,r,hq,hr=>by
    rw [Nat.pow_succ] at hr ⊢
    have hp : 0 < 10 ^ k:=Nat.pow_pos (by decide)
    have hqp : 1 * 1 ≤ q * 10 ^ k:=Nat.mul_le_mul hq hp
    rw [← Nat.mul_assoc]
    rw [dec_big (by omega),show (q * 10 ^ k * 10 + r) / 10 = q * 10 ^ k + r / 10 by omega,show (q * 10 ^ k * 10 + r) % 10 = r % 10 by omega,dec_mul k hq (by omega),padN,List.append_assoc]
theorem pad_zero : ∀ k,padN k 0 = List.replicate k 48
  | 0=>rfl
  | k + 1=>by rw [padN,Nat.zero_div,pad_zero k,List.replicate_succ']; rfl
theorem pad_dec : ∀ (k : Nat) {r : Nat},r < 10 ^ (k + 1) → (decDigits r).length ≤ k + 1 ∧ padN (k + 1) r = List.replicate (k + 1 - (decDigits r).length) 48 ++ decDigits r
  | 0,r,hr=>by
    have hr' : r < 10:=by simpa using hr
    rw [dec_small hr']; simp [padN,Nat.mod_eq_of_lt hr']
  | k + 1,r,hr=>by
    by_cases h : r < 10
    · rw [dec_small h,padN,Nat.div_eq_of_lt h,pad_zero,Nat.mod_eq_of_lt h]; simp
    · rw [Nat.pow_succ] at hr
      obtain ⟨h1,h2⟩:=pad_dec k (r:=r / 10) (by omega)
      rw [dec_big h,padN,h2]
      simp only [List.length_append,List.length_cons,List.length_nil]
      exact ⟨by omega,by rw [List.append_assoc]; congr 2; omega⟩
theorem dec_pos (r : Nat) : 1 ≤ (decDigits r).length:=by rw [decDigits_length]; exact nDigits_pos r
theorem dec_digits : ∀ (n u : Nat),u ≤ n → Digits (decDigits u) ∧ numI (decDigits u) = u:=by
  intro n
  induction n with
  | zero =>
    intro u hu
    obtain rfl : u = 0:=by omega
    rw [dec_small (by decide)]
    refine ⟨fun c hc=>?_,by decide⟩
    rw [List.mem_singleton] at hc; subst hc; decide
  | succ n ih =>
    intro u hu
    have one : ∀ d,d < 10 → (48 ≤ (UInt8.ofNat (48 + d)).toNat ∧ (UInt8.ofNat (48 + d)).toNat ≤ 57) ∧ dg (UInt8.ofNat (48 + d)) = (d : Int):=fun d hd=>by
      have : (UInt8.ofNat (48 + d)).toNat = 48 + d:=by simp; omega
      unfold dg; rw [this]; omega
    by_cases h : u < 10
    · rw [dec_small h]
      refine ⟨fun c hc=>?_,?_⟩
      · rw [List.mem_singleton] at hc; subst hc; exact (one u h).1
      · have:=numI_snoc [] (UInt8.ofNat (48 + u))
        rw [List.nil_append] at this
        rw [this,(one u h).2]; simp [numI]
    · obtain ⟨h1,h2⟩:=ih (u / 10) (by omega)
      rw [dec_big h]
      refine ⟨fun c hc=>?_,?_⟩
      · rcases List.mem_append.1 hc with hc | hc
        · exact h1 c hc
        · rw [List.mem_singleton] at hc; subst hc; exact (one _ (by omega)).1
      · rw [numI_snoc,h2,(one _ (by omega)).2]; omega
def txt (V J m : Nat) : List UInt8:=if m = J then [] else decDigits (V / 1000000000 ^ m)
theorem txt_end {V J : Nat} (h : 0 < J) : txt V J 0 = decDigits V:=by rw [txt,if_neg (by omega)]; simp
theorem div_block (V m : Nat) : V / 1000000000 ^ m = V / 1000000000 ^ (m + 1) * 1000000000 + V / 1000000000 ^ m % 1000000000:=by
  rw [Nat.pow_succ,← Nat.div_div_eq_div_mul,Nat.mul_comm,Nat.div_add_mod]
theorem blk_pos {V m J : Nat} (h : 0 < V / 1000000000 ^ (J - 1)) (hm : m < J) : 0 < V / 1000000000 ^ m:=by
  have h1 : 1000000000 ^ m ≤ 1000000000 ^ (J - 1):=Nat.pow_le_pow_right (by decide) (by omega)
  have hp : 0 < 1000000000 ^ m:=Nat.pow_pos (by decide)
  have:=Nat.div_le_div_left (a:=V) h1 hp
  omega
theorem txt_succ {V J m : Nat} (h0 : V / 1000000000 ^ J = 0) (h1 : 0 < V / 1000000000 ^ (J - 1)) (hm : m < J) :
    txt V J (m + 1) ++ (List.replicate (if m + 1 < J then 9 - (decDigits (V / 1000000000 ^ m % 1000000000)).length else 0) 48 ++ decDigits (V / 1000000000 ^ m % 1000000000)) = txt V J m:=by
  have hd:=div_block V m
  rw [txt,txt,if_neg (by omega : m ≠ J)]
  by_cases hj : m + 1 < J
  · rw [if_pos hj,if_neg (by omega : m + 1 ≠ J)]
    have hr : V / 1000000000 ^ m % 1000000000 < 10 ^ (8 + 1):=Nat.mod_lt _ (by decide)
    have:=(pad_dec 8 hr).2
    rw [← this,← dec_mul 9 (blk_pos h1 hj) hr]
    congr 1; exact hd.symm
  · have hj' : m + 1 = J:=by omega
    rw [if_neg hj,if_pos hj']
    rw [hj',h0] at hd
    simp only [List.replicate_zero,List.nil_append]
    congr 1; omega
theorem txt_len {V J : Nat} (h0 : V / 1000000000 ^ J = 0) (h1 : 0 < V / 1000000000 ^ (J - 1)) : ∀ d,d ≤ J → (txt V J (J - d)).length ≤ 9 * d
  | 0,_=>by simp [txt]
  | d + 1,hd=>by
    have ih:=txt_len h0 h1 d (by omega)
    have hs:=txt_succ h0 h1 (m:=J - (d + 1)) (by omega)
    rw [show J - (d + 1) + 1 = J - d by omega] at hs
    have hr : V / 1000000000 ^ (J - (d + 1)) % 1000000000 < 10 ^ (8 + 1):=Nat.mod_lt _ (by decide)
    have hl:=(pad_dec 8 hr).1
    rw [← hs]
    simp only [List.length_append,List.length_replicate]
    split <;> omega
def lowK (V j : Nat) : List Int:=(List.range j).map fun i=>((V / 1000000000 ^ i % 1000000000 : Nat) : Int)
@[simp] theorem lowK_length (V j : Nat) : (lowK V j).length = j:=by simp [lowK]
theorem lowK_get {V j i : Nat} (h : i < j) : (lowK V j).getD i 0 = ((V / 1000000000 ^ i % 1000000000 : Nat) : Int):=by
  simp [lowK,h,List.getD_eq_getElem?_getD]
theorem lowK_succ (V j : Nat) : lowK V j ++ [((V / 1000000000 ^ j % 1000000000 : Nat) : Int)] = lowK V (j + 1):=by simp [lowK,List.range_succ]
theorem low_len {V j L : Nat} (h : 0 < V / 1000000000 ^ (j - 1)) (hV : V < 4294967296 ^ L) : j ≤ 2 * L + 1:=by
  by_cases hj : j - 1 ≤ 2 * L
  · omega
  · exfalso
    have h1 : 1000000000 ^ (2 * L) ≤ 1000000000 ^ (j - 1):=Nat.pow_le_pow_right (by decide) (by omega)
    have h2 : 4294967296 ^ L ≤ 1000000000 ^ (2 * L):=by
      rw [Nat.pow_mul]; exact Nat.pow_le_pow_left (by decide) _
    rw [Nat.div_eq_of_lt (by omega)] at h
    omega
structure LowAt (ws : List Int) (x : Nat × List Int × Nat) : Prop where
  le : x.1 ≤ ws.length
  len : x.2.1.length = ws.length
  wd : Wd x.2.1
  eq : val (x.2.1.take x.1) = (((val ws).toNat / 1000000000 ^ x.2.2 : Nat) : Int)
  pos : 0 < x.1 → 0 < (val ws).toNat / 1000000000 ^ x.2.2
  top : 0 < (val ws).toNat / 1000000000 ^ (x.2.2 - 1)
theorem LowAt.start {ws : List Int} (h : Wd ws) (hv : 0 < val ws) : LowAt ws (ws.length,ws,0) :=
  ⟨Nat.le_refl _,rfl,h,by simp only [List.take_length,Nat.pow_zero,Nat.div_one]; omega,fun _=>by simp; omega,by simp; omega⟩
theorem LowAt.mid {ws rest : List Int} {n j : Nat} (ha : LowAt ws (n,rest,j)) : val (rest.take n) % 1000000000 = (((val ws).toNat / 1000000000 ^ j % 1000000000 : Nat) : Int) ∧ val (digN n (val (rest.take n) / 1000000000)) = (((val ws).toNat / 1000000000 ^ (j + 1) : Nat) : Int):=by
  have e:=ha.eq
  simp only at e
  have h1 : val (rest.take n) / 1000000000 = (((val ws).toNat / 1000000000 ^ (j + 1) : Nat) : Int):=by
    rw [e,Nat.pow_succ,← Nat.div_div_eq_div_mul]; omega
  refine ⟨by rw [e]; omega,?_⟩
  rw [← h1]
  have hlt:=val_lt (ha.wd.take n)
  have hle:=ha.le
  have hlen:=ha.len
  simp only at hle hlen hlt
  rw [List.length_take,Nat.min_eq_left (by omega)] at hlt
  have h0:=val_nonneg (ha.wd.take n)
  have:=Int.ediv_le_self 1000000000 h0
  have h2:=Int.ediv_nonneg h0 (show (0 : Int) ≤ 1000000000 by decide)
  exact val_digN h2 (Int.lt_of_le_of_lt this hlt)
theorem LowAt.next {ws rest r2 : List Int} {n j m : Nat} (hv : Wd ws) (ha : LowAt ws (n,rest,j)) (hn : 0 < n) (hm : m ≤ n) (hl : r2.length = ws.length) (hw : Wd r2) (he : val (r2.take m) = (((val ws).toNat / 1000000000 ^ (j + 1) : Nat) : Int)) (hz : 0 < m → r2.getD (m - 1) 0 ≠ 0) : LowAt ws (m,r2,j + 1):=by
  have hle:=ha.le
  simp only at hle
  refine ⟨by simp only; omega,hl,hw,he,fun h=>?_,?_⟩
  · simp only at h ⊢
    obtain ⟨k,rfl⟩ : ∃ k,m = k + 1:=⟨m - 1,by omega⟩
    have h1:=hz h
    rw [Nat.add_sub_cancel] at h1
    have hg:=hw.getD k
    rw [val_take_succ (by omega)] at he
    have h3:=val_nonneg (hw.take k)
    have h4 : (0 : Int) < 4294967296 ^ k:=Int.pow_pos (by decide)
    have h5 : 0 < 4294967296 ^ k * r2.getD k 0:=Int.mul_pos h4 (by omega)
    omega
  · simpa using ha.pos hn
theorem val_drop0 {r : List Int} {m : Nat} (h : 0 < m) (hl : m ≤ r.length) (hz : r.getD (m - 1) 0 = 0) : val (r.take (m - 1)) = val (r.take m):=by
  obtain ⟨k,rfl⟩ : ∃ k,m = k + 1:=⟨m - 1,by omega⟩
  rw [Nat.add_sub_cancel] at hz ⊢
  rw [val_take_succ (by omega),hz]; simp
def printV (neg : Bool) (ws : List Int) : List UInt8:=if canon neg ws = true then Go.Lib.itoa (sg neg (val ws)) else []
theorem printV_eq {neg : Bool} {ws : List Int} (hc : canon neg ws = true) (hv : 0 < val ws) : (if neg = true then [45] else []) ++ Go.Lib.decDigits (val ws).toNat = printV neg ws:=by
  rw [printV,if_pos hc,Go.Lib.itoa]
  cases neg with
  | false=>simp [sg]; omega
  | true=>simp only [sg,if_true]; rw [if_pos (by omega)]; simp only [List.cons_append,List.nil_append]; congr 2; omega
end Go.Proofs.YtcifhkfpmhifaaaGreatDoor.NumA
set_option maxRecDepth 100000
set_option maxHeartbeats 4000000
namespace Go.Proofs.YtcifhkfpmhifaaaGreatDoor.N
open Go Go.Proofs.YtcifhkfpmhifaaaGreatDoor.SH Go.Proofs.YtcifhkfpmhifaaaGreatDoor.NumA
open Go.Proofs.Tryz renaming call127 → cl127,call128 → cl128,call59 → cl59,isAgg22 → ag22,isAgg24 → ag24,isAgg4 → ag4,isAgg68 → ag68,sizeOf22 → sz22,sizeOf24 → sz24,sizeOf4 → sz4,sizeOf68 → sz68,typeInfo5 → ti5,typeInfo68 → ti68,underlying116 → un116,underlying22 → un22,underlying24 → un24,underlying3 → un3,underlying5 → un5,underlying68 → un68,underlying78 → un78,underlying9 → un9
def encB (bs : List UInt8) : List Pure:=bs.map fun b=>.a (.int .u8 b.toNat)
@[simp] theorem encB_length (bs : List UInt8) : (encB bs).length = bs.length:=by simp [encB]
theorem getB {bs : List UInt8} {i : Nat} (h : i < bs.length) : (encB bs)[i]? = some (.a (.int .u8 (bs.getD i 0).toNat)):=by
 simp [encB,h,List.getD_eq_getElem?_getD]
@[reducible] def pS (bs : List UInt8) : Pure:=.a (.string (str bs))
theorem itoa_says (n : Nat) (h : n < 4294967296) : Says E 128 [vZ n] (pS (Lib.decDigits n)):=by
 intro ok w vals hG hrel
 obtain ⟨v,r,rfl,hv,hr⟩:=hrel
 simp only [RelL] at hr
 subst hr
 simp only [Rel] at hv
 subst hv
 refine (itoa_calls n (by omega) (by omega) w hG).mono ?_
 rintro e w' ⟨rfl,k,os,rfl⟩
 refine ⟨_,rfl,?_,rfl,rfl,rfl,by simp [Sort.grow,World.drewN],fun j hj=>?_⟩
 ·rw [Lib.itoa_nonneg]; simp [Rel,str]
 ·simp only [Sort.grow,World.drewN,Array.getElem?_append]
  rw [if_pos hj]
theorem getW0 {ws : List Int} {i j : Nat} (e : j = i) (h : i < ws.length) : (encW ws)[j]? = some (.a (.int .u32 (ws.getD i 0))):=by subst e; exact getW h
theorem short2_says (ws zs : List Int) (d : Int) (hl : ws.length < 1000000000) (h : Wd ws) (hd : 0 < d ∧ d < 4294967296) (tot : Nat) (htot : ws.length + zs.length = tot) : SaysX E 127 [.ref 1000 0 ws.length tot,.p (oZ d)] [(1000,⟨68,1,.pure (encW (ws ++ zs))⟩)] [(1000,⟨68,1,.pure (encW (digN ws.length (val ws / d) ++ zs))⟩)] (oZ (val ws % d)):=by
 refine saysX_of (xs:=[oZ (val ws % d)]) Tryz.func127 rfl Tryz.ntmps127 Tryz.results127 (by simp) rfl (sub_of rfl) fun F hG hX hnt hdf P0 hXp=>?_
 have L:=lti hnt
 have hN:=ng_le hG
 refine exr (aV (L rfl) rfl (zn [(0,_),(1,_)] [(1000,_)] t2 t1 (exr (aV (L rfl) rfl (zn [(0,_),(1,_),(5,_)] [(1000,_)] t3 t1 (ex_seq (exr (mV (L rfl) rfl (sw (c_lr un22 (by exact (by simp; omega)) (L rfl)) t1 t1 ?_)))))))))
 refine sw (c_su (L rfl) (w64 (by omega) (by omega))) t2 t0 ?_
 refine aV (L rfl) rfl (zn [(0,_),(1,_),(5,_),(6,_)] [(1000,_)] t4 t1 (ex_block ?_))
 refine exl (α:=(Nat × List Int × Int)) (fun x=>[(6,vi ((x.1:Int) - 1)),(5,vw x.2.2)]) (fun x=>[(1000,⟨68,1,.pure (encW ((ws.take x.1 ++ x.2.1) ++ zs))⟩)]) (fun x=>ShortAt ws d x) (fun x=>x.1) ((ws.length,([] : List Int),(0 : Int))) (sl:=[(0,_),(1,_)]) (hb:=[]) ?_ ⟨(by first | exact rfl | exact oi (by omega) rfl),(by first | exact rfl | exact oi (by omega) rfl),rfl,rfl,trivial⟩ ⟨obl rfl (by simp),trivial⟩ ?_
 ·exact ShortAt.start ws d
 intro x hx
 obtain ⟨n,qs,r⟩:=x
 have hle:=hx.le
 have hq : qs.length = ws.length - n:=by have:=hx.q; simp only at this; rw [this,digN_length]
 have hr : 0 ≤ r ∧ r < d:=by have:=hx.r; simp only at this; rw [this]; exact ⟨Int.emod_nonneg _ (by omega),Int.emod_lt_of_pos _ hd.1⟩
 simp only at hle
 dsimp only
 refine ex_seq (exr (mV (L rfl) rfl (sw (c_ge (L rfl)) t2 t0 (zn [(0,_),(1,_),(5,_),(6,_),(11,_)] [(1000,_)] t5 t1 ?_))))
 refine ex_if rfl (fun he=>?_) (fun he=>?_)
 ·have he:=dt he
  obtain ⟨key,k1,k2⟩:=hx.next h hd.1 (by omega)
  have hw:=h.getD (n - 1)
  have hg : ((ws.take n ++ qs) ++ zs).getD (n - 1) 0 = ws.getD (n - 1) 0:=by rw [List.append_assoc]; exact getD_head (by omega) (by omega)
  refine ex_skip (show Exec _ _ _ _ _ from ?_)
  refine ex_seq (ex_block (exr (mV (L rfl) rfl (sw (c_sl (L rfl) (by decide) (shlE (c:=4294967296) (by rfl) (fu64 (by omega) (by omega)))) t2 t0 ?_))))
  refine mV (L rfl) rfl (mV (L rfl) rfl (sw (ixR un22 sz68 (by exact (by simp; omega)) (j:=n - 1) (by first | exact rfl | omega) (by omega) (L rfl)) t2 t1 ?_))
  refine sw (c_l1 ag68 (by exact (by simp; omega)) (getC (getW0 (ws:=(ws.take n ++ qs) ++ zs) (i:=n - 1) (by omega) (by simp; omega))) (L rfl)) t1 t1 ?_
  refine sw (c_cv un68 un78 (L rfl) (show _ = ws.getD (n - 1) 0 by rw [hg]; exact w64u (by omega) (by omega))) t1 t0 ?_
  refine sw (c_or (L rfl) (or64' (b:=r) 32 rfl hw.1 hw.2 hr.1 (by decide) (by omega) (by omega))) t2 t0 ?_
  refine aV (L rfl) rfl ?_
  refine seq_nil ⟨[(0,_),(1,_),(5,vw (r * 4294967296 + ws.getD (n - 1) 0)),(6,_)],[(1000,_)],⟨rfl,rfl,oi (by omega) rfl,rfl,trivial⟩,t1,?_⟩
  refine exr (mV (L rfl) rfl (mV (L rfl) rfl (mV (L rfl) rfl (mV (L rfl) rfl (sw (c_cv un68 un78 (L rfl) (fu64 (by omega) (by omega))) t1 t0 ?_)))))
  refine sw (c_q (L rfl) (by omega) (tdivE (by omega) (by omega))) t2 t0 ?_
  refine sw (c_cv un78 un68 (L rfl) (fu32 (by omega) (by omega))) t1 t0 ?_
  refine sw (ixR un22 sz68 (by exact (by simp; omega)) (j:=n - 1) (by first | exact rfl | omega) (by omega) (L rfl)) t2 t1 ?_
  refine sb (c_s1 sz68 (by exact (by simp; omega)) (.atom rfl) (by omega)) t2 t1 ?_
  refine zn [(0,_),(1,_),(5,_),(6,_)] [(1000,_)] t4 t1 (exr0 (mV (L rfl) rfl (mV (L rfl) rfl (sw (c_cv un68 un78 (L rfl) (fu64 (by omega) (by omega))) t1 t0 ?_))))
  refine sw (c_r (L rfl) (by omega) (tmodE (by omega) (by omega))) t2 t0 ?_
  refine aV (L rfl) rfl (seq_nil (exr0 (mV (L rfl) rfl (sw (c_su (L rfl) (w64 (by omega) (by omega))) t2 t0 ?_))))
  refine aV (L rfl) rfl (seq_nil ?_)
  exact ⟨(n - 1,(r * 4294967296 + ws.getD (n - 1) 0) / d :: qs,(r * 4294967296 + ws.getD (n - 1) 0) % d),key,(by simp only; omega),le_of ⟨(by first | exact rfl | exact oi (by omega) rfl),(by first | exact rfl | exact oi (by omega) rfl),rfl,rfl,trivial⟩ ⟨obl rfl (by rw [Nat.zero_add,encW_set,List.append_assoc,set_last (by simp; omega),List.take_take,Nat.min_eq_left (by omega)]; simp),trivial⟩⟩
 ·have he:=df he
  have hn : n = 0:=by omega
  subst hn
  have e1 : r = val ws % d:=by simpa using hx.r
  have e2 : qs = digN ws.length (val ws / d):=by simpa using hx.q
  refine ex_exit (show Exec _ _ _ _ _ from ?_)
  refine exr (mV (L rfl) rfl (sw (c_cv un78 un68 (L rfl) (fu32 (by omega) (by omega))) t1 t0 ?_))
  refine aV (L rfl) rfl (zn [(4,_)] [(1000,_)] t1 t1 (ex_ret ?_))
  refine ⟨.inr rfl,ResVs.cast (.cons (.tmp rfl) .nil) ?_,⟨obl rfl (by simp [e2]),trivial⟩⟩
  rw [e1]
theorem print_says (neg : Bool) (ws : List Int) (hl : ws.length < 10000000) (h : Wd ws) : Says E 98 [pI neg ws] (pS (printV neg ws)):=by
 refine says_of (xs:=[pS (printV neg ws)]) Tryz.func98 rfl Tryz.ntmps98 Tryz.results98 (by simp) fun F hG hX0 hnt hdf P0=>?_
 obtain ⟨L,hX,hN⟩:=pro hnt hX0 hG
 have hv:=val_nonneg h
 refine exr (swb (c_bx (k:=1) (n:=2) pa2 rfl rfl (P0 _ rfl) (L rfl)) t1 t0 ⟨rfl,rfl⟩ (aV (L rfl) rfl (zn [(1,_)] [(1,_)] t1 t1 (ex_seq (exr (lp2 ag24 sz24 (L rfl) rfl rfl (cK hG hX cl59 hN (is_says neg ws (by omega)) (L rfl) t1 ?_)))))))
 refine sw (c_no (L rfl)) t1 t0 (zn [(1,_),(12,_)] [(1,_)] t2 t1 ?_)
 refine ex_if rfl (fun hc=>?_) (fun hc=>?_)
 ·refine exr (aV (L rfl) rfl (zn [(2,_)] [] t1 trivial (ex_ret ?_)))
  refine ⟨.inr rfl,ResVs.cast (.cons (.tmp rfl) .nil) ?_⟩
  have hc' : ¬ canon neg ws = true:=by simpa using hc
  rw [printV,if_neg hc']; rfl
 ·have hcn : canon neg ws = true:=by simpa using hc
  refine ex_skip (show Exec _ _ _ _ _ from ?_)
  refine ex_seq (exr (sw (c_fa un24 rfl sz22 (by decide) (by exact rfl) (L rfl)) t1 t1 ?_))
  refine sw (c_l1 ag22 (by rfl) (by rfl) (L rfl)) t1 t1 ?_
  refine sw (c_ln un22 (L rfl)) t1 t0 (sw (c_e (L rfl)) t2 t0 (zn [(1,_),(16,_)] [(1,_)] t2 t1 ?_))
  refine ex_if rfl (fun hz=>?_) (fun hz=>?_)
  ·have hz:=dt hz
   have e1 : ws = []:=List.eq_nil_of_length_eq_zero (by omega)
   refine exr (aV (L rfl) rfl (zn [(2,_)] [] t1 trivial (ex_ret ?_)))
   refine ⟨.inr rfl,ResVs.cast (.cons (.tmp rfl) .nil) ?_⟩
   have e2 : neg = false:=(canon_tr hcn).2 e1
   subst e1 e2
   rw [printV,if_pos hcn,show Lib.itoa (sg false (val [])) = [48] by simp [Lib.itoa,sg,val,dec_small]]; rfl
  ·have hz:=df hz
   have hpos : 0 < val ws:=val_pos h (canon_tr hcn).1 (by omega)
   have hlt:=val_lt h
   have hVlt : (val ws).toNat < 4294967296 ^ ws.length:=by
    have : ((val ws).toNat : Int) < ((4294967296 ^ ws.length : Nat) : Int):=by rw [Int.natCast_pow,Int.toNat_of_nonneg hv]; exact hlt
    exact Int.ofNat_lt.1 this
   refine ex_skip (show Exec _ _ _ _ _ from ?_)
   refine exr (sw (c_fa un24 rfl sz22 (by decide) (by exact rfl) (L rfl)) t1 t1 ?_)
   refine sw (c_l1 ag22 (by rfl) (by rfl) (L rfl)) t1 t1 ?_
   refine sw (c_ln un22 (L rfl)) t1 t0 (swb (c_mk (k:=20) un22 ti68 rfl rfl rfl rfl rfl rfl (Nat.le_refl _) (by simp [Tryz.t68]; omega) (by omega) (P0 _ rfl) (L rfl)) t2 t0 ⟨rfl,rfl⟩ ?_)
   refine aV (L rfl) rfl (zn [(1,_),(3,_)] [(1,_),(20,_)] t2 t2 (exr (mV (L rfl) rfl (sw (c_fa un24 rfl sz22 (by decide) (by exact rfl) (L rfl)) t1 t1 ?_))))
   refine sw (c_l1 ag22 (by rfl) (by rfl) (L rfl)) t1 t1 ?_
   refine swb (c_cp un22 ti68 (by exact List.length_replicate) rfl (by simp) (L rfl)) t2 t1 t0 ?_
   refine seq_nil ⟨[(1,_),(3,_)],[(1,_),(20,⟨68,1,.pure (encW ws)⟩)],t2,⟨rfl,obl rfl (by rw [List.take_of_length_le (by simp),List.drop_of_length_le (by simp),List.append_nil]),trivial⟩,?_⟩
   refine exr (aV (L rfl) rfl (zn [(1,_),(3,_),(4,_)] [(1,_),(20,_)] t3 t2 (ex_seq (exr (mV (L rfl) rfl (sw (c_lr un22 (by exact (by first | (simp; done) | (simp; omega))) (L rfl)) t1 t1 ?_))))))
   refine aV (L rfl) rfl (zn [(1,_),(3,_),(4,_),(5,_)] [(1,_),(20,_)] t4 t2 (ex_block ?_))
   refine exlp (α:=(Nat × List Int × Nat)) (fun x=>[(5,vi (x.1:Int)),(4,.ref 35 0 x.2.2 x.2.2)]) (fun x=>[(35,⟨68,1,.pure (encW (lowK (val ws).toNat x.2.2))⟩),(20,⟨68,1,.pure (encW (x.2.1.take x.1 ++ x.2.1.drop x.1))⟩)]) (fun x=>LowAt ws x ∧ 0 < x.2.2) (fun x=>(val ws).toNat / 1000000000 ^ x.2.2) ((val ws).toNat + 1) (sl:=[(1,_),(3,_)]) (hb:=[(1,_)]) t2 t1 ?_ ?_
   ·have hx:=LowAt.start h hpos
    obtain ⟨q1,q2⟩:=hx.mid
    rw [List.take_length] at q1 q2
    have sc:=short2_says ws [] 1000000000 (by omega) h (by omega) ws.length (by simp)
    simp only [List.append_nil] at sc
    have hn0 : 0 < ws.length:=by omega
    refine ex_seq (exr (mV (L rfl) rfl (sw (c_gt (L rfl)) t2 t0 (zn [(1,_),(3,_),(4,_),(5,_),(28,_)] [(1,_),(20,_)] t5 t2 ?_))))
    refine ex_if rfl (fun hd=>?_) (fun hd=>?_)
    ·have hd:=dt hd
     refine ex_skip (show Exec _ _ _ _ _ from ?_)
     refine ex_block (exr (mV (L rfl) rfl (mV (L rfl) rfl (mV (L rfl) rfl (sw (slR_hi un22 sz68 rfl (by exact (by first | (simp; done) | (simp; omega))) (h:=ws.length) (by first | exact rfl | omega) (by omega) (L rfl)) t2 t1 ?_)))))
     refine swB (c_cx hG hX [20] hN sc rfl (args_fn (ys:=[_,_]) cl127 rfl (by rfl)) (by rfl) (by rfl) (by rfl) (by rfl) (SameH.to (.cons (len_pure (by simp [digN_length])) .nil)) (by rfl) (by rfl) (L rfl)) t2 t1 ?_
     refine sw (c_bI (vs:=[_]) un22 ti68 rfl rfl (by decide) (by decide) rfl (zs_made (.cons rfl .nil) rfl) rfl (.cons rfl (.atom rfl) rfl pu1 .nil) (.cons .nil) (L rfl)) t1 t0 ?_
     refine swb (apN (k:=35) (sz:=1) un22 un22 ti68 rfl rfl rfl (by decide) (by simp) rfl (by first | (simp [Tryz.t68]; done) | (simp [Tryz.t68]; omega)) (by omega) (P0 _ rfl) (L rfl)) t2 t0 ⟨rfl,rfl⟩ ?_
     refine aV (L rfl) rfl (zn [(1,_),(3,_),(4,_),(5,_)] [(1,_),(20,_),(35,_)] t4 t3 ?_)
     obtain ⟨R,hR⟩ : ∃ R,R = digN ws.length (val ws / 1000000000):=⟨_,rfl⟩
     have hRl : R.length = ws.length:=by rw [hR,digN_length]
     have hRw : Wd R:=by rw [hR]; exact digN_wd _ _
     rw [← hR] at q2 ⊢
     refine ex_block ?_
     refine exl (α:=Nat) (fun m=>[(5,vi (m:Int))]) (fun m=>[]) (fun m=>m ≤ ws.length ∧ val (R.take m) = val R) (fun m=>m) (ws.length) (sl:=[(1,_),(3,_),(4,_)]) (hb:=[(1,_),(20,_),(35,_)]) ?_ ⟨(by first | exact rfl | exact oi (by omega) rfl),rfl,rfl,rfl,trivial⟩ t3 ?_
     ·exact ⟨Nat.le_refl _,by rw [List.take_of_length_le (by omega)]⟩
     intro m hm
     refine ex_seq ?_
     refine exm (sl:=[(45,vb (decide (0 < m ∧ R.getD (m - 1) 0 = 0)))]) (sl0:=[(1,_),(3,_),(4,_),(5,_)]) (hb:=[]) (hb0:=[(1,_),(20,_),(35,_)]) t4 t3 ?_ ?_
     ·by_cases h : m = 0
      ·refine mV (L rfl) rfl (sw (c_gt (L rfl)) t2 t0 (mV (L rfl) rfl (swn (g:=38) rfl (by simp [h]) (L rfl) rfl ?_)))
       refine swn (g:=38) rfl (by simp [h]) (L rfl) rfl ?_
       refine swn (g:=38) rfl (by simp [h]) (L rfl) rfl ?_
       refine swn (g:=38) rfl (by simp [h]) (L rfl) rfl ?_
       refine swn (g:=38) rfl (by simp [h]) (L rfl) rfl ?_
       refine swn (g:=38) rfl (by simp [h]) (L rfl) rfl ?_
       refine sw (c_pf (by simp [h]) (L rfl)) t2 t0 ?_
       exact seq_nil ⟨⟨ob rfl (by simp [h]),rfl,rfl,rfl,rfl,trivial⟩,t3⟩
      ·refine mV (L rfl) rfl (sw (c_gt (L rfl)) t2 t0 (mV (L rfl) rfl (gV (g:=38) rfl (by simp; omega) (L rfl) rfl rfl ?_)))
       refine gV (g:=38) rfl (by simp; omega) (L rfl) rfl rfl ?_
       refine swg (g:=38) rfl (by simp; omega) (c_su (L rfl) (w64 (by omega) (by omega))) rfl t2 t0 ?_
       refine swg (g:=38) rfl (by simp; omega) (ixR0 un22 sz68 (by exact (by simp; omega)) (j:=m - 1) (by first | exact rfl | omega) (by omega) (L rfl)) rfl t2 t1 ?_
       refine swg (g:=38) rfl (by simp; omega) (c_l1 ag68 (by exact (by simp; omega)) (getC (by first | exact getW (by omega) | rfl)) (L rfl)) rfl t1 t1 ?_
       refine swg (g:=38) rfl (by simp; omega) (c_e (L rfl)) rfl t2 t0 ?_
       refine sw (c_pt (by simp; omega) (L rfl)) t2 t0 ?_
       exact seq_nil ⟨⟨ob rfl (by simp; omega),rfl,rfl,rfl,rfl,trivial⟩,t3⟩
     refine ex_if rfl (fun hc=>?_) (fun hc=>?_)
     ·have hc:=dt hc
      refine ex_skip (show Exec _ _ _ _ _ from ?_)
      refine ex_block (exr0 (mV (L rfl) rfl (sw (c_su (L rfl) (w64 (by omega) (by omega))) t2 t0 ?_)))
      refine aV (L rfl) rfl (seq_nil ?_)
      exact ⟨m - 1,⟨by omega,by rw [val_drop0 hc.1 (by omega) hc.2]; exact hm.2⟩,by omega,le_of ⟨(by first | exact rfl | exact oi (by omega) rfl),rfl,rfl,rfl,trivial⟩ t3⟩
     ·have hc:=df hc
      have key:=hx.next (m:=m) h hn0 hm.1 hRl hRw (by rw [hm.2]; exact q2) (fun h1 h2=>hc ⟨h1,h2⟩)
      have e1 : [val ws % 1000000000] = lowK (val ws).toNat 1:=by rw [← lowK_succ,← q1]; rfl
      refine ex_exit ?_
      exact ⟨(m,R,1),⟨key,Nat.one_pos⟩,(by simp only; have:=Nat.div_le_self (val ws).toNat (1000000000 ^ 1); omega),le_of ⟨(by first | exact rfl | exact oi (by omega) rfl),(by first | exact rfl | exact oi (by omega) rfl),rfl,rfl,trivial⟩ ⟨obl rfl (by rw [← e1]; rfl),obl rfl (by rw [List.take_append_drop]),rfl,trivial⟩⟩
    ·have hd:=df hd
     omega
   ·intro x hx
    obtain ⟨n,rest,j⟩:=x
    obtain ⟨hx,hj0⟩:=hx
    obtain ⟨q1,q2⟩:=hx.mid
    have hle:=hx.le
    have hlen:=hx.len
    have hwd:=hx.wd
    have htop:=hx.top
    simp only at hle hlen hwd hj0 htop
    dsimp only
    have hjl:=low_len htop hVlt
    refine ex_seq (exr (mV (L rfl) rfl (sw (c_gt (L rfl)) t2 t0 (zn [(1,_),(3,_),(4,_),(5,_),(28,_)] [(1,_),(20,_),(35,_)] t5 t3 ?_))))
    refine ex_if rfl (fun hd=>?_) (fun hd=>?_)
    ·have hd:=dt hd
     have hpp:=hx.pos (by simp only; omega)
     have hn0 : 0 < n:=by omega
     simp only at hpp
     have htl : (rest.take n).length = n:=by simp; omega
     have sc:=short2_says (rest.take n) (rest.drop n) 1000000000 (by omega) (hwd.take n) (by omega) ws.length (by simp; omega)
     rw [htl] at sc
     refine ex_skip (show Exec _ _ _ _ _ from ?_)
     refine ex_block (exr (mV (L rfl) rfl (mV (L rfl) rfl (mV (L rfl) rfl (sw (slR_hi un22 sz68 rfl (by exact (by simp; omega)) (h:=n) (by first | exact rfl | omega) (by omega) (L rfl)) t2 t1 ?_)))))
     refine swB (c_cx hG hX [20] hN sc rfl (args_fn (ys:=[_,_]) cl127 rfl (by rfl)) (by rfl) (by rfl) (by rfl) (by rfl) (SameH.to (.cons (len_pure (by simp [digN_length]; omega)) .nil)) (by rfl) (by rfl) (L rfl)) t2 t1 ?_
     refine sw (c_bI (vs:=[_]) un22 ti68 rfl rfl (by decide) (by decide) rfl (zs_made (.cons rfl .nil) rfl) rfl (.cons rfl (.atom rfl) rfl pu1 .nil) (.cons .nil) (L rfl)) t1 t0 ?_
     refine swb (apP (sz:=1) un22 un22 ti68 rfl rfl rfl (by decide) (by exact (by simp)) (by first | omega | rfl) (by simp) rfl rfl rfl (by first | (simp [Tryz.t68]; done) | (simp [Tryz.t68]; omega)) (by omega) (P0 _ rfl) (L rfl)) t2 t1 t0 ?_
     refine aV (L rfl) rfl (zn [(1,_),(3,_),(4,_),(5,_)] [(1,_),(20,_),(35,_)] t4 t3 ?_)
     obtain ⟨R,hR⟩ : ∃ R,R = digN n (val (rest.take n) / 1000000000) ++ rest.drop n:=⟨_,rfl⟩
     have hRl : R.length = ws.length:=by rw [hR]; simp [digN_length]; omega
     have hRw : Wd R:=by rw [hR]; exact (digN_wd _ _).append (hwd.drop n)
     have hRt : val (R.take n) = val (digN n (val (rest.take n) / 1000000000)):=by rw [hR,List.take_append_of_le_length (by rw [digN_length]; omega),List.take_of_length_le (by rw [digN_length]; omega)]
     rw [← hR]
     refine ex_block ?_
     refine exl (α:=Nat) (fun m=>[(5,vi (m:Int))]) (fun m=>[]) (fun m=>m ≤ n ∧ val (R.take m) = val (R.take n)) (fun m=>m) (n) (sl:=[(1,_),(3,_),(4,_)]) (hb:=[(1,_),(20,_),(35,_)]) ?_ ⟨(by first | exact rfl | exact oi (by omega) rfl),rfl,rfl,rfl,trivial⟩ t3 ?_
     ·exact ⟨Nat.le_refl _,rfl⟩
     intro m hm
     refine ex_seq ?_
     refine exm (sl:=[(45,vb (decide (0 < m ∧ R.getD (m - 1) 0 = 0)))]) (sl0:=[(1,_),(3,_),(4,_),(5,_)]) (hb:=[]) (hb0:=[(1,_),(20,_),(35,_)]) t4 t3 ?_ ?_
     ·by_cases h : m = 0
      ·refine mV (L rfl) rfl (sw (c_gt (L rfl)) t2 t0 (mV (L rfl) rfl (swn (g:=38) rfl (by simp [h]) (L rfl) rfl ?_)))
       refine swn (g:=38) rfl (by simp [h]) (L rfl) rfl ?_
       refine swn (g:=38) rfl (by simp [h]) (L rfl) rfl ?_
       refine swn (g:=38) rfl (by simp [h]) (L rfl) rfl ?_
       refine swn (g:=38) rfl (by simp [h]) (L rfl) rfl ?_
       refine swn (g:=38) rfl (by simp [h]) (L rfl) rfl ?_
       refine sw (c_pf (by simp [h]) (L rfl)) t2 t0 ?_
       exact seq_nil ⟨⟨ob rfl (by simp [h]),rfl,rfl,rfl,rfl,trivial⟩,t3⟩
      ·refine mV (L rfl) rfl (sw (c_gt (L rfl)) t2 t0 (mV (L rfl) rfl (gV (g:=38) rfl (by simp; omega) (L rfl) rfl rfl ?_)))
       refine gV (g:=38) rfl (by simp; omega) (L rfl) rfl rfl ?_
       refine swg (g:=38) rfl (by simp; omega) (c_su (L rfl) (w64 (by omega) (by omega))) rfl t2 t0 ?_
       refine swg (g:=38) rfl (by simp; omega) (ixR0 un22 sz68 (by exact (by simp; omega)) (j:=m - 1) (by first | exact rfl | omega) (by omega) (L rfl)) rfl t2 t1 ?_
       refine swg (g:=38) rfl (by simp; omega) (c_l1 ag68 (by exact (by simp; omega)) (getC (by first | exact getW (by omega) | rfl)) (L rfl)) rfl t1 t1 ?_
       refine swg (g:=38) rfl (by simp; omega) (c_e (L rfl)) rfl t2 t0 ?_
       refine sw (c_pt (by simp; omega) (L rfl)) t2 t0 ?_
       exact seq_nil ⟨⟨ob rfl (by simp; omega),rfl,rfl,rfl,rfl,trivial⟩,t3⟩
     refine ex_if rfl (fun hc=>?_) (fun hc=>?_)
     ·have hc:=dt hc
      refine ex_skip (show Exec _ _ _ _ _ from ?_)
      refine ex_block (exr0 (mV (L rfl) rfl (sw (c_su (L rfl) (w64 (by omega) (by omega))) t2 t0 ?_)))
      refine aV (L rfl) rfl (seq_nil ?_)
      exact ⟨m - 1,⟨by omega,by rw [val_drop0 hc.1 (by omega) hc.2]; exact hm.2⟩,by omega,le_of ⟨(by first | exact rfl | exact oi (by omega) rfl),rfl,rfl,rfl,trivial⟩ t3⟩
     ·have hc:=df hc
      have key:=hx.next (m:=m) h hn0 hm.1 hRl hRw (by rw [hm.2,hRt]; exact q2) (fun h1 h2=>hc ⟨h1,h2⟩)
      have e1 : lowK (val ws).toNat j ++ [val (rest.take n) % 1000000000] = lowK (val ws).toNat (j + 1):=by rw [← lowK_succ,← q1]
      refine ex_exit ?_
      exact ⟨(m,R,j + 1),⟨key,Nat.succ_pos _⟩,(by simp only; have:=div_block (val ws).toNat j; omega),le_of ⟨(by first | exact rfl | exact oi (by omega) rfl),(by first | exact rfl | exact oi (by omega) rfl),rfl,rfl,trivial⟩ ⟨obl rfl (by rw [← e1,← encW_app]),obl rfl (by rw [List.take_append_drop]),rfl,trivial⟩⟩
    ·have hd:=df hd
     have hn0 : n = 0:=by omega
     subst hn0
     have hend : (val ws).toNat / 1000000000 ^ j = 0:=by
      have:=hx.eq
      simp only [List.take_zero,val] at this
      omega
     have hj9 : 9 * j + 1 < 1000000000:=by omega
     refine ex_exit (show Exec _ _ _ _ _ from ?_)
     refine exr (mV (L rfl) rfl (sw (c_lr un22 (by exact (by simp)) (L rfl)) t1 t1 ?_))
     refine sw (c_mu (L rfl) (show _ = ((9 * j : Nat) : Int) by rw [w64 (by omega) (by omega)]; omega)) t2 t0 ?_
     refine sw (c_ad (L rfl) (show _ = ((9 * j + 1 : Nat) : Int) by rw [w64 (by omega) (by omega)]; omega)) t2 t0 ?_
     refine swb (c_mk (k:=52) un116 ti5 rfl rfl rfl rfl rfl (show _ = ((9 * j + 1 : Nat) : Int) from rfl) (Nat.zero_le _) (by simp [Tryz.t5]; omega) (by omega) (P0 _ rfl) (L rfl)) t2 t0 ⟨rfl,rfl⟩ ?_
     refine aV (L rfl) rfl (zn [(1,_),(4,_),(6,_)] [(1,_),(35,_),(52,_)] t3 t3 (ex_seq (exr (sw (c_fa un24 rfl sz4 (by decide) (by exact rfl) (L rfl)) t1 t1 ?_))))
     refine sw (c_l1 ag4 (by rfl) (by rfl) (L rfl)) t1 t1 ?_
     refine zn [(4,_),(6,_),(54,_)] [(35,_),(52,_)] t3 t2 ?_
     obtain ⟨S,hS⟩ : ∃ S : List UInt8,S = if neg = true then [45] else []:=⟨_,rfl⟩
     have hSl : S.length ≤ 1:=by rw [hS]; split <;> simp
     refine ex_cut (sl:=[(6,.ref 52 0 S.length S.length)]) (sl0:=[(4,_)]) (hb:=[(52,⟨5,1,.pure (encB S)⟩)]) (hb0:=[(35,_)]) t1 t1 ?_ ?_
     ·refine ex_if rfl (fun hg=>?_) (fun hg=>?_)
      ·refine exr0 (mV (L rfl) rfl (sw (c_bI (vs:=[_]) un116 ti5 rfl rfl (by decide) (by decide) rfl (zs_made (.cons rfl .nil) rfl) rfl (.cons rfl (.atom rfl) rfl pu1 .nil) (.cons .nil) (L rfl)) t1 t0 ?_))
       refine swb (apP (sz:=1) un116 un116 ti5 rfl rfl rfl (by decide) (by exact List.length_replicate) (by first | omega | rfl) (by simp) rfl rfl rfl (by first | (simp [Tryz.t5]; done) | (simp [Tryz.t5]; omega)) (by omega) (P0 _ rfl) (L rfl)) t2 t1 t0 ?_
       refine aV (L rfl) rfl (seq_nil ?_)
       exact ⟨⟨ov rfl (by rw [hS,if_pos hg]; rfl),(by first | exact rfl | exact oi (by omega) rfl),trivial⟩,⟨obl rfl (by rw [hS,if_pos hg]; rfl),rfl,trivial⟩⟩
      ·refine ex_skip ?_
       exact ⟨⟨ov rfl (by rw [hS,if_neg (by simp [hg])]; rfl),(by first | exact rfl | exact oi (by omega) rfl),trivial⟩,⟨obl rfl (by rw [hS,if_neg (by simp [hg])]; rfl),rfl,trivial⟩⟩
     ·refine ex_seq (exr (mV (L rfl) rfl (sw (c_lr un22 (by exact (by simp)) (L rfl)) t1 t1 ?_)))
      refine sw (c_su (L rfl) (w64 (by omega) (by omega))) t2 t0 ?_
      refine aV (L rfl) rfl (zn [(4,_),(6,_),(7,_)] [(35,_),(52,_)] t3 t2 ?_)
      have htl:=txt_len hend htop
      have hll:=lowK_length (val ws).toNat j
      refine ex_block ?_
      refine exl (α:=Nat) (fun m=>[(7,vi ((m : Int) - 1)),(6,.ref 52 0 (S ++ txt (val ws).toNat j m).length (S ++ txt (val ws).toNat j m).length)]) (fun m=>[(52,⟨5,1,.pure (encB (S ++ txt (val ws).toNat j m))⟩)]) (fun m=>m ≤ j) (fun m=>m) (j) (sl:=[(4,_)]) (hb:=[(35,_)]) ?_ ⟨(by first | exact rfl | exact oi (by omega) rfl),ov rfl (by simp [txt]),rfl,trivial⟩ ⟨obl rfl (by simp [txt]),rfl,trivial⟩ ?_
      ·exact Nat.le_refl _
      intro m hm
      have htm:=htl (j - m) (by omega)
      rw [show j - (j - m) = m by omega] at htm
      have hol : (S ++ txt (val ws).toNat j m).length ≤ 9 * (j - m) + 1:=by simp; omega
      refine ex_seq (exr (mV (L rfl) rfl (sw (c_ge (L rfl)) t2 t0 (zn [(4,_),(6,_),(7,_),(62,_)] [(35,_),(52,_)] t4 t2 ?_))))
      refine ex_if rfl (fun he=>?_) (fun he=>?_)
      ·have he:=dt he
       obtain ⟨i,rfl⟩ : ∃ i,m = i + 1:=⟨m - 1,by omega⟩
       obtain ⟨r,hr⟩ : ∃ r,r = (val ws).toNat / 1000000000 ^ i % 1000000000:=⟨_,rfl⟩
       have hrl : r < 1000000000:=by rw [hr]; exact Nat.mod_lt _ (by decide)
       have hpl:=(pad_dec 8 (r:=r) (by exact hrl)).1
       have hgt : (lowK (val ws).toNat j).getD i 0 = (r : Int):=by rw [hr]; exact lowK_get (by omega)
       refine ex_skip (show Exec _ _ _ _ _ from ?_)
       refine ex_seq (ex_block (exr (mV (L rfl) rfl (mV (L rfl) rfl (sw (ixR0 un22 sz68 (by exact (by simp)) (j:=i) (by first | exact rfl | omega) (by omega) (L rfl)) t2 t1 ?_)))))
       refine sw (c_l1 ag68 (by exact (by simp)) (getC (by first | exact getW (by omega) | rfl)) (L rfl)) t1 t1 ?_
       refine sw (c_cv un68 un3 (L rfl) (show _ = (r : Int) by rw [hgt]; exact w64 (by omega) (by omega))) t1 t0 ?_
       refine cK hG hX cl128 hN (itoa_says r (by omega)) (L rfl) t1 ?_
       refine aV (L rfl) rfl (zn [(4,_),(6,_),(7,_),(8,_)] [(35,_),(52,_)] t4 t2 ?_)
       obtain ⟨D,hD⟩ : ∃ D,D = Lib.decDigits r:=⟨_,rfl⟩
       rw [← hD] at hpl ⊢
       obtain ⟨C,hC⟩ : ∃ C,C = if i + 1 < j then 9 - D.length else 0:=⟨_,rfl⟩
       have hC1 : (i + 1 < j ∧ C = 9 - D.length) ∨ (¬ i + 1 < j ∧ C = 0):=by
        by_cases h : i + 1 < j
        ·exact .inl ⟨h,by rw [hC,if_pos h]⟩
        ·exact .inr ⟨h,by rw [hC,if_neg h]⟩
       have hsz:=str_size D
       refine ex_seq (exr (mV (L rfl) rfl (sw (c_lS un9 (L rfl)) t1 t0 (aV (L rfl) rfl (zn [(4,_),(6,_),(7,_),(8,_),(9,_)] [(35,_),(52,_)] t5 t2 ?_)))))
       obtain ⟨O,hO⟩ : ∃ O,O = S ++ txt (val ws).toNat j (i + 1):=⟨_,rfl⟩
       rw [← hO] at hol ⊢
       refine ex_block ?_
       refine exl (α:=Nat) (fun c=>[(9,vi ((D.length : Int) + c)),(6,.ref 52 0 (O ++ List.replicate c 48).length (O ++ List.replicate c 48).length)]) (fun c=>[(52,⟨5,1,.pure (encB (O ++ List.replicate c 48))⟩)]) (fun c=>c ≤ C) (fun c=>C - c) (0) (sl:=[(4,_),(7,_),(8,_)]) (hb:=[(35,_)]) ?_ ⟨oi (by simp [str_size]) rfl,ov rfl (by simp),rfl,rfl,rfl,trivial⟩ ⟨obl rfl (by simp),rfl,trivial⟩ ?_
       ·exact Nat.zero_le _
       intro c hc
       refine ex_seq ?_
       refine exm (sl:=[(81,vb (decide (c < C)))]) (sl0:=[(4,_),(6,_),(7,_),(8,_),(9,_)]) (hb:=[]) (hb0:=[(35,_),(52,_)]) t5 t2 ?_ ?_
       ·by_cases h9 : D.length + c < 9
        ·refine mV (L rfl) rfl (sw (c_ls (L rfl)) t2 t0 (mV (L rfl) rfl (gV (g:=75) rfl (decide_eq_true (by omega)) (L rfl) rfl rfl ?_)))
         refine gV (g:=75) rfl (decide_eq_true (by omega)) (L rfl) rfl rfl ?_
         refine swg (g:=75) rfl (decide_eq_true (by omega)) (c_lr un22 (by exact (by simp)) (L rfl)) rfl t1 t1 ?_
         refine swg (g:=75) rfl (decide_eq_true (by omega)) (c_su (L rfl) (w64 (by omega) (by omega))) rfl t2 t0 ?_
         refine swg (g:=75) rfl (decide_eq_true (by omega)) (c_ls (L rfl)) rfl t2 t0 ?_
         refine sw (c_pt (decide_eq_true (by omega)) (L rfl)) t2 t0 ?_
         exact seq_nil ⟨⟨ob rfl (dec_eq (by omega)),rfl,rfl,rfl,rfl,rfl,trivial⟩,t2⟩
        ·refine mV (L rfl) rfl (sw (c_ls (L rfl)) t2 t0 (mV (L rfl) rfl (swn (g:=75) rfl (decide_eq_false (by omega)) (L rfl) rfl ?_)))
         refine swn (g:=75) rfl (decide_eq_false (by omega)) (L rfl) rfl ?_
         refine swn (g:=75) rfl (decide_eq_false (by omega)) (L rfl) rfl ?_
         refine swn (g:=75) rfl (decide_eq_false (by omega)) (L rfl) rfl ?_
         refine swn (g:=75) rfl (decide_eq_false (by omega)) (L rfl) rfl ?_
         refine sw (c_pf (decide_eq_false (by omega)) (L rfl)) t2 t0 ?_
         exact seq_nil ⟨⟨ob rfl (decide_eq_false (by omega)).symm,rfl,rfl,rfl,rfl,rfl,trivial⟩,t2⟩
       refine ex_if rfl (fun hf=>?_) (fun hf=>?_)
       ·have hf:=dt hf
        have h2 : (O ++ List.replicate c 48).length ≤ 9 * (j - (i + 1)) + 10:=by simp; omega
        refine ex_skip (show Exec _ _ _ _ _ from ?_)
        refine ex_seq (ex_block (exr0 (mV (L rfl) rfl (sw (c_bI (vs:=[_]) un116 ti5 rfl rfl (by decide) (by decide) rfl (zs_made (.cons rfl .nil) rfl) rfl (.cons rfl (.atom rfl) rfl pu1 .nil) (.cons .nil) (L rfl)) t1 t0 ?_))))
        refine swb (apP (sz:=1) un116 un116 ti5 rfl rfl rfl (by decide) (by exact (by simp)) (by first | omega | rfl) (by simp) rfl rfl rfl (by first | (simp [Tryz.t5]; done) | (simp [Tryz.t5]; omega)) (by omega) (P0 _ rfl) (L rfl)) t2 t1 t0 ?_
        refine aV (L rfl) rfl (seq_nil (exr0 (mV (L rfl) rfl (sw (c_ad (L rfl) (w64 (by omega) (by omega))) t2 t0 ?_))))
        refine aV (L rfl) rfl (seq_nil ?_)
        exact ⟨c + 1,(by omega),(by omega),le_of ⟨(by first | exact rfl | exact oi (by omega) rfl),ov rfl (by simp; omega),rfl,rfl,rfl,trivial⟩ ⟨obl rfl (by rw [List.replicate_succ',← List.append_assoc]; simp [encB]),rfl,trivial⟩⟩
       ·have hf:=df hf
        have hcC : c = C:=by omega
        have h2 : (O ++ List.replicate c 48).length ≤ 9 * (j - (i + 1)) + 10:=by simp; omega
        refine ex_exit (show Exec _ _ _ _ _ from ?_)
        refine exr0 (mV (L rfl) rfl (mV (L rfl) rfl (swb (apPS (m:=D.length) un116 un9 ti5 rfl rfl (by decide) (by exact (by simp)) (by first | rfl | omega) rfl rfl rfl rfl (by first | (simp [Tryz.t5]; done) | (simp [Tryz.t5]; omega)) (by omega) (P0 _ rfl) (L rfl)) t2 t1 t0 ?_)))
        refine aV (L rfl) rfl (seq_nil (exr0 (mV (L rfl) rfl (sw (c_su (L rfl) (w64 (by omega) (by omega))) t2 t0 ?_))))
        refine aV (L rfl) rfl (seq_nil ?_)
        have hts:=txt_succ hend htop (m:=i) (by omega)
        rw [← hr,← hD,← hC,← hcC] at hts
        have hfin : O ++ List.replicate c 48 ++ D = S ++ txt (val ws).toNat j i:=by rw [hO,← hts]; simp
        exact ⟨i,(by omega),(by omega),le_of ⟨(by first | exact rfl | exact oi (by omega) rfl),ov rfl (by rw [← hfin]; simp [Nat.add_assoc]),rfl,trivial⟩ ⟨obl rfl (by rw [← hfin]; simp [encB,encU,str]),rfl,trivial⟩⟩
      ·have he:=df he
       obtain rfl : m = 0:=by omega
       refine ex_exit (show Exec _ _ _ _ _ from ?_)
       refine exr (mV (L rfl) rfl (sw (c_b2 (l:=(S ++ txt (val ws).toNat j 0)) un116 un5 un9 rfl (by simp) rfl rfl (L rfl)) t1 t1 ?_))
       refine aV (L rfl) rfl (zn [(2,_)] [] t1 trivial (ex_ret ?_))
       refine ⟨.inr rfl,ResVs.cast (.cons (.tmp rfl) .nil) ?_⟩
       rw [← printV_eq hcn hpos,hS,txt_end hj0]; rfl
end Go.Proofs.YtcifhkfpmhifaaaGreatDoor.N
namespace Go.Proofs.YtcifhkfpmhifaaaGreatDoor.NumA
open Go.Lib
theorem u8_back {c : UInt8} (h : 48 ≤ c.toNat ∧ c.toNat ≤ 57) : UInt8.ofNat (48 + (dg c).toNat) = c:=by
  have : 48 + (dg c).toNat = c.toNat:=by unfold dg; omega
  rw [this]; simp
theorem dec_num : ∀ (n : Nat) (ds : List UInt8),ds.length = n + 1 → Digits ds → (((ds.getD 0 0).toNat ≠ 48) ∨ n = 0) → decDigits (numI ds).toNat = ds ∧ ((ds.getD 0 0).toNat ≠ 48 → 0 < numI ds)
  | 0,ds,hl,hd,_=>by
    obtain ⟨c,rfl⟩ : ∃ c,ds = [c]:=List.length_eq_one_iff.1 hl
    have hc:=hd c (by simp)
    have e : numI [c] = dg c:=by simp [numI]
    rw [e]
    have : (dg c).toNat < 10:=by unfold dg; omega
    refine ⟨by rw [dec_small this,u8_back hc],fun h=>?_⟩
    simp only [List.getD_cons_zero] at h
    unfold dg; omega
  | n + 1,ds,hl,hd,h=>by
    have hne : ds ≠ []:=by intro e; subst e; simp at hl
    obtain ⟨asx,c,rfl⟩ : ∃ asx c,ds = asx ++ [c]:=⟨ds.dropLast,ds.getLast hne,(List.dropLast_concat_getLast hne).symm⟩
    have hal : asx.length = n + 1:=by simpa using hl
    have hg : (asx ++ [c]).getD 0 0 = asx.getD 0 0:=by
      rw [List.getD_eq_getElem?_getD,List.getElem?_append_left (by omega),← List.getD_eq_getElem?_getD]
    have hc:=hd c (by simp)
    have hda : Digits asx:=fun x hx=>hd x (List.mem_append_left _ hx)
    rw [hg] at h ⊢
    have h1 : (asx.getD 0 0).toNat ≠ 48:=by rcases h with h | h; exact h; omega
    obtain ⟨ih1,ih2⟩:=dec_num n asx hal hda (.inl h1)
    have hp:=ih2 h1
    have hcd : 0 ≤ dg c ∧ dg c < 10:=by unfold dg; omega
    rw [numI_snoc]
    refine ⟨?_,fun _=>by omega⟩
    have e1 : (10 * numI asx + dg c).toNat / 10 = (numI asx).toNat:=by omega
    have e2 : (10 * numI asx + dg c).toNat % 10 = (dg c).toNat:=by omega
    rw [dec_big (by omega),e1,e2,ih1,u8_back hc]
theorem dec_head : ∀ (n u : Nat),u ≤ n → 0 < u → ((decDigits u).getD 0 0).toNat ≠ 48:=by
  intro n
  induction n with
  | zero=>intro u h1 h2; omega
  | succ n ih =>
    intro u h1 h2
    by_cases h : u < 10
    · rw [dec_small h]
      simp only [List.getD_cons_zero]
      have : (UInt8.ofNat (48 + u)).toNat = 48 + u:=by simp; omega
      omega
    · rw [dec_big h]
      have hl:=dec_pos (u / 10)
      have hg : (decDigits (u / 10) ++ [UInt8.ofNat (48 + u % 10)]).getD 0 0 = (decDigits (u / 10)).getD 0 0:=by
        rw [List.getD_eq_getElem?_getD,List.getElem?_append_left (by omega),← List.getD_eq_getElem?_getD]
      rw [hg]
      exact ih (u / 10) (by omega) (by omega)
theorem dec_len {u k : Nat} (h : u < 10 ^ (k + 1)) : (decDigits u).length ≤ k + 1:=(pad_dec k h).1
end Go.Proofs.YtcifhkfpmhifaaaGreatDoor.NumA
namespace Go.Proofs.YtcifhkfpmhifaaaGreatDoor.NumA
open Go.Lib
end Go.Proofs.YtcifhkfpmhifaaaGreatDoor.NumA
set_option maxRecDepth 100000
set_option maxHeartbeats 4000000
namespace Go.Proofs.YtcifhkfpmhifaaaGreatDoor.N
open Go Go.Proofs.YtcifhkfpmhifaaaGreatDoor.SH Go.Proofs.YtcifhkfpmhifaaaGreatDoor.NumA
open Go.Proofs.Tryz renaming call110 → cl110,call114 → cl114,call120 → cl120,call86 → cl86,isAgg24 → ag24,sizeOf22 → sz22,sizeOf24 → sz24,sizeOf4 → sz4,typeInfo68 → ti68,underlying22 → un22,underlying24 → un24,underlying5 → un5,underlying68 → un68,underlying9 → un9,zeroValue24 → zv24
def pNeg (bs : List UInt8) : Bool:=decide (0 < bs.length ∧ ((bs.getD 0 0).toNat : Int) = 45)
def pDs (bs : List UInt8) : List UInt8:=if pNeg bs = true then bs.drop 1 else bs
def pBad (ds : List UInt8) (neg : Bool) : Bool:=decide (ds.length = 0 ∨ (((ds.getD 0 0).toNat : Int) = 48 ∧ (1 < ds.length ∨ neg = true)))
instance (ds : List UInt8) : Decidable (Digits ds):=inferInstanceAs (Decidable (∀ c ∈ ds,48 ≤ c.toNat ∧ c.toNat ≤ 57))
def parseE (bs : List UInt8) : Int:=if pBad (pDs bs) (pNeg bs) = true ∨ ¬ Digits (pDs bs) then 3 else if 20000 < (pDs bs).length then 2 else 0
def parseV (bs : List UInt8) : Int:=if parseE bs = 0 then sg (pNeg bs) (numI (pDs bs)) else 0
theorem pcases (ds : List UInt8) : ds.length = 0 ∨ (ds.length ≠ 0 ∧ ¬ ((ds.getD 0 0).toNat : Int) = 48) ∨ (((ds.getD 0 0).toNat : Int) = 48 ∧ 1 < ds.length) ∨ (ds.length ≠ 0 ∧ ((ds.getD 0 0).toNat : Int) = 48 ∧ ¬ 1 < ds.length):=by
 by_cases h1 : ds.length = 0
 ·exact .inl h1
 ·by_cases h2 : ((ds.getD 0 0).toNat : Int) = 48
  ·by_cases h3 : 1 < ds.length
   ·exact .inr (.inr (.inl ⟨h2,h3⟩))
   ·exact .inr (.inr (.inr ⟨h1,h2,h3⟩))
  ·exact .inr (.inl ⟨h1,h2⟩)
theorem Digits.snoc {ds : List UInt8} {j : Nat} (h : Digits (ds.take j)) (hj : j < ds.length) (h1 : 48 ≤ (ds.getD j 0).toNat ∧ (ds.getD j 0).toNat ≤ 57) : Digits (ds.take (j + 1)):=by
 rw [List.take_succ_eq_append_getElem hj]
 intro c hc
 rcases List.mem_append.1 hc with hc | hc
 ·exact h c hc
 ·rw [List.mem_singleton.1 hc]
  rw [List.getD_eq_getElem?_getD,List.getElem?_eq_getElem hj] at h1
  exact h1
end Go.Proofs.YtcifhkfpmhifaaaGreatDoor.N
set_option maxRecDepth 100000
set_option maxHeartbeats 4000000
namespace Go.Proofs.YtcifhkfpmhifaaaGreatDoor.N
open Go Go.Proofs.YtcifhkfpmhifaaaGreatDoor.SH Go.Proofs.YtcifhkfpmhifaaaGreatDoor.NumA
open Go.Proofs.Tryz renaming call120 → cl120,call15 → cl15,isAgg22 → ag22,isAgg24 → ag24,isAgg4 → ag4,isAgg5 → ag5,isAgg68 → ag68,sizeOf22 → sz22,sizeOf24 → sz24,sizeOf4 → sz4,sizeOf5 → sz5,sizeOf68 → sz68,typeInfo5 → ti5,typeInfo68 → ti68,underlying116 → un116,underlying22 → un22,underlying24 → un24,underlying5 → un5,underlying68 → un68,underlying78 → un78,underlying9 → un9
theorem ten_big' (a : Int) : a.natAbs < 10 ^ (10 * nw a + 1):=by
 have h1:=nw_lt (a:=a)
 have h2 : (4294967296 : Nat) ^ nw a ≤ (10 ^ 10) ^ nw a:=Nat.pow_le_pow_left (by decide) _
 rw [← Nat.pow_mul] at h2
 have h3 : 10 ^ (10 * nw a) ≤ 10 ^ (10 * nw a + 1):=Nat.pow_le_pow_right (by decide) (by omega)
 have h4 : a.natAbs < 4294967296 ^ nw a:=by
  have : ((a.natAbs : Nat) : Int) < ((4294967296 ^ nw a : Nat) : Int):=by rw [Int.natCast_pow]; exact h1
  exact Int.ofNat_lt.1 this
 exact Nat.lt_of_lt_of_le h4 (Nat.le_trans h2 h3)
end Go.Proofs.YtcifhkfpmhifaaaGreatDoor.N
namespace Go.Proofs.YtcifhkfpmhifaaaGreatDoor.NumA
def qw (a : Rat) : Nat:=max (nw a.num) (nw a.den)
theorem nw_num_le (a : Rat) : nw a.num ≤ qw a:=Nat.le_max_left _ _
theorem nw_den_le (a : Rat) : nw (a.den : Int) ≤ qw a:=Nat.le_max_right _ _
def sgcd (n d : Int) : Int:=if d < 0 then -(Int.gcd n d : Int) else Int.gcd n d
theorem ovr_num {n d : Int} (h : d ≠ 0) : (Rat.divInt n d).num = n / sgcd n d:=by
  rw [Rat.num_divInt,sgcd,Int.gcd_comm]
  rcases Int.lt_trichotomy d 0 with h0 | h0 | h0
  · rw [if_pos h0,Int.sign_eq_neg_one_of_neg h0,Int.ediv_neg,Int.neg_one_mul]
    rw [Int.neg_ediv_of_dvd (Int.gcd_dvd_left ..)]
  · exact absurd h0 h
  · rw [if_neg (by omega),Int.sign_eq_one_of_pos h0,Int.one_mul]
theorem ovr_den {n d : Int} (h : d ≠ 0) : ((Rat.divInt n d).den : Int) = d / sgcd n d:=by
  rw [Rat.den_divInt,if_neg h,sgcd,Int.gcd_comm,Int.natCast_ediv]
  rcases Int.lt_trichotomy d 0 with h0 | h0 | h0
  · rw [if_pos h0,Int.ediv_neg,show ((d.natAbs : Nat) : Int) = -d by omega,Int.neg_ediv_of_dvd (Int.gcd_dvd_right ..)]
  · exact absurd h0 h
  · rw [if_neg (by omega),show ((d.natAbs : Nat) : Int) = d by omega]
theorem qw_ovr {n d : Int} (h : d ≠ 0) : qw (Rat.divInt n d) ≤ max (nw n) (nw d):=by
  unfold qw
  rw [ovr_num h,ovr_den h]
  have h1 : nw (n / sgcd n d) ≤ nw n:=nw_mono (Int.natAbs_ediv_le_natAbs ..)
  have h2 : nw (d / sgcd n d) ≤ nw d:=nw_mono (Int.natAbs_ediv_le_natAbs ..)
  omega
theorem den_ne (a : Rat) : (a.den : Int) ≠ 0:=by have:=a.den_nz; omega
theorem den_pos (a : Rat) : 0 < (a.den : Int):=by have:=a.den_pos; omega
theorem q_self (a : Rat) : Rat.divInt a.num a.den = a:=by rw [Rat.divInt_ofNat,Rat.mkRat_self]
theorem q_add (a b : Rat) : Rat.divInt (a.num * b.den + b.num * a.den) (a.den * b.den) = a + b:=by
  have:=Rat.divInt_add_divInt a.num b.num (den_ne a) (den_ne b)
  rw [q_self,q_self] at this
  exact this.symm
theorem q_mul (a b : Rat) : Rat.divInt (a.num * b.num) (a.den * b.den) = a * b:=by
  have:=Rat.divInt_mul_divInt a.num b.num (d₁:=a.den) (d₂:=b.den)
  rw [q_self,q_self] at this
  exact this.symm
theorem q_inv (a : Rat) : Rat.divInt a.den a.num = a⁻¹:=(Rat.inv_def a).symm
theorem q_div (a b : Rat) : Rat.divInt (a.num * b.den) (a.den * b.num) = a / b:=by
  rw [Rat.div_def,← q_inv b,← q_self a,Rat.divInt_mul_divInt,q_self]
theorem num_ne {a : Rat} : a.num ≠ 0 ↔ a ≠ 0:=by rw [Ne,Rat.num_eq_zero]
theorem qw_add (a b : Rat) : qw (a + b) ≤ qw a + qw b + 1:=by
  rw [← q_add]
  have h1:=qw_ovr (n:=a.num * b.den + b.num * a.den) (d:=a.den * b.den) (Int.mul_ne_zero (den_ne a) (den_ne b))
  have h2:=nw_add (a.num * b.den) (b.num * a.den)
  have h3:=nw_mul a.num b.den
  have h4:=nw_mul b.num a.den
  have h5:=nw_mul a.den b.den
  have:=nw_num_le a; have:=nw_num_le b; have:=nw_den_le a; have:=nw_den_le b
  omega
theorem qw_mul (a b : Rat) : qw (a * b) ≤ qw a + qw b:=by
  rw [← q_mul]
  have h1:=qw_ovr (n:=a.num * b.num) (d:=a.den * b.den) (Int.mul_ne_zero (den_ne a) (den_ne b))
  have h3:=nw_mul a.num b.num
  have h5:=nw_mul a.den b.den
  have:=nw_num_le a; have:=nw_num_le b; have:=nw_den_le a; have:=nw_den_le b
  omega
theorem qw_neg (a : Rat) : qw (-a) = qw a:=by unfold qw; rw [Rat.neg_num,Rat.neg_den,nw_neg]
theorem qw_sub (a b : Rat) : qw (a - b) ≤ qw a + qw b + 1:=by rw [Rat.sub_eq_add_neg,← qw_neg b]; exact qw_add a (-b)
theorem qw_inv {a : Rat} (h : a ≠ 0) : qw a⁻¹ ≤ qw a:=by
  rw [← q_inv]
  have h1:=qw_ovr (n:=a.den) (d:=a.num) (num_ne.2 h)
  unfold qw; unfold qw at h1; omega
theorem qw_div {a b : Rat} (h : b ≠ 0) : qw (a / b) ≤ qw a + qw b:=by
  rw [Rat.div_def]; have:=qw_mul a b⁻¹; have:=qw_inv h; omega
theorem qw_zero : qw 0 = 1:=by simp [qw,nw_one,nw_zero.2]
theorem qw_one : qw 1 = 1:=by simp [qw,nw_one]
theorem qw_pos (a : Rat) : 0 < qw a:=by
  have : nw (a.den : Int) ≠ 0:=by rw [Ne,nw_zero]; exact den_ne a
  unfold qw; omega
def cmpQ (a b : Rat) : Int:=if a < b then -1 else if b < a then 1 else 0
theorem q_cmp (a b : Rat) : cmpI (a.num * b.den) (b.num * a.den) = cmpQ a b:=by
  unfold cmpI cmpQ
  simp only [Rat.lt_iff]
theorem q_sign (a : Rat) : a.num.sign = cmpQ a 0:=by
  rw [← q_cmp]
  unfold cmpI
  simp only [Rat.zero_num,Rat.zero_den,Int.zero_mul,Int.natCast_one,Int.mul_one]
  rcases Int.lt_trichotomy a.num 0 with h | h | h
  · rw [if_pos h,Int.sign_eq_neg_one_of_neg h]
  · rw [h,if_neg (by omega),if_neg (by omega)]; rfl
  · rw [if_neg (by omega),if_pos h,Int.sign_eq_one_of_pos h]
theorem q_sign0 (a : Rat) : a.num.sign = 0 ↔ a = 0:=by rw [Int.sign_eq_zero_iff_zero,Rat.num_eq_zero]
theorem q_ext {a b : Rat} (h1 : a.num = b.num) (h2 : (a.den : Int) = b.den) : a = b:=Rat.ext h1 (by omega)
theorem divInt_one' (n : Int) : Rat.divInt n 1 = (n : Rat):=by
  refine q_ext ?_ ?_
  · rw [ovr_num (by decide)]; simp [sgcd]
  · rw [ovr_den (by decide)]; simp [sgcd]
theorem sgcd_ne {n d : Int} (h : d ≠ 0) : sgcd n d ≠ 0:=by
  have : Int.gcd n d ≠ 0:=by rw [Ne,Int.gcd_eq_zero_iff]; exact fun hh=>h hh.2
  unfold sgcd; split <;> omega
theorem sgcd_nw {n d : Int} (h : d ≠ 0) : nw (sgcd n d) ≤ nw d:=by
  have:=gcd_nw (a:=n) h
  unfold sgcd; split
  · rwa [nw_neg]
  · exact this
theorem sgcd_one {n d : Int} (h : Int.gcd n d = 1) (h0 : ¬ d < 0) : sgcd n d = 1:=by rw [sgcd,if_neg h0,h]; rfl
end Go.Proofs.YtcifhkfpmhifaaaGreatDoor.NumA
set_option maxRecDepth 100000
set_option maxHeartbeats 4000000
namespace Go.Proofs.YtcifhkfpmhifaaaGreatDoor.N
open Go Go.Proofs.YtcifhkfpmhifaaaGreatDoor.SH Go.Proofs.YtcifhkfpmhifaaaGreatDoor.NumA
open Go.Proofs.Tryz renaming call112 → cl112,call58 → cl58,call60 → cl60,call63 → cl63,call66 → cl66,call69 → cl69,call72 → cl72,call74 → cl74,isAgg22 → ag22,isAgg24 → ag24,isAgg26 → ag26,isAgg4 → ag4,isAgg68 → ag68,sizeOf22 → sz22,sizeOf24 → sz24,sizeOf26 → sz26,sizeOf4 → sz4,sizeOf68 → sz68,underlying22 → un22,underlying24 → un24,underlying26 → un26,zeroValue24 → zv24,zeroValue26 → zv26
@[reducible] def pR (m : Bool) (ws : List Int) (n : Bool) (vs : List Int) : Pure:=.agg [.a (.bool m),.sl ws.length (encW ws),.a (.bool n),.sl vs.length (encW vs)]
@[reducible] def pN (n d : Int) : Pure:=pR (decide (n < 0)) (digs n.natAbs) (decide (d < 0)) (digs d.natAbs)
@[reducible] def pQ (a : Rat) : Pure:=pN a.num a.den
theorem cN {a : Rat} {n d : Int} (h1 : a.num = n) (h2 : (a.den : Int) = d) : pN n d = pQ a:=by subst h1 h2; rfl
theorem one_digs (n : Int) : n = 1 ↔ (digs n.natAbs).length = 1 ∧ (digs n.natAbs).getD 0 0 = 1 ∧ ¬ n < 0:=by
 constructor
 ·rintro rfl; refine ⟨nw_one,?_,by decide⟩
  have : val (digs 1) = 1:=val_digs 1
  have h1 : (digs 1).length = 1:=nw_one
  show (digs 1).getD 0 0 = 1
  match digs 1,h1,this with
  | [w],_,h=>simpa [val] using h
 ·rintro ⟨h1,h2,h3⟩
  have h4:=val_digs n.natAbs
  match e : digs n.natAbs,h1 with
  | [w],_ =>
   rw [e] at h2 h4
   simp only [val,List.getD_cons_zero] at h2 h4
   omega
theorem one3 (n : Int) : ((digs n.natAbs).length ≠ 1 ∧ n ≠ 1) ∨ ((digs n.natAbs).length = 1 ∧ (digs n.natAbs).getD 0 0 ≠ 1 ∧ n ≠ 1) ∨ ((digs n.natAbs).length = 1 ∧ (digs n.natAbs).getD 0 0 = 1 ∧ (n = 1 ↔ ¬ n < 0)):=by
 have:=one_digs n
 by_cases h1 : (digs n.natAbs).length = 1
 ·by_cases h2 : (digs n.natAbs).getD 0 0 = 1
  ·exact .inr (.inr ⟨h1,h2,by rw [this]; simp only [h1,h2,true_and]⟩)
  ·exact .inr (.inl ⟨h1,h2,fun h=>h2 (this.1 h).2.1⟩)
 ·exact .inl ⟨h1,fun h=>h1 (this.1 h).1⟩
theorem isOneZ (n : Int) (h : nw n < 999999999999) : Says E 69 [pZ n] (bZ (decide (n = 1))):=by
 refine says_of (xs:=[bZ (decide (n = 1))]) Tryz.func69 rfl Tryz.ntmps69 Tryz.results69 (by simp) fun F hG hX0 hnt hdf P0=>?_
 obtain ⟨L,hX,hN⟩:=pro hnt hX0 hG
 unfold nw at h
 refine exr (swb (c_bx (k:=1) (n:=2) pa2 rfl rfl (P0 _ rfl) (L rfl)) t1 t0 ⟨rfl,rfl⟩ (aV (L rfl) rfl (zn [(1,_)] [(1,_)] t1 t1 ?_)))
 refine exm (sl:=[(2,vb (decide (n = 1)))]) (sl0:=[]) (hb:=[]) (hb0:=[]) t0 t0 ?_ ?_
 ·rcases one3 n with ⟨h1,h2⟩ | ⟨h1,h2,h3⟩ | ⟨h1,h2,h3⟩
  ·refine sw (c_fa un24 rfl sz22 (by decide) (by exact rfl) (L rfl)) t1 t1 ?_
   refine sw (c_l1 ag22 (by rfl) (by rfl) (L rfl)) t1 t1 ?_
   refine sw (c_ln un22 (L rfl)) t1 t0 (sw (c_e (L rfl)) t2 t0 (mV (L rfl) rfl (swn (g:=7) rfl (by simp; omega) (L rfl) rfl ?_)))
   refine swn (g:=7) rfl (by simp; omega) (L rfl) rfl ?_
   refine swn (g:=7) rfl (by simp; omega) (L rfl) rfl ?_
   refine swn (g:=7) rfl (by simp; omega) (L rfl) rfl ?_
   refine swn (g:=7) rfl (by simp; omega) (L rfl) rfl ?_
   refine sw (c_pf (by simp; omega) (L rfl)) t2 t0 ?_
   refine mV (L rfl) rfl (swn (g:=14) rfl rfl (L rfl) rfl (swn (g:=14) rfl rfl (L rfl) rfl (swn (g:=14) rfl rfl (L rfl) rfl (sw (c_pf rfl (L rfl)) t2 t0 (aV (L rfl) rfl ?_)))))
   exact seq_nil ⟨⟨ob rfl (by simp [h2]),trivial⟩,trivial⟩
  ·refine sw (c_fa un24 rfl sz22 (by decide) (by exact rfl) (L rfl)) t1 t1 ?_
   refine sw (c_l1 ag22 (by rfl) (by rfl) (L rfl)) t1 t1 ?_
   refine sw (c_ln un22 (L rfl)) t1 t0 (sw (c_e (L rfl)) t2 t0 (mV (L rfl) rfl (swg (g:=7) rfl (by simp; omega) (c_fa un24 rfl sz22 (by decide) (by exact rfl) (L rfl)) rfl t1 t1 ?_)))
   refine swg (g:=7) rfl (by simp; omega) (c_l1 ag22 (by rfl) (by rfl) (L rfl)) rfl t1 t1 ?_
   refine swg (g:=7) rfl (by simp; omega) (ixJ un22 sz68 (j:=0) rfl (by omega) (by simp) (L rfl)) rfl t2 t0 ?_
   refine swg (g:=7) rfl (by simp; omega) (c_li ag68 (by first | exact getW (by omega) | rfl) (L rfl)) rfl t1 t0 ?_
   refine swg (g:=7) rfl (by simp; omega) (c_e (L rfl)) rfl t2 t0 ?_
   refine sw (c_pt (by simp; omega) (L rfl)) t2 t0 ?_
   refine mV (L rfl) rfl (swn (g:=14) rfl (by simpa using h2) (L rfl) rfl ?_)
   refine swn (g:=14) rfl (by simpa using h2) (L rfl) rfl ?_
   refine swn (g:=14) rfl (by simpa using h2) (L rfl) rfl ?_
   refine sw (c_pf (by simpa using h2) (L rfl)) t2 t0 ?_
   refine aV (L rfl) rfl ?_
   exact seq_nil ⟨⟨ob rfl (by simp [h3]),trivial⟩,trivial⟩
  ·refine sw (c_fa un24 rfl sz22 (by decide) (by exact rfl) (L rfl)) t1 t1 ?_
   refine sw (c_l1 ag22 (by rfl) (by rfl) (L rfl)) t1 t1 ?_
   refine sw (c_ln un22 (L rfl)) t1 t0 (sw (c_e (L rfl)) t2 t0 (mV (L rfl) rfl (swg (g:=7) rfl (by simp; omega) (c_fa un24 rfl sz22 (by decide) (by exact rfl) (L rfl)) rfl t1 t1 ?_)))
   refine swg (g:=7) rfl (by simp; omega) (c_l1 ag22 (by rfl) (by rfl) (L rfl)) rfl t1 t1 ?_
   refine swg (g:=7) rfl (by simp; omega) (ixJ un22 sz68 (j:=0) rfl (by omega) (by simp) (L rfl)) rfl t2 t0 ?_
   refine swg (g:=7) rfl (by simp; omega) (c_li ag68 (by first | exact getW (by omega) | rfl) (L rfl)) rfl t1 t0 ?_
   refine swg (g:=7) rfl (by simp; omega) (c_e (L rfl)) rfl t2 t0 ?_
   refine sw (c_pt (by simp; omega) (L rfl)) t2 t0 ?_
   refine mV (L rfl) rfl (swg (g:=14) rfl (by simpa using h2) (c_fa un24 rfl sz4 (by decide) (by exact rfl) (L rfl)) rfl t1 t1 ?_)
   refine swg (g:=14) rfl (by simpa using h2) (c_l1 ag4 (by rfl) (by rfl) (L rfl)) rfl t1 t1 ?_
   refine swg (g:=14) rfl (by simpa using h2) (c_no (L rfl)) rfl t1 t0 ?_
   refine sw (c_pt (by simpa using h2) (L rfl)) t2 t0 ?_
   refine aV (L rfl) rfl ?_
   exact seq_nil ⟨⟨ob rfl (by rw [dec_eq h3]; exact (decide_not ..).symm),trivial⟩,trivial⟩
 refine ex_ret ?_
 refine ⟨.inr rfl,ResVs.cast (.cons (.tmp rfl) .nil) ?_⟩
 rfl
theorem one_says  : Says E 63 [] (pZ 1):=by
 refine says_of (xs:=[pZ 1]) Tryz.func63 rfl Tryz.ntmps63 Tryz.results63 (by simp) fun F hG hX0 hnt hdf P0=>?_
 obtain ⟨L,hX,hN⟩:=pro hnt hX0 hG
 refine exr (swb (c_al (k:=0) (n:=2) zv24 (.cons rfl (.cons rfl .nil)) rfl (P0 _ rfl) (L rfl)) t0 t0 ⟨rfl,rfl⟩ (zn [(0,_)] [(0,_)] t1 t1 (exr (cK hG hX cl58 hN (of_says 1 (by decide) (by decide)) (L rfl) t1 ?_))))
 refine sb (c_sm sz24 (by rfl) pa2 rfl pu2) t2 t1 ?_
 refine zn [(0,_)] [(0,_)] t1 t1 (ex_ret ?_)
 refine ⟨.inr rfl,ResVs.cast (.cons (.agg rfl rfl rfl ag24 sz24 (.cons (.cons .nil))) .nil) ?_⟩
 rfl
theorem wholeZ (a b : Int) (ha : nw a < 99999999999) (hb : nw b < 99999999999) (h0 : b ≠ 0) : Says E 74 [pZ a,pZ b] (pZ (a / b)):=by
 refine says_of (xs:=[pZ (a / b)]) Tryz.func74 rfl Tryz.ntmps74 Tryz.results74 (by simp) fun F hG hX0 hnt hdf P0=>?_
 obtain ⟨L,hX,hN⟩:=pro hnt hX0 hG
 refine exr (swb (c_bx (k:=2) (n:=2) pa2 rfl rfl (P0 _ rfl) (L rfl)) t1 t0 ⟨rfl,rfl⟩ (swb (c_bx (k:=3) (n:=2) pa2 rfl rfl (P0 _ rfl) (L rfl)) t1 t0 ⟨rfl,rfl⟩ (swb (c_al (k:=4) (n:=2) zv24 (.cons rfl (.cons rfl .nil)) rfl (P0 _ rfl) (L rfl)) t0 t0 ⟨rfl,rfl⟩ (zn [(2,_),(3,_),(4,_)] [(2,_),(3,_),(4,_)] t3 t3 (exr (lp2 ag24 sz24 (L rfl) rfl rfl (lp2 ag24 sz24 (L rfl) rfl rfl (cK hG hX cl112 hN (divZ a b (by omega) (by omega) h0) (L rfl) t2 ?_))))))))
 refine mV (L rfl) rfl (sw (c_ex rfl (L rfl)) t1 t0 (sw (c_ex rfl (L rfl)) t1 t0 (sw (c_ex rfl (L rfl)) t1 t0 (swb (c_al (k:=5) (n:=2) zv24 (.cons rfl (.cons rfl .nil)) rfl (P0 _ rfl) (L rfl)) t0 t0 ⟨rfl,rfl⟩ (swb (c_al (k:=6) (n:=2) zv24 (.cons rfl (.cons rfl .nil)) rfl (P0 _ rfl) (L rfl)) t0 t0 ⟨rfl,rfl⟩ (sb (c_sm sz24 (by rfl) pa2 rfl pu2) t2 t1 ?_))))))
 refine sb (c_sm sz24 (by rfl) pa2 rfl pu2) t2 t1 ?_
 refine aV (L rfl) rfl (zn [(4,_),(5,_)] [(4,_),(5,_)] t2 t2 (exr (lp2 ag24 sz24 (L rfl) rfl rfl (sb (c_sm sz24 (by rfl) pa2 rfl pu2) t2 t1 ?_))))
 refine zn [(4,_)] [(4,_)] t1 t1 (ex_ret ?_)
 refine ⟨.inr rfl,ResVs.cast (.cons (.agg rfl rfl rfl ag24 sz24 (.cons (.cons .nil))) .nil) ?_⟩
 rfl
theorem sign3 (a : Int) : a.sign = -1 ∧ a < 0 ∨ a.sign = 0 ∧ a = 0 ∨ a.sign = 1 ∧ 0 < a:=by
 rcases Int.lt_trichotomy a 0 with h | h | h
 ·exact .inl ⟨Int.sign_eq_neg_one_of_neg h,h⟩
 ·exact .inr (.inl ⟨by rw [h]; rfl,h⟩)
 ·exact .inr (.inr ⟨Int.sign_eq_one_of_pos h,h⟩)
theorem gz {n d : Int} (h0 : d ≠ 0) : (Int.gcd n d : Int) ≠ 0:=by
 intro h; exact h0 (Int.gcd_eq_zero_iff.1 (show Int.gcd n d = 0 by omega)).2
theorem gn {n d : Int} {k : Nat} (h0 : d ≠ 0) (hd : nw d < k) : nw (Int.gcd n d : Int) < k:=Nat.lt_of_le_of_lt (gcd_nw h0) hd
theorem gs {n d : Int} (h0 : d ≠ 0) : ¬ (Int.gcd n d : Int).sign = 0:=by rw [Int.sign_eq_zero_iff_zero]; exact gz h0
theorem sg0 {d : Int} : (d.sign < 0) = (d < 0):=by
 rcases sign3 d with h | h | h <;> (rw [h.1]; simp <;> omega)
theorem sgn {n d : Int} (h : d < 0) : sgcd n d = -(Int.gcd n d : Int):=by rw [sgcd,if_pos h]
theorem sgp {n d : Int} (h : ¬ d < 0) : sgcd n d = Int.gcd n d:=by rw [sgcd,if_neg h]
theorem overZ (n d : Int) (h0 : d ≠ 0) (hn : nw n < 90000000000) (hd : nw d < 90000000000) : Says E 61 [pZ n,pZ d] (pQ (Rat.divInt n d)):=by
 refine says_of (xs:=[pQ (Rat.divInt n d)]) Tryz.func61 rfl Tryz.ntmps61 Tryz.results61 (by simp) fun F hG hX0 hnt hdf P0=>?_
 obtain ⟨L,hX,hN⟩:=pro hnt hX0 hG
 have hg:=gn (n:=n) h0 hd
 have hs:=sgcd_ne (n:=n) h0
 have hw:=sgcd_nw (n:=n) h0
 refine exr (swb (c_bx (k:=2) (n:=2) pa2 rfl rfl (P0 _ rfl) (L rfl)) t1 t0 ⟨rfl,rfl⟩ (swb (c_bx (k:=3) (n:=2) pa2 rfl rfl (P0 _ rfl) (L rfl)) t1 t0 ⟨rfl,rfl⟩ (swb (c_al (k:=4) (n:=4) zv26 (.cons rfl (.cons rfl (.cons rfl (.cons rfl .nil)))) rfl (P0 _ rfl) (L rfl)) t0 t0 ⟨rfl,rfl⟩ (zn [(2,_),(3,_),(4,_)] [(2,_),(3,_),(4,_)] t3 t3 (ex_seq (exr (lp2 ag24 sz24 (L rfl) rfl rfl (cK hG hX cl69 hN (isOneZ d (by omega)) (L rfl) t1 ?_))))))))
 refine zn [(2,_),(3,_),(4,_),(7,_)] [(2,_),(3,_),(4,_)] t4 t3 ?_
 refine ex_if rfl (fun h1=>?_) (fun h1=>?_)
 ·have h1:=dt h1
  refine exr (lp2 ag24 sz24 (L rfl) rfl rfl (lp2 ag24 sz24 (L rfl) rfl rfl (sw (c_bp (vs:=[_,_]) un26 zv26 (.cons rfl (.cons rfl (.cons rfl (.cons rfl .nil)))) ((Places.cons sz24 (Places.cons sz24 Places.nil))).to rfl (.cons rfl pa2 rfl pu2 (.cons rfl pa2 rfl (.skip (.skip pu2)) .nil)) (.cons (.cons (.cons (.cons .nil)))) (L rfl)) t2 t0 (sb (c_sm sz26 (by rfl) pa4 rfl pu4) t2 t1 ?_))))
  refine zn [(4,_)] [(4,_)] t1 t1 (ex_ret ?_)
  refine ⟨.inr rfl,ResVs.cast (.cons (.agg rfl rfl rfl ag26 sz26 (.cons (.cons (.cons (.cons .nil))))) .nil) ?_⟩
  exact congrArg (· :: []) (cN (by rw [h1,divInt_one']; rfl) (by rw [h1,divInt_one']; rfl))
 ·refine ex_skip (show Exec _ _ _ _ _ from ?_)
  refine exr (lp2 ag24 sz24 (L rfl) rfl rfl (lp2 ag24 sz24 (L rfl) rfl rfl (cK hG hX cl66 hN (gcdZ n d (by omega) (by omega)) (L rfl) t2 ?_)))
  refine swb (c_al (k:=5) (n:=2) zv24 (.cons rfl (.cons rfl .nil)) rfl (P0 _ rfl) (L rfl)) t0 t0 ⟨rfl,rfl⟩ (sb (c_sm sz24 (by rfl) pa2 rfl pu2) t2 t1 ?_)
  refine zn [(2,_),(3,_),(4,_),(5,_)] [(2,_),(3,_),(4,_),(5,_)] t4 t4 (ex_seq ?_)
  refine exm (sl:=[(20,vb (decide ((Int.gcd n d : Int) = 1 ∧ ¬ d < 0)))]) (sl0:=[(2,_),(3,_),(4,_),(5,_)]) (hb:=[]) (hb0:=[(2,_),(3,_),(4,_),(5,_)]) t4 t4 ?_ ?_
  ·by_cases hg1 : (Int.gcd n d : Int) = 1
   ·refine lp2 ag24 sz24 (L rfl) rfl rfl (cK hG hX cl69 hN (isOneZ (Int.gcd n d : Int) (by omega)) (L rfl) t1 ?_)
    refine mV (L rfl) rfl (swg (g:=16) rfl (by simp [hg1]) (c_fa un24 rfl sz4 (by decide) (by exact rfl) (L rfl)) rfl t1 t1 ?_)
    refine swg (g:=16) rfl (by simp [hg1]) (c_l1 ag4 (by rfl) (by rfl) (L rfl)) rfl t1 t1 ?_
    refine swg (g:=16) rfl (by simp [hg1]) (c_no (L rfl)) rfl t1 t0 ?_
    refine sw (c_pt (by simp [hg1]) (L rfl)) t2 t0 ?_
    exact seq_nil ⟨⟨ob rfl (by simp only [hg1,true_and]; exact (decide_not ..).symm),rfl,rfl,rfl,rfl,trivial⟩,t4⟩
   ·refine lp2 ag24 sz24 (L rfl) rfl rfl (cK hG hX cl69 hN (isOneZ (Int.gcd n d : Int) (by omega)) (L rfl) t1 ?_)
    refine mV (L rfl) rfl (swn (g:=16) rfl (by simp [hg1]) (L rfl) rfl ?_)
    refine swn (g:=16) rfl (by simp [hg1]) (L rfl) rfl ?_
    refine swn (g:=16) rfl (by simp [hg1]) (L rfl) rfl ?_
    refine sw (c_pf (by simp [hg1]) (L rfl)) t2 t0 ?_
    exact seq_nil ⟨⟨ob rfl (by simp [hg1]),rfl,rfl,rfl,rfl,trivial⟩,t4⟩
  refine ex_if rfl (fun h2=>?_) (fun h2=>?_)
  ·have h2:=dt h2
   have hh:=sgcd_one (n:=n) (d:=d) (by omega) h2.2
   refine exr (lp2 ag24 sz24 (L rfl) rfl rfl (lp2 ag24 sz24 (L rfl) rfl rfl (sw (c_bp (vs:=[_,_]) un26 zv26 (.cons rfl (.cons rfl (.cons rfl (.cons rfl .nil)))) ((Places.cons sz24 (Places.cons sz24 Places.nil))).to rfl (.cons rfl pa2 rfl pu2 (.cons rfl pa2 rfl (.skip (.skip pu2)) .nil)) (.cons (.cons (.cons (.cons .nil)))) (L rfl)) t2 t0 (sb (c_sm sz26 (by rfl) pa4 rfl pu4) t2 t1 ?_))))
   refine zn [(4,_)] [(4,_)] t1 t1 (ex_ret ?_)
   refine ⟨.inr rfl,ResVs.cast (.cons (.agg rfl rfl rfl ag26 sz26 (.cons (.cons (.cons (.cons .nil))))) .nil) ?_⟩
   exact congrArg (· :: []) (cN (by rw [ovr_num h0,hh,Int.ediv_one]) (by rw [ovr_den h0,hh,Int.ediv_one]))
  ·refine ex_skip (show Exec _ _ _ _ _ from ?_)
   refine ex_seq (exr (lp2 ag24 sz24 (L rfl) rfl rfl (cK hG hX cl60 hN (signZ (Int.gcd n d : Int) (by omega)) (L rfl) t1 ?_)))
   refine sw (c_e (L rfl)) t2 t0 (zn [(2,_),(3,_),(4,_),(5,_),(26,_)] [(2,_),(3,_),(4,_),(5,_)] t5 t4 ?_)
   refine ex_if rfl (fun h3=>?_) (fun h3=>?_)
   ·exact absurd (dt h3) (gs h0)
   ·refine ex_skip (show Exec _ _ _ _ _ from ?_)
    refine ex_seq (exr (lp2 ag24 sz24 (L rfl) rfl rfl (cK hG hX cl60 hN (signZ d (by omega)) (L rfl) t1 ?_)))
    refine sw (c_ls (L rfl)) t2 t0 (zn [(2,_),(3,_),(4,_),(5,_),(30,_)] [(2,_),(3,_),(4,_),(5,_)] t5 t4 ?_)
    refine ex_if rfl (fun h4=>?_) (fun h4=>?_)
    ·have h4:=dt h4
     rw [sg0] at h4
     rw [sgn h4] at hs hw
     refine exr0 (lp2 ag24 sz24 (L rfl) rfl rfl (cK hG hX cl72 hN (negZ (Int.gcd n d : Int) (by omega)) (L rfl) t1 ?_))
     refine sb (c_sm sz24 (by rfl) pa2 rfl pu2) t2 t1 ?_
     refine seq_nil (exd (by rfl) ?_)
     refine lp2 ag24 sz24 (L rfl) rfl rfl (lp2 ag24 sz24 (L rfl) rfl rfl (cK hG hX cl74 hN (wholeZ n (-(Int.gcd n d : Int)) (by omega) (by omega) hs) (L rfl) t2 ?_))
     refine lp2 ag24 sz24 (L rfl) rfl rfl (lp2 ag24 sz24 (L rfl) rfl rfl (cK hG hX cl74 hN (wholeZ d (-(Int.gcd n d : Int)) (by omega) (by omega) hs) (L rfl) t2 ?_))
     refine sw (c_bp (vs:=[_,_]) un26 zv26 (.cons rfl (.cons rfl (.cons rfl (.cons rfl .nil)))) ((Places.cons sz24 (Places.cons sz24 Places.nil))).to rfl (.cons rfl pa2 rfl pu2 (.cons rfl pa2 rfl (.skip (.skip pu2)) .nil)) (.cons (.cons (.cons (.cons .nil)))) (L rfl)) t2 t0 (sb (c_sm sz26 (by rfl) pa4 rfl pu4) t2 t1 ?_)
     refine seq_nil ⟨aoks [⟨[2],[2],[33],[]⟩,⟨[5],[5],[34],[]⟩,⟨[33,34],[],[35],[]⟩,⟨[3],[3],[36],[]⟩,⟨[5],[5],[37],[]⟩,⟨[36,37],[],[38],[]⟩,⟨[35,38],[],[39],[]⟩,⟨[4,39],[4],[],[4]⟩] (by rfl) (by rfl) (by decide),[(4,_)],[(4,_)],t1,t1,?_⟩
     refine ex_ret ?_
     refine ⟨.inr rfl,ResVs.cast (.cons (.agg rfl rfl rfl ag26 sz26 (.cons (.cons (.cons (.cons .nil))))) .nil) ?_⟩
     exact congrArg (· :: []) (cN (by rw [ovr_num h0,sgn h4]) (by rw [ovr_den h0,sgn h4]))
    ·have h4:=df h4
     rw [sg0] at h4
     rw [sgp h4] at hs hw
     refine ex_skip (show Exec _ _ _ _ _ from ?_)
     refine exd (by rfl) ?_
     refine lp2 ag24 sz24 (L rfl) rfl rfl (lp2 ag24 sz24 (L rfl) rfl rfl (cK hG hX cl74 hN (wholeZ n (Int.gcd n d : Int) (by omega) (by omega) hs) (L rfl) t2 ?_))
     refine lp2 ag24 sz24 (L rfl) rfl rfl (lp2 ag24 sz24 (L rfl) rfl rfl (cK hG hX cl74 hN (wholeZ d (Int.gcd n d : Int) (by omega) (by omega) hs) (L rfl) t2 ?_))
     refine sw (c_bp (vs:=[_,_]) un26 zv26 (.cons rfl (.cons rfl (.cons rfl (.cons rfl .nil)))) ((Places.cons sz24 (Places.cons sz24 Places.nil))).to rfl (.cons rfl pa2 rfl pu2 (.cons rfl pa2 rfl (.skip (.skip pu2)) .nil)) (.cons (.cons (.cons (.cons .nil)))) (L rfl)) t2 t0 (sb (c_sm sz26 (by rfl) pa4 rfl pu4) t2 t1 ?_)
     refine seq_nil ⟨aoks [⟨[2],[2],[33],[]⟩,⟨[5],[5],[34],[]⟩,⟨[33,34],[],[35],[]⟩,⟨[3],[3],[36],[]⟩,⟨[5],[5],[37],[]⟩,⟨[36,37],[],[38],[]⟩,⟨[35,38],[],[39],[]⟩,⟨[4,39],[4],[],[4]⟩] (by rfl) (by rfl) (by decide),[(4,_)],[(4,_)],t1,t1,?_⟩
     refine ex_ret ?_
     refine ⟨.inr rfl,ResVs.cast (.cons (.agg rfl rfl rfl ag26 sz26 (.cons (.cons (.cons (.cons .nil))))) .nil) ?_⟩
     exact congrArg (· :: []) (cN (by rw [ovr_num h0,sgp h4]) (by rw [ovr_den h0,sgp h4]))
end Go.Proofs.YtcifhkfpmhifaaaGreatDoor.N
set_option maxRecDepth 100000
set_option maxHeartbeats 4000000
namespace Go.Proofs.YtcifhkfpmhifaaaGreatDoor.N
open Go Go.Proofs.YtcifhkfpmhifaaaGreatDoor.SH Go.Proofs.YtcifhkfpmhifaaaGreatDoor.NumA
open Go.Proofs.Tryz renaming call17 → cl17,call24 → cl24,call28 → cl28,call33 → cl33,call37 → cl37,call59 → cl59,call60 → cl60,call61 → cl61,call63 → cl63,call65 → cl65,call66 → cl66,call67 → cl67,call69 → cl69,call70 → cl70,call72 → cl72,call76 → cl76,isAgg24 → ag24,isAgg26 → ag26,sizeOf24 → sz24,sizeOf26 → sz26,underlying26 → un26,zeroValue26 → zv26
theorem nand2 {a b : Prop} (h : ¬ (a ∧ b)) : ¬ a ∨ (a ∧ ¬ b):=by
 by_cases ha : a
 ·exact .inr ⟨ha,fun hb=>h ⟨ha,hb⟩⟩
 ·exact .inl ha
theorem sgt {d : Int} : 0 < d.sign ↔ 0 < d:=by
 rcases sign3 d with h | h | h <;> (rw [h.1]; simp <;> omega)
theorem cmp0 {a b : Int} : cmpI a b = 0 ↔ a = b:=by unfold cmpI; repeat' split <;> omega
theorem gn1 (a : Int) {b : Int} (h : 0 < b) (hb : nw b < 1000000000) : nw (Int.gcd a b : Int) < 999999999999:=Nat.lt_of_lt_of_le (gn (Int.ne_of_gt h) hb) (by decide)
theorem qneg_says (a : Rat) (ha : qw a < 1000000000) : Says E 28 [pQ a] (pQ (-a)):=by
 refine says_of (xs:=[pQ (-a)]) Tryz.func28 rfl Tryz.ntmps28 Tryz.results28 (by simp) fun F hG hX0 hnt hdf P0=>?_
 obtain ⟨L,hX,hN⟩:=pro hnt hX0 hG
 have h1:=nw_num_le a
 refine exr (swb (c_bx (k:=1) (n:=4) pa4 rfl rfl (P0 _ rfl) (L rfl)) t1 t0 ⟨rfl,rfl⟩ (swb (c_al (k:=2) (n:=4) zv26 (.cons rfl (.cons rfl (.cons rfl (.cons rfl .nil)))) rfl (P0 _ rfl) (L rfl)) t0 t0 ⟨rfl,rfl⟩ (zn [(1,_),(2,_)] [(1,_),(2,_)] t2 t2 (exd (by rfl) ?_))))
 refine sw (c_fa un26 rfl sz24 (by decide) (by exact rfl) (L rfl)) t1 t1 ?_
 refine lp2 ag24 sz24 (L rfl) rfl rfl (cK hG hX cl72 hN (negZ a.num (by omega)) (L rfl) t1 ?_)
 refine sw (c_fa un26 rfl sz24 (by decide) (by exact rfl) (L rfl)) t1 t1 ?_
 refine lp2 ag24 sz24 (L rfl) rfl rfl (sw (c_bp (vs:=[_,_]) un26 zv26 (.cons rfl (.cons rfl (.cons rfl (.cons rfl .nil)))) ((Places.cons sz24 (Places.cons sz24 Places.nil))).to rfl (.cons rfl pa2 rfl pu2 (.cons rfl pa2 rfl (.skip (.skip pu2)) .nil)) (.cons (.cons (.cons (.cons .nil)))) (L rfl)) t2 t0 (sb (c_sm sz26 (by rfl) pa4 rfl pu4) t2 t1 ?_))
 refine seq_nil ⟨aoks [⟨[1],[1],[3],[]⟩,⟨[3],[1],[4],[]⟩,⟨[4],[],[5],[]⟩,⟨[1],[1],[6],[]⟩,⟨[6],[1],[7],[]⟩,⟨[5,7],[],[8],[]⟩,⟨[2,8],[2],[],[2]⟩] (by rfl) (by rfl) (by decide),[(2,_)],[(2,_)],t1,t1,?_⟩
 refine ex_ret ?_
 refine ⟨.inr rfl,ResVs.cast (.cons (.agg rfl rfl rfl ag26 sz26 (.cons (.cons (.cons (.cons .nil))))) .nil) ?_⟩
 exact congrArg (· :: []) (cN rfl rfl)
theorem qwhole_says (n : Int) : Says E 17 [pZ n] (pQ (n : Rat)):=by
 refine says_of (xs:=[pQ (n : Rat)]) Tryz.func17 rfl Tryz.ntmps17 Tryz.results17 (by simp) fun F hG hX0 hnt hdf P0=>?_
 obtain ⟨L,hX,hN⟩:=pro hnt hX0 hG
 refine exr (swb (c_bx (k:=1) (n:=2) pa2 rfl rfl (P0 _ rfl) (L rfl)) t1 t0 ⟨rfl,rfl⟩ (swb (c_al (k:=2) (n:=4) zv26 (.cons rfl (.cons rfl (.cons rfl (.cons rfl .nil)))) rfl (P0 _ rfl) (L rfl)) t0 t0 ⟨rfl,rfl⟩ (zn [(1,_),(2,_)] [(1,_),(2,_)] t2 t2 (exd (by rfl) ?_))))
 refine lp2 ag24 sz24 (L rfl) rfl rfl (cK hG hX cl63 hN one_says (L rfl) t0 (sw (c_bp (vs:=[_,_]) un26 zv26 (.cons rfl (.cons rfl (.cons rfl (.cons rfl .nil)))) ((Places.cons sz24 (Places.cons sz24 Places.nil))).to rfl (.cons rfl pa2 rfl pu2 (.cons rfl pa2 rfl (.skip (.skip pu2)) .nil)) (.cons (.cons (.cons (.cons .nil)))) (L rfl)) t2 t0 (sb (c_sm sz26 (by rfl) pa4 rfl pu4) t2 t1 ?_)))
 refine seq_nil ⟨aoks [⟨[1],[1],[3],[]⟩,⟨[],[],[4],[]⟩,⟨[3,4],[],[5],[]⟩,⟨[2,5],[2],[],[2]⟩] (by rfl) (by rfl) (by decide),[(2,_)],[(2,_)],t1,t1,?_⟩
 refine ex_ret ?_
 refine ⟨.inr rfl,ResVs.cast (.cons (.agg rfl rfl rfl ag26 sz26 (.cons (.cons (.cons (.cons .nil))))) .nil) ?_⟩
 exact congrArg (· :: []) (cN rfl rfl)
theorem qsign_says (a : Rat) (ha : qw a < 1000000000) : Says E 24 [pQ a] (vZ (cmpQ a 0)):=by
 refine says_of (xs:=[vZ (cmpQ a 0)]) Tryz.func24 rfl Tryz.ntmps24 Tryz.results24 (by simp) fun F hG hX0 hnt hdf P0=>?_
 obtain ⟨L,hX,hN⟩:=pro hnt hX0 hG
 have h1:=nw_num_le a
 refine exr (swb (c_bx (k:=1) (n:=4) pa4 rfl rfl (P0 _ rfl) (L rfl)) t1 t0 ⟨rfl,rfl⟩ (aV (L rfl) rfl (zn [(1,_)] [(1,_)] t1 t1 (exr (sw (c_fa un26 rfl sz24 (by decide) (by exact rfl) (L rfl)) t1 t1 ?_)))))
 refine lp2 ag24 sz24 (L rfl) rfl rfl (cK hG hX cl60 hN (signZ a.num (by omega)) (L rfl) t1 ?_)
 refine aV (L rfl) rfl (zn [(2,_)] [] t1 trivial (ex_ret ?_))
 refine ⟨.inr rfl,ResVs.cast (.cons (.tmp rfl) .nil) ?_⟩
 rw [q_sign]
theorem qmul_says (a b : Rat) (ha : qw a < 1000000000) (hb : qw b < 1000000000) : Says E 37 [pQ a,pQ b] (pQ (a * b)):=by
 refine says_of (xs:=[pQ (a * b)]) Tryz.func37 rfl Tryz.ntmps37 Tryz.results37 (by simp) fun F hG hX0 hnt hdf P0=>?_
 obtain ⟨L,hX,hN⟩:=pro hnt hX0 hG
 have h1:=nw_num_le a
 have h2:=nw_num_le b
 have h3:=nw_den_le a
 have h4:=nw_den_le b
 have h5:=nw_mul a.num b.num
 have h6:=nw_mul a.den b.den
 refine exr (swb (c_bx (k:=2) (n:=4) pa4 rfl rfl (P0 _ rfl) (L rfl)) t1 t0 ⟨rfl,rfl⟩ (swb (c_bx (k:=3) (n:=4) pa4 rfl rfl (P0 _ rfl) (L rfl)) t1 t0 ⟨rfl,rfl⟩ (swb (c_al (k:=4) (n:=4) zv26 (.cons rfl (.cons rfl (.cons rfl (.cons rfl .nil)))) rfl (P0 _ rfl) (L rfl)) t0 t0 ⟨rfl,rfl⟩ (zn [(2,_),(3,_),(4,_)] [(2,_),(3,_),(4,_)] t3 t3 (exd (by rfl) ?_)))))
 refine sw (c_fa un26 rfl sz24 (by decide) (by exact rfl) (L rfl)) t1 t1 ?_
 refine lp2 ag24 sz24 (L rfl) rfl rfl (sw (c_fa un26 rfl sz24 (by decide) (by exact rfl) (L rfl)) t1 t1 ?_)
 refine lp2 ag24 sz24 (L rfl) rfl rfl (cK hG hX cl70 hN (mulZ a.num b.num (by omega) (by omega)) (L rfl) t2 ?_)
 refine sw (c_fa un26 rfl sz24 (by decide) (by exact rfl) (L rfl)) t1 t1 ?_
 refine lp2 ag24 sz24 (L rfl) rfl rfl (sw (c_fa un26 rfl sz24 (by decide) (by exact rfl) (L rfl)) t1 t1 ?_)
 refine lp2 ag24 sz24 (L rfl) rfl rfl (cK hG hX cl70 hN (mulZ a.den b.den (by omega) (by omega)) (L rfl) t2 ?_)
 refine cK hG hX cl61 hN (overZ (a.num * b.num) (a.den * b.den) (Int.mul_ne_zero (den_ne a) (den_ne b)) (by omega) (by omega)) (L rfl) t2 ?_
 refine sb (c_sm sz26 (by rfl) pa4 rfl pu4) t2 t1 ?_
 refine seq_nil ⟨aoks [⟨[2],[2],[5],[]⟩,⟨[5],[2],[6],[]⟩,⟨[3],[3],[7],[]⟩,⟨[7],[3],[8],[]⟩,⟨[6,8],[],[9],[]⟩,⟨[2],[2],[10],[]⟩,⟨[10],[2],[11],[]⟩,⟨[3],[3],[12],[]⟩,⟨[12],[3],[13],[]⟩,⟨[11,13],[],[14],[]⟩,⟨[9,14],[],[15],[]⟩,⟨[4,15],[4],[],[4]⟩] (by rfl) (by rfl) (by decide),[(4,_)],[(4,_)],t1,t1,?_⟩
 refine ex_ret ?_
 refine ⟨.inr rfl,ResVs.cast (.cons (.agg rfl rfl rfl ag26 sz26 (.cons (.cons (.cons (.cons .nil))))) .nil) ?_⟩
 rw [q_mul]
theorem qadd_says (a b : Rat) (ha : qw a < 1000000000) (hb : qw b < 1000000000) : Says E 33 [pQ a,pQ b] (pQ (a + b)):=by
 refine says_of (xs:=[pQ (a + b)]) Tryz.func33 rfl Tryz.ntmps33 Tryz.results33 (by simp) fun F hG hX0 hnt hdf P0=>?_
 obtain ⟨L,hX,hN⟩:=pro hnt hX0 hG
 have h1:=nw_num_le a
 have h2:=nw_num_le b
 have h3:=nw_den_le a
 have h4:=nw_den_le b
 have h5:=nw_mul a.num b.den
 have h6:=nw_mul b.num a.den
 have h7:=nw_mul a.den b.den
 have h8:=nw_add (a.num * b.den) (b.num * a.den)
 refine exr (swb (c_bx (k:=2) (n:=4) pa4 rfl rfl (P0 _ rfl) (L rfl)) t1 t0 ⟨rfl,rfl⟩ (swb (c_bx (k:=3) (n:=4) pa4 rfl rfl (P0 _ rfl) (L rfl)) t1 t0 ⟨rfl,rfl⟩ (swb (c_al (k:=4) (n:=4) zv26 (.cons rfl (.cons rfl (.cons rfl (.cons rfl .nil)))) rfl (P0 _ rfl) (L rfl)) t0 t0 ⟨rfl,rfl⟩ (zn [(2,_),(3,_),(4,_)] [(2,_),(3,_),(4,_)] t3 t3 (ex_seq ?_)))))
 refine exm (sl:=[(12,vb (decide ((a.den : Int) = 1 ∧ (b.den : Int) = 1)))]) (sl0:=[(2,_),(3,_),(4,_)]) (hb:=[]) (hb0:=[(2,_),(3,_),(4,_)]) t3 t3 ?_ ?_
 ·by_cases hd : (a.den : Int) = 1
  ·refine sw (c_fa un26 rfl sz24 (by decide) (by exact rfl) (L rfl)) t1 t1 ?_
   refine lp2 ag24 sz24 (L rfl) rfl rfl (cK hG hX cl69 hN (isOneZ a.den (by omega)) (L rfl) t1 ?_)
   refine mV (L rfl) rfl (swg (g:=8) rfl (by simpa using hd) (c_fa un26 rfl sz24 (by decide) (by exact rfl) (L rfl)) rfl t1 t1 ?_)
   refine swg (g:=8) rfl (by simpa using hd) (c_lp ag24 sz24 (by rfl) (by exact al2) rfl (L rfl)) rfl t1 t1 ?_
   refine swg (g:=8) rfl (by simpa using hd) (c_c hG hX cl69 rfl hN (isOneZ b.den (by omega)) (L rfl)) rfl t1 t0 ?_
   refine sw (c_pt (by simpa using hd) (L rfl)) t2 t0 ?_
   exact seq_nil ⟨⟨ob rfl (by simp only [hd,true_and]),rfl,rfl,rfl,trivial⟩,t3⟩
  ·refine sw (c_fa un26 rfl sz24 (by decide) (by exact rfl) (L rfl)) t1 t1 ?_
   refine lp2 ag24 sz24 (L rfl) rfl rfl (cK hG hX cl69 hN (isOneZ a.den (by omega)) (L rfl) t1 ?_)
   refine mV (L rfl) rfl (swn (g:=8) rfl (by simpa using hd) (L rfl) rfl ?_)
   refine swn (g:=8) rfl (by simpa using hd) (L rfl) rfl ?_
   refine swn (g:=8) rfl (by simpa using hd) (L rfl) rfl ?_
   refine sw (c_pf (by simpa using hd) (L rfl)) t2 t0 ?_
   exact seq_nil ⟨⟨ob rfl (by simp only [hd,false_and]; rfl),rfl,rfl,rfl,trivial⟩,t3⟩
 refine ex_if rfl (fun hc=>?_) (fun hc=>?_)
 ·have hc:=dt hc
  refine exr (sw (c_fa un26 rfl sz24 (by decide) (by exact rfl) (L rfl)) t1 t1 ?_)
  refine lp2 ag24 sz24 (L rfl) rfl rfl (sw (c_fa un26 rfl sz24 (by decide) (by exact rfl) (L rfl)) t1 t1 ?_)
  refine lp2 ag24 sz24 (L rfl) rfl rfl (cK hG hX cl76 hN (addZ a.num b.num (by omega) (by omega)) (L rfl) t2 ?_)
  refine cK hG hX cl17 hN (qwhole_says (a.num + b.num)) (L rfl) t1 (sb (c_sm sz26 (by rfl) pa4 rfl pu4) t2 t1 ?_)
  refine zn [(4,_)] [(4,_)] t1 t1 (ex_ret ?_)
  refine ⟨.inr rfl,ResVs.cast (.cons (.agg rfl rfl rfl ag26 sz26 (.cons (.cons (.cons (.cons .nil))))) .nil) ?_⟩
  rw [← q_add,hc.1,hc.2,Int.mul_one,Int.mul_one,Int.mul_one,divInt_one']
 ·refine ex_skip (show Exec _ _ _ _ _ from ?_)
  refine exd (by rfl) ?_
  refine sw (c_fa un26 rfl sz24 (by decide) (by exact rfl) (L rfl)) t1 t1 ?_
  refine lp2 ag24 sz24 (L rfl) rfl rfl (sw (c_fa un26 rfl sz24 (by decide) (by exact rfl) (L rfl)) t1 t1 ?_)
  refine lp2 ag24 sz24 (L rfl) rfl rfl (cK hG hX cl70 hN (mulZ a.num b.den (by omega) (by omega)) (L rfl) t2 ?_)
  refine sw (c_fa un26 rfl sz24 (by decide) (by exact rfl) (L rfl)) t1 t1 ?_
  refine lp2 ag24 sz24 (L rfl) rfl rfl (sw (c_fa un26 rfl sz24 (by decide) (by exact rfl) (L rfl)) t1 t1 ?_)
  refine lp2 ag24 sz24 (L rfl) rfl rfl (cK hG hX cl70 hN (mulZ b.num a.den (by omega) (by omega)) (L rfl) t2 ?_)
  refine cK hG hX cl76 hN (addZ (a.num * b.den) (b.num * a.den) (by omega) (by omega)) (L rfl) t2 ?_
  refine sw (c_fa un26 rfl sz24 (by decide) (by exact rfl) (L rfl)) t1 t1 ?_
  refine lp2 ag24 sz24 (L rfl) rfl rfl (sw (c_fa un26 rfl sz24 (by decide) (by exact rfl) (L rfl)) t1 t1 ?_)
  refine lp2 ag24 sz24 (L rfl) rfl rfl (cK hG hX cl70 hN (mulZ a.den b.den (by omega) (by omega)) (L rfl) t2 ?_)
  refine cK hG hX cl61 hN (overZ (a.num * b.den + b.num * a.den) (a.den * b.den) (Int.mul_ne_zero (den_ne a) (den_ne b)) (by omega) (by omega)) (L rfl) t2 ?_
  refine sb (c_sm sz26 (by rfl) pa4 rfl pu4) t2 t1 ?_
  refine seq_nil ⟨aoks [⟨[2],[2],[19],[]⟩,⟨[19],[2],[20],[]⟩,⟨[3],[3],[21],[]⟩,⟨[21],[3],[22],[]⟩,⟨[20,22],[],[23],[]⟩,⟨[3],[3],[24],[]⟩,⟨[24],[3],[25],[]⟩,⟨[2],[2],[26],[]⟩,⟨[26],[2],[27],[]⟩,⟨[25,27],[],[28],[]⟩,⟨[23,28],[],[29],[]⟩,⟨[2],[2],[30],[]⟩,⟨[30],[2],[31],[]⟩,⟨[3],[3],[32],[]⟩,⟨[32],[3],[33],[]⟩,⟨[31,33],[],[34],[]⟩,⟨[29,34],[],[35],[]⟩,⟨[4,35],[4],[],[4]⟩] (by rfl) (by rfl) (by decide),[(4,_)],[(4,_)],t1,t1,?_⟩
  refine ex_ret ?_
  refine ⟨.inr rfl,ResVs.cast (.cons (.agg rfl rfl rfl ag26 sz26 (.cons (.cons (.cons (.cons .nil))))) .nil) ?_⟩
  rw [q_add]
theorem qsub_says (a b : Rat) (ha : qw a < 1000000000) (hb : qw b < 1000000000) : Says E 35 [pQ a,pQ b] (pQ (a - b)):=by
 refine says_of (xs:=[pQ (a - b)]) Tryz.func35 rfl Tryz.ntmps35 Tryz.results35 (by simp) fun F hG hX0 hnt hdf P0=>?_
 obtain ⟨L,hX,hN⟩:=pro hnt hX0 hG
 refine exr (swb (c_bx (k:=2) (n:=4) pa4 rfl rfl (P0 _ rfl) (L rfl)) t1 t0 ⟨rfl,rfl⟩ (swb (c_bx (k:=3) (n:=4) pa4 rfl rfl (P0 _ rfl) (L rfl)) t1 t0 ⟨rfl,rfl⟩ (swb (c_al (k:=4) (n:=4) zv26 (.cons rfl (.cons rfl (.cons rfl (.cons rfl .nil)))) rfl (P0 _ rfl) (L rfl)) t0 t0 ⟨rfl,rfl⟩ (zn [(2,_),(3,_),(4,_)] [(2,_),(3,_),(4,_)] t3 t3 (exd (by rfl) ?_)))))
 refine lp4 ag26 sz26 (L rfl) rfl rfl (lp4 ag26 sz26 (L rfl) rfl rfl (cK hG hX cl28 hN (qneg_says b hb) (L rfl) t1 (cK hG hX cl33 hN (qadd_says a (-b) ha (by rw [qw_neg]; exact hb)) (L rfl) t2 ?_)))
 refine sb (c_sm sz26 (by rfl) pa4 rfl pu4) t2 t1 ?_
 refine seq_nil ⟨aoks [⟨[2],[2],[5],[]⟩,⟨[3],[3],[6],[]⟩,⟨[6],[],[7],[]⟩,⟨[5,7],[],[8],[]⟩,⟨[4,8],[4],[],[4]⟩] (by rfl) (by rfl) (by decide),[(4,_)],[(4,_)],t1,t1,?_⟩
 refine ex_ret ?_
 refine ⟨.inr rfl,ResVs.cast (.cons (.agg rfl rfl rfl ag26 sz26 (.cons (.cons (.cons (.cons .nil))))) .nil) ?_⟩
 rw [← Rat.sub_eq_add_neg]
theorem qinv_says (a : Rat) (ha : qw a < 1000000000) (h0 : a ≠ 0) : Says E 67 [pQ a] (pQ a⁻¹):=by
 refine says_of (xs:=[pQ a⁻¹]) Tryz.func67 rfl Tryz.ntmps67 Tryz.results67 (by simp) fun F hG hX0 hnt hdf P0=>?_
 obtain ⟨L,hX,hN⟩:=pro hnt hX0 hG
 have h1:=nw_num_le a
 have h3:=nw_den_le a
 refine exr (swb (c_bx (k:=1) (n:=4) pa4 rfl rfl (P0 _ rfl) (L rfl)) t1 t0 ⟨rfl,rfl⟩ (swb (c_al (k:=2) (n:=4) zv26 (.cons rfl (.cons rfl (.cons rfl (.cons rfl .nil)))) rfl (P0 _ rfl) (L rfl)) t0 t0 ⟨rfl,rfl⟩ (zn [(1,_),(2,_)] [(1,_),(2,_)] t2 t2 (exr (sw (c_fa un26 rfl sz24 (by decide) (by exact rfl) (L rfl)) t1 t1 ?_)))))
 refine lp2 ag24 sz24 (L rfl) rfl rfl (sw (c_fa un26 rfl sz24 (by decide) (by exact rfl) (L rfl)) t1 t1 ?_)
 refine lp2 ag24 sz24 (L rfl) rfl rfl (cK hG hX cl61 hN (overZ a.den a.num (num_ne.2 h0) (by omega) (by omega)) (L rfl) t2 ?_)
 refine sb (c_sm sz26 (by rfl) pa4 rfl pu4) t2 t1 ?_
 refine zn [(2,_)] [(2,_)] t1 t1 (ex_ret ?_)
 refine ⟨.inr rfl,ResVs.cast (.cons (.agg rfl rfl rfl ag26 sz26 (.cons (.cons (.cons (.cons .nil))))) .nil) ?_⟩
 rw [q_inv]
theorem qdiv_says (a b : Rat) (ha : qw a < 1000000000) (hb : qw b < 1000000000) (h0 : b ≠ 0) : Says E 22 [pQ a,pQ b] (.tup [pQ (a / b),vZ 0]):=by
 refine says_of (xs:=[pQ (a / b),vZ 0]) Tryz.func22 rfl Tryz.ntmps22 Tryz.results22 (by simp) fun F hG hX0 hnt hdf P0=>?_
 obtain ⟨L,hX,hN⟩:=pro hnt hX0 hG
 have hi:=qw_inv h0
 refine exr (swb (c_bx (k:=2) (n:=4) pa4 rfl rfl (P0 _ rfl) (L rfl)) t1 t0 ⟨rfl,rfl⟩ (swb (c_bx (k:=3) (n:=4) pa4 rfl rfl (P0 _ rfl) (L rfl)) t1 t0 ⟨rfl,rfl⟩ (swb (c_al (k:=4) (n:=4) zv26 (.cons rfl (.cons rfl (.cons rfl (.cons rfl .nil)))) rfl (P0 _ rfl) (L rfl)) t0 t0 ⟨rfl,rfl⟩ (aV (L rfl) rfl (zn [(2,_),(3,_),(4,_)] [(2,_),(3,_),(4,_)] t3 t3 (ex_seq (exr (lp4 ag26 sz26 (L rfl) rfl rfl (cK hG hX cl24 hN (qsign_says b hb) (L rfl) t1 (sw (c_e (L rfl)) t2 t0 (zn [(2,_),(3,_),(4,_),(8,_)] [(2,_),(3,_),(4,_)] t4 t3 ?_)))))))))))
 refine ex_if rfl (fun hc=>?_) (fun hc=>?_)
 ·have hc:=dt hc
  rw [← q_sign,q_sign0] at hc
  exact absurd hc h0
 ·refine ex_skip (show Exec _ _ _ _ _ from ?_)
  refine exd (by rfl) ?_
  refine lp4 ag26 sz26 (L rfl) rfl rfl (lp4 ag26 sz26 (L rfl) rfl rfl (cK hG hX cl67 hN (qinv_says b hb h0) (L rfl) t1 (cK hG hX cl37 hN (qmul_says a b⁻¹ ha (by omega)) (L rfl) t2 ?_)))
  refine sb (c_sm sz26 (by rfl) pa4 rfl pu4) t2 t1 ?_
  refine aV (L rfl) rfl ?_
  refine seq_nil ⟨aoks [⟨[2],[2],[10],[]⟩,⟨[3],[3],[11],[]⟩,⟨[11],[],[12],[]⟩,⟨[10,12],[],[13],[]⟩,⟨[4,13],[4],[],[4]⟩,⟨[],[],[5],[]⟩] (by rfl) (by rfl) (by decide),[(4,_),(5,_)],[(4,_)],t2,t1,?_⟩
  refine ex_ret ?_
  refine ⟨.inr rfl,ResVs.cast (.cons (.agg rfl rfl rfl ag26 sz26 (.cons (.cons (.cons (.cons .nil))))) (.cons (.tmp rfl) .nil)) ?_⟩
  rw [← Rat.div_def]
theorem qcmp_says (a b : Rat) (ha : qw a < 1000000000) (hb : qw b < 1000000000) : Says E 26 [pQ a,pQ b] (vZ (cmpQ a b)):=by
 refine says_of (xs:=[vZ (cmpQ a b)]) Tryz.func26 rfl Tryz.ntmps26 Tryz.results26 (by simp) fun F hG hX0 hnt hdf P0=>?_
 obtain ⟨L,hX,hN⟩:=pro hnt hX0 hG
 have h1:=nw_num_le a
 have h2:=nw_num_le b
 have h3:=nw_den_le a
 have h4:=nw_den_le b
 have h5:=nw_mul a.num b.den
 have h6:=nw_mul b.num a.den
 refine exr (swb (c_bx (k:=2) (n:=4) pa4 rfl rfl (P0 _ rfl) (L rfl)) t1 t0 ⟨rfl,rfl⟩ (swb (c_bx (k:=3) (n:=4) pa4 rfl rfl (P0 _ rfl) (L rfl)) t1 t0 ⟨rfl,rfl⟩ (aV (L rfl) rfl (zn [(2,_),(3,_)] [(2,_),(3,_)] t2 t2 (ex_seq ?_)))))
 refine exm (sl:=[(12,vb (decide ((a.den : Int) = 1 ∧ (b.den : Int) = 1)))]) (sl0:=[(2,_),(3,_)]) (hb:=[]) (hb0:=[(2,_),(3,_)]) t2 t2 ?_ ?_
 ·by_cases hd : (a.den : Int) = 1
  ·refine sw (c_fa un26 rfl sz24 (by decide) (by exact rfl) (L rfl)) t1 t1 ?_
   refine lp2 ag24 sz24 (L rfl) rfl rfl (cK hG hX cl69 hN (isOneZ a.den (by omega)) (L rfl) t1 ?_)
   refine mV (L rfl) rfl (swg (g:=8) rfl (by simpa using hd) (c_fa un26 rfl sz24 (by decide) (by exact rfl) (L rfl)) rfl t1 t1 ?_)
   refine swg (g:=8) rfl (by simpa using hd) (c_lp ag24 sz24 (by rfl) (by exact al2) rfl (L rfl)) rfl t1 t1 ?_
   refine swg (g:=8) rfl (by simpa using hd) (c_c hG hX cl69 rfl hN (isOneZ b.den (by omega)) (L rfl)) rfl t1 t0 ?_
   refine sw (c_pt (by simpa using hd) (L rfl)) t2 t0 ?_
   exact seq_nil ⟨⟨ob rfl (by simp only [hd,true_and]),rfl,rfl,trivial⟩,t2⟩
  ·refine sw (c_fa un26 rfl sz24 (by decide) (by exact rfl) (L rfl)) t1 t1 ?_
   refine lp2 ag24 sz24 (L rfl) rfl rfl (cK hG hX cl69 hN (isOneZ a.den (by omega)) (L rfl) t1 ?_)
   refine mV (L rfl) rfl (swn (g:=8) rfl (by simpa using hd) (L rfl) rfl ?_)
   refine swn (g:=8) rfl (by simpa using hd) (L rfl) rfl ?_
   refine swn (g:=8) rfl (by simpa using hd) (L rfl) rfl ?_
   refine sw (c_pf (by simpa using hd) (L rfl)) t2 t0 ?_
   exact seq_nil ⟨⟨ob rfl (by simp only [hd,false_and]; rfl),rfl,rfl,trivial⟩,t2⟩
 refine ex_if rfl (fun hc=>?_) (fun hc=>?_)
 ·have hc:=dt hc
  refine exr (sw (c_fa un26 rfl sz24 (by decide) (by exact rfl) (L rfl)) t1 t1 ?_)
  refine lp2 ag24 sz24 (L rfl) rfl rfl (sw (c_fa un26 rfl sz24 (by decide) (by exact rfl) (L rfl)) t1 t1 ?_)
  refine lp2 ag24 sz24 (L rfl) rfl rfl (cK hG hX cl65 hN (cmpZ a.num b.num (by omega) (by omega)) (L rfl) t2 ?_)
  refine aV (L rfl) rfl (zn [(4,_)] [] t1 trivial (ex_ret ?_))
  refine ⟨.inr rfl,ResVs.cast (.cons (.tmp rfl) .nil) ?_⟩
  rw [← q_cmp,hc.1,hc.2,Int.mul_one,Int.mul_one]
 ·refine ex_skip (show Exec _ _ _ _ _ from ?_)
  refine exd (by rfl) ?_
  refine sw (c_fa un26 rfl sz24 (by decide) (by exact rfl) (L rfl)) t1 t1 ?_
  refine lp2 ag24 sz24 (L rfl) rfl rfl (sw (c_fa un26 rfl sz24 (by decide) (by exact rfl) (L rfl)) t1 t1 ?_)
  refine lp2 ag24 sz24 (L rfl) rfl rfl (cK hG hX cl70 hN (mulZ a.num b.den (by omega) (by omega)) (L rfl) t2 ?_)
  refine sw (c_fa un26 rfl sz24 (by decide) (by exact rfl) (L rfl)) t1 t1 ?_
  refine lp2 ag24 sz24 (L rfl) rfl rfl (sw (c_fa un26 rfl sz24 (by decide) (by exact rfl) (L rfl)) t1 t1 ?_)
  refine lp2 ag24 sz24 (L rfl) rfl rfl (cK hG hX cl70 hN (mulZ b.num a.den (by omega) (by omega)) (L rfl) t2 ?_)
  refine cK hG hX cl65 hN (cmpZ (a.num * b.den) (b.num * a.den) (by omega) (by omega)) (L rfl) t2 ?_
  refine aV (L rfl) rfl ?_
  refine seq_nil ⟨aoks [⟨[2],[2],[18],[]⟩,⟨[18],[2],[19],[]⟩,⟨[3],[3],[20],[]⟩,⟨[20],[3],[21],[]⟩,⟨[19,21],[],[22],[]⟩,⟨[3],[3],[23],[]⟩,⟨[23],[3],[24],[]⟩,⟨[2],[2],[25],[]⟩,⟨[25],[2],[26],[]⟩,⟨[24,26],[],[27],[]⟩,⟨[22,27],[],[28],[]⟩,⟨[28],[],[4],[]⟩] (by rfl) (by rfl) (by decide),[(4,_)],[],t1,trivial,?_⟩
  refine ex_ret ?_
  refine ⟨.inr rfl,ResVs.cast (.cons (.tmp rfl) .nil) ?_⟩
  rw [q_cmp]
theorem qis_no (m n : Bool) (ws vs : List Int) (hl : ws.length < 1000000000) (hl2 : vs.length < 1000000000) (hn : ¬ (canon m ws = true ∧ canon n vs = true)) : Says E 19 [pR m ws n vs] (bZ false):=by
 refine says_of (xs:=[bZ false]) Tryz.func19 rfl Tryz.ntmps19 Tryz.results19 (by simp) fun F hG hX0 hnt hdf P0=>?_
 obtain ⟨L,hX,hN⟩:=pro hnt hX0 hG
 refine exr (swb (c_bx (k:=1) (n:=4) pa4 rfl rfl (P0 _ rfl) (L rfl)) t1 t0 ⟨rfl,rfl⟩ (aV (L rfl) rfl (zn [(1,_)] [(1,_)] t1 t1 ?_)))
 refine exm (sl:=[(2,vb false)]) (sl0:=[]) (hb:=[]) (hb0:=[]) t0 t0 ?_ ?_
 ·rcases nand2 hn with h1 | ⟨h1,h2⟩
  ·refine sw (c_fa un26 rfl sz24 (by decide) (by exact rfl) (L rfl)) t1 t1 ?_
   refine lp2 ag24 sz24 (L rfl) rfl rfl (cK hG hX cl59 hN (is_says m ws (by omega)) (L rfl) t1 ?_)
   refine mV (L rfl) rfl (swn (g:=6) rfl (by simpa using h1) (L rfl) rfl ?_)
   refine swn (g:=6) rfl (by simpa using h1) (L rfl) rfl ?_
   refine swn (g:=6) rfl (by simpa using h1) (L rfl) rfl ?_
   refine sw (c_pf (by simpa using h1) (L rfl)) t2 t0 ?_
   refine mV (L rfl) rfl (swn (g:=11) rfl rfl (L rfl) rfl (swn (g:=11) rfl rfl (L rfl) rfl (swn (g:=11) rfl rfl (L rfl) rfl (swn (g:=11) rfl rfl (L rfl) rfl (sw (c_pf rfl (L rfl)) t2 t0 (mV (L rfl) rfl (swn (g:=17) rfl rfl (L rfl) rfl (swn (g:=17) rfl rfl (L rfl) rfl (swn (g:=17) rfl rfl (L rfl) rfl (swn (g:=17) rfl rfl (L rfl) rfl (swn (g:=17) rfl rfl (L rfl) rfl ?_)))))))))))
   refine swn (g:=17) rfl rfl (L rfl) rfl (swn (g:=17) rfl rfl (L rfl) rfl (swn (g:=17) rfl rfl (L rfl) rfl (sw (c_pf rfl (L rfl)) t2 t0 (aV (L rfl) rfl ?_))))
   exact seq_nil ⟨⟨ob rfl rfl,trivial⟩,trivial⟩
  ·refine sw (c_fa un26 rfl sz24 (by decide) (by exact rfl) (L rfl)) t1 t1 ?_
   refine lp2 ag24 sz24 (L rfl) rfl rfl (cK hG hX cl59 hN (is_says m ws (by omega)) (L rfl) t1 ?_)
   refine mV (L rfl) rfl (swg (g:=6) rfl h1 (c_fa un26 rfl sz24 (by decide) (by exact rfl) (L rfl)) rfl t1 t1 ?_)
   refine swg (g:=6) rfl h1 (c_lp ag24 sz24 (by rfl) (by exact al2) rfl (L rfl)) rfl t1 t1 ?_
   refine swg (g:=6) rfl h1 (c_c hG hX cl59 rfl hN (is_says n vs (by omega)) (L rfl)) rfl t1 t0 ?_
   refine sw (c_pt h1 (L rfl)) t2 t0 (mV (L rfl) rfl (swn (g:=11) rfl (by simpa using h2) (L rfl) rfl ?_))
   refine swn (g:=11) rfl (by simpa using h2) (L rfl) rfl ?_
   refine swn (g:=11) rfl (by simpa using h2) (L rfl) rfl ?_
   refine swn (g:=11) rfl (by simpa using h2) (L rfl) rfl ?_
   refine sw (c_pf (by simpa using h2) (L rfl)) t2 t0 ?_
   refine mV (L rfl) rfl (swn (g:=17) rfl rfl (L rfl) rfl (swn (g:=17) rfl rfl (L rfl) rfl (swn (g:=17) rfl rfl (L rfl) rfl (swn (g:=17) rfl rfl (L rfl) rfl (swn (g:=17) rfl rfl (L rfl) rfl (swn (g:=17) rfl rfl (L rfl) rfl (swn (g:=17) rfl rfl (L rfl) rfl (swn (g:=17) rfl rfl (L rfl) rfl (sw (c_pf rfl (L rfl)) t2 t0 (aV (L rfl) rfl ?_))))))))))
   exact seq_nil ⟨⟨ob rfl rfl,trivial⟩,trivial⟩
 refine ex_ret ?_
 refine ⟨.inr rfl,ResVs.cast (.cons (.tmp rfl) .nil) ?_⟩
 rfl
theorem qis_z (a b : Int) (ha : nw a < 1000000000) (hb : nw b < 1000000000) : Says E 19 [pN a b] (bZ (decide (0 < b ∧ (Int.gcd a b : Int) = 1))):=by
 refine says_of (xs:=[bZ (decide (0 < b ∧ (Int.gcd a b : Int) = 1))]) Tryz.func19 rfl Tryz.ntmps19 Tryz.results19 (by simp) fun F hG hX0 hnt hdf P0=>?_
 obtain ⟨L,hX,hN⟩:=pro hnt hX0 hG
 refine exr (swb (c_bx (k:=1) (n:=4) pa4 rfl rfl (P0 _ rfl) (L rfl)) t1 t0 ⟨rfl,rfl⟩ (aV (L rfl) rfl (zn [(1,_)] [(1,_)] t1 t1 ?_)))
 refine exm (sl:=[(2,vb (decide (0 < b ∧ (Int.gcd a b : Int) = 1)))]) (sl0:=[]) (hb:=[]) (hb0:=[]) t0 t0 ?_ ?_
 ·by_cases h1 : 0 < b
  ·refine sw (c_fa un26 rfl sz24 (by decide) (by exact rfl) (L rfl)) t1 t1 ?_
   refine lp2 ag24 sz24 (L rfl) rfl rfl (cK hG hX cl59 hN (isZ a (by omega)) (L rfl) t1 ?_)
   refine mV (L rfl) rfl (swg (g:=6) rfl rfl (c_fa un26 rfl sz24 (by decide) (by exact rfl) (L rfl)) rfl t1 t1 ?_)
   refine swg (g:=6) rfl rfl (c_lp ag24 sz24 (by rfl) (by exact al2) rfl (L rfl)) rfl t1 t1 ?_
   refine swg (g:=6) rfl rfl (c_c hG hX cl59 rfl hN (isZ b (by omega)) (L rfl)) rfl t1 t0 ?_
   refine sw (c_pt rfl (L rfl)) t2 t0 (mV (L rfl) rfl (swg (g:=11) rfl rfl (c_fa un26 rfl sz24 (by decide) (by exact rfl) (L rfl)) rfl t1 t1 ?_))
   refine swg (g:=11) rfl rfl (c_lp ag24 sz24 (by rfl) (by exact al2) rfl (L rfl)) rfl t1 t1 ?_
   refine swg (g:=11) rfl rfl (c_c hG hX cl60 rfl hN (signZ b (by omega)) (L rfl)) rfl t1 t0 ?_
   refine swg (g:=11) rfl rfl (c_gt (L rfl)) rfl t2 t0 (sw (c_pt rfl (L rfl)) t2 t0 (mV (L rfl) rfl (swg (g:=17) rfl (decide_eq_true (sgt.2 h1)) (c_fa un26 rfl sz24 (by decide) (by exact rfl) (L rfl)) rfl t1 t1 ?_)))
   refine swg (g:=17) rfl (decide_eq_true (sgt.2 h1)) (c_lp ag24 sz24 (by rfl) (by exact al2) rfl (L rfl)) rfl t1 t1 ?_
   refine swg (g:=17) rfl (decide_eq_true (sgt.2 h1)) (c_fa un26 rfl sz24 (by decide) (by exact rfl) (L rfl)) rfl t1 t1 ?_
   refine swg (g:=17) rfl (decide_eq_true (sgt.2 h1)) (c_lp ag24 sz24 (by rfl) (by exact al2) rfl (L rfl)) rfl t1 t1 ?_
   refine swg (g:=17) rfl (decide_eq_true (sgt.2 h1)) (c_c hG hX cl66 rfl hN (gcdZ a b (by omega) (by omega)) (L rfl)) rfl t2 t0 ?_
   refine swg (g:=17) rfl (decide_eq_true (sgt.2 h1)) (c_c hG hX cl63 rfl hN one_says (L rfl)) rfl trivial trivial (swg (g:=17) rfl (decide_eq_true (sgt.2 h1)) (c_c hG hX cl65 rfl hN (cmpZ (Int.gcd a b : Int) 1 (gn1 a h1 hb) (by rw [nw_one]; decide)) (L rfl)) rfl t2 t0 ?_)
   refine swg (g:=17) rfl (decide_eq_true (sgt.2 h1)) (c_e (L rfl)) rfl t2 t0 (sw (c_pt (decide_eq_true (sgt.2 h1)) (L rfl)) t2 t0 (aV (L rfl) rfl ?_))
   exact seq_nil ⟨⟨ob rfl (by rw [dec_eq (and_iff_right h1)]; exact dec_eq cmp0),trivial⟩,trivial⟩
  ·refine sw (c_fa un26 rfl sz24 (by decide) (by exact rfl) (L rfl)) t1 t1 ?_
   refine lp2 ag24 sz24 (L rfl) rfl rfl (cK hG hX cl59 hN (isZ a (by omega)) (L rfl) t1 ?_)
   refine mV (L rfl) rfl (swg (g:=6) rfl rfl (c_fa un26 rfl sz24 (by decide) (by exact rfl) (L rfl)) rfl t1 t1 ?_)
   refine swg (g:=6) rfl rfl (c_lp ag24 sz24 (by rfl) (by exact al2) rfl (L rfl)) rfl t1 t1 ?_
   refine swg (g:=6) rfl rfl (c_c hG hX cl59 rfl hN (isZ b (by omega)) (L rfl)) rfl t1 t0 ?_
   refine sw (c_pt rfl (L rfl)) t2 t0 (mV (L rfl) rfl (swg (g:=11) rfl rfl (c_fa un26 rfl sz24 (by decide) (by exact rfl) (L rfl)) rfl t1 t1 ?_))
   refine swg (g:=11) rfl rfl (c_lp ag24 sz24 (by rfl) (by exact al2) rfl (L rfl)) rfl t1 t1 ?_
   refine swg (g:=11) rfl rfl (c_c hG hX cl60 rfl hN (signZ b (by omega)) (L rfl)) rfl t1 t0 ?_
   refine swg (g:=11) rfl rfl (c_gt (L rfl)) rfl t2 t0 (sw (c_pt rfl (L rfl)) t2 t0 (mV (L rfl) rfl (swn (g:=17) rfl (decide_eq_false (mt sgt.1 h1)) (L rfl) rfl (swn (g:=17) rfl (decide_eq_false (mt sgt.1 h1)) (L rfl) rfl (swn (g:=17) rfl (decide_eq_false (mt sgt.1 h1)) (L rfl) rfl (swn (g:=17) rfl (decide_eq_false (mt sgt.1 h1)) (L rfl) rfl (swn (g:=17) rfl (decide_eq_false (mt sgt.1 h1)) (L rfl) rfl (swn (g:=17) rfl (decide_eq_false (mt sgt.1 h1)) (L rfl) rfl (swn (g:=17) rfl (decide_eq_false (mt sgt.1 h1)) (L rfl) rfl (swn (g:=17) rfl (decide_eq_false (mt sgt.1 h1)) (L rfl) rfl (sw (c_pf (decide_eq_false (mt sgt.1 h1)) (L rfl)) t2 t0 ?_)))))))))))
   refine aV (L rfl) rfl ?_
   exact seq_nil ⟨⟨ob rfl (decide_eq_false (fun h=>h1 h.1)).symm,trivial⟩,trivial⟩
 refine ex_ret ?_
 refine ⟨.inr rfl,ResVs.cast (.cons (.tmp rfl) .nil) ?_⟩
 rfl
end Go.Proofs.YtcifhkfpmhifaaaGreatDoor.N
set_option maxRecDepth 100000
set_option maxHeartbeats 4000000
namespace Go.Proofs.YtcifhkfpmhifaaaGreatDoor.N
open Go Go.Proofs.YtcifhkfpmhifaaaGreatDoor.SH Go.Proofs.YtcifhkfpmhifaaaGreatDoor.NumA
open Go.Proofs.Tryz renaming call103 → cl103,call14 → cl14,call15 → cl15,call25 → cl25,call29 → cl29,call30 → cl30,call34 → cl34,call43 → cl43,call44 → cl44,call45 → cl45,call62 → cl62,call64 → cl64,call68 → cl68,call71 → cl71,call73 → cl73,call77 → cl77,isAgg22 → ag22,isAgg24 → ag24,isAgg26 → ag26,isAgg4 → ag4,isAgg68 → ag68,sizeOf22 → sz22,sizeOf24 → sz24,sizeOf26 → sz26,sizeOf4 → sz4,sizeOf68 → sz68,underlying22 → un22,underlying24 → un24,underlying26 → un26,zeroValue24 → zv24,zeroValue26 → zv26
theorem rnegZ (a : Int) (ha : nw a < 999999999999) : Says E 73 [pZ a] (pZ (-a)):=by
 have:=rneg_says (decide (a < 0)) (digs a.natAbs) (by unfold nw at ha; omega) (wd_digs _)
 rwa [if_pos (canon_digs a),sg_digs] at this
theorem raddZ (a b : Int) (ha : nw a < 999999999999) (hb : nw b < 999999999999) : Says E 77 [pZ a,pZ b] (pZ (a + b)):=by
 have:=raddI_says (decide (a < 0)) (decide (b < 0)) (digs a.natAbs) (digs b.natAbs) (by unfold nw at ha; omega) (by unfold nw at hb; omega) (wd_digs _) (wd_digs _)
 rwa [if_pos ⟨canon_digs a,canon_digs b⟩,sg_digs,sg_digs] at this
theorem risZ (a : Int) (ha : nw a < 999999999999) : Says E 15 [pZ a] (bZ true):=by
 have:=ris_says (decide (a < 0)) (digs a.natAbs) (by unfold nw at ha; omega)
 rwa [canon_digs a] at this
theorem digs_inj {a b : Int} : ((decide (a < 0)) = decide (b < 0) ∧ digs a.natAbs = digs b.natAbs) ↔ a = b:=by
 constructor
 ·rintro ⟨h1,h2⟩
  have:=congrArg val h2
  rw [val_digs,val_digs] at this
  have h1 : a < 0 ↔ b < 0:=by simpa using h1
  omega
 ·rintro rfl; exact ⟨rfl,rfl⟩
theorem rsameZ (a b : Int) (ha : nw a < 999999999999) (hb : nw b < 999999999999) : Says E 30 [pZ a,pZ b] (bZ (decide (a = b))):=by
 have:=rsame_says (decide (a < 0)) (decide (b < 0)) (digs a.natAbs) (digs b.natAbs) (by unfold nw at ha; omega) (by unfold nw at hb; omega)
 rwa [dec_eq digs_inj] at this
theorem risOneZ (n : Int) (h : nw n < 999999999999) : Says E 71 [pZ n] (bZ (decide (n = 1))):=by
 refine says_of (xs:=[bZ (decide (n = 1))]) Tryz.func71 rfl Tryz.ntmps71 Tryz.results71 (by simp) fun F hG hX0 hnt hdf P0=>?_
 obtain ⟨L,hX,hN⟩:=pro hnt hX0 hG
 unfold nw at h
 refine exr (swb (c_bx (k:=1) (n:=2) pa2 rfl rfl (P0 _ rfl) (L rfl)) t1 t0 ⟨rfl,rfl⟩ (aV (L rfl) rfl (zn [(1,_)] [(1,_)] t1 t1 ?_)))
 refine exm (sl:=[(2,vb (decide (n = 1)))]) (sl0:=[]) (hb:=[]) (hb0:=[]) t0 t0 ?_ ?_
 ·rcases one3 n with ⟨h1,h2⟩ | ⟨h1,h2,h3⟩ | ⟨h1,h2,h3⟩
  ·refine sw (c_fa un24 rfl sz22 (by decide) (by exact rfl) (L rfl)) t1 t1 ?_
   refine sw (c_l1 ag22 (by rfl) (by rfl) (L rfl)) t1 t1 ?_
   refine sw (c_ln un22 (L rfl)) t1 t0 (sw (c_e (L rfl)) t2 t0 (mV (L rfl) rfl (swn (g:=7) rfl (by simp; omega) (L rfl) rfl ?_)))
   refine swn (g:=7) rfl (by simp; omega) (L rfl) rfl ?_
   refine swn (g:=7) rfl (by simp; omega) (L rfl) rfl ?_
   refine swn (g:=7) rfl (by simp; omega) (L rfl) rfl ?_
   refine swn (g:=7) rfl (by simp; omega) (L rfl) rfl ?_
   refine sw (c_pf (by simp; omega) (L rfl)) t2 t0 ?_
   refine mV (L rfl) rfl (swn (g:=14) rfl rfl (L rfl) rfl (swn (g:=14) rfl rfl (L rfl) rfl (swn (g:=14) rfl rfl (L rfl) rfl (sw (c_pf rfl (L rfl)) t2 t0 (aV (L rfl) rfl ?_)))))
   exact seq_nil ⟨⟨ob rfl (by simp [h2]),trivial⟩,trivial⟩
  ·refine sw (c_fa un24 rfl sz22 (by decide) (by exact rfl) (L rfl)) t1 t1 ?_
   refine sw (c_l1 ag22 (by rfl) (by rfl) (L rfl)) t1 t1 ?_
   refine sw (c_ln un22 (L rfl)) t1 t0 (sw (c_e (L rfl)) t2 t0 (mV (L rfl) rfl (swg (g:=7) rfl (by simp; omega) (c_fa un24 rfl sz22 (by decide) (by exact rfl) (L rfl)) rfl t1 t1 ?_)))
   refine swg (g:=7) rfl (by simp; omega) (c_l1 ag22 (by rfl) (by rfl) (L rfl)) rfl t1 t1 ?_
   refine swg (g:=7) rfl (by simp; omega) (ixJ un22 sz68 (j:=0) rfl (by omega) (by simp) (L rfl)) rfl t2 t0 ?_
   refine swg (g:=7) rfl (by simp; omega) (c_li ag68 (by first | exact getW (by omega) | rfl) (L rfl)) rfl t1 t0 ?_
   refine swg (g:=7) rfl (by simp; omega) (c_e (L rfl)) rfl t2 t0 ?_
   refine sw (c_pt (by simp; omega) (L rfl)) t2 t0 ?_
   refine mV (L rfl) rfl (swn (g:=14) rfl (by simpa using h2) (L rfl) rfl ?_)
   refine swn (g:=14) rfl (by simpa using h2) (L rfl) rfl ?_
   refine swn (g:=14) rfl (by simpa using h2) (L rfl) rfl ?_
   refine sw (c_pf (by simpa using h2) (L rfl)) t2 t0 ?_
   refine aV (L rfl) rfl ?_
   exact seq_nil ⟨⟨ob rfl (by simp [h3]),trivial⟩,trivial⟩
  ·refine sw (c_fa un24 rfl sz22 (by decide) (by exact rfl) (L rfl)) t1 t1 ?_
   refine sw (c_l1 ag22 (by rfl) (by rfl) (L rfl)) t1 t1 ?_
   refine sw (c_ln un22 (L rfl)) t1 t0 (sw (c_e (L rfl)) t2 t0 (mV (L rfl) rfl (swg (g:=7) rfl (by simp; omega) (c_fa un24 rfl sz22 (by decide) (by exact rfl) (L rfl)) rfl t1 t1 ?_)))
   refine swg (g:=7) rfl (by simp; omega) (c_l1 ag22 (by rfl) (by rfl) (L rfl)) rfl t1 t1 ?_
   refine swg (g:=7) rfl (by simp; omega) (ixJ un22 sz68 (j:=0) rfl (by omega) (by simp) (L rfl)) rfl t2 t0 ?_
   refine swg (g:=7) rfl (by simp; omega) (c_li ag68 (by first | exact getW (by omega) | rfl) (L rfl)) rfl t1 t0 ?_
   refine swg (g:=7) rfl (by simp; omega) (c_e (L rfl)) rfl t2 t0 ?_
   refine sw (c_pt (by simp; omega) (L rfl)) t2 t0 ?_
   refine mV (L rfl) rfl (swg (g:=14) rfl (by simpa using h2) (c_fa un24 rfl sz4 (by decide) (by exact rfl) (L rfl)) rfl t1 t1 ?_)
   refine swg (g:=14) rfl (by simpa using h2) (c_l1 ag4 (by rfl) (by rfl) (L rfl)) rfl t1 t1 ?_
   refine swg (g:=14) rfl (by simpa using h2) (c_no (L rfl)) rfl t1 t0 ?_
   refine sw (c_pt (by simpa using h2) (L rfl)) t2 t0 ?_
   refine aV (L rfl) rfl ?_
   exact seq_nil ⟨⟨ob rfl (by rw [dec_eq h3]; exact (decide_not ..).symm),trivial⟩,trivial⟩
 refine ex_ret ?_
 refine ⟨.inr rfl,ResVs.cast (.cons (.tmp rfl) .nil) ?_⟩
 rfl
theorem rone_says  : Says E 64 [] (pZ 1):=by
 refine says_of (xs:=[pZ 1]) Tryz.func64 rfl Tryz.ntmps64 Tryz.results64 (by simp) fun F hG hX0 hnt hdf P0=>?_
 obtain ⟨L,hX,hN⟩:=pro hnt hX0 hG
 refine exr (swb (c_al (k:=0) (n:=2) zv24 (.cons rfl (.cons rfl .nil)) rfl (P0 _ rfl) (L rfl)) t0 t0 ⟨rfl,rfl⟩ (zn [(0,_)] [(0,_)] t1 t1 (exr (cK hG hX cl45 hN (rof_says 1 (by decide) (by decide)) (L rfl) t1 ?_))))
 refine sb (c_sm sz24 (by rfl) pa2 rfl pu2) t2 t1 ?_
 refine zn [(0,_)] [(0,_)] t1 t1 (ex_ret ?_)
 refine ⟨.inr rfl,ResVs.cast (.cons (.agg rfl rfl rfl ag24 sz24 (.cons (.cons .nil))) .nil) ?_⟩
 rfl
theorem roverZ (n d : Int) (h0 : d ≠ 0) (hn : nw n < 9000000000) (hd : nw d < 9000000000) : Says E 62 [pZ n,pZ d] (pQ (Rat.divInt n d)):=by
 refine says_of (xs:=[pQ (Rat.divInt n d)]) Tryz.func62 rfl Tryz.ntmps62 Tryz.results62 (by simp) fun F hG hX0 hnt hdf P0=>?_
 obtain ⟨L,hX,hN⟩:=pro hnt hX0 hG
 have hg:=gn (n:=n) h0 hd
 have hs:=sgcd_ne (n:=n) h0
 have hw:=sgcd_nw (n:=n) h0
 refine exr (swb (c_bx (k:=2) (n:=2) pa2 rfl rfl (P0 _ rfl) (L rfl)) t1 t0 ⟨rfl,rfl⟩ (swb (c_bx (k:=3) (n:=2) pa2 rfl rfl (P0 _ rfl) (L rfl)) t1 t0 ⟨rfl,rfl⟩ (swb (c_al (k:=4) (n:=4) zv26 (.cons rfl (.cons rfl (.cons rfl (.cons rfl .nil)))) rfl (P0 _ rfl) (L rfl)) t0 t0 ⟨rfl,rfl⟩ (zn [(2,_),(3,_),(4,_)] [(2,_),(3,_),(4,_)] t3 t3 (ex_seq (exr (lp2 ag24 sz24 (L rfl) rfl rfl (cK hG hX cl71 hN (risOneZ d (by omega)) (L rfl) t1 ?_))))))))
 refine zn [(2,_),(3,_),(4,_),(7,_)] [(2,_),(3,_),(4,_)] t4 t3 ?_
 refine ex_if rfl (fun h1=>?_) (fun h1=>?_)
 ·have h1:=dt h1
  refine exr (lp2 ag24 sz24 (L rfl) rfl rfl (lp2 ag24 sz24 (L rfl) rfl rfl (sw (c_bp (vs:=[_,_]) un26 zv26 (.cons rfl (.cons rfl (.cons rfl (.cons rfl .nil)))) ((Places.cons sz24 (Places.cons sz24 Places.nil))).to rfl (.cons rfl pa2 rfl pu2 (.cons rfl pa2 rfl (.skip (.skip pu2)) .nil)) (.cons (.cons (.cons (.cons .nil)))) (L rfl)) t2 t0 (sb (c_sm sz26 (by rfl) pa4 rfl pu4) t2 t1 ?_))))
  refine zn [(4,_)] [(4,_)] t1 t1 (ex_ret ?_)
  refine ⟨.inr rfl,ResVs.cast (.cons (.agg rfl rfl rfl ag26 sz26 (.cons (.cons (.cons (.cons .nil))))) .nil) ?_⟩
  exact congrArg (· :: []) (cN (by rw [h1,divInt_one']; rfl) (by rw [h1,divInt_one']; rfl))
 ·refine ex_skip (show Exec _ _ _ _ _ from ?_)
  refine exr (lp2 ag24 sz24 (L rfl) rfl rfl (lp2 ag24 sz24 (L rfl) rfl rfl (cK hG hX cl44 hN (rgcdZ n d (by omega) (by omega)) (L rfl) t2 ?_)))
  refine swb (c_al (k:=5) (n:=2) zv24 (.cons rfl (.cons rfl .nil)) rfl (P0 _ rfl) (L rfl)) t0 t0 ⟨rfl,rfl⟩ (sb (c_sm sz24 (by rfl) pa2 rfl pu2) t2 t1 ?_)
  refine zn [(2,_),(3,_),(4,_),(5,_)] [(2,_),(3,_),(4,_),(5,_)] t4 t4 (ex_seq ?_)
  refine exm (sl:=[(20,vb (decide ((Int.gcd n d : Int) = 1 ∧ ¬ d < 0)))]) (sl0:=[(2,_),(3,_),(4,_),(5,_)]) (hb:=[]) (hb0:=[(2,_),(3,_),(4,_),(5,_)]) t4 t4 ?_ ?_
  ·by_cases hg1 : (Int.gcd n d : Int) = 1
   ·refine lp2 ag24 sz24 (L rfl) rfl rfl (cK hG hX cl71 hN (risOneZ (Int.gcd n d : Int) (by omega)) (L rfl) t1 ?_)
    refine mV (L rfl) rfl (swg (g:=16) rfl (by simp [hg1]) (c_fa un24 rfl sz4 (by decide) (by exact rfl) (L rfl)) rfl t1 t1 ?_)
    refine swg (g:=16) rfl (by simp [hg1]) (c_l1 ag4 (by rfl) (by rfl) (L rfl)) rfl t1 t1 ?_
    refine swg (g:=16) rfl (by simp [hg1]) (c_no (L rfl)) rfl t1 t0 ?_
    refine sw (c_pt (by simp [hg1]) (L rfl)) t2 t0 ?_
    exact seq_nil ⟨⟨ob rfl (by simp only [hg1,true_and]; exact (decide_not ..).symm),rfl,rfl,rfl,rfl,trivial⟩,t4⟩
   ·refine lp2 ag24 sz24 (L rfl) rfl rfl (cK hG hX cl71 hN (risOneZ (Int.gcd n d : Int) (by omega)) (L rfl) t1 ?_)
    refine mV (L rfl) rfl (swn (g:=16) rfl (by simp [hg1]) (L rfl) rfl ?_)
    refine swn (g:=16) rfl (by simp [hg1]) (L rfl) rfl ?_
    refine swn (g:=16) rfl (by simp [hg1]) (L rfl) rfl ?_
    refine sw (c_pf (by simp [hg1]) (L rfl)) t2 t0 ?_
    exact seq_nil ⟨⟨ob rfl (by simp [hg1]),rfl,rfl,rfl,rfl,trivial⟩,t4⟩
  refine ex_if rfl (fun h2=>?_) (fun h2=>?_)
  ·have h2:=dt h2
   have hh:=sgcd_one (n:=n) (d:=d) (by omega) h2.2
   refine exr (lp2 ag24 sz24 (L rfl) rfl rfl (lp2 ag24 sz24 (L rfl) rfl rfl (sw (c_bp (vs:=[_,_]) un26 zv26 (.cons rfl (.cons rfl (.cons rfl (.cons rfl .nil)))) ((Places.cons sz24 (Places.cons sz24 Places.nil))).to rfl (.cons rfl pa2 rfl pu2 (.cons rfl pa2 rfl (.skip (.skip pu2)) .nil)) (.cons (.cons (.cons (.cons .nil)))) (L rfl)) t2 t0 (sb (c_sm sz26 (by rfl) pa4 rfl pu4) t2 t1 ?_))))
   refine zn [(4,_)] [(4,_)] t1 t1 (ex_ret ?_)
   refine ⟨.inr rfl,ResVs.cast (.cons (.agg rfl rfl rfl ag26 sz26 (.cons (.cons (.cons (.cons .nil))))) .nil) ?_⟩
   exact congrArg (· :: []) (cN (by rw [ovr_num h0,hh,Int.ediv_one]) (by rw [ovr_den h0,hh,Int.ediv_one]))
  ·refine ex_skip (show Exec _ _ _ _ _ from ?_)
   refine ex_seq (exr (lp2 ag24 sz24 (L rfl) rfl rfl (cK hG hX cl43 hN (rsignZ d (by omega)) (L rfl) t1 ?_)))
   refine sw (c_ls (L rfl)) t2 t0 (zn [(2,_),(3,_),(4,_),(5,_),(26,_)] [(2,_),(3,_),(4,_),(5,_)] t5 t4 ?_)
   refine ex_if rfl (fun h4=>?_) (fun h4=>?_)
   ·have h4:=dt h4
    rw [sg0] at h4
    rw [sgn h4] at hs hw
    refine exr0 (lp2 ag24 sz24 (L rfl) rfl rfl (cK hG hX cl73 hN (rnegZ (Int.gcd n d : Int) (by omega)) (L rfl) t1 ?_))
    refine sb (c_sm sz24 (by rfl) pa2 rfl pu2) t2 t1 ?_
    refine seq_nil (exd (by rfl) ?_)
    refine lp2 ag24 sz24 (L rfl) rfl rfl (lp2 ag24 sz24 (L rfl) rfl rfl (cK hG hX cl103 hN (rquoZ n (-(Int.gcd n d : Int)) (by omega) (by omega) hs) (L rfl) t2 ?_))
    refine lp2 ag24 sz24 (L rfl) rfl rfl (lp2 ag24 sz24 (L rfl) rfl rfl (cK hG hX cl103 hN (rquoZ d (-(Int.gcd n d : Int)) (by omega) (by omega) hs) (L rfl) t2 ?_))
    refine sw (c_bp (vs:=[_,_]) un26 zv26 (.cons rfl (.cons rfl (.cons rfl (.cons rfl .nil)))) ((Places.cons sz24 (Places.cons sz24 Places.nil))).to rfl (.cons rfl pa2 rfl pu2 (.cons rfl pa2 rfl (.skip (.skip pu2)) .nil)) (.cons (.cons (.cons (.cons .nil)))) (L rfl)) t2 t0 (sb (c_sm sz26 (by rfl) pa4 rfl pu4) t2 t1 ?_)
    refine seq_nil ⟨aoks [⟨[2],[2],[29],[]⟩,⟨[5],[5],[30],[]⟩,⟨[29,30],[],[31],[]⟩,⟨[3],[3],[32],[]⟩,⟨[5],[5],[33],[]⟩,⟨[32,33],[],[34],[]⟩,⟨[31,34],[],[35],[]⟩,⟨[4,35],[4],[],[4]⟩] (by rfl) (by rfl) (by decide),[(4,_)],[(4,_)],t1,t1,?_⟩
    refine ex_ret ?_
    refine ⟨.inr rfl,ResVs.cast (.cons (.agg rfl rfl rfl ag26 sz26 (.cons (.cons (.cons (.cons .nil))))) .nil) ?_⟩
    exact congrArg (· :: []) (cN (by rw [ovr_num h0,sgn h4]) (by rw [ovr_den h0,sgn h4]))
   ·have h4:=df h4
    rw [sg0] at h4
    rw [sgp h4] at hs hw
    refine ex_skip (show Exec _ _ _ _ _ from ?_)
    refine exd (by rfl) ?_
    refine lp2 ag24 sz24 (L rfl) rfl rfl (lp2 ag24 sz24 (L rfl) rfl rfl (cK hG hX cl103 hN (rquoZ n (Int.gcd n d : Int) (by omega) (by omega) hs) (L rfl) t2 ?_))
    refine lp2 ag24 sz24 (L rfl) rfl rfl (lp2 ag24 sz24 (L rfl) rfl rfl (cK hG hX cl103 hN (rquoZ d (Int.gcd n d : Int) (by omega) (by omega) hs) (L rfl) t2 ?_))
    refine sw (c_bp (vs:=[_,_]) un26 zv26 (.cons rfl (.cons rfl (.cons rfl (.cons rfl .nil)))) ((Places.cons sz24 (Places.cons sz24 Places.nil))).to rfl (.cons rfl pa2 rfl pu2 (.cons rfl pa2 rfl (.skip (.skip pu2)) .nil)) (.cons (.cons (.cons (.cons .nil)))) (L rfl)) t2 t0 (sb (c_sm sz26 (by rfl) pa4 rfl pu4) t2 t1 ?_)
    refine seq_nil ⟨aoks [⟨[2],[2],[29],[]⟩,⟨[5],[5],[30],[]⟩,⟨[29,30],[],[31],[]⟩,⟨[3],[3],[32],[]⟩,⟨[5],[5],[33],[]⟩,⟨[32,33],[],[34],[]⟩,⟨[31,34],[],[35],[]⟩,⟨[4,35],[4],[],[4]⟩] (by rfl) (by rfl) (by decide),[(4,_)],[(4,_)],t1,t1,?_⟩
    refine ex_ret ?_
    refine ⟨.inr rfl,ResVs.cast (.cons (.agg rfl rfl rfl ag26 sz26 (.cons (.cons (.cons (.cons .nil))))) .nil) ?_⟩
    exact congrArg (· :: []) (cN (by rw [ovr_num h0,sgp h4]) (by rw [ovr_den h0,sgp h4]))
theorem rqneg_says (a : Rat) (ha : qw a < 1000000000) : Says E 29 [pQ a] (pQ (-a)):=by
 refine says_of (xs:=[pQ (-a)]) Tryz.func29 rfl Tryz.ntmps29 Tryz.results29 (by simp) fun F hG hX0 hnt hdf P0=>?_
 obtain ⟨L,hX,hN⟩:=pro hnt hX0 hG
 have h1:=nw_num_le a
 refine exr (swb (c_bx (k:=1) (n:=4) pa4 rfl rfl (P0 _ rfl) (L rfl)) t1 t0 ⟨rfl,rfl⟩ (swb (c_al (k:=2) (n:=4) zv26 (.cons rfl (.cons rfl (.cons rfl (.cons rfl .nil)))) rfl (P0 _ rfl) (L rfl)) t0 t0 ⟨rfl,rfl⟩ (zn [(1,_),(2,_)] [(1,_),(2,_)] t2 t2 (exd (by rfl) ?_))))
 refine sw (c_fa un26 rfl sz24 (by decide) (by exact rfl) (L rfl)) t1 t1 ?_
 refine lp2 ag24 sz24 (L rfl) rfl rfl (cK hG hX cl73 hN (rnegZ a.num (by omega)) (L rfl) t1 ?_)
 refine sw (c_fa un26 rfl sz24 (by decide) (by exact rfl) (L rfl)) t1 t1 ?_
 refine lp2 ag24 sz24 (L rfl) rfl rfl (sw (c_bp (vs:=[_,_]) un26 zv26 (.cons rfl (.cons rfl (.cons rfl (.cons rfl .nil)))) ((Places.cons sz24 (Places.cons sz24 Places.nil))).to rfl (.cons rfl pa2 rfl pu2 (.cons rfl pa2 rfl (.skip (.skip pu2)) .nil)) (.cons (.cons (.cons (.cons .nil)))) (L rfl)) t2 t0 (sb (c_sm sz26 (by rfl) pa4 rfl pu4) t2 t1 ?_))
 refine seq_nil ⟨aoks [⟨[1],[1],[3],[]⟩,⟨[3],[1],[4],[]⟩,⟨[4],[],[5],[]⟩,⟨[1],[1],[6],[]⟩,⟨[6],[1],[7],[]⟩,⟨[5,7],[],[8],[]⟩,⟨[2,8],[2],[],[2]⟩] (by rfl) (by rfl) (by decide),[(2,_)],[(2,_)],t1,t1,?_⟩
 refine ex_ret ?_
 refine ⟨.inr rfl,ResVs.cast (.cons (.agg rfl rfl rfl ag26 sz26 (.cons (.cons (.cons (.cons .nil))))) .nil) ?_⟩
 exact congrArg (· :: []) (cN rfl rfl)
theorem rqsign_says (a : Rat) (ha : qw a < 1000000000) : Says E 25 [pQ a] (vZ (cmpQ a 0)):=by
 refine says_of (xs:=[vZ (cmpQ a 0)]) Tryz.func25 rfl Tryz.ntmps25 Tryz.results25 (by simp) fun F hG hX0 hnt hdf P0=>?_
 obtain ⟨L,hX,hN⟩:=pro hnt hX0 hG
 have h1:=nw_num_le a
 refine exr (swb (c_bx (k:=1) (n:=4) pa4 rfl rfl (P0 _ rfl) (L rfl)) t1 t0 ⟨rfl,rfl⟩ (aV (L rfl) rfl (zn [(1,_)] [(1,_)] t1 t1 (exr (sw (c_fa un26 rfl sz24 (by decide) (by exact rfl) (L rfl)) t1 t1 ?_)))))
 refine lp2 ag24 sz24 (L rfl) rfl rfl (cK hG hX cl43 hN (rsignZ a.num (by omega)) (L rfl) t1 ?_)
 refine aV (L rfl) rfl (zn [(2,_)] [] t1 trivial (ex_ret ?_))
 refine ⟨.inr rfl,ResVs.cast (.cons (.tmp rfl) .nil) ?_⟩
 rw [q_sign]
theorem rqmul_says (a b : Rat) (ha : qw a < 1000000000) (hb : qw b < 1000000000) : Says E 38 [pQ a,pQ b] (pQ (a * b)):=by
 refine says_of (xs:=[pQ (a * b)]) Tryz.func38 rfl Tryz.ntmps38 Tryz.results38 (by simp) fun F hG hX0 hnt hdf P0=>?_
 obtain ⟨L,hX,hN⟩:=pro hnt hX0 hG
 have h1:=nw_num_le a
 have h2:=nw_num_le b
 have h3:=nw_den_le a
 have h4:=nw_den_le b
 have h5:=nw_mul a.num b.num
 have h6:=nw_mul a.den b.den
 refine exr (swb (c_bx (k:=2) (n:=4) pa4 rfl rfl (P0 _ rfl) (L rfl)) t1 t0 ⟨rfl,rfl⟩ (swb (c_bx (k:=3) (n:=4) pa4 rfl rfl (P0 _ rfl) (L rfl)) t1 t0 ⟨rfl,rfl⟩ (swb (c_al (k:=4) (n:=4) zv26 (.cons rfl (.cons rfl (.cons rfl (.cons rfl .nil)))) rfl (P0 _ rfl) (L rfl)) t0 t0 ⟨rfl,rfl⟩ (zn [(2,_),(3,_),(4,_)] [(2,_),(3,_),(4,_)] t3 t3 (exd (by rfl) ?_)))))
 refine sw (c_fa un26 rfl sz24 (by decide) (by exact rfl) (L rfl)) t1 t1 ?_
 refine lp2 ag24 sz24 (L rfl) rfl rfl (sw (c_fa un26 rfl sz24 (by decide) (by exact rfl) (L rfl)) t1 t1 ?_)
 refine lp2 ag24 sz24 (L rfl) rfl rfl (cK hG hX cl68 hN (rmulZ2 a.num b.num (by omega) (by omega)) (L rfl) t2 ?_)
 refine sw (c_fa un26 rfl sz24 (by decide) (by exact rfl) (L rfl)) t1 t1 ?_
 refine lp2 ag24 sz24 (L rfl) rfl rfl (sw (c_fa un26 rfl sz24 (by decide) (by exact rfl) (L rfl)) t1 t1 ?_)
 refine lp2 ag24 sz24 (L rfl) rfl rfl (cK hG hX cl68 hN (rmulZ2 a.den b.den (by omega) (by omega)) (L rfl) t2 ?_)
 refine cK hG hX cl62 hN (roverZ (a.num * b.num) (a.den * b.den) (Int.mul_ne_zero (den_ne a) (den_ne b)) (by omega) (by omega)) (L rfl) t2 ?_
 refine sb (c_sm sz26 (by rfl) pa4 rfl pu4) t2 t1 ?_
 refine seq_nil ⟨aoks [⟨[2],[2],[5],[]⟩,⟨[5],[2],[6],[]⟩,⟨[3],[3],[7],[]⟩,⟨[7],[3],[8],[]⟩,⟨[6,8],[],[9],[]⟩,⟨[2],[2],[10],[]⟩,⟨[10],[2],[11],[]⟩,⟨[3],[3],[12],[]⟩,⟨[12],[3],[13],[]⟩,⟨[11,13],[],[14],[]⟩,⟨[9,14],[],[15],[]⟩,⟨[4,15],[4],[],[4]⟩] (by rfl) (by rfl) (by decide),[(4,_)],[(4,_)],t1,t1,?_⟩
 refine ex_ret ?_
 refine ⟨.inr rfl,ResVs.cast (.cons (.agg rfl rfl rfl ag26 sz26 (.cons (.cons (.cons (.cons .nil))))) .nil) ?_⟩
 rw [q_mul]
theorem rqadd_says (a b : Rat) (ha : qw a < 1000000000) (hb : qw b < 1000000000) : Says E 34 [pQ a,pQ b] (pQ (a + b)):=by
 refine says_of (xs:=[pQ (a + b)]) Tryz.func34 rfl Tryz.ntmps34 Tryz.results34 (by simp) fun F hG hX0 hnt hdf P0=>?_
 obtain ⟨L,hX,hN⟩:=pro hnt hX0 hG
 have h1:=nw_num_le a
 have h2:=nw_num_le b
 have h3:=nw_den_le a
 have h4:=nw_den_le b
 have h5:=nw_mul a.num b.den
 have h6:=nw_mul b.num a.den
 have h7:=nw_mul a.den b.den
 have h8:=nw_add (a.num * b.den) (b.num * a.den)
 refine exr (swb (c_bx (k:=2) (n:=4) pa4 rfl rfl (P0 _ rfl) (L rfl)) t1 t0 ⟨rfl,rfl⟩ (swb (c_bx (k:=3) (n:=4) pa4 rfl rfl (P0 _ rfl) (L rfl)) t1 t0 ⟨rfl,rfl⟩ (swb (c_al (k:=4) (n:=4) zv26 (.cons rfl (.cons rfl (.cons rfl (.cons rfl .nil)))) rfl (P0 _ rfl) (L rfl)) t0 t0 ⟨rfl,rfl⟩ (zn [(2,_),(3,_),(4,_)] [(2,_),(3,_),(4,_)] t3 t3 (ex_seq ?_)))))
 refine exm (sl:=[(12,vb (decide ((a.den : Int) = 1 ∧ (b.den : Int) = 1)))]) (sl0:=[(2,_),(3,_),(4,_)]) (hb:=[]) (hb0:=[(2,_),(3,_),(4,_)]) t3 t3 ?_ ?_
 ·by_cases hd : (a.den : Int) = 1
  ·refine sw (c_fa un26 rfl sz24 (by decide) (by exact rfl) (L rfl)) t1 t1 ?_
   refine lp2 ag24 sz24 (L rfl) rfl rfl (cK hG hX cl71 hN (risOneZ a.den (by omega)) (L rfl) t1 ?_)
   refine mV (L rfl) rfl (swg (g:=8) rfl (by simpa using hd) (c_fa un26 rfl sz24 (by decide) (by exact rfl) (L rfl)) rfl t1 t1 ?_)
   refine swg (g:=8) rfl (by simpa using hd) (c_lp ag24 sz24 (by rfl) (by exact al2) rfl (L rfl)) rfl t1 t1 ?_
   refine swg (g:=8) rfl (by simpa using hd) (c_c hG hX cl71 rfl hN (risOneZ b.den (by omega)) (L rfl)) rfl t1 t0 ?_
   refine sw (c_pt (by simpa using hd) (L rfl)) t2 t0 ?_
   exact seq_nil ⟨⟨ob rfl (by simp only [hd,true_and]),rfl,rfl,rfl,trivial⟩,t3⟩
  ·refine sw (c_fa un26 rfl sz24 (by decide) (by exact rfl) (L rfl)) t1 t1 ?_
   refine lp2 ag24 sz24 (L rfl) rfl rfl (cK hG hX cl71 hN (risOneZ a.den (by omega)) (L rfl) t1 ?_)
   refine mV (L rfl) rfl (swn (g:=8) rfl (by simpa using hd) (L rfl) rfl ?_)
   refine swn (g:=8) rfl (by simpa using hd) (L rfl) rfl ?_
   refine swn (g:=8) rfl (by simpa using hd) (L rfl) rfl ?_
   refine sw (c_pf (by simpa using hd) (L rfl)) t2 t0 ?_
   exact seq_nil ⟨⟨ob rfl (by simp only [hd,false_and]; rfl),rfl,rfl,rfl,trivial⟩,t3⟩
 refine ex_if rfl (fun hc=>?_) (fun hc=>?_)
 ·have hc:=dt hc
  refine exd (by rfl) ?_
  refine sw (c_fa un26 rfl sz24 (by decide) (by exact rfl) (L rfl)) t1 t1 ?_
  refine lp2 ag24 sz24 (L rfl) rfl rfl (sw (c_fa un26 rfl sz24 (by decide) (by exact rfl) (L rfl)) t1 t1 ?_)
  refine lp2 ag24 sz24 (L rfl) rfl rfl (cK hG hX cl77 hN (raddZ a.num b.num (by omega) (by omega)) (L rfl) t2 ?_)
  refine sw (c_fa un26 rfl sz24 (by decide) (by exact rfl) (L rfl)) t1 t1 ?_
  refine lp2 ag24 sz24 (L rfl) rfl rfl (sw (c_bp (vs:=[_,_]) un26 zv26 (.cons rfl (.cons rfl (.cons rfl (.cons rfl .nil)))) ((Places.cons sz24 (Places.cons sz24 Places.nil))).to rfl (.cons rfl pa2 rfl pu2 (.cons rfl pa2 rfl (.skip (.skip pu2)) .nil)) (.cons (.cons (.cons (.cons .nil)))) (L rfl)) t2 t0 (sb (c_sm sz26 (by rfl) pa4 rfl pu4) t2 t1 ?_))
  refine seq_nil ⟨aoks [⟨[2],[2],[13],[]⟩,⟨[13],[2],[14],[]⟩,⟨[3],[3],[15],[]⟩,⟨[15],[3],[16],[]⟩,⟨[14,16],[],[17],[]⟩,⟨[2],[2],[18],[]⟩,⟨[18],[2],[19],[]⟩,⟨[17,19],[],[20],[]⟩,⟨[4,20],[4],[],[4]⟩] (by rfl) (by rfl) (by decide),[(4,_)],[(4,_)],t1,t1,?_⟩
  refine ex_ret ?_
  refine ⟨.inr rfl,ResVs.cast (.cons (.agg rfl rfl rfl ag26 sz26 (.cons (.cons (.cons (.cons .nil))))) .nil) ?_⟩
  exact congrArg (· :: []) (cN (by rw [← q_add,hc.1,hc.2,Int.mul_one,Int.mul_one,Int.mul_one,divInt_one']; rfl) (by rw [← q_add,hc.1,hc.2,Int.mul_one,Int.mul_one,Int.mul_one,divInt_one']; rfl))
 ·refine ex_skip (show Exec _ _ _ _ _ from ?_)
  refine exd (by rfl) ?_
  refine sw (c_fa un26 rfl sz24 (by decide) (by exact rfl) (L rfl)) t1 t1 ?_
  refine lp2 ag24 sz24 (L rfl) rfl rfl (sw (c_fa un26 rfl sz24 (by decide) (by exact rfl) (L rfl)) t1 t1 ?_)
  refine lp2 ag24 sz24 (L rfl) rfl rfl (cK hG hX cl68 hN (rmulZ2 a.num b.den (by omega) (by omega)) (L rfl) t2 ?_)
  refine sw (c_fa un26 rfl sz24 (by decide) (by exact rfl) (L rfl)) t1 t1 ?_
  refine lp2 ag24 sz24 (L rfl) rfl rfl (sw (c_fa un26 rfl sz24 (by decide) (by exact rfl) (L rfl)) t1 t1 ?_)
  refine lp2 ag24 sz24 (L rfl) rfl rfl (cK hG hX cl68 hN (rmulZ2 b.num a.den (by omega) (by omega)) (L rfl) t2 ?_)
  refine cK hG hX cl77 hN (raddZ (a.num * b.den) (b.num * a.den) (by omega) (by omega)) (L rfl) t2 ?_
  refine sw (c_fa un26 rfl sz24 (by decide) (by exact rfl) (L rfl)) t1 t1 ?_
  refine lp2 ag24 sz24 (L rfl) rfl rfl (sw (c_fa un26 rfl sz24 (by decide) (by exact rfl) (L rfl)) t1 t1 ?_)
  refine lp2 ag24 sz24 (L rfl) rfl rfl (cK hG hX cl68 hN (rmulZ2 a.den b.den (by omega) (by omega)) (L rfl) t2 ?_)
  refine cK hG hX cl62 hN (roverZ (a.num * b.den + b.num * a.den) (a.den * b.den) (Int.mul_ne_zero (den_ne a) (den_ne b)) (by omega) (by omega)) (L rfl) t2 ?_
  refine sb (c_sm sz26 (by rfl) pa4 rfl pu4) t2 t1 ?_
  refine seq_nil ⟨aoks [⟨[2],[2],[21],[]⟩,⟨[21],[2],[22],[]⟩,⟨[3],[3],[23],[]⟩,⟨[23],[3],[24],[]⟩,⟨[22,24],[],[25],[]⟩,⟨[3],[3],[26],[]⟩,⟨[26],[3],[27],[]⟩,⟨[2],[2],[28],[]⟩,⟨[28],[2],[29],[]⟩,⟨[27,29],[],[30],[]⟩,⟨[25,30],[],[31],[]⟩,⟨[2],[2],[32],[]⟩,⟨[32],[2],[33],[]⟩,⟨[3],[3],[34],[]⟩,⟨[34],[3],[35],[]⟩,⟨[33,35],[],[36],[]⟩,⟨[31,36],[],[37],[]⟩,⟨[4,37],[4],[],[4]⟩] (by rfl) (by rfl) (by decide),[(4,_)],[(4,_)],t1,t1,?_⟩
  refine ex_ret ?_
  refine ⟨.inr rfl,ResVs.cast (.cons (.agg rfl rfl rfl ag26 sz26 (.cons (.cons (.cons (.cons .nil))))) .nil) ?_⟩
  rw [q_add]
theorem rqsub_says (a b : Rat) (ha : qw a < 1000000000) (hb : qw b < 1000000000) : Says E 36 [pQ a,pQ b] (pQ (a - b)):=by
 refine says_of (xs:=[pQ (a - b)]) Tryz.func36 rfl Tryz.ntmps36 Tryz.results36 (by simp) fun F hG hX0 hnt hdf P0=>?_
 obtain ⟨L,hX,hN⟩:=pro hnt hX0 hG
 refine exr (swb (c_bx (k:=2) (n:=4) pa4 rfl rfl (P0 _ rfl) (L rfl)) t1 t0 ⟨rfl,rfl⟩ (swb (c_bx (k:=3) (n:=4) pa4 rfl rfl (P0 _ rfl) (L rfl)) t1 t0 ⟨rfl,rfl⟩ (swb (c_al (k:=4) (n:=4) zv26 (.cons rfl (.cons rfl (.cons rfl (.cons rfl .nil)))) rfl (P0 _ rfl) (L rfl)) t0 t0 ⟨rfl,rfl⟩ (zn [(2,_),(3,_),(4,_)] [(2,_),(3,_),(4,_)] t3 t3 (exd (by rfl) ?_)))))
 refine lp4 ag26 sz26 (L rfl) rfl rfl (lp4 ag26 sz26 (L rfl) rfl rfl (cK hG hX cl29 hN (rqneg_says b hb) (L rfl) t1 (cK hG hX cl34 hN (rqadd_says a (-b) ha (by rw [qw_neg]; exact hb)) (L rfl) t2 ?_)))
 refine sb (c_sm sz26 (by rfl) pa4 rfl pu4) t2 t1 ?_
 refine seq_nil ⟨aoks [⟨[2],[2],[5],[]⟩,⟨[3],[3],[6],[]⟩,⟨[6],[],[7],[]⟩,⟨[5,7],[],[8],[]⟩,⟨[4,8],[4],[],[4]⟩] (by rfl) (by rfl) (by decide),[(4,_)],[(4,_)],t1,t1,?_⟩
 refine ex_ret ?_
 refine ⟨.inr rfl,ResVs.cast (.cons (.agg rfl rfl rfl ag26 sz26 (.cons (.cons (.cons (.cons .nil))))) .nil) ?_⟩
 rw [← Rat.sub_eq_add_neg]
theorem rqdiv_says (a b : Rat) (ha : qw a < 1000000000) (hb : qw b < 1000000000) (h0 : b ≠ 0) : Says E 23 [pQ a,pQ b] (.tup [pQ (a / b),vZ 0]):=by
 refine says_of (xs:=[pQ (a / b),vZ 0]) Tryz.func23 rfl Tryz.ntmps23 Tryz.results23 (by simp) fun F hG hX0 hnt hdf P0=>?_
 obtain ⟨L,hX,hN⟩:=pro hnt hX0 hG
 have h1:=nw_num_le a
 have h2:=nw_num_le b
 have h3:=nw_den_le a
 have h4:=nw_den_le b
 have h5:=nw_mul a.num b.den
 have h6:=nw_mul a.den b.num
 refine exr (swb (c_bx (k:=2) (n:=4) pa4 rfl rfl (P0 _ rfl) (L rfl)) t1 t0 ⟨rfl,rfl⟩ (swb (c_bx (k:=3) (n:=4) pa4 rfl rfl (P0 _ rfl) (L rfl)) t1 t0 ⟨rfl,rfl⟩ (swb (c_al (k:=4) (n:=4) zv26 (.cons rfl (.cons rfl (.cons rfl (.cons rfl .nil)))) rfl (P0 _ rfl) (L rfl)) t0 t0 ⟨rfl,rfl⟩ (aV (L rfl) rfl (zn [(2,_),(3,_),(4,_)] [(2,_),(3,_),(4,_)] t3 t3 (ex_seq (exr (lp4 ag26 sz26 (L rfl) rfl rfl (cK hG hX cl25 hN (rqsign_says b hb) (L rfl) t1 (sw (c_e (L rfl)) t2 t0 (zn [(2,_),(3,_),(4,_),(8,_)] [(2,_),(3,_),(4,_)] t4 t3 ?_)))))))))))
 refine ex_if rfl (fun hc=>?_) (fun hc=>?_)
 ·have hc:=dt hc
  rw [← q_sign,q_sign0] at hc
  exact absurd hc h0
 ·refine ex_skip (show Exec _ _ _ _ _ from ?_)
  refine exd (by rfl) ?_
  refine sw (c_fa un26 rfl sz24 (by decide) (by exact rfl) (L rfl)) t1 t1 ?_
  refine lp2 ag24 sz24 (L rfl) rfl rfl (sw (c_fa un26 rfl sz24 (by decide) (by exact rfl) (L rfl)) t1 t1 ?_)
  refine lp2 ag24 sz24 (L rfl) rfl rfl (cK hG hX cl68 hN (rmulZ2 a.num b.den (by omega) (by omega)) (L rfl) t2 ?_)
  refine sw (c_fa un26 rfl sz24 (by decide) (by exact rfl) (L rfl)) t1 t1 ?_
  refine lp2 ag24 sz24 (L rfl) rfl rfl (sw (c_fa un26 rfl sz24 (by decide) (by exact rfl) (L rfl)) t1 t1 ?_)
  refine lp2 ag24 sz24 (L rfl) rfl rfl (cK hG hX cl68 hN (rmulZ2 a.den b.num (by omega) (by omega)) (L rfl) t2 ?_)
  refine cK hG hX cl62 hN (roverZ (a.num * b.den) (a.den * b.num) (Int.mul_ne_zero (den_ne a) (num_ne.2 h0)) (by omega) (by omega)) (L rfl) t2 ?_
  refine sb (c_sm sz26 (by rfl) pa4 rfl pu4) t2 t1 ?_
  refine aV (L rfl) rfl ?_
  refine seq_nil ⟨aoks [⟨[2],[2],[10],[]⟩,⟨[10],[2],[11],[]⟩,⟨[3],[3],[12],[]⟩,⟨[12],[3],[13],[]⟩,⟨[11,13],[],[14],[]⟩,⟨[2],[2],[15],[]⟩,⟨[15],[2],[16],[]⟩,⟨[3],[3],[17],[]⟩,⟨[17],[3],[18],[]⟩,⟨[16,18],[],[19],[]⟩,⟨[14,19],[],[20],[]⟩,⟨[4,20],[4],[],[4]⟩,⟨[],[],[5],[]⟩] (by rfl) (by rfl) (by decide),[(4,_),(5,_)],[(4,_)],t2,t1,?_⟩
  refine ex_ret ?_
  refine ⟨.inr rfl,ResVs.cast (.cons (.agg rfl rfl rfl ag26 sz26 (.cons (.cons (.cons (.cons .nil))))) (.cons (.tmp rfl) .nil)) ?_⟩
  rw [q_div]
theorem rqis_no (m n : Bool) (ws vs : List Int) (hl : ws.length < 1000000000) (hl2 : vs.length < 1000000000) (hn : ¬ (canon m ws = true ∧ canon n vs = true)) : Says E 20 [pR m ws n vs] (bZ false):=by
 refine says_of (xs:=[bZ false]) Tryz.func20 rfl Tryz.ntmps20 Tryz.results20 (by simp) fun F hG hX0 hnt hdf P0=>?_
 obtain ⟨L,hX,hN⟩:=pro hnt hX0 hG
 refine exr (swb (c_bx (k:=1) (n:=4) pa4 rfl rfl (P0 _ rfl) (L rfl)) t1 t0 ⟨rfl,rfl⟩ (aV (L rfl) rfl (zn [(1,_)] [(1,_)] t1 t1 ?_)))
 refine exm (sl:=[(2,vb false)]) (sl0:=[]) (hb:=[]) (hb0:=[]) t0 t0 ?_ ?_
 ·rcases nand2 hn with h1 | ⟨h1,h2⟩
  ·refine sw (c_fa un26 rfl sz24 (by decide) (by exact rfl) (L rfl)) t1 t1 ?_
   refine lp2 ag24 sz24 (L rfl) rfl rfl (cK hG hX cl15 hN (ris_says m ws (by omega)) (L rfl) t1 ?_)
   refine mV (L rfl) rfl (swn (g:=6) rfl (by simpa using h1) (L rfl) rfl ?_)
   refine swn (g:=6) rfl (by simpa using h1) (L rfl) rfl ?_
   refine swn (g:=6) rfl (by simpa using h1) (L rfl) rfl ?_
   refine sw (c_pf (by simpa using h1) (L rfl)) t2 t0 ?_
   refine mV (L rfl) rfl (swn (g:=11) rfl rfl (L rfl) rfl (swn (g:=11) rfl rfl (L rfl) rfl (swn (g:=11) rfl rfl (L rfl) rfl (swn (g:=11) rfl rfl (L rfl) rfl (sw (c_pf rfl (L rfl)) t2 t0 (mV (L rfl) rfl (swn (g:=17) rfl rfl (L rfl) rfl (swn (g:=17) rfl rfl (L rfl) rfl (swn (g:=17) rfl rfl (L rfl) rfl (swn (g:=17) rfl rfl (L rfl) rfl (swn (g:=17) rfl rfl (L rfl) rfl ?_)))))))))))
   refine swn (g:=17) rfl rfl (L rfl) rfl (swn (g:=17) rfl rfl (L rfl) rfl (sw (c_pf rfl (L rfl)) t2 t0 (aV (L rfl) rfl ?_)))
   exact seq_nil ⟨⟨ob rfl rfl,trivial⟩,trivial⟩
  ·refine sw (c_fa un26 rfl sz24 (by decide) (by exact rfl) (L rfl)) t1 t1 ?_
   refine lp2 ag24 sz24 (L rfl) rfl rfl (cK hG hX cl15 hN (ris_says m ws (by omega)) (L rfl) t1 ?_)
   refine mV (L rfl) rfl (swg (g:=6) rfl h1 (c_fa un26 rfl sz24 (by decide) (by exact rfl) (L rfl)) rfl t1 t1 ?_)
   refine swg (g:=6) rfl h1 (c_lp ag24 sz24 (by rfl) (by exact al2) rfl (L rfl)) rfl t1 t1 ?_
   refine swg (g:=6) rfl h1 (c_c hG hX cl15 rfl hN (ris_says n vs (by omega)) (L rfl)) rfl t1 t0 ?_
   refine sw (c_pt h1 (L rfl)) t2 t0 (mV (L rfl) rfl (swn (g:=11) rfl (by simpa using h2) (L rfl) rfl ?_))
   refine swn (g:=11) rfl (by simpa using h2) (L rfl) rfl ?_
   refine swn (g:=11) rfl (by simpa using h2) (L rfl) rfl ?_
   refine swn (g:=11) rfl (by simpa using h2) (L rfl) rfl ?_
   refine sw (c_pf (by simpa using h2) (L rfl)) t2 t0 ?_
   refine mV (L rfl) rfl (swn (g:=17) rfl rfl (L rfl) rfl (swn (g:=17) rfl rfl (L rfl) rfl (swn (g:=17) rfl rfl (L rfl) rfl (swn (g:=17) rfl rfl (L rfl) rfl (swn (g:=17) rfl rfl (L rfl) rfl (swn (g:=17) rfl rfl (L rfl) rfl (swn (g:=17) rfl rfl (L rfl) rfl (sw (c_pf rfl (L rfl)) t2 t0 (aV (L rfl) rfl ?_)))))))))
   exact seq_nil ⟨⟨ob rfl rfl,trivial⟩,trivial⟩
 refine ex_ret ?_
 refine ⟨.inr rfl,ResVs.cast (.cons (.tmp rfl) .nil) ?_⟩
 rfl
theorem rqis_z (a b : Int) (ha : nw a < 1000000000) (hb : nw b < 1000000000) : Says E 20 [pN a b] (bZ (decide (0 < b ∧ (Int.gcd a b : Int) = 1))):=by
 refine says_of (xs:=[bZ (decide (0 < b ∧ (Int.gcd a b : Int) = 1))]) Tryz.func20 rfl Tryz.ntmps20 Tryz.results20 (by simp) fun F hG hX0 hnt hdf P0=>?_
 obtain ⟨L,hX,hN⟩:=pro hnt hX0 hG
 refine exr (swb (c_bx (k:=1) (n:=4) pa4 rfl rfl (P0 _ rfl) (L rfl)) t1 t0 ⟨rfl,rfl⟩ (aV (L rfl) rfl (zn [(1,_)] [(1,_)] t1 t1 ?_)))
 refine exm (sl:=[(2,vb (decide (0 < b ∧ (Int.gcd a b : Int) = 1)))]) (sl0:=[]) (hb:=[]) (hb0:=[]) t0 t0 ?_ ?_
 ·by_cases h1 : 0 < b
  ·refine sw (c_fa un26 rfl sz24 (by decide) (by exact rfl) (L rfl)) t1 t1 ?_
   refine lp2 ag24 sz24 (L rfl) rfl rfl (cK hG hX cl15 hN (risZ a (by omega)) (L rfl) t1 ?_)
   refine mV (L rfl) rfl (swg (g:=6) rfl rfl (c_fa un26 rfl sz24 (by decide) (by exact rfl) (L rfl)) rfl t1 t1 ?_)
   refine swg (g:=6) rfl rfl (c_lp ag24 sz24 (by rfl) (by exact al2) rfl (L rfl)) rfl t1 t1 ?_
   refine swg (g:=6) rfl rfl (c_c hG hX cl15 rfl hN (risZ b (by omega)) (L rfl)) rfl t1 t0 ?_
   refine sw (c_pt rfl (L rfl)) t2 t0 (mV (L rfl) rfl (swg (g:=11) rfl rfl (c_fa un26 rfl sz24 (by decide) (by exact rfl) (L rfl)) rfl t1 t1 ?_))
   refine swg (g:=11) rfl rfl (c_lp ag24 sz24 (by rfl) (by exact al2) rfl (L rfl)) rfl t1 t1 ?_
   refine swg (g:=11) rfl rfl (c_c hG hX cl43 rfl hN (rsignZ b (by omega)) (L rfl)) rfl t1 t0 ?_
   refine swg (g:=11) rfl rfl (c_gt (L rfl)) rfl t2 t0 (sw (c_pt rfl (L rfl)) t2 t0 (mV (L rfl) rfl (swg (g:=17) rfl (decide_eq_true (sgt.2 h1)) (c_fa un26 rfl sz24 (by decide) (by exact rfl) (L rfl)) rfl t1 t1 ?_)))
   refine swg (g:=17) rfl (decide_eq_true (sgt.2 h1)) (c_lp ag24 sz24 (by rfl) (by exact al2) rfl (L rfl)) rfl t1 t1 ?_
   refine swg (g:=17) rfl (decide_eq_true (sgt.2 h1)) (c_fa un26 rfl sz24 (by decide) (by exact rfl) (L rfl)) rfl t1 t1 ?_
   refine swg (g:=17) rfl (decide_eq_true (sgt.2 h1)) (c_lp ag24 sz24 (by rfl) (by exact al2) rfl (L rfl)) rfl t1 t1 ?_
   refine swg (g:=17) rfl (decide_eq_true (sgt.2 h1)) (c_c hG hX cl44 rfl hN (rgcdZ a b (by omega) (by omega)) (L rfl)) rfl t2 t0 ?_
   refine swg (g:=17) rfl (decide_eq_true (sgt.2 h1)) (c_c hG hX cl64 rfl hN rone_says (L rfl)) rfl trivial trivial (swg (g:=17) rfl (decide_eq_true (sgt.2 h1)) (c_c hG hX cl30 rfl hN (rsameZ (Int.gcd a b : Int) 1 (gn1 a h1 hb) (by rw [nw_one]; decide)) (L rfl)) rfl t2 t0 ?_)
   refine sw (c_pt (decide_eq_true (sgt.2 h1)) (L rfl)) t2 t0 (aV (L rfl) rfl ?_)
   exact seq_nil ⟨⟨ob rfl (by rw [dec_eq (and_iff_right h1)]),trivial⟩,trivial⟩
  ·refine sw (c_fa un26 rfl sz24 (by decide) (by exact rfl) (L rfl)) t1 t1 ?_
   refine lp2 ag24 sz24 (L rfl) rfl rfl (cK hG hX cl15 hN (risZ a (by omega)) (L rfl) t1 ?_)
   refine mV (L rfl) rfl (swg (g:=6) rfl rfl (c_fa un26 rfl sz24 (by decide) (by exact rfl) (L rfl)) rfl t1 t1 ?_)
   refine swg (g:=6) rfl rfl (c_lp ag24 sz24 (by rfl) (by exact al2) rfl (L rfl)) rfl t1 t1 ?_
   refine swg (g:=6) rfl rfl (c_c hG hX cl15 rfl hN (risZ b (by omega)) (L rfl)) rfl t1 t0 ?_
   refine sw (c_pt rfl (L rfl)) t2 t0 (mV (L rfl) rfl (swg (g:=11) rfl rfl (c_fa un26 rfl sz24 (by decide) (by exact rfl) (L rfl)) rfl t1 t1 ?_))
   refine swg (g:=11) rfl rfl (c_lp ag24 sz24 (by rfl) (by exact al2) rfl (L rfl)) rfl t1 t1 ?_
   refine swg (g:=11) rfl rfl (c_c hG hX cl43 rfl hN (rsignZ b (by omega)) (L rfl)) rfl t1 t0 ?_
   refine swg (g:=11) rfl rfl (c_gt (L rfl)) rfl t2 t0 (sw (c_pt rfl (L rfl)) t2 t0 (mV (L rfl) rfl (swn (g:=17) rfl (decide_eq_false (mt sgt.1 h1)) (L rfl) rfl (swn (g:=17) rfl (decide_eq_false (mt sgt.1 h1)) (L rfl) rfl (swn (g:=17) rfl (decide_eq_false (mt sgt.1 h1)) (L rfl) rfl (swn (g:=17) rfl (decide_eq_false (mt sgt.1 h1)) (L rfl) rfl (swn (g:=17) rfl (decide_eq_false (mt sgt.1 h1)) (L rfl) rfl (swn (g:=17) rfl (decide_eq_false (mt sgt.1 h1)) (L rfl) rfl (swn (g:=17) rfl (decide_eq_false (mt sgt.1 h1)) (L rfl) rfl (sw (c_pf (decide_eq_false (mt sgt.1 h1)) (L rfl)) t2 t0 (aV (L rfl) rfl ?_)))))))))))
   exact seq_nil ⟨⟨ob rfl (decide_eq_false (fun h=>h1 h.1)).symm,trivial⟩,trivial⟩
 refine ex_ret ?_
 refine ⟨.inr rfl,ResVs.cast (.cons (.tmp rfl) .nil) ?_⟩
 rfl
theorem rmake_says (n d : Int) (h0 : d ≠ 0) (hn : nw n < 9000000000) (hd : nw d < 9000000000) : Says E 14 [pZ n,pZ d] (.tup [pQ (Rat.divInt n d),vZ 0]):=by
 refine says_of (xs:=[pQ (Rat.divInt n d),vZ 0]) Tryz.func14 rfl Tryz.ntmps14 Tryz.results14 (by simp) fun F hG hX0 hnt hdf P0=>?_
 obtain ⟨L,hX,hN⟩:=pro hnt hX0 hG
 refine exr (swb (c_bx (k:=2) (n:=2) pa2 rfl rfl (P0 _ rfl) (L rfl)) t1 t0 ⟨rfl,rfl⟩ (swb (c_bx (k:=3) (n:=2) pa2 rfl rfl (P0 _ rfl) (L rfl)) t1 t0 ⟨rfl,rfl⟩ (swb (c_al (k:=4) (n:=4) zv26 (.cons rfl (.cons rfl (.cons rfl (.cons rfl .nil)))) rfl (P0 _ rfl) (L rfl)) t0 t0 ⟨rfl,rfl⟩ (aV (L rfl) rfl (zn [(2,_),(3,_),(4,_)] [(2,_),(3,_),(4,_)] t3 t3 (ex_seq (exr (lp2 ag24 sz24 (L rfl) rfl rfl (cK hG hX cl15 hN (risZ n (by omega)) (L rfl) t1 ?_)))))))))
 refine sw (c_no (L rfl)) t1 t0 (mV (L rfl) rfl (swg (g:=9) rfl rfl (c_lp ag24 sz24 (by rfl) (by exact al2) rfl (L rfl)) rfl t1 t1 ?_))
 refine swg (g:=9) rfl rfl (c_c hG hX cl15 rfl hN (risZ d (by omega)) (L rfl)) rfl t1 t0 ?_
 refine swg (g:=9) rfl rfl (c_no (L rfl)) rfl t1 t0 (sw (c_pf rfl (L rfl)) t2 t0 (zn [(2,_),(3,_),(4,_),(13,_)] [(2,_),(3,_),(4,_)] t4 t3 ?_))
 refine ex_if rfl (fun hc=>?_) (fun hc=>?_)
 ·cases hc
 ·refine ex_skip (show Exec _ _ _ _ _ from ?_)
  refine ex_seq (exr (lp2 ag24 sz24 (L rfl) rfl rfl (cK hG hX cl43 hN (rsignZ d (by omega)) (L rfl) t1 ?_)))
  refine sw (c_e (L rfl)) t2 t0 (zn [(2,_),(3,_),(4,_),(17,_)] [(2,_),(3,_),(4,_)] t4 t3 ?_)
  refine ex_if rfl (fun hz=>?_) (fun hz=>?_)
  ·have hz:=dt hz
   exact absurd (Int.sign_eq_zero_iff_zero.1 hz) h0
  ·refine ex_skip (show Exec _ _ _ _ _ from ?_)
   refine exr (lp2 ag24 sz24 (L rfl) rfl rfl (lp2 ag24 sz24 (L rfl) rfl rfl (cK hG hX cl62 hN (roverZ n d h0 hn hd) (L rfl) t2 (sb (c_sm sz26 (by rfl) pa4 rfl pu4) t2 t1 ?_))))
   refine aV (L rfl) rfl (zn [(4,_),(5,_)] [(4,_)] t2 t1 (ex_ret ?_))
   refine ⟨.inr rfl,ResVs.cast (.cons (.agg rfl rfl rfl ag26 sz26 (.cons (.cons (.cons (.cons .nil))))) (.cons (.tmp rfl) .nil)) ?_⟩
   rfl
theorem nw64 {n : Int} (h : -9223372036854775808 ≤ n) (h1 : n < 9223372036854775808) : nw n ≤ 2:=nw_le (by omega)
theorem rqof_says (n d : Int) (h : -9223372036854775808 ≤ n) (h1 : n < 9223372036854775808) (h2 : -9223372036854775808 ≤ d) (h3 : d < 9223372036854775808) (h0 : d ≠ 0) : Says E 12 [vZ n,vZ d] (.tup [pQ (Rat.divInt n d),vZ 0]):=by
 refine says_of (xs:=[pQ (Rat.divInt n d),vZ 0]) Tryz.func12 rfl Tryz.ntmps12 Tryz.results12 (by simp) fun F hG hX0 hnt hdf P0=>?_
 obtain ⟨L,hX,hN⟩:=pro hnt hX0 hG
 have k1:=nw64 h h1
 have k2:=nw64 h2 h3
 refine exr (swb (c_al (k:=4) (n:=4) zv26 (.cons rfl (.cons rfl (.cons rfl (.cons rfl .nil)))) rfl (P0 _ rfl) (L rfl)) t0 t0 ⟨rfl,rfl⟩ (aV (L rfl) rfl (zn [(0,_),(1,_),(4,_)] [(4,_)] t3 t1 (exr (mV (L rfl) rfl (cK hG hX cl45 hN (rof_says n h h1) (L rfl) t1 (mV (L rfl) rfl (cK hG hX cl45 hN (rof_says d h2 h3) (L rfl) t1 (cK hG hX cl14 hN (rmake_says n d h0 (by omega) (by omega)) (L rfl) t2 ?_)))))))))
 refine sw (c_ex rfl (L rfl)) t1 t0 (sw (c_ex rfl (L rfl)) t1 t0 (sb (c_sm sz26 (by rfl) pa4 rfl pu4) t2 t1 ?_))
 refine aV (L rfl) rfl (zn [(4,_),(5,_)] [(4,_)] t2 t1 (ex_ret ?_))
 refine ⟨.inr rfl,ResVs.cast (.cons (.agg rfl rfl rfl ag26 sz26 (.cons (.cons (.cons (.cons .nil))))) (.cons (.tmp rfl) .nil)) ?_⟩
 rfl
end Go.Proofs.YtcifhkfpmhifaaaGreatDoor.N
set_option maxRecDepth 100000
set_option maxHeartbeats 4000000
namespace Go.Proofs.YtcifhkfpmhifaaaGreatDoor.N
open Go Go.Proofs.YtcifhkfpmhifaaaGreatDoor.SH Go.Proofs.YtcifhkfpmhifaaaGreatDoor.NumA
open Go.Proofs.Tryz renaming call12 → cl12,call13 → cl13,call14 → cl14,call15 → cl15,call18 → cl18,call43 → cl43,call45 → cl45,call58 → cl58,call59 → cl59,call60 → cl60,call61 → cl61,call64 → cl64,call74 → cl74,call75 → cl75,isAgg24 → ag24,isAgg26 → ag26,sizeOf24 → sz24,sizeOf26 → sz26,underlying26 → un26,zeroValue24 → zv24,zeroValue26 → zv26
@[reducible] def cQ (a : Rat) : List Pure:=[.a (.bool (decide (a.num < 0))),.sl (digs a.num.natAbs).length (encW (digs a.num.natAbs)),.a (.bool (decide ((a.den : Int) < 0))),.sl (digs (a.den : Int).natAbs).length (encW (digs (a.den : Int).natAbs))]
def encQ : List Rat → List Pure
 | []=>[]
 | a :: v=>cQ a ++ encQ v
@[simp] theorem encQ_length : ∀ v : List Rat,(encQ v).length = v.length * 4
 | []=>rfl
 | a :: v=>by simp only [encQ,List.length_append,encQ_length v,cQ,List.length_cons,List.length_nil]; omega
theorem getQ : ∀ {v : List Rat} {i : Nat},i < v.length → ((encQ v).drop (i * 4)).take 4 = cQ (v.getD i 0)
 | [],i,h=>by simp at h
 | a :: v,0,_=>by simp [encQ,cQ]
 | a :: v,i + 1,h=>by
  have:=getQ (v:=v) (i:=i) (by simpa using h)
  rw [show (i + 1) * 4 = i * 4 + 1 + 1 + 1 + 1 by omega]
  simp only [encQ,cQ,List.cons_append,List.nil_append,List.drop_succ_cons,List.getD_cons_succ]
  exact this
@[reducible] def pV (v : List Rat) : Pure:=.sl v.length (encQ v)
structure RQ where
 m : Bool
 ws : List Int
 n : Bool
 vs : List Int
instance : Inhabited RQ:=⟨⟨false,[],false,[]⟩⟩
def RQ.of (a : Rat) : RQ:=⟨decide (a.num < 0),digs a.num.natAbs,decide ((a.den : Int) < 0),digs (a.den : Int).natAbs⟩
def RQ.is (r : RQ) : Bool:=canon r.m r.ws && (canon r.n r.vs && decide (0 < sg r.n (val r.vs) ∧ (Int.gcd (sg r.m (val r.ws)) (sg r.n (val r.vs)) : Int) = 1))
def RQ.wd (r : RQ) : Prop:=Wd r.ws ∧ Wd r.vs
theorem sg_of (n : Int) : sg (decide (n < 0)) (val (digs n.natAbs)) = n:=by
 rw [val_digs]; unfold sg; split <;> rename_i h <;> simp at h <;> omega
theorem RQ.is_of (a : Rat) : (RQ.of a).is = true:=by
 simp only [RQ.is,RQ.of,canon_digs,sg_of,Bool.true_and,decide_eq_true_eq]
 refine ⟨by exact_mod_cast a.den_pos,?_⟩
 have:=a.reduced
 unfold Nat.Coprime at this
 unfold Int.gcd
 exact_mod_cast this
theorem RQ.of_is {r : RQ} (h : r.wd) (hi : r.is = true) : ∃ a : Rat,r = RQ.of a:=by
 obtain ⟨m,ws,n,vs⟩:=r
 simp only [RQ.is,Bool.and_eq_true,decide_eq_true_eq] at hi
 obtain ⟨h1,h2,h3,h4⟩:=hi
 obtain ⟨e1,e2⟩:=canon_eq h.1 h1
 obtain ⟨e3,e4⟩:=canon_eq h.2 h2
 simp only at e1 e2 e3 e4
 refine ⟨⟨sg m (val ws),(sg n (val vs)).natAbs,by omega,?_⟩,?_⟩
 ·unfold Int.gcd at h4; exact_mod_cast h4
 ·have e5 : (((sg n (val vs)).natAbs : Nat) : Int) = sg n (val vs):=by omega
  simp only [RQ.of,e5,e1,e2,e3,e4]
@[reducible] def cR (r : RQ) : List Pure:=[.a (.bool r.m),.sl r.ws.length (encW r.ws),.a (.bool r.n),.sl r.vs.length (encW r.vs)]
theorem qis_says {r : RQ} (hw : r.wd) (hl : r.ws.length < 1000000000) (hl2 : r.vs.length < 1000000000) : Says E 19 [.agg (cR r)] (bZ r.is):=by
 obtain ⟨m,ws,n,vs⟩:=r
 by_cases h : canon m ws = true ∧ canon n vs = true
 ·obtain ⟨e1,e2⟩:=canon_eq hw.1 h.1
  obtain ⟨e3,e4⟩:=canon_eq hw.2 h.2
  have:=qis_z (sg m (val ws)) (sg n (val vs)) (by unfold nw; simp only at e2 hl; rw [e2]; exact hl) (by unfold nw; simp only at e4 hl2; rw [e4]; exact hl2)
  rw [pN,e1,e2,e3,e4] at this
  rw [RQ.is,show canon (RQ.mk m ws n vs).m (RQ.mk m ws n vs).ws = true from h.1,show canon (RQ.mk m ws n vs).n (RQ.mk m ws n vs).vs = true from h.2]
  exact this
 ·have:=qis_no m n ws vs hl hl2 h
  have e : (RQ.mk m ws n vs).is = false:=by
   rw [RQ.is,Bool.eq_false_iff]; simp only [Bool.and_eq_true,ne_eq]; exact fun hh=>h ⟨hh.1,hh.2.1⟩
  rw [e]; exact this
theorem rqis_says {r : RQ} (hw : r.wd) (hl : r.ws.length < 1000000000) (hl2 : r.vs.length < 1000000000) : Says E 20 [.agg (cR r)] (bZ r.is):=by
 obtain ⟨m,ws,n,vs⟩:=r
 by_cases h : canon m ws = true ∧ canon n vs = true
 ·obtain ⟨e1,e2⟩:=canon_eq hw.1 h.1
  obtain ⟨e3,e4⟩:=canon_eq hw.2 h.2
  have:=rqis_z (sg m (val ws)) (sg n (val vs)) (by unfold nw; simp only at e2 hl; rw [e2]; exact hl) (by unfold nw; simp only at e4 hl2; rw [e4]; exact hl2)
  rw [pN,e1,e2,e3,e4] at this
  rw [RQ.is,show canon (RQ.mk m ws n vs).m (RQ.mk m ws n vs).ws = true from h.1,show canon (RQ.mk m ws n vs).n (RQ.mk m ws n vs).vs = true from h.2]
  exact this
 ·have:=rqis_no m n ws vs hl hl2 h
  have e : (RQ.mk m ws n vs).is = false:=by
   rw [RQ.is,Bool.eq_false_iff]; simp only [Bool.and_eq_true,ne_eq]; exact fun hh=>h ⟨hh.1,hh.2.1⟩
  rw [e]; exact this
def RQ.sm (r : RQ) : Prop:=r.wd ∧ r.ws.length < 1000000000 ∧ r.vs.length < 1000000000
theorem RQ.sm_of {a : Rat} (h : qw a < 1000000000) : (RQ.of a).sm:=by
 have h1:=nw_num_le a
 have h2:=nw_den_le a
 exact ⟨⟨wd_digs _,wd_digs _⟩,by show nw a.num < _; omega,by show nw (a.den : Int) < _; omega⟩
def R0 : RQ:=⟨false,[],false,[]⟩
def mkE (a b : Bool × List Int) : Int:=if canon a.1 a.2 = true ∧ canon b.1 b.2 = true then (if sg b.1 (val b.2) = 0 then 5 else 0) else 3
def mkR (a b : Bool × List Int) : RQ:=if mkE a b = 0 then RQ.of (Rat.divInt (sg a.1 (val a.2)) (sg b.1 (val b.2))) else R0
theorem make_no (m n : Bool) (ws vs : List Int) (hl : ws.length < 1000000000) (hl2 : vs.length < 1000000000) (hn : ¬ (canon m ws = true ∧ canon n vs = true)) : Says E 13 [pI m ws,pI n vs] (.tup [.agg (cR R0),vZ 3]):=by
 refine says_of (xs:=[.agg (cR R0),vZ 3]) Tryz.func13 rfl Tryz.ntmps13 Tryz.results13 (by simp) fun F hG hX0 hnt hdf P0=>?_
 obtain ⟨L,hX,hN⟩:=pro hnt hX0 hG
 refine exr (swb (c_bx (k:=2) (n:=2) pa2 rfl rfl (P0 _ rfl) (L rfl)) t1 t0 ⟨rfl,rfl⟩ (swb (c_bx (k:=3) (n:=2) pa2 rfl rfl (P0 _ rfl) (L rfl)) t1 t0 ⟨rfl,rfl⟩ (swb (c_al (k:=4) (n:=4) zv26 (.cons rfl (.cons rfl (.cons rfl (.cons rfl .nil)))) rfl (P0 _ rfl) (L rfl)) t0 t0 ⟨rfl,rfl⟩ (aV (L rfl) rfl (zn [(2,_),(3,_),(4,_)] [(2,_),(3,_),(4,_)] t3 t3 (ex_seq (ex_block ?_)))))))
 refine exm (sl:=[(6,vb true)]) (sl0:=[(2,_),(3,_),(4,_)]) (hb:=[]) (hb0:=[(2,_),(3,_),(4,_)]) t3 t3 ?_ ?_
 ·rcases nand2 hn with h1 | ⟨h1,h2⟩
  ·refine lp2 ag24 sz24 (L rfl) rfl rfl (cK hG hX cl59 hN (is_says m ws (by omega)) (L rfl) t1 ?_)
   refine sw (c_no (L rfl)) t1 t0 (mV (L rfl) rfl (swn (g:=10) rfl (by simpa using h1) (L rfl) rfl ?_))
   refine swn (g:=10) rfl (by simpa using h1) (L rfl) rfl ?_
   refine swn (g:=10) rfl (by simpa using h1) (L rfl) rfl ?_
   refine sw (c_pt (by simpa using h1) (L rfl)) t2 t0 ?_
   refine aV (L rfl) rfl ?_
   exact seq_nil ⟨⟨ob rfl rfl,rfl,rfl,rfl,trivial⟩,t3⟩
  ·refine lp2 ag24 sz24 (L rfl) rfl rfl (cK hG hX cl59 hN (is_says m ws (by omega)) (L rfl) t1 ?_)
   refine sw (c_no (L rfl)) t1 t0 (mV (L rfl) rfl (swg (g:=10) rfl (by simpa using h1) (c_lp ag24 sz24 (by rfl) (by exact al2) rfl (L rfl)) rfl t1 t1 ?_))
   refine swg (g:=10) rfl (by simpa using h1) (c_c hG hX cl59 rfl hN (is_says n vs (by omega)) (L rfl)) rfl t1 t0 ?_
   refine swg (g:=10) rfl (by simpa using h1) (c_no (L rfl)) rfl t1 t0 ?_
   refine sw (c_pf (by simpa using h1) (L rfl)) t2 t0 ?_
   refine aV (L rfl) rfl ?_
   exact seq_nil ⟨⟨ob rfl (by simpa using h2),rfl,rfl,rfl,trivial⟩,t3⟩
 refine ex_if rfl (fun hc=>?_) (fun hc=>?_)
 ·refine exr (sw (c_pc (c_bp (vs:=[]) un26 zv26 (.cons rfl (.cons rfl (.cons rfl (.cons rfl .nil)))) ((Places.cons sz24 (Places.cons sz24 Places.nil))).to rfl .nil (.cons (.cons (.cons (.cons .nil)))) (L rfl)) (.agg (.cons .same (.cons .nil (.cons .same (.cons .nil .nil)))))) t0 t0 (sb (c_sm sz26 (by rfl) pa4 rfl pu4) t2 t1 ?_))
  refine aV (L rfl) rfl (zn [(4,_),(5,_)] [(4,_)] t2 t1 (ex_ret ?_))
  refine ⟨.inr rfl,ResVs.cast (.cons (.agg rfl rfl rfl ag26 sz26 (.cons (.cons (.cons (.cons .nil))))) (.cons (.tmp rfl) .nil)) ?_⟩
  rfl
 ·cases hc
theorem make_z0 (a : Int) (ha : nw a < 1000000000) : Says E 13 [pZ a,pZ 0] (.tup [.agg (cR R0),vZ 5]):=by
 refine says_of (xs:=[.agg (cR R0),vZ 5]) Tryz.func13 rfl Tryz.ntmps13 Tryz.results13 (by simp) fun F hG hX0 hnt hdf P0=>?_
 obtain ⟨L,hX,hN⟩:=pro hnt hX0 hG
 refine exr (swb (c_bx (k:=2) (n:=2) pa2 rfl rfl (P0 _ rfl) (L rfl)) t1 t0 ⟨rfl,rfl⟩ (swb (c_bx (k:=3) (n:=2) pa2 rfl rfl (P0 _ rfl) (L rfl)) t1 t0 ⟨rfl,rfl⟩ (swb (c_al (k:=4) (n:=4) zv26 (.cons rfl (.cons rfl (.cons rfl (.cons rfl .nil)))) rfl (P0 _ rfl) (L rfl)) t0 t0 ⟨rfl,rfl⟩ (aV (L rfl) rfl (zn [(2,_),(3,_),(4,_)] [(2,_),(3,_),(4,_)] t3 t3 (ex_seq (ex_block (exr (lp2 ag24 sz24 (L rfl) rfl rfl (cK hG hX cl59 hN (isZ a (by omega)) (L rfl) t1 ?_))))))))))
 refine sw (c_no (L rfl)) t1 t0 (mV (L rfl) rfl (swg (g:=10) rfl rfl (c_lp ag24 sz24 (by rfl) (by exact al2) rfl (L rfl)) rfl t1 t1 ?_))
 refine swg (g:=10) rfl rfl (c_c hG hX cl59 rfl hN (isZ 0 (by rw [nw_zero.2 rfl]; decide)) (L rfl)) rfl t1 t0 ?_
 refine swg (g:=10) rfl rfl (c_no (L rfl)) rfl t1 t0 (sw (c_pf rfl (L rfl)) t2 t0 (aV (L rfl) rfl (zn [(2,_),(3,_),(4,_),(6,_)] [(2,_),(3,_),(4,_)] t4 t3 ?_)))
 refine ex_if rfl (fun hc=>?_) (fun hc=>?_)
 ·cases hc
 ·refine exr (lp2 ag24 sz24 (L rfl) rfl rfl (cK hG hX cl60 hN (signZ 0 (by rw [nw_zero.2 rfl]; decide)) (L rfl) t1 ?_))
  refine sw (c_e (L rfl)) t2 t0 (aV (L rfl) rfl (zn [(2,_),(3,_),(4,_),(16,_)] [(2,_),(3,_),(4,_)] t4 t3 ?_))
  refine ex_if rfl (fun hz=>?_) (fun hz=>?_)
  ·refine exr (sw (c_pc (c_bp (vs:=[]) un26 zv26 (.cons rfl (.cons rfl (.cons rfl (.cons rfl .nil)))) ((Places.cons sz24 (Places.cons sz24 Places.nil))).to rfl .nil (.cons (.cons (.cons (.cons .nil)))) (L rfl)) (.agg (.cons .same (.cons .nil (.cons .same (.cons .nil .nil)))))) t0 t0 (sb (c_sm sz26 (by rfl) pa4 rfl pu4) t2 t1 ?_))
   refine aV (L rfl) rfl (zn [(4,_),(5,_)] [(4,_)] t2 t1 (ex_ret ?_))
   refine ⟨.inr rfl,ResVs.cast (.cons (.agg rfl rfl rfl ag26 sz26 (.cons (.cons (.cons (.cons .nil))))) (.cons (.tmp rfl) .nil)) ?_⟩
   rfl
  ·cases hz
theorem make_z (n d : Int) (h0 : d ≠ 0) (hn : nw n < 9000000000) (hd : nw d < 9000000000) : Says E 13 [pZ n,pZ d] (.tup [pQ (Rat.divInt n d),vZ 0]):=by
 refine says_of (xs:=[pQ (Rat.divInt n d),vZ 0]) Tryz.func13 rfl Tryz.ntmps13 Tryz.results13 (by simp) fun F hG hX0 hnt hdf P0=>?_
 obtain ⟨L,hX,hN⟩:=pro hnt hX0 hG
 refine exr (swb (c_bx (k:=2) (n:=2) pa2 rfl rfl (P0 _ rfl) (L rfl)) t1 t0 ⟨rfl,rfl⟩ (swb (c_bx (k:=3) (n:=2) pa2 rfl rfl (P0 _ rfl) (L rfl)) t1 t0 ⟨rfl,rfl⟩ (swb (c_al (k:=4) (n:=4) zv26 (.cons rfl (.cons rfl (.cons rfl (.cons rfl .nil)))) rfl (P0 _ rfl) (L rfl)) t0 t0 ⟨rfl,rfl⟩ (aV (L rfl) rfl (zn [(2,_),(3,_),(4,_)] [(2,_),(3,_),(4,_)] t3 t3 (ex_seq (ex_block (exr (lp2 ag24 sz24 (L rfl) rfl rfl (cK hG hX cl59 hN (isZ n (by omega)) (L rfl) t1 ?_))))))))))
 refine sw (c_no (L rfl)) t1 t0 (mV (L rfl) rfl (swg (g:=10) rfl rfl (c_lp ag24 sz24 (by rfl) (by exact al2) rfl (L rfl)) rfl t1 t1 ?_))
 refine swg (g:=10) rfl rfl (c_c hG hX cl59 rfl hN (isZ d (by omega)) (L rfl)) rfl t1 t0 ?_
 refine swg (g:=10) rfl rfl (c_no (L rfl)) rfl t1 t0 (sw (c_pf rfl (L rfl)) t2 t0 (aV (L rfl) rfl (zn [(2,_),(3,_),(4,_),(6,_)] [(2,_),(3,_),(4,_)] t4 t3 ?_)))
 refine ex_if rfl (fun hc=>?_) (fun hc=>?_)
 ·cases hc
 ·refine exr (lp2 ag24 sz24 (L rfl) rfl rfl (cK hG hX cl60 hN (signZ d (by omega)) (L rfl) t1 ?_))
  refine sw (c_e (L rfl)) t2 t0 (aV (L rfl) rfl (zn [(2,_),(3,_),(4,_),(16,_)] [(2,_),(3,_),(4,_)] t4 t3 ?_))
  refine ex_if rfl (fun hz=>?_) (fun hz=>?_)
  ·have hz:=dt hz
   exact absurd (Int.sign_eq_zero_iff_zero.1 hz) h0
  ·refine ex_skip (show Exec _ _ _ _ _ from ?_)
   refine exr (lp2 ag24 sz24 (L rfl) rfl rfl (lp2 ag24 sz24 (L rfl) rfl rfl (cK hG hX cl61 hN (overZ n d h0 (by omega) (by omega)) (L rfl) t2 ?_)))
   refine sb (c_sm sz26 (by rfl) pa4 rfl pu4) t2 t1 ?_
   refine aV (L rfl) rfl (zn [(4,_),(5,_)] [(4,_)] t2 t1 (ex_ret ?_))
   refine ⟨.inr rfl,ResVs.cast (.cons (.agg rfl rfl rfl ag26 sz26 (.cons (.cons (.cons (.cons .nil))))) (.cons (.tmp rfl) .nil)) ?_⟩
   rfl
theorem nw_sg {m : Bool} {ws : List Int} (h : Wd ws) (hc : canon m ws = true) : nw (sg m (val ws)) = ws.length:=by
 rw [nw,(canon_eq h hc).2]
theorem make_says (m n : Bool) (ws vs : List Int) (hl : ws.length < 1000000000) (hl2 : vs.length < 1000000000) (h : Wd ws) (h2 : Wd vs) : Says E 13 [pI m ws,pI n vs] (.tup [.agg (cR (mkR (m,ws) (n,vs))),vZ (mkE (m,ws) (n,vs))]):=by
 by_cases hn : canon m ws = true ∧ canon n vs = true
 ·have e1:=nw_sg h hn.1
  have e2:=nw_sg h2 hn.2
  rw [pI_eq h hn.1,pI_eq h2 hn.2]
  by_cases h0 : sg n (val vs) = 0
  ·have e : mkE (m,ws) (n,vs) = 5:=by rw [mkE,if_pos hn,if_pos h0]
   rw [mkR,e,if_neg (by decide),h0]
   exact make_z0 _ (by omega)
  ·have e : mkE (m,ws) (n,vs) = 0:=by rw [mkE,if_pos hn,if_neg h0]
   rw [mkR,e,if_pos rfl]
   exact make_z _ _ h0 (by omega) (by omega)
 ·have e : mkE (m,ws) (n,vs) = 3:=by rw [mkE,if_neg hn]
  rw [mkR,e,if_neg (by decide)]
  exact make_no m n ws vs hl hl2 hn
@[reducible] def zP (n : Int) : Bool × List Int:=(decide (n < 0),digs n.natAbs)
theorem qof_says (n d : Int) (h : -9223372036854775808 ≤ n) (h1 : n < 9223372036854775808) (h2 : -9223372036854775808 ≤ d) (h3 : d < 9223372036854775808) : Says E 11 [vZ n,vZ d] (.tup [.agg (cR (mkR (zP n) (zP d))),vZ (mkE (zP n) (zP d))]):=by
 refine says_of (xs:=[.agg (cR (mkR (zP n) (zP d))),vZ (mkE (zP n) (zP d))]) Tryz.func11 rfl Tryz.ntmps11 Tryz.results11 (by simp) fun F hG hX0 hnt hdf P0=>?_
 obtain ⟨L,hX,hN⟩:=pro hnt hX0 hG
 have k1:=nw64 h h1
 have k2:=nw64 h2 h3
 refine exr (swb (c_al (k:=4) (n:=4) zv26 (.cons rfl (.cons rfl (.cons rfl (.cons rfl .nil)))) rfl (P0 _ rfl) (L rfl)) t0 t0 ⟨rfl,rfl⟩ (aV (L rfl) rfl (zn [(0,_),(1,_),(4,_)] [(4,_)] t3 t1 (exr (mV (L rfl) rfl (cK hG hX cl58 hN (of_says n h h1) (L rfl) t1 (mV (L rfl) rfl (cK hG hX cl58 hN (of_says d h2 h3) (L rfl) t1 (cK hG hX cl13 hN (make_says _ _ (digs n.natAbs) (digs d.natAbs) (by unfold nw at k1; omega) (by unfold nw at k2; omega) (wd_digs _) (wd_digs _)) (L rfl) t2 ?_)))))))))
 refine sw (c_ex rfl (L rfl)) t1 t0 (sw (c_ex rfl (L rfl)) t1 t0 (sb (c_sm sz26 (by rfl) pa4 rfl pu4) t2 t1 ?_))
 refine aV (L rfl) rfl (zn [(4,_),(5,_)] [(4,_)] t2 t1 (ex_ret ?_))
 refine ⟨.inr rfl,ResVs.cast (.cons (.agg rfl rfl rfl ag26 sz26 (.cons (.cons (.cons (.cons .nil))))) (.cons (.tmp rfl) .nil)) ?_⟩
 rfl
theorem lof_says (n d : Int) (h : -9223372036854775808 ≤ n) (h1 : n < 9223372036854775808) (h2 : -9223372036854775808 ≤ d) (h3 : d < 9223372036854775808) (h0 : d ≠ 0) : Says E 49 [vZ n,vZ d] (pQ (Rat.divInt n d)):=by
 refine says_of (xs:=[pQ (Rat.divInt n d)]) Tryz.func49 rfl Tryz.ntmps49 Tryz.results49 (by simp) fun F hG hX0 hnt hdf P0=>?_
 obtain ⟨L,hX,hN⟩:=pro hnt hX0 hG
 refine exr (swb (c_al (k:=4) (n:=4) zv26 (.cons rfl (.cons rfl (.cons rfl (.cons rfl .nil)))) rfl (P0 _ rfl) (L rfl)) t0 t0 ⟨rfl,rfl⟩ (zn [(0,_),(1,_),(4,_)] [(4,_)] t3 t1 (exr (mV (L rfl) rfl (mV (L rfl) rfl (cK hG hX cl12 hN (rqof_says n d h h1 h2 h3 h0) (L rfl) t2 (mV (L rfl) rfl (sw (c_ex rfl (L rfl)) t1 t0 (sw (c_ex rfl (L rfl)) t1 t0 (swb (c_al (k:=5) (n:=4) zv26 (.cons rfl (.cons rfl (.cons rfl (.cons rfl .nil)))) rfl (P0 _ rfl) (L rfl)) t0 t0 ⟨rfl,rfl⟩ (sb (c_sm sz26 (by rfl) pa4 rfl pu4) t2 t1 ?_)))))))))))
 refine aV (L rfl) rfl (zn [(4,_),(5,_)] [(4,_),(5,_)] t2 t2 (exr (lp4 ag26 sz26 (L rfl) rfl rfl (sb (c_sm sz26 (by rfl) pa4 rfl pu4) t2 t1 ?_))))
 refine zn [(4,_)] [(4,_)] t1 t1 (ex_ret ?_)
 refine ⟨.inr rfl,ResVs.cast (.cons (.agg rfl rfl rfl ag26 sz26 (.cons (.cons (.cons (.cons .nil))))) .nil) ?_⟩
 rfl
theorem rqwhole_says (n : Int) : Says E 18 [pZ n] (pQ (n : Rat)):=by
 refine says_of (xs:=[pQ (n : Rat)]) Tryz.func18 rfl Tryz.ntmps18 Tryz.results18 (by simp) fun F hG hX0 hnt hdf P0=>?_
 obtain ⟨L,hX,hN⟩:=pro hnt hX0 hG
 refine exr (swb (c_bx (k:=1) (n:=2) pa2 rfl rfl (P0 _ rfl) (L rfl)) t1 t0 ⟨rfl,rfl⟩ (swb (c_al (k:=2) (n:=4) zv26 (.cons rfl (.cons rfl (.cons rfl (.cons rfl .nil)))) rfl (P0 _ rfl) (L rfl)) t0 t0 ⟨rfl,rfl⟩ (zn [(1,_),(2,_)] [(1,_),(2,_)] t2 t2 (exd (by rfl) ?_))))
 refine lp2 ag24 sz24 (L rfl) rfl rfl (cK hG hX cl64 hN rone_says (L rfl) t0 (sw (c_bp (vs:=[_,_]) un26 zv26 (.cons rfl (.cons rfl (.cons rfl (.cons rfl .nil)))) ((Places.cons sz24 (Places.cons sz24 Places.nil))).to rfl (.cons rfl pa2 rfl pu2 (.cons rfl pa2 rfl (.skip (.skip pu2)) .nil)) (.cons (.cons (.cons (.cons .nil)))) (L rfl)) t2 t0 (sb (c_sm sz26 (by rfl) pa4 rfl pu4) t2 t1 ?_)))
 refine seq_nil ⟨aoks [⟨[1],[1],[3],[]⟩,⟨[],[],[4],[]⟩,⟨[3,4],[],[5],[]⟩,⟨[2,5],[2],[],[2]⟩] (by rfl) (by rfl) (by decide),[(2,_)],[(2,_)],t1,t1,?_⟩
 refine ex_ret ?_
 refine ⟨.inr rfl,ResVs.cast (.cons (.agg rfl rfl rfl ag26 sz26 (.cons (.cons (.cons (.cons .nil))))) .nil) ?_⟩
 exact congrArg (· :: []) (cN rfl rfl)
theorem rqint_says (n : Int) (h : -9223372036854775808 ≤ n) (h1 : n < 9223372036854775808) : Says E 81 [vZ n] (pQ (n : Rat)):=by
 refine says_of (xs:=[pQ (n : Rat)]) Tryz.func81 rfl Tryz.ntmps81 Tryz.results81 (by simp) fun F hG hX0 hnt hdf P0=>?_
 obtain ⟨L,hX,hN⟩:=pro hnt hX0 hG
 refine exr (swb (c_al (k:=2) (n:=4) zv26 (.cons rfl (.cons rfl (.cons rfl (.cons rfl .nil)))) rfl (P0 _ rfl) (L rfl)) t0 t0 ⟨rfl,rfl⟩ (zn [(0,_),(2,_)] [(2,_)] t2 t1 (exr (mV (L rfl) rfl (cK hG hX cl45 hN (rof_says n h h1) (L rfl) t1 (cK hG hX cl18 hN (rqwhole_says n) (L rfl) t1 (sb (c_sm sz26 (by rfl) pa4 rfl pu4) t2 t1 ?_)))))))
 refine zn [(2,_)] [(2,_)] t1 t1 (ex_ret ?_)
 refine ⟨.inr rfl,ResVs.cast (.cons (.agg rfl rfl rfl ag26 sz26 (.cons (.cons (.cons (.cons .nil))))) .nil) ?_⟩
 rfl
theorem qfloor_says (a : Rat) (ha : qw a < 1000000000) : Says E 31 [pQ a] (pZ a.floor):=by
 refine says_of (xs:=[pZ a.floor]) Tryz.func31 rfl Tryz.ntmps31 Tryz.results31 (by simp) fun F hG hX0 hnt hdf P0=>?_
 obtain ⟨L,hX,hN⟩:=pro hnt hX0 hG
 have h1:=nw_num_le a
 have h2:=nw_den_le a
 refine exr (swb (c_bx (k:=1) (n:=4) pa4 rfl rfl (P0 _ rfl) (L rfl)) t1 t0 ⟨rfl,rfl⟩ (swb (c_al (k:=2) (n:=2) zv24 (.cons rfl (.cons rfl .nil)) rfl (P0 _ rfl) (L rfl)) t0 t0 ⟨rfl,rfl⟩ (zn [(1,_),(2,_)] [(1,_),(2,_)] t2 t2 (exr (sw (c_fa un26 rfl sz24 (by decide) (by exact rfl) (L rfl)) t1 t1 ?_)))))
 refine lp2 ag24 sz24 (L rfl) rfl rfl (sw (c_fa un26 rfl sz24 (by decide) (by exact rfl) (L rfl)) t1 t1 ?_)
 refine lp2 ag24 sz24 (L rfl) rfl rfl (cK hG hX cl74 hN (wholeZ a.num a.den (by omega) (by omega) (den_ne a)) (L rfl) t2 ?_)
 refine sb (c_sm sz24 (by rfl) pa2 rfl pu2) t2 t1 ?_
 refine zn [(2,_)] [(2,_)] t1 t1 (ex_ret ?_)
 refine ⟨.inr rfl,ResVs.cast (.cons (.agg rfl rfl rfl ag24 sz24 (.cons (.cons .nil))) .nil) ?_⟩
 rw [Rat.floor_def]
theorem rqfloor_says (a : Rat) (ha : qw a < 1000000000) : Says E 32 [pQ a] (pZ a.floor):=by
 refine says_of (xs:=[pZ a.floor]) Tryz.func32 rfl Tryz.ntmps32 Tryz.results32 (by simp) fun F hG hX0 hnt hdf P0=>?_
 obtain ⟨L,hX,hN⟩:=pro hnt hX0 hG
 have h1:=nw_num_le a
 have h2:=nw_den_le a
 refine exr (swb (c_bx (k:=1) (n:=4) pa4 rfl rfl (P0 _ rfl) (L rfl)) t1 t0 ⟨rfl,rfl⟩ (swb (c_al (k:=2) (n:=2) zv24 (.cons rfl (.cons rfl .nil)) rfl (P0 _ rfl) (L rfl)) t0 t0 ⟨rfl,rfl⟩ (zn [(1,_),(2,_)] [(1,_),(2,_)] t2 t2 (exr (sw (c_fa un26 rfl sz24 (by decide) (by exact rfl) (L rfl)) t1 t1 ?_)))))
 refine lp2 ag24 sz24 (L rfl) rfl rfl (sw (c_fa un26 rfl sz24 (by decide) (by exact rfl) (L rfl)) t1 t1 ?_)
 refine lp2 ag24 sz24 (L rfl) rfl rfl (cK hG hX cl75 hN (rdivZ a.num a.den (by omega) (by omega) (den_ne a)) (L rfl) t2 ?_)
 refine mV (L rfl) rfl (sw (c_ex rfl (L rfl)) t1 t0 (sw (c_ex rfl (L rfl)) t1 t0 (sw (c_ex rfl (L rfl)) t1 t0 (swb (c_al (k:=3) (n:=2) zv24 (.cons rfl (.cons rfl .nil)) rfl (P0 _ rfl) (L rfl)) t0 t0 ⟨rfl,rfl⟩ (swb (c_al (k:=4) (n:=2) zv24 (.cons rfl (.cons rfl .nil)) rfl (P0 _ rfl) (L rfl)) t0 t0 ⟨rfl,rfl⟩ (sb (c_sm sz24 (by rfl) pa2 rfl pu2) t2 t1 ?_))))))
 refine sb (c_sm sz24 (by rfl) pa2 rfl pu2) t2 t1 ?_
 refine aV (L rfl) rfl (zn [(2,_),(3,_)] [(2,_),(3,_)] t2 t2 (exr (lp2 ag24 sz24 (L rfl) rfl rfl (sb (c_sm sz24 (by rfl) pa2 rfl pu2) t2 t1 ?_))))
 refine zn [(2,_)] [(2,_)] t1 t1 (ex_ret ?_)
 refine ⟨.inr rfl,ResVs.cast (.cons (.agg rfl rfl rfl ag24 sz24 (.cons (.cons .nil))) .nil) ?_⟩
 rw [Rat.floor_def]
end Go.Proofs.YtcifhkfpmhifaaaGreatDoor.N
namespace Go.Proofs.YtcifhkfpmhifaaaGreatDoor.SH
open Go Go.RowKit Go.ChangeShapes Go.WideShapes Go.ChangeAt
variable {H : Type} {enc : TypeId × Value → H} {P : Program}
theorem trodAll_stays (hl : laidOutB P = true) {W W' : World} (hb : Below W.heap.size W W') : ∀ {ts : List TypeId} {vs : List Value} {ds : List (DataW H)} {ps : List MemPlace},
    (ts.all fun t=>P.readableRec t && decide (t < P.types.size)) = true → DataW.TrodAll enc P W 0 (fun _=>true) true ts vs ds ps → (∀ x ∈ ps,x.block < W.heap.size) →
    DataW.TrodAll enc P W' 0 (fun b=>decide (b < W.heap.size)) true ts vs ds ps
  | [],vs,ds,ps,_,h,_=>by
    obtain ⟨rfl,rfl,rfl⟩:=trodAll_nil h
    rfl
  | t :: ts,vs,ds,ps,hr,h,hlt=>by
    obtain ⟨v,vs',d,ds',p,q,rfl,rfl,rfl,h1,h2⟩:=trodAll_cons h
    simp only [List.all_cons,Bool.and_eq_true,decide_eq_true_eq] at hr
    exact trodAll_cons_mk (Below.trod hl hr.1.1 hr.1.2 h1 hb fun x hx=>hlt x (List.mem_append_left _ hx)) (trodAll_stays hl hb hr.2 h2 fun x hx=>hlt x (List.mem_append_right _ hx))
theorem post_law {fn : Func} {s : ChangeSpec} {apart fresh handsOn : Bool} {W W' : World} {args : Array Value} {ds gs : List (DataW H)} {before : List MemPlace} {tb : TypeId} (hl : laidOutB P = true) (hr : (fn.params.toList.all fun t => P.readableRec t && decide (t < P.types.size)) = true) (htb : P.underlying tb = some .bool) (hrt : fn.resultTypes = #[tb]) (hv : s.vars = [])
    (hW : DataW.Whole enc P fn.params.toList s.vars apart W args.toList ds gs before) (hb : Below W.heap.size W W') (hs : s.fn H (ds ++ gs) = { results:=[.lit (.bool true)],args:=ds }) : s.post enc P fn apart fresh handsOn false W args (.bool true) W':=by
  have hW':=hW
  obtain ⟨p,q,hA,hV,rfl,hfz,hnd⟩:=hW
  rw [hv] at hV
  obtain ⟨rfl,rfl⟩:=trodVars_none hV
  refine ⟨ds,[],p ++ [],[],p,[],hW',?_,?_,?_,hb.frame _,fun h=>by cases h⟩
  · rw [hs,hrt]; exact trodAll_mk1 (shut_bool htb true)
  · rw [hs]; exact trodAll_stays hl hb hr hA fun x hx=>hW'.lt x (List.mem_append_left _ hx)
  · rw [hs,hv]; rfl
end Go.Proofs.YtcifhkfpmhifaaaGreatDoor.SH
set_option maxRecDepth 100000
namespace Go.Proofs.YtcifhkfpmhifaaaGreatDoor.N
open Go Go.Proofs.YtcifhkfpmhifaaaGreatDoor.SH Go.Proofs.YtcifhkfpmhifaaaGreatDoor.NumA Go.Proofs.YtcifhkfpmhifaaaGreatDoor Go.RowKit Go.ChangeShapes Go.WideShapes Go.ChangeAt Go.Joins
theorem own : ownKnob Tryz.prog.godebug = none:=by kernel_rfl
theorem laidOut : laidOutB Tryz.prog = true:=by kernel_rfl
theorem cells24 : Tryz.prog.cellsOf 24 = 2:=by kernel_rfl
theorem cells26 : Tryz.prog.cellsOf 26 = 4:=by kernel_rfl
theorem cells68 : Tryz.prog.cellsOf 68 = 1:=by kernel_rfl
theorem cells22 : Tryz.prog.cellsOf 22 = 1:=by kernel_rfl
theorem cells4 : Tryz.prog.cellsOf 4 = 1:=by kernel_rfl
theorem row_of_ints {w : World} {a : Addr} {k : IntKind} {zs : List Int} {n : Nat} (hcell : ∀ i, i < zs.length → w.cell? (a.add i) = some (.int k (zs.getD i 0))) (hn : n ≤ zs.length) :
    RelS (fun _=>True) (hp w) ((zs.take n).map fun z=>.a (.int k z)) (some a):=by
  by_cases h0 : n = 0
  · subst h0; trivial
  · obtain ⟨b,off,rfl,hc⟩:=ints_at hcell (by omega)
    refine RelS.of trivial (RelAt.of fun i y hy=>?_)
    rw [List.getElem?_map,List.getElem?_take] at hy
    split at hy
    · rename_i hi
      have hi' : i < zs.length:=by omega
      rw [List.getElem?_eq_getElem hi'] at hy
      simp only [Option.map_some,Option.some.injEq] at hy
      subst hy
      refine ⟨.int k zs[i],?_,rfl,by simp [Rel]⟩
      rw [← cell_eq,hc i hi',List.getD_eq_getElem?_getD,List.getElem?_eq_getElem hi']
      rfl
    · cases hy
section
variable {H : Type} {enc : TypeId × Value → H} {W : World}
theorem int_cells {n : Nat} {cs : List Value} {y : DataW H × List MemPlace} (h : DataW.trod enc Tryz.prog W 0 (fun _ => true) true n 24 cs = some y) :
    ∃ neg ws c0 c1,Wd ws ∧ cs = [c0,c1] ∧ Rel (fun _=>True) (hp W) (.a (.bool neg)) c0 ∧ Rel (fun _=>True) (hp W) (.sl ws.length (encW ws)) c1 ∧ c0.oneCell' = true ∧ c1.oneCell' = true:=by
  obtain ⟨y0,y1,m,-,hl,h0,h1⟩:=trod_struct2 Tryz.underlying24 h
  rw [cells24] at hl
  match cs,hl with
  | [c0,c1],_ =>
    have h0' : DataW.trod enc Tryz.prog W 0 (fun _=>true) true m 4 [c0] = some y0:=by simpa [cells4] using h0
    have h1' : DataW.trod enc Tryz.prog W 0 (fun _=>true) true m 22 [c1] = some y1:=by simpa [cells22] using h1
    obtain ⟨b,hb,-⟩:=DataW.trod_bool Tryz.underlying4 h0'
    obtain rfl : c0 = .bool b:=by simpa using hb
    rcases open_ints Tryz.underlying22 Tryz.underlying68 cells68 h1' with ⟨hcs,hx⟩ | ⟨a,len,cap,zs,hcs,_,hl,hm,hz,hx,hcell,hwz⟩
    · obtain rfl : c1 = .slice none 0 0:=by simpa using hcs
      exact ⟨b,[],_,_,Wd.nil,rfl,by simp [Rel],⟨none,0,rfl,Nat.le_refl _,trivial⟩,rfl,rfl⟩
    · obtain rfl : c1 = .slice (some a) len cap:=by simpa using hcs
      simp only [if_true] at hz
      have hlen : (zs.take len).length = len:=by rw [List.length_take]; omega
      refine ⟨b,zs.take len,_,_,fun w hw=>?_,rfl,by simp [Rel],⟨some a,cap,by rw [hlen],by rw [hlen]; exact hl,row_of_ints hcell (by omega)⟩,rfl,rfl⟩
      have:=hwz w (List.mem_of_mem_take hw)
      simp only [Lit.wf,Bool.and_eq_true,decide_eq_true_eq] at this
      exact ⟨this.1,Int.lt_of_le_of_lt this.2 (by decide)⟩
theorem rat_cells {n : Nat} {cs : List Value} {y : DataW H × List MemPlace} (h : DataW.trod enc Tryz.prog W 0 (fun _ => true) true n 26 cs = some y) :
    ∃ r : RQ,r.wd ∧ RelL (fun _=>True) (hp W) (cR r) cs ∧ ∀ c ∈ cs,c.oneCell' = true:=by
  obtain ⟨y0,y1,m,-,hl,h0,h1⟩:=trod_struct2 Tryz.underlying26 h
  rw [cells26] at hl
  match cs,hl with
  | [c0,c1,c2,c3],_ =>
    have h0' : DataW.trod enc Tryz.prog W 0 (fun _=>true) true m 24 [c0,c1] = some y0:=by simpa [cells24] using h0
    have h1' : DataW.trod enc Tryz.prog W 0 (fun _=>true) true m 24 [c2,c3] = some y1:=by simpa [cells24] using h1
    obtain ⟨b,ws,d0,d1,w1,e1,a1,a2,o1,o2⟩:=int_cells h0'
    obtain ⟨b',vs,d2,d3,w2,e2,a3,a4,o3,o4⟩:=int_cells h1'
    simp only [List.cons.injEq,and_true] at e1 e2
    obtain ⟨rfl,rfl⟩:=e1
    obtain ⟨rfl,rfl⟩:=e2
    refine ⟨⟨b,ws,b',vs⟩,⟨w1,w2⟩,⟨_,_,rfl,a1,_,_,rfl,a2,_,_,rfl,a3,_,_,rfl,a4,rfl⟩,fun c hc=>?_⟩
    simp only [List.mem_cons,List.not_mem_nil,or_false] at hc
    rcases hc with rfl | rfl | rfl | rfl <;> assumption
theorem rat_arg {r : Reach} {b0 : Nat} {v : Value} {d : DataW H} {p : List MemPlace} (hv : Value.okWide Tryz.prog W r b0 26 v) (h : DataW.Trod enc Tryz.prog W 0 (fun _ => true) true 26 v d p) :
    ∃ r : RQ,r.wd ∧ Rel (fun _=>True) (hp W) (.agg (cR r)) v:=by
  obtain ⟨cs,rfl,-⟩:=okWide_struct Tryz.underlying26 hv
  obtain ⟨n,h⟩:=h
  obtain ⟨r,hw,hr,ho⟩:=rat_cells h
  exact ⟨r,hw,cs.toList,by simp [Value.cells],hr,ho⟩
end
theorem int_bd {n : Int} (h : (Lit.int .i64 n).wf = true) : -9223372036854775808 ≤ n ∧ n < 9223372036854775808:=by
  simp only [Lit.wf,Bool.and_eq_true,decide_eq_true_eq] at h
  exact ⟨h.1,Int.lt_of_le_of_lt h.2 (by decide)⟩
abbrev laid : List (String × DataW Unit):=[("math/bits.deBruijn32tab",Rows.laid_math_bits_deBruijn32tab),("math/bits.deBruijn64tab",Rows.laid_math_bits_deBruijn64tab),("internal/strconv.uint64pow10",Rows.laid_internal_strconv_uint64pow10)]
theorem laid_met (os : Os) (args : Array Value) : laidMetH Tryz.prog laid ((World.laidAll Tryz.prog os laid).forCall (fun _ _=>0) ⟨#[],args,[]⟩).memory:=by
  rw [MakeChecks.laidMetH_plain _ _ _ (by kernel_rfl)]; exact laidMet_laidAll _ (by kernel_rfl) (by kernel_rfl)
theorem globT : (Tryz.prog.globals[1]?).map (·.type) = some 148:=by kernel_rfl
theorem tab_of_laid {W : World} (h : laidMetH Tryz.prog laid W) : Tab W:=by
  rw [MakeChecks.laidMetH_plain _ _ _ (by kernel_rfl)] at h
  exact Lib.tabIs_of_head tabG globT Tryz.underlying148 Tryz.underlying78 (by kernel_rfl) (by kernel_rfl) h.tail.tail
end Go.Proofs.YtcifhkfpmhifaaaGreatDoor.N
namespace Go.Proofs.YtcifhkfpmhifaaaGreatDoor.NumA
def bq (a : Rat) : Nat:=max (bl a.num.natAbs) (bl a.den)
def qE (a : Rat) (n : Int) : Int:=if a = 0 ∧ n < 0 then 5 else if 1 < bq a ∧ 1048576 / bq a < n.natAbs then 2 else 0
theorem bq_small {a : Rat} (h : bq a ≤ 1) : a = 0 ∨ a = 1 ∨ a = -1:=by
  have h1 : bl a.num.natAbs ≤ 1:=by unfold bq at h; omega
  have h2 : bl a.den ≤ 1:=by unfold bq at h; omega
  have h1 : a.num.natAbs < 2:=by simpa using bl_spec.1 h1
  have h2 : a.den < 2:=by simpa using bl_spec.1 h2
  have h3:=a.den_pos
  have hd : a.den = 1:=by omega
  rcases (show a.num = 0 ∨ a.num = 1 ∨ a.num = -1 by omega) with e | e | e
  · exact .inl (Rat.num_eq_zero.1 e)
  · exact .inr (.inl (Rat.ext (by rw [e]; rfl) (by rw [hd]; rfl)))
  · exact .inr (.inr (Rat.ext (by rw [e]; rfl) (by rw [hd]; rfl)))
theorem sq_unit {a : Rat} (h : a = 1 ∨ a = -1) : a * a = 1:=by rcases h with rfl | rfl <;> grind
theorem unit_pow {a : Rat} (h : a = 1 ∨ a = -1) : ∀ n : Nat,a ^ n = if n % 2 = 0 then 1 else a
  | 0=>by rw [Rat.pow_zero,if_pos rfl]
  | n + 1=>by
    rw [Rat.pow_succ,unit_pow h n]
    have h2:=sq_unit h
    by_cases e : n % 2 = 0
    · rw [if_pos e,if_neg (by omega),Rat.one_mul]
    · rw [if_neg e,if_pos (by omega),h2]
theorem zpow_cases (a : Rat) (n : Int) : (0 ≤ n ∧ a ^ n = a ^ n.natAbs) ∨ (n < 0 ∧ a ^ n = (a ^ n.natAbs)⁻¹):=by
  by_cases h : 0 ≤ n
  · left
    refine ⟨h,?_⟩
    rw [← Rat.zpow_natCast]; congr 1; omega
  · right
    refine ⟨by omega,?_⟩
    rw [← Rat.zpow_natCast,← Rat.zpow_neg]; congr 1; omega
theorem unit_zpow {a : Rat} (h : a = 1 ∨ a = -1) (n : Int) : a ^ n = if n % 2 = 0 then 1 else a:=by
  have e:=unit_pow h n.natAbs
  rcases zpow_cases a n with ⟨h0,h1⟩ | ⟨h0,h1⟩
  · rw [h1,e]; by_cases c : n % 2 = 0
    · rw [if_pos c,if_pos (by omega)]
    · rw [if_neg c,if_neg (by omega)]
  · rw [h1,e]; by_cases c : n % 2 = 0
    · rw [if_pos c,if_pos (by omega)]; exact Rat.inv_eq_of_mul_eq_one (Rat.one_mul 1)
    · rw [if_neg c,if_neg (by omega)]; exact Rat.inv_eq_of_mul_eq_one (sq_unit h)
theorem zero_zpow {n : Int} (h : 0 < n) : (0 : Rat) ^ n = 0:=by
  rcases zpow_cases 0 n with ⟨_,h1⟩ | ⟨h0,_⟩
  · rw [h1]
    obtain ⟨m,hm⟩ : ∃ m,n.natAbs = m + 1:=⟨n.natAbs - 1,by omega⟩
    rw [hm,Rat.pow_succ,Rat.mul_zero]
  · omega
theorem small_even {a : Rat} {n : Int} (h : bq a ≤ 1) (h0 : ¬ n = 0) (hn : ¬ (a = 0 ∧ n < 0)) (he : n % 2 = 0) : a ^ n = a * a:=by
  rcases bq_small h with rfl | h
  · have h1 : ¬ n < 0:=fun c=>hn ⟨rfl,c⟩
    rw [zero_zpow (by omega),Rat.mul_zero]
  · rw [unit_zpow h,if_pos he,sq_unit h]
theorem small_odd {a : Rat} {n : Int} (h : bq a ≤ 1) (hn : ¬ (a = 0 ∧ n < 0)) (he : ¬ n % 2 = 0) : a ^ n = a:=by
  rcases bq_small h with rfl | h
  · have h1 : ¬ n < 0:=fun c=>hn ⟨rfl,c⟩
    exact zero_zpow (by omega)
  · rw [unit_zpow h,if_neg he]
theorem qE_small {a : Rat} {n : Int} (h : bq a ≤ 1) (hn : ¬ (a = 0 ∧ n < 0)) : qE a n = 0:=by rw [qE,if_neg hn,if_neg (by omega)]
theorem lim_iff {k n : Nat} (hk : 0 < k) : 1048576 < n * k ↔ 1048576 / k < n:=by
  rw [Nat.div_lt_iff_lt_mul hk]
theorem pow_ok {A : Int} {k e : Nat} (h1 : bl A.natAbs ≤ k) (h2 : e ≤ 1048576 / k) (hk : 0 < k) : powE true A (e : Int) = 0 ∧ powV true A (e : Int) = A ^ e:=by
  have hE : powE true A (e : Int) = 0:=by
    rw [powE,if_pos rfl,if_neg (by omega),if_neg]
    rintro ⟨c1,c2⟩
    have : 1048576 / k ≤ 1048576 / bl A.natAbs:=Nat.div_le_div_left h1 (by omega)
    simp only [Int.toNat_natCast] at c2
    omega
  exact ⟨hE,by rw [powV,if_pos hE,Int.toNat_natCast]⟩
theorem pow_nw' {A : Int} {k e : Nat} (h1 : bl A.natAbs ≤ k) (h2 : e ≤ 1048576 / k) (hk : 0 < k) : nw (A ^ e) ≤ nw A + 32769:=by
  have h3:=Nat.mul_div_le 1048576 k
  have h4 : bl A.natAbs * e ≤ k * (1048576 / k):=Nat.mul_le_mul h1 h2
  exact pow_nw (A:=A) (e:=e) (.inr (by omega))
theorem bl_le_nw' (a : Int) : bl a.natAbs ≤ 32 * nw a:=by
  rw [bl_spec,Nat.pow_mul]
  have h1:=nw_lt (a:=a)
  have : ((a.natAbs : Nat) : Int) < ((4294967296 ^ nw a : Nat) : Int):=by rw [Int.natCast_pow]; exact h1
  exact Int.ofNat_lt.1 this
end Go.Proofs.YtcifhkfpmhifaaaGreatDoor.NumA
set_option maxRecDepth 100000
set_option maxHeartbeats 4000000
namespace Go.Proofs.YtcifhkfpmhifaaaGreatDoor.N
open Go Go.Proofs.YtcifhkfpmhifaaaGreatDoor.SH Go.Proofs.YtcifhkfpmhifaaaGreatDoor.NumA
open Go.Proofs.Tryz renaming call100 → cl100,call101 → cl101,call20 → cl20,call30 → cl30,call78 → cl78,isAgg22 → ag22,isAgg24 → ag24,isAgg26 → ag26,sizeOf22 → sz22,sizeOf24 → sz24,sizeOf26 → sz26,underlying22 → un22,underlying24 → un24,underlying26 → un26,zeroValue26 → zv26
def eqR (a b : RQ) : Bool:=decide (a.m = b.m ∧ a.ws = b.ws) && decide (a.n = b.n ∧ a.vs = b.vs)
theorem eqR_iff {a b : RQ} : eqR a b = true ↔ a = b:=by
 obtain ⟨m,ws,n,vs⟩:=a
 obtain ⟨m',ws',n',vs'⟩:=b
 simp only [eqR,Bool.and_eq_true,decide_eq_true_eq,RQ.mk.injEq]
 constructor
 ·rintro ⟨⟨h1,h2⟩,h3,h4⟩; exact ⟨h1,h2,h3,h4⟩
 ·rintro ⟨h1,h2,h3,h4⟩; exact ⟨⟨h1,h2⟩,h3,h4⟩
theorem RQ.of_inj {a b : Rat} (h : RQ.of a = RQ.of b) : a = b:=by
 simp only [RQ.of,RQ.mk.injEq] at h
 have h1:=digs_inj.1 ⟨h.1,h.2.1⟩
 have h2:=digs_inj.1 ⟨h.2.2.1,h.2.2.2⟩
 exact q_ext h1 h2
theorem eqR_of (a b : Rat) : eqR (RQ.of a) (RQ.of b) = decide (a = b):=by
 rw [Bool.eq_iff_iff,eqR_iff,decide_eq_true_iff]
 exact ⟨RQ.of_inj,fun h=>by rw [h]⟩
theorem and_t {p : Prop} [Decidable p] (h : p) (b : Bool) : (decide p && b) = b:=by rw [decide_eq_true h,Bool.true_and]
theorem and_f {p : Prop} [Decidable p] (h : ¬ p) (b : Bool) : (decide p && b) = false:=by rw [decide_eq_false h,Bool.false_and]
theorem rsameR0 (m n m' n' : Bool) (ws vs ws' vs' : List Int) (h1 : ws.length < 1000000000) (h2 : vs.length < 1000000000) (h3 : ws'.length < 1000000000) (h4 : vs'.length < 1000000000) : Says E 16 [pR m ws n vs,pR m' ws' n' vs'] (bZ (decide (m = m' ∧ ws = ws') && decide (n = n' ∧ vs = vs'))):=by
 refine says_of (xs:=[bZ (decide (m = m' ∧ ws = ws') && decide (n = n' ∧ vs = vs'))]) Tryz.func16 rfl Tryz.ntmps16 Tryz.results16 (by simp) fun F hG hX0 hnt hdf P0=>?_
 obtain ⟨L,hX,hN⟩:=pro hnt hX0 hG
 refine exr (swb (c_bx (k:=2) (n:=4) pa4 rfl rfl (P0 _ rfl) (L rfl)) t1 t0 ⟨rfl,rfl⟩ (swb (c_bx (k:=3) (n:=4) pa4 rfl rfl (P0 _ rfl) (L rfl)) t1 t0 ⟨rfl,rfl⟩ (aV (L rfl) rfl (zn [(2,_),(3,_)] [(2,_),(3,_)] t2 t2 ?_))))
 refine exm (sl:=[(4,vb (decide (m = m' ∧ ws = ws') && decide (n = n' ∧ vs = vs')))]) (sl0:=[]) (hb:=[]) (hb0:=[]) t0 t0 ?_ ?_
 ·by_cases hh : m = m' ∧ ws = ws'
  ·refine sw (c_fa un26 rfl sz24 (by decide) (by exact rfl) (L rfl)) t1 t1 ?_
   refine lp2 ag24 sz24 (L rfl) rfl rfl (sw (c_fa un26 rfl sz24 (by decide) (by exact rfl) (L rfl)) t1 t1 ?_)
   refine lp2 ag24 sz24 (L rfl) rfl rfl (cK hG hX cl30 hN (rsame_says m m' ws ws' (by omega) (by omega)) (L rfl) t2 ?_)
   refine mV (L rfl) rfl (swg (g:=10) rfl (decide_eq_true hh) (c_fa un26 rfl sz24 (by decide) (by exact rfl) (L rfl)) rfl t1 t1 ?_)
   refine swg (g:=10) rfl (decide_eq_true hh) (c_lp ag24 sz24 (by rfl) (by exact al2) rfl (L rfl)) rfl t1 t1 ?_
   refine swg (g:=10) rfl (decide_eq_true hh) (c_fa un26 rfl sz24 (by decide) (by exact rfl) (L rfl)) rfl t1 t1 ?_
   refine swg (g:=10) rfl (decide_eq_true hh) (c_lp ag24 sz24 (by rfl) (by exact al2) rfl (L rfl)) rfl t1 t1 ?_
   refine swg (g:=10) rfl (decide_eq_true hh) (c_c hG hX cl30 rfl hN (rsame_says n n' vs vs' (by omega) (by omega)) (L rfl)) rfl t2 t0 ?_
   refine sw (c_pt (decide_eq_true hh) (L rfl)) t2 t0 (aV (L rfl) rfl ?_)
   exact seq_nil ⟨⟨ob rfl (and_t hh _).symm,trivial⟩,trivial⟩
  ·refine sw (c_fa un26 rfl sz24 (by decide) (by exact rfl) (L rfl)) t1 t1 ?_
   refine lp2 ag24 sz24 (L rfl) rfl rfl (sw (c_fa un26 rfl sz24 (by decide) (by exact rfl) (L rfl)) t1 t1 ?_)
   refine lp2 ag24 sz24 (L rfl) rfl rfl (cK hG hX cl30 hN (rsame_says m m' ws ws' (by omega) (by omega)) (L rfl) t2 ?_)
   refine mV (L rfl) rfl (swn (g:=10) rfl (decide_eq_false hh) (L rfl) rfl (swn (g:=10) rfl (decide_eq_false hh) (L rfl) rfl (swn (g:=10) rfl (decide_eq_false hh) (L rfl) rfl (swn (g:=10) rfl (decide_eq_false hh) (L rfl) rfl (swn (g:=10) rfl (decide_eq_false hh) (L rfl) rfl (sw (c_pf (decide_eq_false hh) (L rfl)) t2 t0 (aV (L rfl) rfl ?_)))))))
   exact seq_nil ⟨⟨ob rfl (and_f hh _).symm,trivial⟩,trivial⟩
 refine ex_ret ?_
 refine ⟨.inr rfl,ResVs.cast (.cons (.tmp rfl) .nil) ?_⟩
 rfl
theorem rsameR {a b : RQ} (ha : a.sm) (hb : b.sm) : Says E 16 [.agg (cR a),.agg (cR b)] (bZ (eqR a b)):=rsameR0 _ _ _ _ _ _ _ _ ha.2.1 ha.2.2 hb.2.1 hb.2.2
theorem rqsame_says (a b : Rat) (ha : qw a < 1000000000) (hb : qw b < 1000000000) : Says E 16 [pQ a,pQ b] (bZ (decide (a = b))):=by
 have:=rsameR (RQ.sm_of ha) (RQ.sm_of hb)
 rwa [eqR_of] at this
theorem rbitsZ2 (a : Int) (ha : nw a < 999999999999) : Says E 78 [pZ a] (vZ (bl a.natAbs : Nat)):=by
 have:=rbits_says (decide (a < 0)) (digs a.natAbs) (by unfold nw at ha; omega) (wd_digs _)
 rwa [if_pos (canon_digs a),val_digs,Int.toNat_natCast] at this
theorem max_if (x y : Nat) : [vZ (if (x : Int) < y then (y : Int) else x)] = [vZ ((max x y : Nat) : Int)]:=by
 congr 2; split <;> omega
theorem rqbits_says (a : Rat) (ha : qw a < 1000000000) : Says E 39 [pQ a] (vZ (bq a : Nat)):=by
 refine says_of (xs:=[vZ (bq a : Nat)]) Tryz.func39 rfl Tryz.ntmps39 Tryz.results39 (by simp) fun F hG hX0 hnt hdf P0=>?_
 obtain ⟨L,hX,hN⟩:=pro hnt hX0 hG
 have h1:=nw_num_le a
 have h2:=nw_den_le a
 refine exr (swb (c_bx (k:=1) (n:=4) pa4 rfl rfl (P0 _ rfl) (L rfl)) t1 t0 ⟨rfl,rfl⟩ (aV (L rfl) rfl (zn [(1,_)] [(1,_)] t1 t1 (exd (by rfl) ?_))))
 refine sw (c_fa un26 rfl sz24 (by decide) (by exact rfl) (L rfl)) t1 t1 ?_
 refine lp2 ag24 sz24 (L rfl) rfl rfl (cK hG hX cl78 hN (rbitsZ2 a.num (by omega)) (L rfl) t1 ?_)
 refine sw (c_fa un26 rfl sz24 (by decide) (by exact rfl) (L rfl)) t1 t1 ?_
 refine lp2 ag24 sz24 (L rfl) rfl rfl (cK hG hX cl78 hN (rbitsZ2 a.den (by omega)) (L rfl) t1 ?_)
 refine sw (c_mx (L rfl)) t2 t0 (aV (L rfl) rfl ?_)
 refine seq_nil ⟨aoks [⟨[1],[1],[3],[]⟩,⟨[3],[1],[4],[]⟩,⟨[4],[],[5],[]⟩,⟨[1],[1],[6],[]⟩,⟨[6],[1],[7],[]⟩,⟨[7],[],[8],[]⟩,⟨[5,8],[],[9],[]⟩,⟨[9],[],[2],[]⟩] (by rfl) (by rfl) (by decide),[(2,_)],[],t1,trivial,?_⟩
 refine ex_ret ?_
 refine ⟨.inr rfl,ResVs.cast (.cons (.tmp rfl) .nil) ?_⟩
 exact max_if _ _
def smallR (k : Int) (r : RQ) : Bool:=(decide ((r.ws.length : Int) ≤ k) && decide ((r.vs.length : Int) ≤ k)) && r.is
theorem small0 (k : Int) (m n : Bool) (ws vs : List Int) (hs : (RQ.mk m ws n vs).wd) (hk : k < 1000000000) : Says E 21 [pR m ws n vs,vZ k] (bZ (smallR k ⟨m,ws,n,vs⟩)):=by
 refine says_of (xs:=[bZ (smallR k ⟨m,ws,n,vs⟩)]) Tryz.func21 rfl Tryz.ntmps21 Tryz.results21 (by simp) fun F hG hX0 hnt hdf P0=>?_
 obtain ⟨L,hX,hN⟩:=pro hnt hX0 hG
 refine exr (swb (c_bx (k:=2) (n:=4) pa4 rfl rfl (P0 _ rfl) (L rfl)) t1 t0 ⟨rfl,rfl⟩ (aV (L rfl) rfl (zn [(1,_),(2,_)] [(2,_)] t2 t1 ?_)))
 refine exm (sl:=[(4,vb (smallR k ⟨m,ws,n,vs⟩))]) (sl0:=[]) (hb:=[]) (hb0:=[]) t0 t0 ?_ ?_
 ·by_cases h1 : (ws.length : Int) ≤ k; by_cases h2 : (vs.length : Int) ≤ k
  ·refine sw (c_fa un26 rfl sz24 (by decide) (by exact rfl) (L rfl)) t1 t1 ?_
   refine sw (c_fa un24 rfl sz22 (by decide) (by exact rfl) (L rfl)) t1 t1 ?_
   refine sw (c_l1 ag22 (by rfl) (by rfl) (L rfl)) t1 t1 ?_
   refine sw (c_ln un22 (L rfl)) t1 t0 (mV (L rfl) rfl (sw (c_le (L rfl)) t2 t0 (mV (L rfl) rfl (swg (g:=11) rfl (decide_eq_true h1) (c_fa un26 rfl sz24 (by decide) (by exact rfl) (L rfl)) rfl t1 t1 ?_))))
   refine swg (g:=11) rfl (decide_eq_true h1) (c_fa un24 rfl sz22 (by decide) (by exact rfl) (L rfl)) rfl t1 t1 ?_
   refine swg (g:=11) rfl (decide_eq_true h1) (c_l1 ag22 (by rfl) (by rfl) (L rfl)) rfl t1 t1 ?_
   refine swg (g:=11) rfl (decide_eq_true h1) (c_ln un22 (L rfl)) rfl t1 t0 (gV (g:=11) rfl (decide_eq_true h1) (L rfl) rfl rfl (swg (g:=11) rfl (decide_eq_true h1) (c_le (L rfl)) rfl t2 t0 (sw (c_pt (decide_eq_true h1) (L rfl)) t2 t0 (mV (L rfl) rfl (swg (g:=19) rfl (decide_eq_true h2) (c_lp ag26 sz26 (by rfl) (by exact al4) rfl (L rfl)) rfl t1 t1 ?_)))))
   refine swg (g:=19) rfl (decide_eq_true h2) (c_c hG hX cl20 rfl hN (rqis_says (r:=⟨m,ws,n,vs⟩) hs (by show ws.length < _; omega) (by show vs.length < _; omega)) (L rfl)) rfl t1 t0 ?_
   refine sw (c_pt (decide_eq_true h2) (L rfl)) t2 t0 (aV (L rfl) rfl ?_)
   exact seq_nil ⟨⟨ob rfl (by simp [smallR,h1,h2]),trivial⟩,trivial⟩
  ·refine sw (c_fa un26 rfl sz24 (by decide) (by exact rfl) (L rfl)) t1 t1 ?_
   refine sw (c_fa un24 rfl sz22 (by decide) (by exact rfl) (L rfl)) t1 t1 ?_
   refine sw (c_l1 ag22 (by rfl) (by rfl) (L rfl)) t1 t1 ?_
   refine sw (c_ln un22 (L rfl)) t1 t0 (mV (L rfl) rfl (sw (c_le (L rfl)) t2 t0 (mV (L rfl) rfl (swg (g:=11) rfl (decide_eq_true h1) (c_fa un26 rfl sz24 (by decide) (by exact rfl) (L rfl)) rfl t1 t1 ?_))))
   refine swg (g:=11) rfl (decide_eq_true h1) (c_fa un24 rfl sz22 (by decide) (by exact rfl) (L rfl)) rfl t1 t1 ?_
   refine swg (g:=11) rfl (decide_eq_true h1) (c_l1 ag22 (by rfl) (by rfl) (L rfl)) rfl t1 t1 ?_
   refine swg (g:=11) rfl (decide_eq_true h1) (c_ln un22 (L rfl)) rfl t1 t0 (gV (g:=11) rfl (decide_eq_true h1) (L rfl) rfl rfl (swg (g:=11) rfl (decide_eq_true h1) (c_le (L rfl)) rfl t2 t0 (sw (c_pt (decide_eq_true h1) (L rfl)) t2 t0 (mV (L rfl) rfl (swn (g:=19) rfl (decide_eq_false h2) (L rfl) rfl (swn (g:=19) rfl (decide_eq_false h2) (L rfl) rfl (sw (c_pf (decide_eq_false h2) (L rfl)) t2 t0 (aV (L rfl) rfl ?_))))))))
   exact seq_nil ⟨⟨ob rfl (by simp [smallR,h2]),trivial⟩,trivial⟩
  ·refine sw (c_fa un26 rfl sz24 (by decide) (by exact rfl) (L rfl)) t1 t1 ?_
   refine sw (c_fa un24 rfl sz22 (by decide) (by exact rfl) (L rfl)) t1 t1 ?_
   refine sw (c_l1 ag22 (by rfl) (by rfl) (L rfl)) t1 t1 ?_
   refine sw (c_ln un22 (L rfl)) t1 t0 (mV (L rfl) rfl (sw (c_le (L rfl)) t2 t0 (mV (L rfl) rfl (swn (g:=11) rfl (decide_eq_false h1) (L rfl) rfl (swn (g:=11) rfl (decide_eq_false h1) (L rfl) rfl (swn (g:=11) rfl (decide_eq_false h1) (L rfl) rfl (swn (g:=11) rfl (decide_eq_false h1) (L rfl) rfl (swn (g:=11) rfl (decide_eq_false h1) (L rfl) rfl (swn (g:=11) rfl (decide_eq_false h1) (L rfl) rfl (sw (c_pf (decide_eq_false h1) (L rfl)) t2 t0 (mV (L rfl) rfl ?_)))))))))))
   refine swn (g:=19) rfl rfl (L rfl) rfl (swn (g:=19) rfl rfl (L rfl) rfl (sw (c_pf rfl (L rfl)) t2 t0 (aV (L rfl) rfl ?_)))
   exact seq_nil ⟨⟨ob rfl (by simp [smallR,h1]),trivial⟩,trivial⟩
 refine ex_ret ?_
 refine ⟨.inr rfl,ResVs.cast (.cons (.tmp rfl) .nil) ?_⟩
 rfl
theorem small_says {r : RQ} (k : Int) (hs : r.wd) (hk : k < 1000000000) : Says E 21 [.agg (cR r),vZ k] (bZ (smallR k r)):=small0 k _ _ _ _ hs hk
end Go.Proofs.YtcifhkfpmhifaaaGreatDoor.N
namespace Go.Proofs.YtcifhkfpmhifaaaGreatDoor.SH
open Go Go.RowKit
def StepN (P : Program) (F : Fr) (ops : Array Oper) (o : Oper) (S S' : St) : Prop :=
  ∀ a w,Sat F S a w → ∀ (Q : Exit → Act → World → Prop) (K : Act → World → Prop),(∀ a' w',Sat F S' a' w' → K a' w') →
    if Region.wanted o (yielded ops a.tmps) then o.wp P a w K Q ∨ (∀ n,o.wpIn (fen F) n P a w K Q) else K (a.put o.dst undef) w
inductive SeqS (P : Program) (F : Fr) (ops : Array Oper) : List Oper → St → (St → Prop) → Prop
  | nil {S : St} {K : St → Prop} : K S → SeqS P F ops [] S K
  | cons {o : Oper} {os : List Oper} {S S1 : St} {K : St → Prop} : StepN P F ops o S S1 → SeqS P F ops os S1 K → SeqS P F ops (o :: os) S K
theorem seqS_ops {P : Program} {F : Fr} {ops : Array Oper} {Q : Exit → Act → World → Prop} (hnd : ∀ o ∈ ops.toList, ∀ c, o.op ≠ .defer c) (m : Nat) {K : St → Prop} (hQ : ∀ S' a w, K S' → Sat F S' a w → Q .normal a w) : ∀ {os : List Oper} {S : St} {n : Nat}, SeqS P F ops os S K →
    (∀ j,os[j]? = ops[n + j]?) → ∀ a w,Sat F S a w → wpOpsIn (fen F) m P ops Q ((List.range os.length).map (n + ·)) a w:=by
  intro os S n h
  induction h generalizing n with
  | nil hK=>intro _ a w hS; exact hQ _ a w hK hS
  | @cons o os S S1 K hop _ ih =>
    intro hj a w hS
    have h0 : ops[n]? = some o:=by have:=hj 0; simpa using this.symm
    rw [List.length_cons,List.range_succ_eq_map,List.map_cons,List.map_map,Nat.add_zero,wpOpsIn_cons]
    refine opIn_of h0 (hnd o (List.mem_of_getElem? (by rw [Array.getElem?_toList]; exact h0))) (hop a w hS Q _ fun a' w' h'=>?_)
    have:=ih hQ (n:=n + 1) (fun j=>by have:=hj (j + 1); simp only [List.getElem?_cons_succ] at this; rw [this]; congr 1; omega) a' w' h'
    have e : (fun x=>n + 1 + x) = ((fun x=>n + x) ∘ Nat.succ):=by funext x; simp; omega
    rwa [e] at this
section
variable {P : Program} {F : Fr} {Q : Exit → St → Prop} {S : St}
theorem ex_regionS {id : Nat} {l : List Oper} {K : St → Prop} (h : SeqS P F l.toArray l S K) (hQ : ∀ S',K S' → Q .normal S') (hnd : noDef l = true:=by rfl) : Exec P F (.region id l.toArray false) S Q:=⟨fun m a w hS=>by
  refine wpIn_region ?_
  have:=seqS_ops (by simpa using noDef_all hnd) m (Q:=fun e a' w'=>(∃ S',Q e S' ∧ Sat F S' a' w') ∨ (e = .ret ∧ F.esc a' w')) (fun S' a w hK hS=>.inl ⟨S',hQ S' hK,hS⟩) h (n:=0) (fun j=>by simp) a w hS
  simpa using this⟩
theorem exrN {id : Nat} {l : List Oper} {y : Code} (h : SeqS P F l.toArray l S fun S1=>∃ sl hb,HasS S1 sl ∧ HasB S1 hb ∧ Exec P F y ⟨sl,hb⟩ Q) (hnd : noDef l = true:=by rfl) : Exec P F (.seq (.region id l.toArray false) y) S Q :=
  ex_seq (ex_regionS h (fun _ ⟨_,_,h1,h2,hn⟩=>hn.weak (le_of h1 h2)) hnd)
end
section
variable {P : Program} {F : Fr} {ops : Array Oper} {sl : List (Nat × PV)} {hb : List (Nat × Blk)} {op : Op} {T : TypeId} {pos : String} {aft : Array Edge} {os : List Oper} {dst : Option Nat} {rs : List (Operand × PV)} {rb : List (Nat × Blk)} {fr : Option Nat} {K : St → Prop}
theorem nsw {d : Nat} {v : PV} (hc : CoreOk P F ⟨dst,op,T,pos,aft,none⟩ ⟨rs,rb,none,[(d,v)],[]⟩) (h1 : Reads ⟨sl,hb⟩ rs) (h2 : ReadsB ⟨sl,hb⟩ rb) (hn : SeqS P F ops os ⟨(d,v) :: sl,hb⟩ K) : SeqS P F ops (⟨dst,op,T,pos,aft,none⟩ :: os) ⟨sl,hb⟩ K :=
  .cons (fun a w hS Q K' hK=>opok_plain rfl hc _ a w hS (holds_of h1 h2 trivial) Q K' hK) hn
end
mutual
def PV.only (ks : List Nat) : PV → Bool
  | .p _=>true
  | .at_ j _ _=>ks.contains j
  | .im _ _=>true
  | .ref j _ _ _=>ks.contains j
  | .agg xs=>PV.onlyL ks xs
  | .tup xs=>PV.onlyL ks xs
  | .clo _ f c=>PV.onlyL ks f && PV.onlyL ks c
  | .ifc _ x=>x.only ks
  | .dead=>true
def PV.onlyL (ks : List Nat) : List PV → Bool
  | []=>true
  | x :: xs=>x.only ks && PV.onlyL ks xs
end
mutual
theorem PV.only_free {ks : List Nat} {k : Nat} (hk : ks.contains k = false) : ∀ x : PV,x.only ks = true → x.free k = true
  | .p _,_=>rfl
  | .at_ j _ _,h=>by
    simp only [PV.only] at h; simp only [PV.free]
    have : j ≠ k:=fun e=>by rw [e,hk] at h; cases h
    simpa using this
  | .im _ _,_=>rfl
  | .ref j _ _ _,h=>by
    simp only [PV.only] at h; simp only [PV.free]
    have : j ≠ k:=fun e=>by rw [e,hk] at h; cases h
    simpa using this
  | .agg xs,h=>by simp only [PV.only] at h; simp only [PV.free]; exact PV.onlyL_free hk xs h
  | .tup xs,h=>by simp only [PV.only] at h; simp only [PV.free]; exact PV.onlyL_free hk xs h
  | .clo _ f c,h=>by
    simp only [PV.only,Bool.and_eq_true] at h; simp only [PV.free,Bool.and_eq_true]
    exact ⟨PV.onlyL_free hk f h.1,PV.onlyL_free hk c h.2⟩
  | .ifc _ x,h=>by simp only [PV.only] at h; simp only [PV.free]; exact PV.only_free hk x h
  | .dead,_=>rfl
theorem PV.onlyL_free {ks : List Nat} {k : Nat} (hk : ks.contains k = false) : ∀ xs : List PV,PV.onlyL ks xs = true → PV.freeL k xs = true
  | [],_=>rfl
  | x :: xs,h=>by
    simp only [PV.onlyL,Bool.and_eq_true] at h; simp only [PV.freeL,Bool.and_eq_true]
    exact ⟨PV.only_free hk x h.1,PV.onlyL_free hk xs h.2⟩
end
theorem PV.only_mem {ks : List Nat} {k : Nat} {x : PV} (h : x.only ks = true) (hk : x.free k = false) : k ∈ ks:=by
  cases e : ks.contains k with
  | true=>simpa using e
  | false=>rw [PV.only_free e x h] at hk; cases hk
def Cells.only (ks : List Nat) : Cells → Bool
  | .pure _=>true
  | .mix vs=>PV.onlyL ks vs
theorem Cells.only_get {ks : List Nat} {c : Cells} {i : Nat} {x : PV} (h : c.only ks = true) (hx : c.get i = some x) : x.only ks = true:=by
  cases c with
  | pure xs =>
    simp only [Cells.get,Option.map_eq_some_iff] at hx
    obtain ⟨y,_,rfl⟩:=hx; rfl
  | mix vs =>
    simp only [Cells.only] at h
    have : ∀ (l : List PV) (i : Nat),PV.onlyL ks l = true → l[i]? = some x → x.only ks = true:=by
      intro l
      induction l with
      | nil=>intro i _ h; simp at h
      | cons y l ih =>
        intro i hl hi
        simp only [PV.onlyL,Bool.and_eq_true] at hl
        cases i with
        | zero => obtain rfl : y = x := by simpa using hi
                  exact hl.1
        | succ i=>exact ih i hl.2 (by simpa using hi)
    exact this vs i h hx
def Cells.ren (κ : Nat → Nat) : Cells → Cells
  | .pure xs=>.pure xs
  | .mix vs=>.mix (vs.map (PV.ren κ))
def Blk.ren (κ : Nat → Nat) (B : Blk) : Blk:=⟨B.T,B.sz,B.cs.ren κ⟩
theorem Cells.ren_len (κ : Nat → Nat) (c : Cells) : (c.ren κ).len = c.len:=by cases c <;> simp [Cells.ren,Cells.len]
theorem Cells.ren_get (κ : Nat → Nat) (c : Cells) (i : Nat) : (c.ren κ).get i = (c.get i).map (PV.ren κ):=by
  cases c with
  | pure xs=>simp only [Cells.ren,Cells.get,Option.map_map]; congr 1
  | mix vs=>simp [Cells.ren,Cells.get]
end Go.Proofs.YtcifhkfpmhifaaaGreatDoor.SH
namespace Go.Proofs.YtcifhkfpmhifaaaGreatDoor.SH
open Go Go.RowKit
mutual
theorem ren_of {β β0 : Nat → Option Blk} {ρ : Nat → Nat} {ok : Nat → Prop} {Hp : Nat → Option Obj} {κ : Nat → Nat} (hH : ∀ j B,β0 j = some B → ∃ B',β (κ j) = some B' ∧ B'.sz = B.sz ∧ B'.cs.len = B.cs.len) : ∀ (x : PV) (v : Value),RelV β ρ ok Hp (x.ren κ) v → RelV β0 (fun j=>ρ (κ j)) ok Hp x v
  | .p x,v,h=>by simpa only [PV.ren,RelV] using h
  | .at_ k o t,v,h=>by
    simp only [PV.ren,RelV] at h ⊢
    intro B hB
    obtain ⟨B',h1,h2,h3⟩:=hH k B hB
    rw [← h3]; exact h B' h1
  | .im xs o,v,h=>by simpa only [PV.ren,RelV] using h
  | .ref k o n t,v,h=>by
    simp only [PV.ren,RelV] at h ⊢
    refine ⟨h.1,fun B hB=>?_⟩
    obtain ⟨B',h1,h2,h3⟩:=hH k B hB
    rw [← h3,← h2]; exact h.2 B' h1
  | .agg xs,v,h=>by
    simp only [PV.ren,RelV] at h ⊢
    obtain ⟨cs,h1,h2,h3⟩:=h
    exact ⟨cs,h1,renL_of hH xs cs h2,h3⟩
  | .tup xs,v,h=>by
    simp only [PV.ren,RelV] at h ⊢
    obtain ⟨cs,h1,h2⟩:=h
    exact ⟨cs,h1,renL_of hH xs cs h2⟩
  | .clo f a b,v,h=>by
    simp only [PV.ren,RelV] at h ⊢
    obtain ⟨fs,cs,h1,h2,h3⟩:=h
    exact ⟨fs,cs,h1,renL_of hH a fs h2,renL_of hH b cs h3⟩
  | .ifc t x,v,h=>by
    simp only [PV.ren,RelV] at h ⊢
    obtain ⟨y,h1,h2⟩:=h
    exact ⟨y,h1,ren_of hH x y h2⟩
  | .dead,_,_=>by simp [RelV]
theorem renL_of {β β0 : Nat → Option Blk} {ρ : Nat → Nat} {ok : Nat → Prop} {Hp : Nat → Option Obj} {κ : Nat → Nat} (hH : ∀ j B,β0 j = some B → ∃ B',β (κ j) = some B' ∧ B'.sz = B.sz ∧ B'.cs.len = B.cs.len) : ∀ (xs : List PV) (vs : List Value),RelVL β ρ ok Hp (PV.renL κ xs) vs → RelVL β0 (fun j=>ρ (κ j)) ok Hp xs vs
  | [],v,h=>by simpa only [PV.renL,RelVL] using h
  | x :: xs,vs,h=>by
    simp only [PV.renL,RelVL] at h ⊢
    obtain ⟨v,r,h1,h2,h3⟩:=h
    exact ⟨v,r,h1,ren_of hH x v h2,renL_of hH xs r h3⟩
end
mutual
theorem ren_to {β β0 : Nat → Option Blk} {ρ ρ0 : Nat → Nat} {ok : Nat → Prop} {Hp : Nat → Option Obj} {κ : Nat → Nat} {K : Nat → Prop} (hH : ∀ j,K j → ∀ B',β (κ j) = some B' → ∃ B,β0 j = some B ∧ B'.sz = B.sz ∧ B'.cs.len = B.cs.len ∧ ρ (κ j) = ρ0 j) : ∀ (x : PV) (v : Value),(∀ k,x.free k = false → K k) → RelV β0 ρ0 ok Hp x v → RelV β ρ ok Hp (x.ren κ) v
  | .p x,v,_,h=>by simpa only [PV.ren,RelV] using h
  | .at_ k o t,v,hf,h=>by
    simp only [PV.ren,RelV] at h ⊢
    intro B' hB'
    obtain ⟨B,h1,h2,h3,h4⟩:=hH k (hf k (by simp [PV.free])) B' hB'
    rw [h3,h4]; exact h B h1
  | .im xs o,v,_,h=>by simpa only [PV.ren,RelV] using h
  | .ref k o n t,v,hf,h=>by
    simp only [PV.ren,RelV] at h ⊢
    refine ⟨h.1,fun B' hB'=>?_⟩
    obtain ⟨B,h1,h2,h3,h4⟩:=hH k (hf k (by simp [PV.free])) B' hB'
    rw [h3,h4,h2]; exact h.2 B h1
  | .agg xs,v,hf,h=>by
    simp only [PV.ren,RelV] at h ⊢
    obtain ⟨cs,h1,h2,h3⟩:=h
    exact ⟨cs,h1,renL_to hH xs cs (fun k hk=>hf k (by simpa [PV.free] using hk)) h2,h3⟩
  | .tup xs,v,hf,h=>by
    simp only [PV.ren,RelV] at h ⊢
    obtain ⟨cs,h1,h2⟩:=h
    exact ⟨cs,h1,renL_to hH xs cs (fun k hk=>hf k (by simpa [PV.free] using hk)) h2⟩
  | .clo f a b,v,hf,h=>by
    simp only [PV.ren,RelV] at h ⊢
    obtain ⟨fs,cs,h1,h2,h3⟩:=h
    exact ⟨fs,cs,h1,renL_to hH a fs (fun k hk=>hf k (by simp [PV.free,hk])) h2,renL_to hH b cs (fun k hk=>hf k (by simp [PV.free,hk])) h3⟩
  | .ifc t x,v,hf,h=>by
    simp only [PV.ren,RelV] at h ⊢
    obtain ⟨y,h1,h2⟩:=h
    exact ⟨y,h1,ren_to hH x y (fun k hk=>hf k (by simpa [PV.free] using hk)) h2⟩
  | .dead,_,_,_=>by simp [PV.ren,RelV]
theorem renL_to {β β0 : Nat → Option Blk} {ρ ρ0 : Nat → Nat} {ok : Nat → Prop} {Hp : Nat → Option Obj} {κ : Nat → Nat} {K : Nat → Prop} (hH : ∀ j,K j → ∀ B',β (κ j) = some B' → ∃ B,β0 j = some B ∧ B'.sz = B.sz ∧ B'.cs.len = B.cs.len ∧ ρ (κ j) = ρ0 j) : ∀ (xs : List PV) (vs : List Value),(∀ k,PV.freeL k xs = false → K k) → RelVL β0 ρ0 ok Hp xs vs → RelVL β ρ ok Hp (PV.renL κ xs) vs
  | [],v,_,h=>by simpa only [PV.renL,RelVL] using h
  | x :: xs,vs,hf,h=>by
    simp only [PV.renL,RelVL] at h ⊢
    obtain ⟨v,r,h1,h2,h3⟩:=h
    exact ⟨v,r,h1,ren_to hH x v (fun k hk=>hf k (by simp [PV.freeL,hk])) h2,renL_to hH xs r (fun k hk=>hf k (by simp [PV.freeL,hk])) h3⟩
end
def okG (ok : Nat → Prop) (w : World) (H' : List (Nat × Blk)) (ρ' : Nat → Nat) (b : Nat) : Prop:=(ok b ∨ w.heap.size ≤ b) ∧ ∀ j,H'.lookup j ≠ none → b ≠ ρ' j
structure GPost (E : Env) (st : Nat → Bool) (ok : Nat → Prop) (ρ : Nat → Nat) (w : World) (H H' : List (Nat × Blk)) (r : PV) (v : Value) (ρ' : Nat → Nat) (w' : World) : Prop where
  res : RelV (lk H') ρ' (okG ok w H' ρ') (hp w') r v
  blk : ∀ j B',H'.lookup j = some B' → BlkAt (lk H') ρ' (okG ok w H' ρ') (hp w') j B'
  inj : ∀ j j',H'.lookup j ≠ none → H'.lookup j' ≠ none → ρ' j = ρ' j' → j = j'
  old : ∀ j,H'.lookup j ≠ none → H.lookup j ≠ none → (∃ i,H.lookup i ≠ none ∧ ρ' j = ρ i) ∨ w.heap.size ≤ ρ' j
  new : ∀ j,H'.lookup j ≠ none → H.lookup j = none → w.heap.size ≤ ρ' j
  stay : ∀ j,H'.lookup j ≠ none → H.lookup j ≠ none → st j = true → ρ' j = ρ j ∧ ∀ c T,hp w (ρ j) = some (.cells c T (0,0)) → ∃ c' T',hp w' (ρ j) = some (.cells c' T' (0,0)) ∧ c'.size = c.size
  os : w'.os = w.os
  tape : w'.tape = w.tape
  output : w'.output = w.output
  size : w.heap.size ≤ w'.heap.size
  frame : ∀ b,b < w.heap.size → (∀ j,H.lookup j ≠ none → b ≠ ρ j) → w'.heap[b]? = w.heap[b]?
def SaysG (E : Env) (st : Nat → Bool) (f : FuncId) (args : List PV) (H H' : List (Nat × Blk)) (r : PV) : Prop :=
  ∀ (ok : Nat → Prop) (ρ : Nat → Nat) (w : World) (vals : List Value),E.G w →
    (∀ j B,H.lookup j = some B → BlkAt (lk H) ρ ok (hp w) j B ∧ E.ng ≤ ρ j ∧ ¬ ok (ρ j)) →
    (∀ j j',H.lookup j ≠ none → H.lookup j' ≠ none → ρ j = ρ j' → j = j') → RelVL (lk H) ρ ok (hp w) args vals →
    Calls E.P f vals.toArray w fun e w'=>∃ v ρ',e = .returned v ∧ GPost E st ok ρ w H H' r v ρ' w'
theorem lookup_some {l : List (Nat × Blk)} {j : Nat} (h : l.lookup j ≠ none) : ∃ B,l.lookup j = some B:=Option.ne_none_iff_exists'.1 h
structure GFr (E : Env) (st : Nat → Bool) (H : List (Nat × Blk)) (n : Nat) (F : Fr) : Prop where
  g : E.G F.w0
  x : ∀ b,F.X b → E.ng ≤ b
  nt : F.nt = n
  df : F.df = []
  p0 : ∀ k,H.lookup k = none → F.pin k = none
  ps : ∀ k,st k = false → F.pin k = none
  lo : ∀ k,F.lo k = (H.lookup k).isNone
  ro : F.ro = none
theorem saysG_of0 {E : Env} {st : Nat → Bool} {f : FuncId} {fn : Func} {c : Code} {args : List PV} {H H' : List (Nat × Blk)} {r : PV} {n : Nat} {Q : Exit → St → Prop} (hf : E.P.funcs[f]? = some fn) (hb : fn.body = some c) (hn : fn.ntmps = n) (hle : args.length ≤ n)
    (hQ : ∀ e S,Q e S → (e = .normal ∨ e = .ret) ∧ HasB S H' ∧ ∀ F ρ tmps w',SatR F ρ S ⟨tmps,[]⟩ w' → ∃ v,(results fn tmps).run E.P w' = .ok v w' ∧ RelV S.blk ρ (okI F S.blk ρ) (hp w') r v)
    (h : ∀ F : Fr,GFr E st H n F → Exec E.P F c ⟨argSlotsV 0 args,H⟩ Q) : SaysG E st f args H H' r:=by
  intro ok ρ w vals hG hH hinj hrel
  have hvl:=relVL_length hrel
  let F : Fr:=⟨w,ok,fun b=>∃ j,H.lookup j ≠ none ∧ b = ρ j,n,[],fun j=>if H.lookup j ≠ none ∧ st j = true then match hp w (ρ j) with | some (.cells c _ _)=>some (ρ j,c.size) | _=>none else none,none,fun _ _=>False,fun k=>(H.lookup k).isNone⟩
  have hpin : ∀ j B c,st j = true → H.lookup j = some B → hp w (ρ j) = some (.cells c B.T (0,0)) → F.pin j = some (ρ j,c.size):=fun j B c hf hj hc=>by
    simp only [F]
    rw [if_pos ⟨by simp [hj],hf⟩,hc]
  have hcarry : Carry ok (okI F (lk H) ρ) (hp w) (hp w):=fun b hb _=>⟨⟨.inl hb,fun k hk e=>by obtain ⟨B,hB⟩:=lookup_some hk; exact (hH k B hB).2.2 (e ▸ hb)⟩,rfl⟩
  have hkeep : Keep (fun _=>True) (lk H) (lk H) ρ ρ (hp w) (hp w):=fun k _ B hB=>⟨B,hB,rfl,Nat.le_refl _,fun _=>⟨rfl,fun c T fr hc=>⟨c,T,fr,hc,rfl⟩⟩⟩
  have hS : SatR F ρ ⟨argSlotsV 0 args,H⟩ { tmps:=vals.toArray ++ Array.replicate (fn.ntmps - vals.toArray.size) undef,defers:=[] } w:=by
    refine ⟨fun t v ht=>?_,fun k B hB=>?_,hinj,⟨rfl,rfl,rfl,Nat.le_refl _,fun _ _ _=>rfl⟩,?_,Marks.nil rfl,fun j b m hj hS=>?_⟩
    · obtain ⟨j,rfl,hx⟩:=argSlotsV_get ht
      obtain ⟨u,hu,hru⟩:=relVL_get hrel hx
      refine ⟨u,?_,RelV.mono hcarry hkeep v u (fun _ _=>trivial) hru⟩
      rw [Nat.zero_add,Array.getElem?_append_left (by have:=(List.getElem?_eq_some_iff.1 hu).1; simpa using this)]
      simpa using hu
    · obtain ⟨⟨c,h1,h2,h3⟩,h4,h5⟩:=hH k B hB
      have hB' : H.lookup k = some B:=hB
      refine ⟨c,h1,.inl ⟨⟨k,by simp [hB'],rfl⟩,by simp [F,hB']⟩,h2,fun i x hx=>?_⟩
      obtain ⟨u,hu,ho,hru⟩:=h3 i x hx
      exact ⟨u,hu,ho,RelV.mono hcarry hkeep x u (fun _ _=>trivial) hru⟩
    · simp [F,hn]; omega
    · obtain ⟨B,hB⟩:=lookup_some (l:=H) (j:=j) hS
      obtain ⟨⟨c,h1,_⟩,_⟩:=hH j B hB
      have hjf : st j = true:=by
        by_cases hjf : st j = true
        · exact hjf
        · simp only [F] at hj; rw [if_neg (fun h=>hjf h.2)] at hj; cases hj
      rw [hpin j B c hjf hB h1] at hj
      injection hj with hj
      injection hj with hj1 hj2
      subst hj1 hj2
      exact ⟨rfl,c,B.T,h1,rfl⟩
  refine calls_exec hf hb rfl rfl (fun _ _ h=>h) ⟨ρ,hS⟩ (h F ⟨hG,fun b ⟨j,hj,e⟩=>by obtain ⟨B,hB⟩:=lookup_some hj; subst e; exact (hH j B hB).2.1,rfl,rfl,fun k hk2=>by simp only [F]; rw [if_neg (fun h=>h.1 hk2)],fun k hk2=>by simp only [F]; rw [if_neg (fun h=>by rw [h.2] at hk2; cases hk2)],fun _=>rfl,rfl⟩) fun e S' hq=>⟨(hQ e S' hq).1,fun ρ' tmps w' hS'=>?_⟩
  obtain ⟨-,hHB,hres⟩:=hQ e S' hq
  obtain ⟨v,hv,hrv⟩:=hres F ρ' tmps w' hS'
  have hsb : ∀ j B',H'.lookup j = some B' → S'.blk j = some B':=fun j B' hj=>hHB.all j B' hj
  have hcar : Carry (okI F S'.blk ρ') (okG ok w H' ρ') (hp w') (hp w'):=fun b hb _=>⟨⟨hb.1,fun j hj e=>by
    obtain ⟨B',hB'⟩:=lookup_some hj
    exact hb.2 j (by simp [hsb j B' hB']) e⟩,rfl⟩
  have hkp : ∀ K : Nat → Prop,Keep K S'.blk (lk H') ρ' ρ' (hp w') (hp w'):=fun K k _ B hB=>⟨B,hsb k B hB,rfl,Nat.le_refl _,fun _=>⟨rfl,fun c T fr hc=>⟨c,T,fr,hc,rfl⟩⟩⟩
  refine ⟨v,hv,v,ρ',rfl,RelV.mono (K:=fun _=>True) hcar (hkp _) r v (fun _ _=>trivial) hrv,fun j B' hj=>?_,fun j j' h1 h2 e=>?_,fun j h1 h2=>?_,fun j h1 h2=>?_,fun j h1 h2 h3=>?_,hS'.frame.os,hS'.frame.tape,hS'.frame.output,hS'.frame.size,fun b hb hx=>hS'.frame.block b hb (fun ⟨j,hj,e⟩=>hx j hj e)⟩
  · obtain ⟨c',f1,_,f3,f4⟩:=hS'.blks j B' (hsb j B' hj)
    refine ⟨c',f1,f3,fun i x hx=>?_⟩
    obtain ⟨u,hu,ho,hru⟩:=f4 i x hx
    exact ⟨u,hu,ho,RelV.mono (K:=fun _=>True) hcar (hkp _) x u (fun _ _=>trivial) hru⟩
  · obtain ⟨B,hB⟩:=lookup_some h1
    obtain ⟨B',hB'⟩:=lookup_some h2
    exact hS'.inj j j' (by simp [hsb j B hB]) (by simp [hsb j' B' hB']) e
  · obtain ⟨B,hB⟩:=lookup_some h1
    obtain ⟨_,_,f2,_⟩:=hS'.blks j B (hsb j B hB)
    rcases f2 with ⟨⟨i,hi,e⟩,_⟩ | f2
    · exact .inl ⟨i,hi,e⟩
    · exact .inr f2
  · obtain ⟨B,hB⟩:=lookup_some h1
    obtain ⟨_,_,f2,_⟩:=hS'.blks j B (hsb j B hB)
    rcases f2 with ⟨_,f2⟩ | f2
    · simp only [F,h2] at f2; cases f2
    · exact f2
  · obtain ⟨B',hB'⟩:=lookup_some h1
    obtain ⟨B,hB⟩:=lookup_some h2
    obtain ⟨⟨c,g1,_⟩,_⟩:=hH j B hB
    obtain ⟨e1,c',T',e2,e3⟩:=hS'.pin j _ _ (hpin j B c h3 hB g1) (by simp [hsb j B' hB'])
    refine ⟨e1,fun c2 T2 hc2=>⟨c',T',e2,?_⟩⟩
    rw [g1] at hc2
    injection hc2 with hc2
    injection hc2 with hc2
    rw [e3,hc2]
theorem saysG_tmp {E : Env} {st : Nat → Bool} {f : FuncId} {fn : Func} {c : Code} {args : List PV} {H H' : List (Nat × Blk)} {r : PV} {t0 n : Nat} (hf : E.P.funcs[f]? = some fn) (hb : fn.body = some c) (hn : fn.ntmps = n) (hr : fn.results = #[.tmp t0]) (hle : args.length ≤ n)
    (h : ∀ F : Fr,GFr E st H n F → Exec E.P F c ⟨argSlotsV 0 args,H⟩ (fun e S=>(e = .normal ∨ e = .ret) ∧ S.slot t0 = some r ∧ HasB S H')) : SaysG E st f args H H' r :=
  saysG_of0 hf hb hn hle (fun e S hq=>⟨hq.1,hq.2.2,fun F ρ tmps w' hS'=>by
    obtain ⟨v,hu,hrv⟩:=hS'.slots t0 r hq.2.1
    refine ⟨v,?_,hrv⟩
    have e : results fn tmps = (do let vs ← [ResultVar.tmp t0].toArray.mapM (resRun tmps); pure (if h : vs.size = 1 then vs[0] else .tuple vs)):=by
      unfold results
      rw [hr]
      rfl
    have hm : ([ResultVar.tmp t0].toArray.mapM (resRun tmps)).run E.P w' = .ok #[v] w':=by
      rw [List.mapM_toArray]
      simp [List.mapM_cons,resRun,Array.getD_eq_getD_getElem?,hu]
    rw [e]
    simp only [Sem.run_bind,hm,Result.andThen_ok,Sem.run_pure]
    rfl⟩) h
def Stays (st : Nat → Bool) (S S' : St) (κ : Nat → Nat) (H H' : List (Nat × Blk)) (k : Nat) : Prop :=
  S'.blk k = none ∨ (S'.blk k = S.blk k ∧ ∀ j,(H.lookup j ≠ none ∨ H'.lookup j ≠ none) → κ j ≠ k) ∨ ∃ j B0 B1,κ j = k ∧ st j = true ∧ H.lookup j = some B0 ∧ H'.lookup j = some B1 ∧ B1.sz = B0.sz ∧ B1.cs.len = B0.cs.len
structure GCall (st : Nat → Bool) (F : Fr) (S S' : St) (κ : Nat → Nat) (H H' : List (Nat × Blk)) (r : PV) (d : Nat) : Prop where
  h1 : ∀ j B,H.lookup j = some B → S.blk (κ j) = some (B.ren κ)
  inj : ∀ j j',(H.lookup j ≠ none ∨ H'.lookup j ≠ none) → (H.lookup j' ≠ none ∨ H'.lookup j' ≠ none) → κ j = κ j' → j = j'
  lo : ∀ i j,H.lookup i ≠ none → H.lookup j ≠ none → H'.lookup j ≠ none → st j = false → F.lo (κ i) = false → F.lo (κ j) = false
  blk : ∀ k B',S'.blk k = some B' → (∃ j B,κ j = k ∧ H'.lookup j = some B ∧ B' = B.ren κ) ∨ (S.blk k = some B' ∧ (∀ j,(H.lookup j ≠ none ∨ H'.lookup j ≠ none) → κ j ≠ k) ∧ ∀ i x,B'.cs.get i = some x → ∀ q,x.free q = false → Stays st S S' κ H H' q)
  slot : ∀ t v,S'.slot t = some v → (t = d ∧ v = r.ren κ) ∨ (t ≠ d ∧ S.slot t = some v ∧ ∀ q,v.free q = false → Stays st S S' κ H H' q)
  res : ∀ q,r.free q = false → H'.lookup q ≠ none
  cont : ∀ j B,H'.lookup j = some B → ∀ i x,B.cs.get i = some x → ∀ q,x.free q = false → H'.lookup q ≠ none
  pin : ∀ j,H'.lookup j ≠ none → F.pin (κ j) ≠ none → H.lookup j ≠ none ∧ st j = true
open Classical in
theorem stepG_wp {E : Env} {st : Nat → Bool} {F : Fr} (hG : E.G F.w0) (hX : ∀ b, F.X b → E.ng ≤ b) (hng : E.ng ≤ F.w0.heap.size) {d : Nat} {f : FuncId} {o : Oper} {xs : List PV} {S S' : St} {H H' : List (Nat × Blk)} {r : PV} (κ : Nat → Nat) (hs : SaysG E st f xs H H' r) (hd : o.dst = some d) (hlt : d < F.nt)
    (hargs : ∀ ρ a w,SatR F ρ S a w → ∃ vals : List Value,(execOp a.eval o).run E.P w = .ok (.enter f vals.toArray) w ∧ RelVL S.blk ρ (okI F S.blk ρ) (hp w) (PV.renL κ xs) vals)
    (C : GCall st F S S' κ H H' r d) : ∀ a w,Sat F S a w → ∀ (Q : Exit → Act → World → Prop) (K : Act → World → Prop),(∀ a' w',Sat F S' a' w' → K a' w') → o.wp E.P a w K Q:=by
  intro a w ⟨ρ,h⟩ Q K hK
  obtain ⟨vals,hrun,hvals⟩:=hargs ρ a w h
  unfold Oper.wp
  rw [hrun]
  simp only [Oper.upon]
  have hne : ∀ k,S.blk k ≠ none → ρ k < w.heap.size:=fun k hk=>by
    obtain ⟨B,hB⟩:=Option.ne_none_iff_exists'.1 hk
    obtain ⟨c,e1,_⟩:=h.blks k B hB; exact World.size_lt e1
  have hSH : ∀ j,H.lookup j ≠ none → S.blk (κ j) ≠ none:=fun j hj=>by
    obtain ⟨B,hB⟩:=lookup_some hj; rw [C.h1 j B hB]; simp
  have hrel : RelVL (lk H) (fun j=>ρ (κ j)) (okI F S.blk ρ) (hp w) xs vals:=renL_of (fun j B hB=>⟨B.ren κ,C.h1 j B hB,rfl,Cells.ren_len κ B.cs⟩) xs _ hvals
  have hGw : E.G w:=E.stab F.w0 w hG fun b hb=>h.frame.block b (by omega) (fun hx=>by have:=hX b hx; omega)
  have hpre : ∀ j B,H.lookup j = some B → BlkAt (lk H) (fun j=>ρ (κ j)) (okI F S.blk ρ) (hp w) j B ∧ E.ng ≤ ρ (κ j) ∧ ¬ okI F S.blk ρ (ρ (κ j)):=fun j B hj=>by
    have hB:=C.h1 j B hj
    obtain ⟨c,e1,e2,e3,e4⟩:=h.blks (κ j) _ hB
    refine ⟨⟨c,e1,by rw [← Cells.ren_len κ]; exact e3,fun i x hx=>?_⟩,?_,fun hok=>hok.2 (κ j) (by simp [hB]) rfl⟩
    · obtain ⟨u,hu,ho,hru⟩:=e4 i (x.ren κ) (by show (B.cs.ren κ).get i = _; rw [Cells.ren_get,hx]; rfl)
      exact ⟨u,hu,ho,ren_of (fun j B hB=>⟨B.ren κ,C.h1 j B hB,rfl,Cells.ren_len κ B.cs⟩) x u hru⟩
    · rcases e2 with e2 | e2
      · exact hX _ e2.1
      · omega
  refine Calls.mono (hs (okI F S.blk ρ) (fun j=>ρ (κ j)) w _ hGw hpre (fun j j' hj hj' e=>C.inj j j' (.inl hj) (.inl hj') (h.inj _ _ (hSH j hj) (hSH j' hj') e)) hrel) fun e w' ⟨v,ρ',he,hp'⟩=>?_
  subst he
  let ρn : Nat → Nat:=fun k=>if hh : ∃ j,κ j = k ∧ H'.lookup j ≠ none then ρ' (Classical.choose hh) else ρ k
  have n1 : ∀ j,H'.lookup j ≠ none → ρn (κ j) = ρ' j:=fun j hj=>by
    have hh : ∃ i,κ i = κ j ∧ H'.lookup i ≠ none:=⟨j,rfl,hj⟩
    simp only [ρn,dif_pos hh]
    have:=Classical.choose_spec hh
    rw [C.inj _ j (.inr this.2) (.inr hj) this.1]
  have n2 : ∀ k,(∀ j,H'.lookup j ≠ none → κ j ≠ k) → ρn k = ρ k:=fun k hk=>by
    simp only [ρn]; rw [dif_neg (fun ⟨j,h1,h2⟩=>hk j h2 h1)]
  have hother : ∀ b,b < w.heap.size → (∀ j,H.lookup j ≠ none → b ≠ ρ (κ j)) → hp w' b = hp w b:=fun b hb hn=>hp'.frame b hb hn
  have hplace : ∀ j,H'.lookup j ≠ none → (∃ i,H.lookup i ≠ none ∧ ρ' j = ρ (κ i)) ∨ w.heap.size ≤ ρ' j:=fun j hj=>by
    by_cases hj' : H.lookup j = none
    · exact .inr (hp'.new j hj hj')
    · exact hp'.old j hj hj'
  have hkept : ∀ k B,S.blk k = some B → (∀ j,(H.lookup j ≠ none ∨ H'.lookup j ≠ none) → κ j ≠ k) → ρn k = ρ k ∧ hp w' (ρ k) = hp w (ρ k):=fun k B hB hk=>by
    refine ⟨n2 k fun j hj=>hk j (.inr hj),hother _ (hne k (by simp [hB])) fun j hj e=>hk j (.inl hj) (h.inj _ _ (hSH j hj) (by simp [hB]) e.symm)⟩
  have hown : ∀ b,okI F S.blk ρ b → b < w.heap.size → ∀ k,S'.blk k ≠ none → b ≠ ρn k:=fun b hb hbs k hk e=>by
    obtain ⟨B',hB'⟩:=Option.ne_none_iff_exists'.1 hk
    rcases C.blk k B' hB' with ⟨j,B,rfl,hj,_⟩ | ⟨hB,hk2,_⟩
    · rw [n1 j (by simp [hj])] at e
      rcases hplace j (by simp [hj]) with ⟨i,hi,e2⟩ | e2
      · exact hb.2 (κ i) (hSH i hi) (by rw [e,e2])
      · omega
    · rw [(hkept k B' hB hk2).1] at e
      exact hb.2 k (by simp [hB]) e
  have hcar : Carry (okI F S.blk ρ) (okI F S'.blk ρn) (hp w) (hp w'):=fun b hb hne'=>by
    have hbs : b < w.heap.size:=by
      obtain ⟨o,ho⟩:=Option.ne_none_iff_exists'.1 hne'; exact World.size_lt ho
    exact ⟨⟨hb.1,hown b hb hbs⟩,hother b hbs fun j hj e=>hb.2 (κ j) (hSH j hj) e⟩
  have hcar2 : Carry (okG (okI F S.blk ρ) w H' ρ') (okI F S'.blk ρn) (hp w') (hp w'):=fun b hb _=>by
    refine ⟨⟨?_,fun k hk e=>?_⟩,rfl⟩
    · rcases hb.1 with hb1 | hb1
      · exact hb1.1
      · exact .inr (Nat.le_trans h.frame.size hb1)
    · obtain ⟨B',hB'⟩:=Option.ne_none_iff_exists'.1 hk
      rcases C.blk k B' hB' with ⟨j,B,rfl,hj,_⟩ | ⟨hB,hk2,_⟩
      · rw [n1 j (by simp [hj])] at e; exact hb.2 j (by simp [hj]) e
      · rw [(hkept k B' hB hk2).1] at e
        rcases hb.1 with hb1 | hb1
        · exact hb1.2 k (by simp [hB]) e
        · have:=hne k (by simp [hB]); omega
  have hren : ∀ j,H'.lookup j ≠ none → ∀ B',S'.blk (κ j) = some B' → ∃ B,lk H' j = some B ∧ B'.sz = B.sz ∧ B'.cs.len = B.cs.len ∧ ρn (κ j) = ρ' j:=fun j hj B' hB'=>by
    rcases C.blk _ B' hB' with ⟨i,B,e1,hi,rfl⟩ | ⟨_,hk2,_⟩
    · obtain rfl:=C.inj i j (.inr (by simp [hi])) (.inr hj) e1
      exact ⟨B,hi,rfl,Cells.ren_len κ B.cs,n1 i hj⟩
    · exact absurd rfl (hk2 j (.inr hj))
  have hput : ∀ t,t ≠ d → (a.put o.dst v).tmps[t]? = a.tmps[t]?:=fun t ht=>by
    rw [hd]; simp only [Act.put]; rw [Array.getElem?_setIfInBounds_ne (Ne.symm ht)]
  have hkeep : Keep (Stays st S S' κ H H') S.blk S'.blk ρ ρn (hp w) (hp w'):=fun k hst B' hB'=>by
    rcases hst with h0 | ⟨h0,hk2⟩ | ⟨j,B0,B1,rfl,hf,g0,g1,g2,g3⟩
    · rw [h0] at hB'; cases hB'
    · rw [h0] at hB'
      obtain ⟨e1,e2⟩:=hkept k B' hB' hk2
      exact ⟨B',hB',rfl,Nat.le_refl _,fun _=>⟨e1,fun c T fr hc=>⟨c,T,fr,by rw [e2]; exact hc,rfl⟩⟩⟩
    · rcases C.blk _ B' hB' with ⟨i,B,e1,hi,rfl⟩ | ⟨_,hk2,_⟩
      · obtain rfl:=C.inj i j (.inr (by simp [hi])) (.inr (by simp [g1])) e1
        rw [g1] at hi; injection hi with hi; subst hi
        obtain ⟨s1,s2⟩:=hp'.stay i (by simp [g1]) (by simp [g0]) hf
        refine ⟨B0.ren κ,C.h1 i B0 g0,g2,by show (B0.cs.ren κ).len ≤ (B1.cs.ren κ).len; rw [Cells.ren_len,Cells.ren_len]; omega,fun _=>⟨(n1 i (by simp [g1])).trans s1,fun c T fr hc=>?_⟩⟩
        obtain ⟨c0,e1',_⟩:=h.blks (κ i) _ (C.h1 i B0 g0)
        have hc':=hc
        rw [e1'] at hc'
        injection hc' with hc'
        injection hc' with q1 q2 q3
        subst q1
        obtain ⟨c',T',r1,r2⟩:=s2 _ _ e1'
        exact ⟨c',T',(0,0),r1,r2⟩
      · exact absurd rfl (hk2 j (.inr (by simp [g1])))
  show K (a.put o.dst v) w'
  refine hK _ _ ⟨ρn,h.upd (S':=S') (Kp:=Stays st S S' κ H H') ⟨hp'.os.trans h.frame.os,hp'.tape.trans h.frame.tape,hp'.output.trans h.frame.output,Nat.le_trans h.frame.size hp'.size,fun b hb hx=>?_⟩ (by simp [hd,Act.put,h.nt]) (by simp [hd,Act.put]) hcar hkeep (fun k k' h1 h2 e=>?_) (fun j b n hj hS=>?_) (fun t v' ht=>?_) (fun k B' hB'=>?_)⟩
  · rw [hp'.frame b (Nat.lt_of_lt_of_le hb h.frame.size) fun j hj e=>?_]
    · exact h.frame.block b hb hx
    · obtain ⟨B,hB⟩:=lookup_some hj
      obtain ⟨_,_,e2,_⟩:=h.blks (κ j) _ (C.h1 j B hB)
      subst e
      rcases e2 with e2 | e2
      · exact hx e2.1
      · omega
  · obtain ⟨B,hB⟩:=Option.ne_none_iff_exists'.1 h1
    obtain ⟨B',hB'⟩:=Option.ne_none_iff_exists'.1 h2
    rcases C.blk k B hB with ⟨j,C1,rfl,hj,_⟩ | ⟨g1,g2,_⟩ <;> rcases C.blk k' B' hB' with ⟨j',C2,rfl,hj',_⟩ | ⟨g1',g2',_⟩
    · rw [n1 j (by simp [hj]),n1 j' (by simp [hj'])] at e
      rw [hp'.inj j j' (by simp [hj]) (by simp [hj']) e]
    · rw [n1 j (by simp [hj]),(hkept k' B' g1' g2').1] at e
      rcases hplace j (by simp [hj]) with ⟨i,hi,e2⟩ | e2
      · exact absurd (h.inj (κ i) k' (hSH i hi) (by simp [g1']) (by rw [← e2,e])) (g2' i (.inl hi))
      · have:=hne k' (by simp [g1']); omega
    · rw [n1 j' (by simp [hj']),(hkept k B g1 g2).1] at e
      rcases hplace j' (by simp [hj']) with ⟨i,hi,e2⟩ | e2
      · exact absurd (h.inj (κ i) k (hSH i hi) (by simp [g1]) (by rw [← e2,e])) (g2 i (.inl hi))
      · have:=hne k (by simp [g1]); omega
    · rw [(hkept k B g1 g2).1,(hkept k' B' g1' g2').1] at e
      exact h.inj k k' (by simp [g1]) (by simp [g1']) e
  · obtain ⟨B',hB'⟩:=Option.ne_none_iff_exists'.1 hS
    rcases C.blk j B' hB' with ⟨i,B,rfl,hi,_⟩ | ⟨g1,g2,_⟩
    · obtain ⟨q1,q2⟩:=C.pin i (by simp [hi]) (by simp [hj])
      obtain ⟨s1,s2⟩:=hp'.stay i (by simp [hi]) q1 q2
      exact ⟨hSH i q1,(n1 i (by simp [hi])).trans s1,s2⟩
    · obtain ⟨e1,e2⟩:=hkept j B' g1 g2
      exact ⟨by simp [g1],e1,fun c T hc=>⟨c,T,by rw [e2]; exact hc,rfl⟩⟩
  · rcases C.slot t v' ht with ⟨rfl,rfl⟩ | ⟨h1,h2,h3⟩
    · refine .inr ⟨v,?_,?_⟩
      · rw [hd]; simp only [Act.put]; rw [Array.getElem?_setIfInBounds_self_of_lt (by rw [h.nt]; exact hlt)]
      · exact RelV.mono (K:=fun _=>True) hcar2 (fun k _ B hB=>⟨B,hB,rfl,Nat.le_refl _,fun _=>⟨rfl,fun c T fr hc=>⟨c,T,fr,hc,rfl⟩⟩⟩) _ v (fun _ _=>trivial) (ren_to (K:=fun q=>H'.lookup q ≠ none) hren r v C.res hp'.res)
    · exact .inl ⟨h2,hput t h1,h3⟩
  · rcases C.blk k B' hB' with ⟨j,B,rfl,hj,rfl⟩ | ⟨g1,g2,g3⟩
    · obtain ⟨c,f1,f2,f3⟩:=hp'.blk j B hj
      refine .inr ⟨c,by rw [n1 j (by simp [hj])]; exact f1,?_,by show (B.cs.ren κ).len ≤ _; rw [Cells.ren_len]; exact f2,fun i x hx=>?_⟩
      · rw [n1 j (by simp [hj])]
        by_cases hjH : H.lookup j = none
        · exact .inr (Nat.le_trans h.frame.size (hp'.new j (by simp [hj]) hjH))
        · rcases hp'.old j (by simp [hj]) hjH with ⟨i,hi,e2⟩ | e2
          · obtain ⟨Bi,hBi⟩:=lookup_some hi
            obtain ⟨Bj,hBj⟩:=lookup_some hjH
            by_cases hf : st j = true
            · rw [(hp'.stay j (by simp [hj]) hjH hf).1]
              obtain ⟨_,_,q2,_⟩:=h.blks (κ j) _ (C.h1 j Bj hBj)
              exact q2
            · rw [e2]
              obtain ⟨_,_,q2,_⟩:=h.blks (κ i) _ (C.h1 i Bi hBi)
              rcases q2 with ⟨q2,q3⟩ | q2
              · exact .inl ⟨q2,C.lo i j hi hjH (by simp [hj]) (by simpa using hf) q3⟩
              · exact .inr q2
          · exact .inr (Nat.le_trans h.frame.size e2)
      · have hx' : (B.cs.ren κ).get i = some x:=hx
        rw [Cells.ren_get,Option.map_eq_some_iff] at hx'
        obtain ⟨y,hy,rfl⟩:=hx'
        obtain ⟨u,hu,ho,hru⟩:=f3 i y hy
        exact ⟨u,hu,ho,RelV.mono (K:=fun _=>True) hcar2 (fun k _ B hB=>⟨B,hB,rfl,Nat.le_refl _,fun _=>⟨rfl,fun c T fr hc=>⟨c,T,fr,hc,rfl⟩⟩⟩) _ u (fun _ _=>trivial) (ren_to (K:=fun q=>H'.lookup q ≠ none) hren y u (C.cont j B hj i y hy) hru)⟩
    · obtain ⟨e1,e2⟩:=hkept k B' g1 g2
      exact .inl ⟨g1,e1,e2,g3⟩
theorem stepG {E : Env} {st : Nat → Bool} {F : Fr} (hG : E.G F.w0) (hX : ∀ b, F.X b → E.ng ≤ b) (hng : E.ng ≤ F.w0.heap.size) {ops : Array Oper} {d : Nat} {f : FuncId} {o : Oper} {xs : List PV} {S S' : St} {H H' : List (Nat × Blk)} {r : PV} (κ : Nat → Nat) (hs : SaysG E st f xs H H' r) (hd : o.dst = some d) (hg : o.guard = none) (hlt : d < F.nt)
    (hargs : ∀ ρ a w,SatR F ρ S a w → ∃ vals : List Value,(execOp a.eval o).run E.P w = .ok (.enter f vals.toArray) w ∧ RelVL S.blk ρ (okI F S.blk ρ) (hp w) (PV.renL κ xs) vals)
    (C : GCall st F S S' κ H H' r d) : StepN E.P F ops o S S':=by
  intro a w h Q K hK
  have hw : Region.wanted o (yielded ops a.tmps) = true:=by simp [Region.wanted,hg]
  rw [if_pos hw]
  exact .inl (stepG_wp hG hX hng κ hs hd hlt hargs C a w h Q K hK)
end Go.Proofs.YtcifhkfpmhifaaaGreatDoor.SH
namespace Go.Proofs.YtcifhkfpmhifaaaGreatDoor.SH
open Go Go.RowKit
theorem SatR.move {F F' : Fr} {ρ ρ' : Nat → Nat} {S S' : St} {a a' : Act} {w w' : World} {Kp : Nat → Prop} (h : SatR F ρ S a w) (hfr : Frame F' w') (hnt : a'.tmps.size = F'.nt) (hdf : Marks F' a'.defers w')
    (hc : Carry (okI F S.blk ρ) (okI F' S'.blk ρ') (hp w) (hp w')) (hk : Keep Kp S.blk S'.blk ρ ρ' (hp w) (hp w'))
    (hinj : ∀ k k',S'.blk k ≠ none → S'.blk k' ≠ none → ρ' k = ρ' k' → k = k')
    (hpin : ∀ j b n,F'.pin j = some (b,n) → S'.blk j ≠ none → ρ' j = b ∧ ∃ c T,hp w' b = some (.cells c T (0,0)) ∧ c.size = n)
    (hs : ∀ t v,S'.slot t = some v → (S.slot t = some v ∧ a'.tmps[t]? = a.tmps[t]? ∧ ∀ k,v.free k = false → Kp k) ∨ ∃ u,a'.tmps[t]? = some u ∧ RelV S'.blk ρ' (okI F' S'.blk ρ') (hp w') v u)
    (hb : ∀ k B,S'.blk k = some B → (S.blk k = some B ∧ ρ' k = ρ k ∧ hp w' (ρ k) = hp w (ρ k) ∧ ((F'.X (ρ k) ∧ F'.lo k = false) ∨ F'.w0.heap.size ≤ ρ k) ∧ ∀ i x,B.cs.get i = some x → ∀ j,x.free j = false → Kp j) ∨
      ∃ c,hp w' (ρ' k) = some (.cells c B.T (0,0)) ∧ ((F'.X (ρ' k) ∧ F'.lo k = false) ∨ F'.w0.heap.size ≤ ρ' k) ∧ B.cs.len ≤ c.size ∧ ∀ i x,B.cs.get i = some x → ∃ u,c[i]? = some u ∧ u.oneCell' = true ∧ RelV S'.blk ρ' (okI F' S'.blk ρ') (hp w') x u) :
    SatR F' ρ' S' a' w' where
  slots t v ht:=by
    rcases hs t v ht with ⟨h1,h2,h3⟩ | h
    · obtain ⟨u,hu,hr⟩:=h.slots t v h1
      exact ⟨u,by rw [h2]; exact hu,RelV.mono hc hk v u h3 hr⟩
    · exact h
  blks k B hB:=by
    rcases hb k B hB with ⟨h1,h2,h3,h5,h4⟩ | h
    · obtain ⟨c,e1,e2,e3,e4⟩:=h.blks k B h1
      refine ⟨c,by rw [h2,h3]; exact e1,by rw [h2]; exact h5,e3,fun i x hx=>?_⟩
      obtain ⟨u,hu,h1c,hr⟩:=e4 i x hx
      exact ⟨u,hu,h1c,RelV.mono hc hk x u (h4 i x hx) hr⟩
    · exact h
  inj:=hinj
  frame:=hfr
  nt:=hnt
  df:=hdf
  pin:=hpin
theorem SatR.weakR {F : Fr} {ρ : Nat → Nat} {S S' : St} {a : Act} {w : World} (h : SatR F ρ S a w) (hle : S'.le S) : SatR F ρ S' a w:=by
  have hne : ∀ k,S'.blk k ≠ none → S.blk k ≠ none ∧ ρ k = ρ k:=fun k hk=>by
    obtain ⟨B,hB⟩:=Option.ne_none_iff_exists'.1 hk
    exact ⟨by rw [hle.2 k B hB]; simp,rfl⟩
  exact h.upd (Kp:=fun _=>True) h.frame h.nt rfl (fun b hb' _=>⟨okI_mono hne hb',rfl⟩) (fun k _ B' hB'=>⟨B',hle.2 k B' hB',rfl,Nat.le_refl _,fun _=>⟨rfl,fun c T fr hc=>⟨c,T,fr,hc,rfl⟩⟩⟩)
    (fun k k' h1 h2 h3=>h.inj k k' (hne k h1).1 (hne k' h2).1 h3) (fun j _ _ _ hj=>⟨(hne j hj).1,rfl,fun c T hc=>⟨c,T,hc,rfl⟩⟩) (fun t v ht=>.inl ⟨hle.1 t v ht,rfl,fun _ _=>trivial⟩) (fun k B hB=>.inl ⟨hle.2 k B hB,rfl,rfl,fun _ _ _ _ _=>trivial⟩)
theorem lookup_mem {l : List (Nat × Blk)} {j : Nat} {B : Blk} (h : l.lookup j = some B) : (j,B) ∈ l:=by
  induction l with
  | nil=>simp at h
  | cons p l ih =>
    obtain ⟨s,u⟩:=p
    rw [List.lookup_cons] at h
    split at h
    · rename_i e; injection h with h; subst h; simp [beq_iff_eq.1 e]
    · simp [ih h]
end Go.Proofs.YtcifhkfpmhifaaaGreatDoor.SH
namespace Go.Proofs.YtcifhkfpmhifaaaGreatDoor.SH
open Go Go.RowKit
end Go.Proofs.YtcifhkfpmhifaaaGreatDoor.SH
namespace Go.Proofs.YtcifhkfpmhifaaaGreatDoor.SH
open Go Go.RowKit
end Go.Proofs.YtcifhkfpmhifaaaGreatDoor.SH
namespace Go.Proofs.YtcifhkfpmhifaaaGreatDoor.SH
open Go Go.RowKit
mutual
theorem PV.ren_id : ∀ x : PV,x.ren (fun j=>j) = x
  | .p _=>rfl
  | .at_ _ _ _=>rfl
  | .im _ _=>rfl
  | .ref _ _ _ _=>rfl
  | .agg xs=>by simp only [PV.ren]; rw [PV.renL_id xs]
  | .tup xs=>by simp only [PV.ren]; rw [PV.renL_id xs]
  | .clo _ a b=>by simp only [PV.ren]; rw [PV.renL_id a,PV.renL_id b]
  | .ifc _ x=>by simp only [PV.ren]; rw [PV.ren_id x]
  | .dead=>rfl
theorem PV.renL_id : ∀ xs : List PV,PV.renL (fun j=>j) xs = xs
  | []=>rfl
  | x :: xs=>by simp only [PV.renL]; rw [PV.ren_id x,PV.renL_id xs]
end
theorem map_ren_id (xs : List PV) : xs.map (PV.ren fun j=>j) = xs:=by rw [← renL_map,PV.renL_id]
theorem Blk.ren_id (B : Blk) : B.ren (fun j=>j) = B:=by
  obtain ⟨T,sz,cs⟩:=B
  cases cs with
  | pure xs=>rfl
  | mix vs=>simp only [Blk.ren,Cells.ren,map_ren_id]
def Whole (H : List (Nat × Blk)) : Prop:=∀ j B,H.lookup j = some B → ∀ i x,B.cs.get i = some x → ∀ q,x.free q = false → H.lookup q ≠ none
end Go.Proofs.YtcifhkfpmhifaaaGreatDoor.SH
namespace Go.Proofs.YtcifhkfpmhifaaaGreatDoor.SH
open Go Go.RowKit
end Go.Proofs.YtcifhkfpmhifaaaGreatDoor.SH
namespace Go.Proofs.YtcifhkfpmhifaaaGreatDoor.SH
open Go Go.RowKit
end Go.Proofs.YtcifhkfpmhifaaaGreatDoor.SH
namespace Go.Proofs.YtcifhkfpmhifaaaGreatDoor.SH
open Go Go.RowKit
structure NCall (st : Nat → Bool) (F : Fr) (S : St) (H H' : List (Nat × Blk)) (slR : List (Nat × PV)) (hb2 : List (Nat × Blk)) : Prop where
  h1 : ∀ j B,H.lookup j = some B → S.blk j = some B
  hs : HasS S slR
  h2 : ∀ k B,hb2.lookup k = some B → H'.lookup k = some B ∨ (S.blk k = some B ∧ H.lookup k = none ∧ H'.lookup k = none ∧ ∀ i x,B.cs.get i = some x → ∀ q,x.free q = false → st q = false → H'.lookup q = none)
  fix : ∀ q B1,st q = true → H'.lookup q = some B1 → ∃ B0,H.lookup q = some B0 ∧ B1.sz = B0.sz ∧ B1.cs.len = B0.cs.len
  slot : ∀ t v,slR.lookup t = some v → ∀ q,v.free q = false → st q = false → H'.lookup q = none
  lo : ∀ j,H.lookup j ≠ none → st j = false → F.lo j = false
  pin : ∀ j,F.pin j ≠ none → st j = true
  whole : Whole H'
theorem nsI {E : Env} {st : Nat → Bool} {F : Fr} (hG : E.G F.w0) (hX : ∀ b, F.X b → E.ng ≤ b) (hng : E.ng ≤ F.w0.heap.size) {ops : Array Oper} {d : Nat} {f : FuncId} {op : Op} {T : TypeId} {pos : String} {aft : Array Edge} {xs : List PV} {S : St} {H H' : List (Nat × Blk)} {r : PV} {rs : List (Operand × PV)} {os : List Oper} {K : St → Prop} (slR : List (Nat × PV)) (hb2 : List (Nat × Blk)) (hs : SaysG E st f xs H H' r) (hlt : d < F.nt)
    (hargs : ∀ ρ S a w,SatR F ρ S a w → (∀ p ∈ rs,S.opd p.1 = some p.2) → ∃ vals : List Value,(execOp a.eval ⟨some d,op,T,pos,aft,none⟩).run E.P w = .ok (.enter f vals.toArray) w ∧ RelVL S.blk ρ (okI F S.blk ρ) (hp w) xs vals)
    (hr : Reads S rs) (C : NCall st F S H H' slR hb2) (hres : ∀ q,r.free q = false → H'.lookup q ≠ none) (hd : slR.lookup d = none) (hn : SeqS E.P F ops os ⟨(d,r) :: slR,hb2⟩ K) : SeqS E.P F ops (⟨some d,op,T,pos,aft,none⟩ :: os) S K:=by
  have hstay : ∀ q,(st q = false → H'.lookup q = none) → Stays st S ⟨(d,r) :: slR,hb2⟩ (fun j=>j) H H' q:=fun q hq=>by
    cases e : hb2.lookup q with
    | none=>exact .inl e
    | some B =>
      rcases C.h2 q B e with h | ⟨h3,h4,h5,_⟩
      · have hst : st q = true := by
          cases e2 : st q with
          | true=>rfl
          | false=>rw [hq e2] at h; cases h
        obtain ⟨B0,h6,h7,h8⟩:=C.fix q B hst h
        exact .inr (.inr ⟨q,B0,B,rfl,hst,h6,h,h7,h8⟩)
      · exact .inr (.inl ⟨by rw [h3]; exact e,fun j hj e2=>by subst e2; exact hj.elim (fun h=>h h4) (fun h=>h h5)⟩)
  refine .cons (stepG hG hX hng (fun j=>j) hs rfl rfl hlt (fun ρ a w hS=>?_) ⟨fun j B hj=>by rw [Blk.ren_id]; exact C.h1 j B hj,fun _ _ _ _ h=>h,fun i j _ h2 _ h4 _=>C.lo j h2 h4,fun k B' hk=>?_,fun t v ht=>?_,hres,C.whole,fun j hj hp=>?_⟩) hn
  · rw [PV.renL_id]; exact hargs ρ S a w hS hr.all
  · rcases C.h2 k B' hk with h | ⟨h3,h4,h5,h6⟩
    · exact .inl ⟨k,B',rfl,h,(Blk.ren_id B').symm⟩
    · exact .inr ⟨h3,fun j hj e2=>by subst e2; exact hj.elim (fun h=>h h4) (fun h=>h h5),fun i x hx q hq=>hstay q (h6 i x hx q hq)⟩
  · simp only [St.slot,List.lookup_cons] at ht
    by_cases e : t = d
    · subst e; simp only [BEq.rfl,Option.some.injEq] at ht; exact .inl ⟨rfl,by rw [PV.ren_id]; exact ht.symm⟩
    · rw [show (t == d) = false by simpa using e] at ht
      exact .inr ⟨e,C.hs.all t v ht,fun q hq=>hstay q (C.slot t v ht q hq)⟩
  · have h:=C.pin j hp
    obtain ⟨B1,hB1⟩:=lookup_some hj
    obtain ⟨B0,h0,_⟩:=C.fix j B1 h hB1
    exact ⟨by rw [h0]; simp,h⟩
end Go.Proofs.YtcifhkfpmhifaaaGreatDoor.SH
namespace Go.Proofs.YtcifhkfpmhifaaaGreatDoor.SH
open Go Go.RowKit
theorem lookup_mem' {α : Type} : ∀ {l : List (Nat × α)} {j : Nat} {B : α} (_ : l.lookup j = some B),(j,B) ∈ l
  | [],_,_,h=>by simp at h
  | (k,C) :: l,j,B,h=>by
    rw [List.lookup_cons] at h
    split at h
    · rename_i e; injection h with h; subst h; simp [beq_iff_eq.1 e]
    · simp [lookup_mem' h]
end Go.Proofs.YtcifhkfpmhifaaaGreatDoor.SH
namespace Go.Proofs.YtcifhkfpmhifaaaGreatDoor.SH
open Go
end Go.Proofs.YtcifhkfpmhifaaaGreatDoor.SH
namespace Go.Proofs.YtcifhkfpmhifaaaGreatDoor.SH
open Go
section
variable {P : Program} {F : Fr} {d : Nat} {T : TypeId} {pos : String} {aft : Array Edge} {g : Option (Nat × Bool)} {x y : Operand} {xT yT : TypeId}
end
end Go.Proofs.YtcifhkfpmhifaaaGreatDoor.SH
namespace Go.Proofs.YtcifhkfpmhifaaaGreatDoor.SH
open Go
theorem core_nilCheck {P : Program} {F : Fr} {d : Nat} {T : TypeId} {pos : String} {aft : Array Edge} {g : Option (Nat × Bool)} {x : Operand} {k off tot : Nat} {B : Blk} (hl : B.cs.len = tot) (hlt : d < F.nt) : CoreOk P F ⟨some d,.nilCheck x,T,pos,aft,g⟩ { rs:=[(x,.at_ k off tot)],rb:=[(k,B)],ws:=[(d,.at_ k off tot)] } :=
  core_val rfl hlt rfl rfl fun ρ S a w h hA=>by
    have hx:=hA.rs (x,.at_ k off tot) (by simp)
    have he:=at_eval h hx (hA.rb (k,B) (by simp)) hl
    exact ⟨.pointer (some ⟨ρ k,off,none⟩),by simp [execOp,he],by rw [← he]; exact opd_rel h hx⟩
end Go.Proofs.YtcifhkfpmhifaaaGreatDoor.SH
namespace Go.Proofs.YtcifhkfpmhifaaaGreatDoor.SH
open Go Go.RowKit
end Go.Proofs.YtcifhkfpmhifaaaGreatDoor.SH
namespace Go.Proofs.YtcifhkfpmhifaaaGreatDoor.SH
open Go
end Go.Proofs.YtcifhkfpmhifaaaGreatDoor.SH
namespace Go.Proofs.YtcifhkfpmhifaaaGreatDoor.SH
open Go
end Go.Proofs.YtcifhkfpmhifaaaGreatDoor.SH
namespace Go.Proofs.YtcifhkfpmhifaaaGreatDoor.SH
open Go Go.RowKit
end Go.Proofs.YtcifhkfpmhifaaaGreatDoor.SH
namespace Go.Proofs.YtcifhkfpmhifaaaGreatDoor.SH
open Go Go.RowKit
section
variable {P : Program} {F : Fr} {d : Nat} {T : TypeId} {pos : String} {aft : Array Edge} {g : Option (Nat × Bool)} {t tx : TypeId}
end
section
variable {P : Program} {F : Fr} {ops : Array Oper} {sl : List (Nat × PV)} {hb : List (Nat × Blk)} {op : Op} {T : TypeId} {pos : String} {aft : Array Edge} {os : List Oper} {dst : Option Nat} {rs : List (Operand × PV)} {rb wb : List (Nat × Blk)} {fr : Option Nat}
end
end Go.Proofs.YtcifhkfpmhifaaaGreatDoor.SH
namespace Go.Proofs.YtcifhkfpmhifaaaGreatDoor.SH
open Go
end Go.Proofs.YtcifhkfpmhifaaaGreatDoor.SH
namespace Go.Proofs.YtcifhkfpmhifaaaGreatDoor.SH
open Go
end Go.Proofs.YtcifhkfpmhifaaaGreatDoor.SH
namespace Go.Proofs.YtcifhkfpmhifaaaGreatDoor.SH
open Go
end Go.Proofs.YtcifhkfpmhifaaaGreatDoor.SH
namespace Go.Proofs.YtcifhkfpmhifaaaGreatDoor.SH
open Go
theorem ex_cutB {P : Program} {F : Fr} {Q Q0 : Exit → St → Prop} {S : St} {x y : Code} {sl sl0 : List (Nat × PV)} {hb hb0 : List (Nat × Blk)} (_ : HasS S sl0) (_ : HasB S hb0) (hq : ∀ S',Exec P F y S' Q → Q0 .normal S') (h : Exec P F x S (QSeq (fun S1=>HasS S1 (sl ++ sl0) ∧ HasB S1 (hb ++ hb0)) Q0)) (hn : Exec P F y ⟨sl ++ sl0,hb ++ hb0⟩ Q) : Exec P F x S Q0:=by
  refine ⟨fun n a w hS=>wpIn_mono (h.run n a w hS) fun e a' w' hq'=>hq'.elim (fun ⟨S',h1,h4⟩=>.inl ⟨S',?_,h4⟩) .inr⟩
  cases e with
  | normal=>exact hq _ (hn.weak (le_of h1.1 h1.2))
  | _=>exact h1
end Go.Proofs.YtcifhkfpmhifaaaGreatDoor.SH
set_option maxRecDepth 100000
set_option maxHeartbeats 4000000
namespace Go.Proofs.YtcifhkfpmhifaaaGreatDoor.N
open Go Go.Proofs.YtcifhkfpmhifaaaGreatDoor.SH Go.Proofs.YtcifhkfpmhifaaaGreatDoor.NumA
open Go.Proofs.Tryz renaming call17 → cl17,call24 → cl24,call37 → cl37,call63 → cl63,call67 → cl67,call79 → cl79,call80 → cl80,isAgg24 → ag24,isAgg26 → ag26,sizeOf24 → sz24,sizeOf26 → sz26,underlying26 → un26,zeroValue24 → zv24,zeroValue26 → zv26
@[reducible] def bQ (a : Rat) : Blk:=⟨26,4,.mix [.p (.a (.bool (decide (a.num < 0)))),.p (.sl (digs a.num.natAbs).length (encW (digs a.num.natAbs))),.p (.a (.bool (decide ((a.den : Int) < 0)))),.p (.sl (digs (a.den : Int).natAbs).length (encW (digs (a.den : Int).natAbs)))]⟩
theorem max_e (x y : Nat) : (if (x : Int) < y then (y : Int) else x) = ((max x y : Nat) : Int):=by split <;> omega
theorem tm2 (n : Int) : n.tmod 2 = 0 ↔ n % 2 = 0:=by
 rw [← Int.dvd_iff_tmod_eq_zero,Int.dvd_iff_emod_eq_zero]
theorem cmpQ0 {a : Rat} : cmpQ a 0 = 0 ↔ a = 0:=by rw [← q_sign,q_sign0]
theorem cmpQlt {a : Rat} : cmpQ a 0 < 0 ↔ a < 0:=by
 unfold cmpQ; split
 ·simp [*]
 ·split <;> simp_all
theorem inv_powN (a : Rat) : ∀ m : Nat,a⁻¹ ^ m = (a ^ m)⁻¹
 | 0=>by rw [Rat.pow_zero,Rat.pow_zero]; exact (Rat.inv_eq_of_mul_eq_one (Rat.one_mul 1)).symm
 | m + 1=>by rw [Rat.pow_succ,inv_powN a m,Rat.pow_succ,Rat.inv_mul_rev,Rat.mul_comm]
def qP (a : Rat) (n : Int) : RQ:=if qE a n = 0 then RQ.of (a ^ n) else R0
theorem nabs_pos {n : Int} {k : Nat} (h : 1048576 < n) (hk : 1 < k) : 1048576 < n.natAbs * k:=by
 have : n.natAbs * 1 ≤ n.natAbs * k:=Nat.mul_le_mul_left _ (by omega)
 omega
theorem nabs_neg {n : Int} {k : Nat} (h : n < -1048576) (hk : 1 < k) : 1048576 < n.natAbs * k:=by
 have : n.natAbs * 1 ≤ n.natAbs * k:=Nat.mul_le_mul_left _ (by omega)
 omega
theorem max_neg {n : Int} (h : -1048576 ≤ n) (h1 : n ≤ 1048576) {k : Nat} (hk : k < 1000000000) : IntKind.i64.wrap ((if n < 0 - n then 0 - n else n) * (k : Int)) = ((n.natAbs * k : Nat) : Int):=by
 have e : (if n < 0 - n then 0 - n else n) = (n.natAbs : Int):=by split <;> omega
 have h2 : n.natAbs * k ≤ 1048576 * k:=Nat.mul_le_mul_right _ (by omega)
 rw [e,← Int.natCast_mul]
 exact w64 (by omega) (by omega)
theorem qpow_says (a : Rat) (n : Int) (ha : qw a < 9999999) (hn0 : -9223372036854775808 ≤ n) (hn1 : n < 9223372036854775808) : Says E 40 [pQ a,vZ n] (.tup [.agg (cR (qP a n)),vZ (qE a n)]):=by
 refine says_of (xs:=[.agg (cR (qP a n)),vZ (qE a n)]) Tryz.func40 rfl Tryz.ntmps40 Tryz.results40 (by simp) fun F hG hX0 hnt hdf P0=>?_
 obtain ⟨L,hX,hN⟩:=pro hnt hX0 hG
 have h1:=nw_num_le a
 have h2:=nw_den_le a
 have hb1 : bl a.num.natAbs ≤ bq a:=Nat.le_max_left _ _
 have hb2 : bl (a.den : Int).natAbs ≤ bq a:=by rw [Int.natAbs_natCast]; exact Nat.le_max_right _ _
 have hb3:=bl_le_nw' a.num
 have hb4:=bl_le_nw' a.den
 have hbb : bq a < 1000000000:=by rw [bq]; rw [Int.natAbs_natCast] at hb4; omega
 have e0 : (a.den : Int).natAbs = a.den:=Int.natAbs_natCast _
 refine exr (swb (c_bx (k:=2) (n:=4) pa4 rfl rfl (P0 _ rfl) (L rfl)) t1 t0 ⟨rfl,rfl⟩ (swb (c_al (k:=4) (n:=4) zv26 (.cons rfl (.cons rfl (.cons rfl (.cons rfl .nil)))) rfl (P0 _ rfl) (L rfl)) t0 t0 ⟨rfl,rfl⟩ (aV (L rfl) rfl (zn [(1,_),(2,_),(4,_)] [(2,_),(4,_)] t3 t2 (exd (by rfl) ?_)))))
 refine sw (c_fa un26 rfl sz24 (by decide) (by exact rfl) (L rfl)) t1 t1 ?_
 refine lp2 ag24 sz24 (L rfl) rfl rfl (cK hG hX cl79 hN (bitsZ a.num (by omega)) (L rfl) t1 ?_)
 refine sw (c_fa un26 rfl sz24 (by decide) (by exact rfl) (L rfl)) t1 t1 ?_
 refine lp2 ag24 sz24 (L rfl) rfl rfl (cK hG hX cl79 hN (bitsZ a.den (by omega)) (L rfl) t1 ?_)
 refine sw (c_mx (L rfl)) t2 t0 (aV (L rfl) rfl ?_)
 refine seq_nil ⟨aoks [⟨[2],[2],[11],[]⟩,⟨[11],[2],[12],[]⟩,⟨[12],[],[13],[]⟩,⟨[2],[2],[14],[]⟩,⟨[14],[2],[15],[]⟩,⟨[15],[],[16],[]⟩,⟨[13,16],[],[17],[]⟩,⟨[17],[],[6],[]⟩] (by rfl) (by rfl) (by decide),[(1,_),(2,_),(4,_),(6,vi ((bq a : Nat) : Int))],[(2,_),(4,_)],⟨rfl,rfl,rfl,oi (max_e _ _) rfl,trivial⟩,t2,?_⟩
 refine ex_seq (ex_block (exr (mV (L rfl) rfl (sw (c_e (L rfl)) t2 t0 (aV (L rfl) rfl (zn [(1,_),(2,_),(4,_),(6,_),(18,_)] [(2,_),(4,_)] t5 t2 ?_))))))
 refine ex_if rfl (fun hz=>?_) (fun hz=>?_)
 ·have hz:=dt hz
  refine exr (cK hG hX cl63 hN one_says (L rfl) t0 (cK hG hX cl17 hN (qwhole_says 1) (L rfl) t1 (sb (c_sm sz26 (by rfl) pa4 rfl pu4) t2 t1 ?_)))
  refine aV (L rfl) rfl (zn [(4,_),(5,_)] [(4,_)] t2 t1 (ex_ret ?_))
  refine ⟨.inr rfl,ResVs.cast (.cons (.agg rfl rfl rfl ag26 sz26 (.cons (.cons (.cons (.cons .nil))))) (.cons (.tmp rfl) .nil)) ?_⟩
  have e : qE a n = 0:=by rw [qE,if_neg (by omega),if_neg (by rw [hz]; simp)]
  rw [qP,e,if_pos rfl,hz,Rat.zpow_zero]; rfl
 ·have hz:=df hz
  refine exm (sl:=[(23,vb (decide (a = 0 ∧ n < 0)))]) (sl0:=[(1,_),(2,_),(4,_),(6,_)]) (hb:=[]) (hb0:=[(2,_),(4,_)]) t4 t2 ?_ ?_
  ·by_cases h0 : a = 0
   ·refine lp4 ag26 sz26 (L rfl) rfl rfl (cK hG hX cl24 hN (qsign_says a (by omega)) (L rfl) t1 ?_)
    refine sw (c_e (L rfl)) t2 t0 (mV (L rfl) rfl (gV (g:=27) rfl (decide_eq_true (cmpQ0.2 h0)) (L rfl) rfl rfl (swg (g:=27) rfl (decide_eq_true (cmpQ0.2 h0)) (c_ls (L rfl)) rfl t2 t0 (sw (c_pt (decide_eq_true (cmpQ0.2 h0)) (L rfl)) t2 t0 (aV (L rfl) rfl ?_)))))
    exact seq_nil ⟨⟨ob rfl (dec_eq (by simp [h0])),rfl,rfl,rfl,rfl,trivial⟩,t2⟩
   ·refine lp4 ag26 sz26 (L rfl) rfl rfl (cK hG hX cl24 hN (qsign_says a (by omega)) (L rfl) t1 ?_)
    refine sw (c_e (L rfl)) t2 t0 (mV (L rfl) rfl (swn (g:=27) rfl (decide_eq_false (mt cmpQ0.1 h0)) (L rfl) rfl (swn (g:=27) rfl (decide_eq_false (mt cmpQ0.1 h0)) (L rfl) rfl (sw (c_pf (decide_eq_false (mt cmpQ0.1 h0)) (L rfl)) t2 t0 (aV (L rfl) rfl ?_)))))
    exact seq_nil ⟨⟨ob rfl (by simp [h0]),rfl,rfl,rfl,rfl,trivial⟩,t2⟩
  refine ex_if rfl (fun hn=>?_) (fun hn=>?_)
  ·have hn:=dt hn
   refine exr (sw (c_pc (c_bp (vs:=[]) un26 zv26 (.cons rfl (.cons rfl (.cons rfl (.cons rfl .nil)))) ((Places.cons sz24 (Places.cons sz24 Places.nil))).to rfl .nil (.cons (.cons (.cons (.cons .nil)))) (L rfl)) (.agg (.cons .same (.cons .nil (.cons .same (.cons .nil .nil)))))) t0 t0 (sb (c_sm sz26 (by rfl) pa4 rfl pu4) t2 t1 ?_))
   refine aV (L rfl) rfl (zn [(4,_),(5,_)] [(4,_)] t2 t1 (ex_ret ?_))
   refine ⟨.inr rfl,ResVs.cast (.cons (.agg rfl rfl rfl ag26 sz26 (.cons (.cons (.cons (.cons .nil))))) (.cons (.tmp rfl) .nil)) ?_⟩
   have e : qE a n = 5:=by rw [qE,if_pos hn]
   rw [qP,e,if_neg (by decide)]; rfl
  ·have hn:=df hn
   refine exm (sl:=[(32,vb (decide (bq a ≤ 1 ∧ n % 2 = 0)))]) (sl0:=[(1,_),(2,_),(4,_),(6,_)]) (hb:=[]) (hb0:=[(2,_),(4,_)]) t4 t2 ?_ ?_
   ·by_cases hk : bq a ≤ 1
    ·refine mV (L rfl) rfl (sw (c_le (L rfl)) t2 t0 (mV (L rfl) rfl (gV (g:=35) rfl (decide_eq_true (by omega)) (L rfl) rfl rfl ?_)))
     refine swg (g:=35) rfl (decide_eq_true (by omega)) (c_r (L rfl) (by decide) rfl) rfl t2 t0 ?_
     refine swg (g:=35) rfl (decide_eq_true (by omega)) (c_e (L rfl)) rfl t2 t0 ?_
     refine sw (c_pt (decide_eq_true (by omega)) (L rfl)) t2 t0 ?_
     refine aV (L rfl) rfl ?_
     exact seq_nil ⟨⟨ob rfl (dec_eq (by rw [tm2]; simp [hk])),rfl,rfl,rfl,rfl,trivial⟩,t2⟩
    ·refine mV (L rfl) rfl (sw (c_le (L rfl)) t2 t0 (mV (L rfl) rfl (swn (g:=35) rfl (decide_eq_false (by omega)) (L rfl) rfl ?_)))
     refine swn (g:=35) rfl (decide_eq_false (by omega)) (L rfl) rfl ?_
     refine swn (g:=35) rfl (decide_eq_false (by omega)) (L rfl) rfl ?_
     refine sw (c_pf (decide_eq_false (by omega)) (L rfl)) t2 t0 ?_
     refine aV (L rfl) rfl ?_
     exact seq_nil ⟨⟨ob rfl (by simp [hk]),rfl,rfl,rfl,rfl,trivial⟩,t2⟩
   refine ex_if rfl (fun he=>?_) (fun he=>?_)
   ·have he:=dt he
    refine exr (lp4 ag26 sz26 (L rfl) rfl rfl (lp4 ag26 sz26 (L rfl) rfl rfl (cK hG hX cl37 hN (qmul_says a a (by omega) (by omega)) (L rfl) t2 ?_)))
    refine sb (c_sm sz26 (by rfl) pa4 rfl pu4) t2 t1 ?_
    refine aV (L rfl) rfl (zn [(4,_),(5,_)] [(4,_)] t2 t1 (ex_ret ?_))
    refine ⟨.inr rfl,ResVs.cast (.cons (.agg rfl rfl rfl ag26 sz26 (.cons (.cons (.cons (.cons .nil))))) (.cons (.tmp rfl) .nil)) ?_⟩
    have e:=qE_small he.1 hn
    rw [qP,e,if_pos rfl,small_even he.1 hz hn he.2]; rfl
   ·have he:=df he
    refine exr (mV (L rfl) rfl (sw (c_le (L rfl)) t2 t0 (aV (L rfl) rfl (zn [(1,_),(2,_),(4,_),(6,_),(43,_)] [(2,_),(4,_)] t5 t2 ?_))))
    refine ex_if rfl (fun hk=>?_) (fun hk=>?_)
    ·have hk:=dt hk
     refine exr (lp4 ag26 sz26 (L rfl) rfl rfl (sb (c_sm sz26 (by rfl) pa4 rfl pu4) t2 t1 ?_))
     refine aV (L rfl) rfl (zn [(4,_),(5,_)] [(4,_)] t2 t1 (ex_ret ?_))
     refine ⟨.inr rfl,ResVs.cast (.cons (.agg rfl rfl rfl ag26 sz26 (.cons (.cons (.cons (.cons .nil))))) (.cons (.tmp rfl) .nil)) ?_⟩
     have e:=qE_small (n:=n) (by omega) hn
     rw [qP,e,if_pos rfl,small_odd (by omega) hn (fun c=>he ⟨by omega,c⟩)]; rfl
    ·have hk:=df hk
     have hk : 1 < bq a:=by omega
     refine exm (sl:=[(47,vb (decide (1048576 < n.natAbs * bq a)))]) (sl0:=[(1,_),(2,_),(4,_)]) (hb:=[]) (hb0:=[(2,_),(4,_)]) t3 t2 ?_ ?_
     ·by_cases c1 : 1048576 < n; rotate_left; by_cases c2 : n < -1048576; rotate_left 2
      ·refine mV (L rfl) rfl (sw (c_gt (L rfl)) t2 t0 (mV (L rfl) rfl (swn (g:=50) rfl (decide_eq_true c1) (L rfl) rfl (swn (g:=50) rfl (decide_eq_true c1) (L rfl) rfl (sw (c_pt (decide_eq_true c1) (L rfl)) t2 t0 (mV (L rfl) rfl (swn (g:=54) rfl rfl (L rfl) rfl (swn (g:=54) rfl rfl (L rfl) rfl (swn (g:=54) rfl rfl (L rfl) rfl (swn (g:=54) rfl rfl (L rfl) rfl (swn (g:=54) rfl rfl (L rfl) rfl ?_)))))))))))
       refine swn (g:=54) rfl rfl (L rfl) rfl (swn (g:=54) rfl rfl (L rfl) rfl (sw (c_pt rfl (L rfl)) t2 t0 (aV (L rfl) rfl ?_)))
       exact seq_nil ⟨⟨ob rfl (decide_eq_true (nabs_pos c1 hk)).symm,rfl,rfl,rfl,trivial⟩,t2⟩
      ·refine mV (L rfl) rfl (sw (c_gt (L rfl)) t2 t0 (mV (L rfl) rfl (gV (g:=50) rfl (decide_eq_false c1) (L rfl) rfl rfl (swg (g:=50) rfl (decide_eq_false c1) (c_ls (L rfl)) rfl t2 t0 (sw (c_pf (decide_eq_false c1) (L rfl)) t2 t0 (mV (L rfl) rfl (swn (g:=54) rfl (decide_eq_true c2) (L rfl) rfl (swn (g:=54) rfl (decide_eq_true c2) (L rfl) rfl (swn (g:=54) rfl (decide_eq_true c2) (L rfl) rfl (swn (g:=54) rfl (decide_eq_true c2) (L rfl) rfl (swn (g:=54) rfl (decide_eq_true c2) (L rfl) rfl ?_)))))))))))
       refine swn (g:=54) rfl (decide_eq_true c2) (L rfl) rfl (swn (g:=54) rfl (decide_eq_true c2) (L rfl) rfl (sw (c_pt (decide_eq_true c2) (L rfl)) t2 t0 (aV (L rfl) rfl ?_)))
       exact seq_nil ⟨⟨ob rfl (decide_eq_true (nabs_neg c2 hk)).symm,rfl,rfl,rfl,trivial⟩,t2⟩
      ·refine mV (L rfl) rfl (sw (c_gt (L rfl)) t2 t0 (mV (L rfl) rfl (gV (g:=50) rfl (decide_eq_false c1) (L rfl) rfl rfl (swg (g:=50) rfl (decide_eq_false c1) (c_ls (L rfl)) rfl t2 t0 (sw (c_pf (decide_eq_false c1) (L rfl)) t2 t0 (mV (L rfl) rfl (gV (g:=54) rfl (decide_eq_false c2) (L rfl) rfl rfl (gV (g:=54) rfl (decide_eq_false c2) (L rfl) rfl rfl (swg (g:=54) rfl (decide_eq_false c2) (c_ng (L rfl) (w64 (by omega) (by omega))) rfl t1 t0 ?_)))))))))
       refine swg (g:=54) rfl (decide_eq_false c2) (c_mx (L rfl)) rfl t2 t0 (gV (g:=54) rfl (decide_eq_false c2) (L rfl) rfl rfl (swg (g:=54) rfl (decide_eq_false c2) (c_mu (L rfl) (max_neg (n:=n) (by omega) (by omega) hbb)) rfl t2 t0 ?_))
       refine swg (g:=54) rfl (decide_eq_false c2) (c_gt (L rfl)) rfl t2 t0 (sw (c_pf (decide_eq_false c2) (L rfl)) t2 t0 (aV (L rfl) rfl ?_))
       exact seq_nil ⟨⟨ob rfl (dec_eq (by omega)),rfl,rfl,rfl,trivial⟩,t2⟩
     refine ex_if rfl (fun hL=>?_) (fun hL=>?_)
     ·have hL:=dt hL
      rw [lim_iff (by omega)] at hL
      refine exr (sw (c_pc (c_bp (vs:=[]) un26 zv26 (.cons rfl (.cons rfl (.cons rfl (.cons rfl .nil)))) ((Places.cons sz24 (Places.cons sz24 Places.nil))).to rfl .nil (.cons (.cons (.cons (.cons .nil)))) (L rfl)) (.agg (.cons .same (.cons .nil (.cons .same (.cons .nil .nil)))))) t0 t0 (sb (c_sm sz26 (by rfl) pa4 rfl pu4) t2 t1 ?_))
      refine aV (L rfl) rfl (zn [(4,_),(5,_)] [(4,_)] t2 t1 (ex_ret ?_))
      refine ⟨.inr rfl,ResVs.cast (.cons (.agg rfl rfl rfl ag26 sz26 (.cons (.cons (.cons (.cons .nil))))) (.cons (.tmp rfl) .nil)) ?_⟩
      have e : qE a n = 2:=by rw [qE,if_neg hn,if_pos ⟨hk,hL⟩]
      rw [qP,e,if_neg (by decide)]; rfl
     ·have hL:=df hL
      rw [lim_iff (by omega)] at hL
      have hL : n.natAbs ≤ 1048576 / bq a:=by omega
      have hLM : 1048576 / bq a ≤ 1048576:=Nat.div_le_self _ _
      have eE : qE a n = 0:=by rw [qE,if_neg hn,if_neg (by omega)]
      rw [qP,eE,if_pos rfl]
      obtain ⟨b,hb⟩ : ∃ b,b = if n < 0 then a⁻¹ else a:=⟨_,rfl⟩
      obtain ⟨M,hM⟩ : ∃ M,M = n.natAbs:=⟨_,rfl⟩
      have hbq : bl b.num.natAbs ≤ bq a ∧ bl (b.den : Int).natAbs ≤ bq a ∧ nw b.num < 9999999 ∧ nw (b.den : Int) < 9999999:=by
       rw [hb]; split
       ·have ha0 : a.num ≠ 0:=fun c=>hn ⟨Rat.num_eq_zero.1 c,by assumption⟩
        have e1 : (a⁻¹).num.natAbs = a.den:=by
         rw [Rat.num_inv,Int.natAbs_mul,Int.natAbs_sign_of_ne_zero ha0,Nat.one_mul]; rfl
        have e2 : ((a⁻¹).den : Int).natAbs = a.num.natAbs:=by rw [Rat.den_inv,if_neg ha0]; omega
        unfold nw at h1 h2 ⊢
        rw [e1,e2]
        rw [e0] at hb2 h2
        exact ⟨hb2,hb1,by omega,by omega⟩
       ·exact ⟨hb1,hb2,by omega,by omega⟩
      have hbM : b ^ M = a ^ n:=by
       rw [hb,hM]
       rcases zpow_cases a n with ⟨c1,c2⟩ | ⟨c1,c2⟩
       ·rw [if_neg (by omega),c2]
       ·rw [if_pos c1,c2,inv_powN]
      refine exr (mV (L rfl) rfl (sw (c_ls (L rfl)) t2 t0 (aV (L rfl) rfl (zn [(1,_),(2,_),(4,_),(64,_)] [(2,_),(4,_)] t4 t2 ?_))))
      refine ex_cutB (sl:=[(1,vi (M : Int))]) (sl0:=[(2,_),(4,_)]) (hb:=[(2,bQ b)]) (hb0:=[(4,_)]) t2 t1 (fun _ h=>h) ?_ ?_
      ·refine ex_if rfl (fun hg=>?_) (fun hg=>?_)
       ·have hg:=dt hg
        have ha0 : a ≠ 0:=fun c=>hn ⟨c,hg⟩
        refine exr0 (lp4 ag26 sz26 (L rfl) rfl rfl (cK hG hX cl67 hN (qinv_says a (by omega) ha0) (L rfl) t1 ?_))
        refine mV (L rfl) rfl (sw (c_ng (L rfl) (w64 (by omega) (by omega))) t1 t0 ?_)
        refine sb (c_sm sz26 (by rfl) pa4 rfl pu4) t2 t1 ?_
        refine aV (L rfl) rfl (seq_nil ?_)
        exact ⟨⟨oi (by omega) rfl,(by first | exact rfl | exact oi (by omega) rfl),(by first | exact rfl | exact oi (by omega) rfl),trivial⟩,⟨obl rfl (by rw [hb,if_pos hg]),rfl,trivial⟩⟩
       ·have hg:=df hg
        refine ex_skip ?_
        exact ⟨⟨oi (by omega) rfl,(by first | exact rfl | exact oi (by omega) rfl),(by first | exact rfl | exact oi (by omega) rfl),trivial⟩,⟨obl rfl (by rw [hb,if_neg hg]),rfl,trivial⟩⟩
      ·have p1:=powZ b.num M hbq.2.2.1 (by omega) (by omega)
       have p2:=powZ b.den M hbq.2.2.2 (by omega) (by omega)
       obtain ⟨k1,k2⟩:=pow_ok hbq.1 (hM ▸ hL) (by omega)
       obtain ⟨k3,k4⟩:=pow_ok hbq.2.1 (hM ▸ hL) (by omega)
       rw [k1,k2] at p1
       rw [k3,k4] at p2
       refine exr (sw (c_fa un26 rfl sz24 (by decide) (by exact rfl) (L rfl)) t1 t1 ?_)
       refine lp2 ag24 sz24 (L rfl) rfl rfl (mV (L rfl) rfl (cK hG hX cl80 hN p1 (L rfl) t2 (mV (L rfl) rfl (sw (c_ex rfl (L rfl)) t1 t0 (sw (c_ex rfl (L rfl)) t1 t0 (swb (c_al (k:=7) (n:=2) zv24 (.cons rfl (.cons rfl .nil)) rfl (P0 _ rfl) (L rfl)) t0 t0 ⟨rfl,rfl⟩ (sb (c_sm sz24 (by rfl) pa2 rfl pu2) t2 t1 ?_)))))))
       refine aV (L rfl) rfl (zn [(1,_),(2,_),(4,_),(7,_),(8,_)] [(2,_),(4,_),(7,_)] t5 t3 (exr (sw (c_fa un26 rfl sz24 (by decide) (by exact rfl) (L rfl)) t1 t1 ?_)))
       refine lp2 ag24 sz24 (L rfl) rfl rfl (mV (L rfl) rfl (cK hG hX cl80 hN p2 (L rfl) t2 (mV (L rfl) rfl (sw (c_ex rfl (L rfl)) t1 t0 (sw (c_ex rfl (L rfl)) t1 t0 (swb (c_al (k:=9) (n:=2) zv24 (.cons rfl (.cons rfl .nil)) rfl (P0 _ rfl) (L rfl)) t0 t0 ⟨rfl,rfl⟩ (sb (c_sm sz24 (by rfl) pa2 rfl pu2) t2 t1 ?_)))))))
       refine aV (L rfl) rfl (zn [(4,_),(7,_),(8,_),(9,_),(10,_)] [(4,_),(7,_),(9,_)] t5 t3 (ex_seq (exr (mV (L rfl) rfl (sw (c_n (L rfl)) t2 t0 (mV (L rfl) rfl (gV (g:=87) rfl rfl (L rfl) rfl rfl (swg (g:=87) rfl rfl (c_n (L rfl)) rfl t2 t0 (sw (c_pf rfl (L rfl)) t2 t0 (zn [(4,_),(7,_),(9,_),(90,_)] [(4,_),(7,_),(9,_)] t4 t3 (ex_false rfl rfl ?_)))))))))))
       refine ex_skip (show Exec _ _ _ _ _ from ?_)
       refine exr (lp2 ag24 sz24 (L rfl) rfl rfl (lp2 ag24 sz24 (L rfl) rfl rfl (sw (c_bp (vs:=[_,_]) un26 zv26 (.cons rfl (.cons rfl (.cons rfl (.cons rfl .nil)))) ((Places.cons sz24 (Places.cons sz24 Places.nil))).to rfl (.cons rfl pa2 rfl pu2 (.cons rfl pa2 rfl (.skip (.skip pu2)) .nil)) (.cons (.cons (.cons (.cons .nil)))) (L rfl)) t2 t0 (sb (c_sm sz26 (by rfl) pa4 rfl pu4) t2 t1 ?_))))
       refine aV (L rfl) rfl (zn [(4,_),(5,_)] [(4,_)] t2 t1 (ex_ret ?_))
       refine ⟨.inr rfl,ResVs.cast (.cons (.agg rfl rfl rfl ag26 sz26 (.cons (.cons (.cons (.cons .nil))))) (.cons (.tmp rfl) .nil)) ?_⟩
       rw [← hbM]; exact congrArg (· :: [vZ 0]) (cN (Rat.num_pow b M) (by rw [Rat.den_pow,Int.natCast_pow]))
end Go.Proofs.YtcifhkfpmhifaaaGreatDoor.N
set_option maxRecDepth 100000
set_option maxHeartbeats 4000000
namespace Go.Proofs.YtcifhkfpmhifaaaGreatDoor.N
open Go Go.Proofs.YtcifhkfpmhifaaaGreatDoor.SH Go.Proofs.YtcifhkfpmhifaaaGreatDoor.NumA
open Go.Proofs.Tryz renaming call25 → cl25,call39 → cl39,call62 → cl62,call81 → cl81,call82 → cl82,isAgg24 → ag24,isAgg26 → ag26,sizeOf24 → sz24,sizeOf26 → sz26,underlying26 → un26,zeroValue24 → zv24,zeroValue26 → zv26
theorem rpowZ (a n : Int) (ha : nw a < 9999999) (hn0 : -9223372036854775808 ≤ n) (hn1 : n < 9223372036854775808) : Says E 82 [pZ a,vZ n] (.tup [pZ (powV true a n),vZ (powE true a n)]):=by
 have:=rpow_says (decide (a < 0)) (digs a.natAbs) n ha (wd_digs _) hn0 hn1
 rwa [canon_digs a,sg_digs] at this
theorem small_cond {a : Rat} {n : Int} (hk : bq a ≤ 1) (hn : ¬ (a = 0 ∧ n < 0)) : a ^ n = if (a < 0 ∧ ¬ n % 2 = 0) ∨ (a = 0 ∧ n ≠ 0) then a else 1:=by
 by_cases h0 : n = 0
 ·subst h0
  rw [if_neg (by simp),Rat.zpow_zero]
 ·by_cases ha : a = 0
  ·rw [if_pos (.inr ⟨ha,h0⟩),ha,zero_zpow]
   have h1 : ¬ n < 0:=fun c=>hn ⟨ha,c⟩
   omega
  ·rcases bq_small hk with h | h
   ·exact absurd h ha
   ·rw [unit_zpow h]
    by_cases he : n % 2 = 0
    ·rw [if_pos he,if_neg (by rintro (⟨_,c⟩ | ⟨c,_⟩); exact c he; exact ha c)]
    ·rw [if_neg he]
     rcases h with rfl | rfl
     ·split <;> rfl
     ·rw [if_pos (.inl ⟨by decide,he⟩)]
theorem scf {a : Rat} {n : Int} (c1 : a < 0) (c2 : n % 2 = 0) : ¬ ((a < 0 ∧ ¬ n % 2 = 0) ∨ (a = 0 ∧ n ≠ 0)):=by
 rintro (⟨_,c⟩ | ⟨c,_⟩)
 ·exact c c2
 ·rw [c] at c1; exact absurd c1 (by decide)
theorem quo_lim {k : Nat} : IntKind.i64.wrap ((1048576 : Int).tdiv (k : Int)) = ((1048576 / k : Nat) : Int):=by
 have h:=Nat.div_le_self 1048576 k
 rw [Int.tdiv_eq_ediv_of_nonneg (by decide),show (1048576 : Int) / (k : Int) = ((1048576 / k : Nat) : Int) by rw [Int.natCast_ediv]; rfl]
 generalize 1048576 / k = q at h ⊢
 exact w64 (by omega) (by omega)
theorem rqpow_says (a : Rat) (n : Int) (ha : qw a < 9999999) (hn0 : -9223372036854775808 ≤ n) (hn1 : n < 9223372036854775808) : Says E 41 [pQ a,vZ n] (.tup [.agg (cR (qP a n)),vZ (qE a n)]):=by
 refine says_of (xs:=[.agg (cR (qP a n)),vZ (qE a n)]) Tryz.func41 rfl Tryz.ntmps41 Tryz.results41 (by simp) fun F hG hX0 hnt hdf P0=>?_
 obtain ⟨L,hX,hN⟩:=pro hnt hX0 hG
 have h1:=nw_num_le a
 have h2:=nw_den_le a
 have hb1 : bl a.num.natAbs ≤ bq a:=Nat.le_max_left _ _
 have hb2 : bl (a.den : Int).natAbs ≤ bq a:=by rw [Int.natAbs_natCast]; exact Nat.le_max_right _ _
 have hb3:=bl_le_nw' a.num
 have hb4:=bl_le_nw' a.den
 have hbb : bq a < 1000000000:=by rw [bq]; rw [Int.natAbs_natCast] at hb4; omega
 refine exr (swb (c_bx (k:=2) (n:=4) pa4 rfl rfl (P0 _ rfl) (L rfl)) t1 t0 ⟨rfl,rfl⟩ (swb (c_al (k:=4) (n:=4) zv26 (.cons rfl (.cons rfl (.cons rfl (.cons rfl .nil)))) rfl (P0 _ rfl) (L rfl)) t0 t0 ⟨rfl,rfl⟩ (aV (L rfl) rfl (zn [(1,_),(2,_),(4,_)] [(2,_),(4,_)] t3 t2 (ex_seq ?_)))))
 refine exm (sl:=[(18,vb (decide (a = 0 ∧ n < 0)))]) (sl0:=[(1,_),(2,_),(4,_)]) (hb:=[]) (hb0:=[(2,_),(4,_)]) t3 t2 ?_ ?_
 ·by_cases h0 : a = 0
  ·refine lp4 ag26 sz26 (L rfl) rfl rfl (cK hG hX cl25 hN (rqsign_says a (by omega)) (L rfl) t1 ?_)
   refine sw (c_e (L rfl)) t2 t0 (mV (L rfl) rfl (gV (g:=15) rfl (decide_eq_true (cmpQ0.2 h0)) (L rfl) rfl rfl (swg (g:=15) rfl (decide_eq_true (cmpQ0.2 h0)) (c_ls (L rfl)) rfl t2 t0 (sw (c_pt (decide_eq_true (cmpQ0.2 h0)) (L rfl)) t2 t0 ?_))))
   exact seq_nil ⟨⟨ob rfl (dec_eq (by simp [h0])),rfl,rfl,rfl,trivial⟩,t2⟩
  ·refine lp4 ag26 sz26 (L rfl) rfl rfl (cK hG hX cl25 hN (rqsign_says a (by omega)) (L rfl) t1 ?_)
   refine sw (c_e (L rfl)) t2 t0 (mV (L rfl) rfl (swn (g:=15) rfl (decide_eq_false (mt cmpQ0.1 h0)) (L rfl) rfl (swn (g:=15) rfl (decide_eq_false (mt cmpQ0.1 h0)) (L rfl) rfl (sw (c_pf (decide_eq_false (mt cmpQ0.1 h0)) (L rfl)) t2 t0 ?_))))
   exact seq_nil ⟨⟨ob rfl (by simp [h0]),rfl,rfl,rfl,trivial⟩,t2⟩
 refine ex_if rfl (fun hn=>?_) (fun hn=>?_)
 ·have hn:=dt hn
  refine exr (sw (c_pc (c_bp (vs:=[]) un26 zv26 (.cons rfl (.cons rfl (.cons rfl (.cons rfl .nil)))) ((Places.cons sz24 (Places.cons sz24 Places.nil))).to rfl .nil (.cons (.cons (.cons (.cons .nil)))) (L rfl)) (.agg (.cons .same (.cons .nil (.cons .same (.cons .nil .nil)))))) t0 t0 (sb (c_sm sz26 (by rfl) pa4 rfl pu4) t2 t1 ?_))
  refine aV (L rfl) rfl (zn [(4,_),(5,_)] [(4,_)] t2 t1 (ex_ret ?_))
  refine ⟨.inr rfl,ResVs.cast (.cons (.agg rfl rfl rfl ag26 sz26 (.cons (.cons (.cons (.cons .nil))))) (.cons (.tmp rfl) .nil)) ?_⟩
  have e : qE a n = 5:=by rw [qE,if_pos hn]
  rw [qP,e,if_neg (by decide)]; rfl
 ·have hn:=df hn
  refine ex_skip (show Exec _ _ _ _ _ from ?_)
  refine ex_seq (exr (lp4 ag26 sz26 (L rfl) rfl rfl (cK hG hX cl39 hN (rqbits_says a (by omega)) (L rfl) t1 ?_)))
  refine aV (L rfl) rfl (zn [(1,_),(2,_),(4,_),(6,_)] [(2,_),(4,_)] t4 t2 ?_)
  obtain ⟨Lq,hLq⟩ : ∃ Lq,Lq = 1048576 / bq a:=⟨_,rfl⟩
  have hLM : Lq ≤ 1048576:=by rw [hLq]; exact Nat.div_le_self _ _
  refine exm (sl:=[(36,vb (decide (1 < bq a ∧ Lq < n.natAbs)))]) (sl0:=[(1,_),(2,_),(4,_)]) (hb:=[]) (hb0:=[(2,_),(4,_)]) t3 t2 ?_ ?_
  ·by_cases hk : 1 < bq a; by_cases c1 : (Lq : Int) < n
   ·refine mV (L rfl) rfl (sw (c_gt (L rfl)) t2 t0 (mV (L rfl) rfl (gV (g:=24) rfl (decide_eq_true (by omega)) (L rfl) rfl rfl ?_)))
    refine gV (g:=24) rfl (decide_eq_true (by omega)) (L rfl) rfl rfl ?_
    refine swg (g:=24) rfl (decide_eq_true (by omega)) (c_q (L rfl) (by omega) (show _ = (Lq : Int) by rw [hLq]; exact quo_lim)) rfl t2 t0 ?_
    refine swg (g:=24) rfl (decide_eq_true (by omega)) (c_gt (L rfl)) rfl t2 t0 ?_
    refine gV (g:=24) rfl (decide_eq_true (by omega)) (L rfl) rfl rfl ?_
    refine swn (g:=29) rfl (decide_eq_true c1) (L rfl) rfl (swn (g:=29) rfl (decide_eq_true c1) (L rfl) rfl (swn (g:=29) rfl (decide_eq_true c1) (L rfl) rfl (swn (g:=29) rfl (decide_eq_true c1) (L rfl) rfl (swn (g:=29) rfl (decide_eq_true c1) (L rfl) rfl (swg (g:=24) rfl (decide_eq_true (by omega)) (c_pt (decide_eq_true c1) (L rfl)) rfl t2 t0 ?_)))))
    refine sw (c_pt (decide_eq_true (by omega)) (L rfl)) t2 t0 ?_
    exact seq_nil ⟨⟨ob rfl (decide_eq_true (by omega)).symm,rfl,rfl,rfl,trivial⟩,t2⟩
   ·refine mV (L rfl) rfl (sw (c_gt (L rfl)) t2 t0 (mV (L rfl) rfl (gV (g:=24) rfl (decide_eq_true (by omega)) (L rfl) rfl rfl ?_)))
    refine gV (g:=24) rfl (decide_eq_true (by omega)) (L rfl) rfl rfl ?_
    refine swg (g:=24) rfl (decide_eq_true (by omega)) (c_q (L rfl) (by omega) (show _ = (Lq : Int) by rw [hLq]; exact quo_lim)) rfl t2 t0 ?_
    refine swg (g:=24) rfl (decide_eq_true (by omega)) (c_gt (L rfl)) rfl t2 t0 ?_
    refine gV (g:=24) rfl (decide_eq_true (by omega)) (L rfl) rfl rfl ?_
    refine gV (g:=29) rfl (decide_eq_false c1) (L rfl) rfl rfl (gV (g:=29) rfl (decide_eq_false c1) (L rfl) rfl rfl (swg (g:=29) rfl (decide_eq_false c1) (c_q (L rfl) (by omega) (show _ = (Lq : Int) by rw [hLq]; exact quo_lim)) rfl t2 t0 ?_))
    refine swg (g:=29) rfl (decide_eq_false c1) (c_ng (L rfl) (w64 (by omega) (by omega))) rfl t1 t0 ?_
    refine swg (g:=29) rfl (decide_eq_false c1) (c_ls (L rfl)) rfl t2 t0 (swg (g:=24) rfl (decide_eq_true (by omega)) (c_pf (decide_eq_false c1) (L rfl)) rfl t2 t0 ?_)
    refine sw (c_pt (decide_eq_true (by omega)) (L rfl)) t2 t0 ?_
    exact seq_nil ⟨⟨ob rfl (dec_eq (by omega)),rfl,rfl,rfl,trivial⟩,t2⟩
   ·refine mV (L rfl) rfl (sw (c_gt (L rfl)) t2 t0 (mV (L rfl) rfl (swn (g:=24) rfl (decide_eq_false (by omega)) (L rfl) rfl ?_)))
    refine swn (g:=24) rfl (decide_eq_false (by omega)) (L rfl) rfl ?_
    refine swn (g:=24) rfl (decide_eq_false (by omega)) (L rfl) rfl ?_
    refine swn (g:=24) rfl (decide_eq_false (by omega)) (L rfl) rfl ?_
    refine swn (g:=24) rfl (decide_eq_false (by omega)) (L rfl) rfl ?_
    refine swu (g:=29) rfl (L rfl) rfl (swu (g:=29) rfl (L rfl) rfl (swu (g:=29) rfl (L rfl) rfl (swu (g:=29) rfl (L rfl) rfl (swu (g:=29) rfl (L rfl) rfl (swn (g:=24) rfl (decide_eq_false (by omega)) (L rfl) rfl ?_)))))
    refine sw (c_pf (decide_eq_false (by omega)) (L rfl)) t2 t0 ?_
    exact seq_nil ⟨⟨ob rfl (decide_eq_false (fun c=>hk c.1)).symm,rfl,rfl,rfl,trivial⟩,t2⟩
  refine ex_if rfl (fun hL=>?_) (fun hL=>?_)
  ·have hL:=dt hL
   refine exr (sw (c_pc (c_bp (vs:=[]) un26 zv26 (.cons rfl (.cons rfl (.cons rfl (.cons rfl .nil)))) ((Places.cons sz24 (Places.cons sz24 Places.nil))).to rfl .nil (.cons (.cons (.cons (.cons .nil)))) (L rfl)) (.agg (.cons .same (.cons .nil (.cons .same (.cons .nil .nil)))))) t0 t0 (sb (c_sm sz26 (by rfl) pa4 rfl pu4) t2 t1 ?_))
   refine aV (L rfl) rfl (zn [(4,_),(5,_)] [(4,_)] t2 t1 (ex_ret ?_))
   refine ⟨.inr rfl,ResVs.cast (.cons (.agg rfl rfl rfl ag26 sz26 (.cons (.cons (.cons (.cons .nil))))) (.cons (.tmp rfl) .nil)) ?_⟩
   have e : qE a n = 2:=by rw [qE,if_neg hn,if_pos (hLq ▸ hL)]
   rw [qP,e,if_neg (by decide)]; rfl
  ·have hL:=df hL
   have eE : qE a n = 0:=by rw [qE,if_neg hn,if_neg (hLq ▸ hL)]
   rw [qP,eE,if_pos rfl]
   refine ex_skip (show Exec _ _ _ _ _ from ?_)
   refine ex_seq (exr (lp4 ag26 sz26 (L rfl) rfl rfl (cK hG hX cl39 hN (rqbits_says a (by omega)) (L rfl) t1 ?_)))
   refine sw (c_ls (L rfl)) t2 t0 (zn [(1,_),(2,_),(4,_),(40,_)] [(2,_),(4,_)] t4 t2 ?_)
   refine ex_if rfl (fun hk=>?_) (fun hk=>?_)
   ·have hk:=dt hk
    have hs:=small_cond (n:=n) (show bq a ≤ 1 by omega) hn
    refine ex_seq ?_
    refine exm (sl:=[(57,vb (decide ((a < 0 ∧ ¬ n % 2 = 0) ∨ (a = 0 ∧ n ≠ 0))))]) (sl0:=[(2,_),(4,_)]) (hb:=[]) (hb0:=[(2,_),(4,_)]) t2 t2 ?_ ?_
    ·by_cases c1 : a < 0; by_cases c2 : n % 2 = 0; rotate_left 2; by_cases c3 : a = 0; rotate_left 2
     ·refine lp4 ag26 sz26 (L rfl) rfl rfl (cK hG hX cl25 hN (rqsign_says a (by omega)) (L rfl) t1 ?_)
      refine sw (c_ls (L rfl)) t2 t0 (mV (L rfl) rfl (gV (g:=44) rfl (decide_eq_true (cmpQlt.2 c1)) (L rfl) rfl rfl (swg (g:=44) rfl (decide_eq_true (cmpQlt.2 c1)) (c_r (L rfl) (by decide) rfl) rfl t2 t0 ?_)))
      refine swg (g:=44) rfl (decide_eq_true (cmpQlt.2 c1)) (c_n (L rfl)) rfl t2 t0 (sw (c_pt (decide_eq_true (cmpQlt.2 c1)) (L rfl)) t2 t0 (mV (L rfl) rfl (swg (g:=49) rfl (by simp [tm2,c2]) (c_lp ag26 sz26 (by rfl) (by exact al4) rfl (L rfl)) rfl t1 t1 ?_)))
      refine swg (g:=49) rfl (by simp [tm2,c2]) (c_c hG hX cl25 rfl hN (rqsign_says a (by omega)) (L rfl)) rfl t1 t0 ?_
      refine swg (g:=49) rfl (by simp [tm2,c2]) (c_e (L rfl)) rfl t2 t0 ?_
      refine gV (g:=49) rfl (by simp [tm2,c2]) (L rfl) rfl rfl ?_
      refine swn (g:=53) rfl (decide_eq_false (fun c=>by rw [cmpQ0] at c; rw [c] at c1; exact absurd c1 (by decide))) (L rfl) rfl ?_
      refine swn (g:=53) rfl (decide_eq_false (fun c=>by rw [cmpQ0] at c; rw [c] at c1; exact absurd c1 (by decide))) (L rfl) rfl ?_
      refine swg (g:=49) rfl (by simp [tm2,c2]) (c_pf (decide_eq_false (fun c=>by rw [cmpQ0] at c; rw [c] at c1; exact absurd c1 (by decide))) (L rfl)) rfl t2 t0 ?_
      refine sw (c_pf (by simp [tm2,c2]) (L rfl)) t2 t0 ?_
      exact seq_nil ⟨⟨ob rfl (decide_eq_false (scf c1 c2)).symm,rfl,rfl,trivial⟩,t2⟩
     ·refine lp4 ag26 sz26 (L rfl) rfl rfl (cK hG hX cl25 hN (rqsign_says a (by omega)) (L rfl) t1 ?_)
      refine sw (c_ls (L rfl)) t2 t0 (mV (L rfl) rfl (gV (g:=44) rfl (decide_eq_true (cmpQlt.2 c1)) (L rfl) rfl rfl (swg (g:=44) rfl (decide_eq_true (cmpQlt.2 c1)) (c_r (L rfl) (by decide) rfl) rfl t2 t0 ?_)))
      refine swg (g:=44) rfl (decide_eq_true (cmpQlt.2 c1)) (c_n (L rfl)) rfl t2 t0 (sw (c_pt (decide_eq_true (cmpQlt.2 c1)) (L rfl)) t2 t0 (mV (L rfl) rfl (swn (g:=49) rfl (by simp [tm2,c2]) (L rfl) rfl ?_)))
      refine swn (g:=49) rfl (by simp [tm2,c2]) (L rfl) rfl ?_
      refine swn (g:=49) rfl (by simp [tm2,c2]) (L rfl) rfl ?_
      refine swn (g:=49) rfl (by simp [tm2,c2]) (L rfl) rfl ?_
      refine swu (g:=53) rfl (L rfl) rfl (swu (g:=53) rfl (L rfl) rfl (swn (g:=49) rfl (by simp [tm2,c2]) (L rfl) rfl ?_))
      refine sw (c_pt (by simp [tm2,c2]) (L rfl)) t2 t0 ?_
      exact seq_nil ⟨⟨ob rfl (decide_eq_true (.inl ⟨c1,c2⟩)).symm,rfl,rfl,trivial⟩,t2⟩
     ·refine lp4 ag26 sz26 (L rfl) rfl rfl (cK hG hX cl25 hN (rqsign_says a (by omega)) (L rfl) t1 ?_)
      refine sw (c_ls (L rfl)) t2 t0 (mV (L rfl) rfl (swn (g:=44) rfl (decide_eq_false (mt cmpQlt.1 c1)) (L rfl) rfl (swn (g:=44) rfl (decide_eq_false (mt cmpQlt.1 c1)) (L rfl) rfl (swn (g:=44) rfl (decide_eq_false (mt cmpQlt.1 c1)) (L rfl) rfl (sw (c_pf (decide_eq_false (mt cmpQlt.1 c1)) (L rfl)) t2 t0 (mV (L rfl) rfl (swg (g:=49) rfl rfl (c_lp ag26 sz26 (by rfl) (by exact al4) rfl (L rfl)) rfl t1 t1 ?_)))))))
      refine swg (g:=49) rfl rfl (c_c hG hX cl25 rfl hN (rqsign_says a (by omega)) (L rfl)) rfl t1 t0 ?_
      refine swg (g:=49) rfl rfl (c_e (L rfl)) rfl t2 t0 (gV (g:=49) rfl rfl (L rfl) rfl rfl (gV (g:=53) rfl (decide_eq_true (cmpQ0.2 c3)) (L rfl) rfl rfl (swg (g:=53) rfl (decide_eq_true (cmpQ0.2 c3)) (c_n (L rfl)) rfl t2 t0 (swg (g:=49) rfl rfl (c_pt (decide_eq_true (cmpQ0.2 c3)) (L rfl)) rfl t2 t0 (sw (c_pf rfl (L rfl)) t2 t0 ?_)))))
      exact seq_nil ⟨⟨ob rfl (by simp [c1,c3]),rfl,rfl,trivial⟩,t2⟩
     ·refine lp4 ag26 sz26 (L rfl) rfl rfl (cK hG hX cl25 hN (rqsign_says a (by omega)) (L rfl) t1 ?_)
      refine sw (c_ls (L rfl)) t2 t0 (mV (L rfl) rfl (swn (g:=44) rfl (decide_eq_false (mt cmpQlt.1 c1)) (L rfl) rfl (swn (g:=44) rfl (decide_eq_false (mt cmpQlt.1 c1)) (L rfl) rfl (swn (g:=44) rfl (decide_eq_false (mt cmpQlt.1 c1)) (L rfl) rfl (sw (c_pf (decide_eq_false (mt cmpQlt.1 c1)) (L rfl)) t2 t0 (mV (L rfl) rfl (swg (g:=49) rfl rfl (c_lp ag26 sz26 (by rfl) (by exact al4) rfl (L rfl)) rfl t1 t1 ?_)))))))
      refine swg (g:=49) rfl rfl (c_c hG hX cl25 rfl hN (rqsign_says a (by omega)) (L rfl)) rfl t1 t0 ?_
      refine swg (g:=49) rfl rfl (c_e (L rfl)) rfl t2 t0 (gV (g:=49) rfl rfl (L rfl) rfl rfl (swn (g:=53) rfl (decide_eq_false (mt cmpQ0.1 c3)) (L rfl) rfl (swn (g:=53) rfl (decide_eq_false (mt cmpQ0.1 c3)) (L rfl) rfl (swg (g:=49) rfl rfl (c_pf (decide_eq_false (mt cmpQ0.1 c3)) (L rfl)) rfl t2 t0 (sw (c_pf rfl (L rfl)) t2 t0 ?_)))))
      exact seq_nil ⟨⟨ob rfl (by simp [c1,c3]),rfl,rfl,trivial⟩,t2⟩
    refine ex_if rfl (fun hc=>?_) (fun hc=>?_)
    ·have hc:=dt hc
     rw [if_pos hc] at hs
     rw [hs]
     refine exr (lp4 ag26 sz26 (L rfl) rfl rfl (sb (c_sm sz26 (by rfl) pa4 rfl pu4) t2 t1 ?_))
     refine aV (L rfl) rfl (zn [(4,_),(5,_)] [(4,_)] t2 t1 (ex_ret ?_))
     refine ⟨.inr rfl,ResVs.cast (.cons (.agg rfl rfl rfl ag26 sz26 (.cons (.cons (.cons (.cons .nil))))) (.cons (.tmp rfl) .nil)) ?_⟩
     rfl
    ·have hc:=df hc
     rw [if_neg hc] at hs
     rw [hs]
     refine ex_skip (show Exec _ _ _ _ _ from ?_)
     refine exr (cK hG hX cl81 hN (rqint_says 1 (by decide) (by decide)) (L rfl) t1 ?_)
     refine sb (c_sm sz26 (by rfl) pa4 rfl pu4) t2 t1 ?_
     refine aV (L rfl) rfl (zn [(4,_),(5,_)] [(4,_)] t2 t1 (ex_ret ?_))
     refine ⟨.inr rfl,ResVs.cast (.cons (.agg rfl rfl rfl ag26 sz26 (.cons (.cons (.cons (.cons .nil))))) (.cons (.tmp rfl) .nil)) ?_⟩
     rfl
   ·have hk:=df hk
    have hk : 1 < bq a:=by omega
    have hL : n.natAbs ≤ 1048576 / bq a:=by rw [← hLq]; omega
    obtain ⟨M,hM⟩ : ∃ M,M = n.natAbs:=⟨_,rfl⟩
    rw [← hM] at hL
    have hMb : M ≤ 1048576:=by rw [← hLq] at hL; omega
    have w1:=pow_nw' hb1 hL (by omega)
    have w2:=pow_nw' hb2 hL (by omega)
    have p1:=rpowZ a.num M (by omega) (by omega) (by omega)
    have p2:=rpowZ a.den M (by omega) (by omega) (by omega)
    obtain ⟨k1,k2⟩:=pow_ok hb1 hL (by omega)
    obtain ⟨k3,k4⟩:=pow_ok hb2 hL (by omega)
    rw [k1,k2] at p1
    rw [k3,k4] at p2
    have hd0 : (a.den : Int) ^ M ≠ 0:=Int.ne_of_gt (Int.pow_pos (den_pos a))
    have eM : Rat.divInt (a.num ^ M) ((a.den : Int) ^ M) = a ^ M:=by
     have:=q_self (a ^ M)
     rwa [Rat.num_pow,Rat.den_pow,Int.natCast_pow] at this
    have eI : Rat.divInt ((a.den : Int) ^ M) (a.num ^ M) = (a ^ M)⁻¹:=by
     have:=q_inv (a ^ M)
     rwa [Rat.num_pow,Rat.den_pow,Int.natCast_pow] at this
    refine ex_skip (show Exec _ _ _ _ _ from ?_)
    refine exr (mV (L rfl) rfl (aV (L rfl) rfl (zn [(1,_),(2,_),(4,_),(7,_)] [(2,_),(4,_)] t4 t2 (ex_seq (exr (mV (L rfl) rfl (sw (c_ls (L rfl)) t2 t0 (zn [(1,_),(2,_),(4,_),(7,_),(62,_)] [(2,_),(4,_)] t5 t2 ?_))))))))
    refine ex_cut (sl:=[(7,vi (M : Int))]) (sl0:=[(1,_),(2,_),(4,_)]) (hb:=[]) (hb0:=[(2,_),(4,_)]) t3 t2 ?_ ?_
    ·refine ex_if rfl (fun hg=>?_) (fun hg=>?_)
     ·have hg:=dt hg
      refine exr0 (mV (L rfl) rfl (sw (c_ng (L rfl) (w64 (by omega) (by omega))) t1 t0 ?_))
      refine aV (L rfl) rfl (seq_nil ?_)
      exact ⟨⟨oi (by omega) rfl,(by first | exact rfl | exact oi (by omega) rfl),(by first | exact rfl | exact oi (by omega) rfl),(by first | exact rfl | exact oi (by omega) rfl),trivial⟩,t2⟩
     ·have hg:=df hg
      refine ex_skip ?_
      exact ⟨⟨oi (by omega) rfl,(by first | exact rfl | exact oi (by omega) rfl),(by first | exact rfl | exact oi (by omega) rfl),(by first | exact rfl | exact oi (by omega) rfl),trivial⟩,t2⟩
    ·refine exr (sw (c_fa un26 rfl sz24 (by decide) (by exact rfl) (L rfl)) t1 t1 ?_)
     refine lp2 ag24 sz24 (L rfl) rfl rfl (mV (L rfl) rfl (cK hG hX cl82 hN p1 (L rfl) t2 (mV (L rfl) rfl (sw (c_ex rfl (L rfl)) t1 t0 (sw (c_ex rfl (L rfl)) t1 t0 (swb (c_al (k:=8) (n:=2) zv24 (.cons rfl (.cons rfl .nil)) rfl (P0 _ rfl) (L rfl)) t0 t0 ⟨rfl,rfl⟩ (sb (c_sm sz24 (by rfl) pa2 rfl pu2) t2 t1 ?_)))))))
     refine aV (L rfl) rfl (zn [(1,_),(2,_),(4,_),(7,_),(8,_)] [(2,_),(4,_),(8,_)] t5 t3 (exr (sw (c_fa un26 rfl sz24 (by decide) (by exact rfl) (L rfl)) t1 t1 ?_)))
     refine lp2 ag24 sz24 (L rfl) rfl rfl (mV (L rfl) rfl (cK hG hX cl82 hN p2 (L rfl) t2 (mV (L rfl) rfl (sw (c_ex rfl (L rfl)) t1 t0 (sw (c_ex rfl (L rfl)) t1 t0 (swb (c_al (k:=10) (n:=2) zv24 (.cons rfl (.cons rfl .nil)) rfl (P0 _ rfl) (L rfl)) t0 t0 ⟨rfl,rfl⟩ (sb (c_sm sz24 (by rfl) pa2 rfl pu2) t2 t1 ?_)))))))
     refine aV (L rfl) rfl (zn [(1,_),(4,_),(8,_),(10,_)] [(4,_),(8,_),(10,_)] t4 t3 (ex_seq (exr (mV (L rfl) rfl (sw (c_ls (L rfl)) t2 t0 (zn [(4,_),(8,_),(10,_),(80,_)] [(4,_),(8,_),(10,_)] t4 t3 ?_))))))
     refine ex_if rfl (fun hg=>?_) (fun hg=>?_)
     ·have hg:=dt hg
      have ha0 : a.num ≠ 0:=fun c=>hn ⟨Rat.num_eq_zero.1 c,hg⟩
      have hz : a ^ n = (a ^ M)⁻¹:=by
       rcases zpow_cases a n with ⟨c1,c2⟩ | ⟨c1,c2⟩
       ·omega
       ·rw [c2,hM]
      rw [hz,← eI]
      refine exr (lp2 ag24 sz24 (L rfl) rfl rfl (lp2 ag24 sz24 (L rfl) rfl rfl (cK hG hX cl62 hN (roverZ ((a.den : Int) ^ M) (a.num ^ M) (Int.pow_ne_zero ha0) (by omega) (by omega)) (L rfl) t2 ?_)))
      refine sb (c_sm sz26 (by rfl) pa4 rfl pu4) t2 t1 ?_
      refine aV (L rfl) rfl (zn [(4,_),(5,_)] [(4,_)] t2 t1 (ex_ret ?_))
      refine ⟨.inr rfl,ResVs.cast (.cons (.agg rfl rfl rfl ag26 sz26 (.cons (.cons (.cons (.cons .nil))))) (.cons (.tmp rfl) .nil)) ?_⟩
      rfl
     ·have hg:=df hg
      have hz : a ^ n = a ^ M:=by
       rcases zpow_cases a n with ⟨c1,c2⟩ | ⟨c1,c2⟩
       ·rw [c2,hM]
       ·omega
      rw [hz,← eM]
      refine ex_skip (show Exec _ _ _ _ _ from ?_)
      refine exr (lp2 ag24 sz24 (L rfl) rfl rfl (lp2 ag24 sz24 (L rfl) rfl rfl (cK hG hX cl62 hN (roverZ (a.num ^ M) ((a.den : Int) ^ M) hd0 (by omega) (by omega)) (L rfl) t2 ?_)))
      refine sb (c_sm sz26 (by rfl) pa4 rfl pu4) t2 t1 ?_
      refine aV (L rfl) rfl (zn [(4,_),(5,_)] [(4,_)] t2 t1 (ex_ret ?_))
      refine ⟨.inr rfl,ResVs.cast (.cons (.agg rfl rfl rfl ag26 sz26 (.cons (.cons (.cons (.cons .nil))))) (.cons (.tmp rfl) .nil)) ?_⟩
      rfl
end Go.Proofs.YtcifhkfpmhifaaaGreatDoor.N
