/- Part E of the proof: lemmas for the walks of the given functions. No statement of its own. -/
import Derived.Lib.Bytealg
import Derived.RecoverIn
import Derived.LaidEql
import Derived.Test.YtcifhkfpmhifaaaGreatDoorPD
set_option linter.unusedVariables false
set_option linter.unusedSimpArgs false
set_option linter.deprecated false
set_option maxRecDepth 100000
set_option maxHeartbeats 4000000
namespace Go.Proofs.YtcifhkfpmhifaaaGreatDoor.N
open Go Go.Proofs.YtcifhkfpmhifaaaGreatDoor.SH Go.Proofs.YtcifhkfpmhifaaaGreatDoor.NumA
open Go.Proofs.Tryz renaming call63 → cl63,call66 → cl66,call70 → cl70,call74 → cl74,call83 → cl83,isAgg24 → ag24,isAgg26 → ag26,sizeOf24 → sz24,sizeOf26 → sz26,typeInfo24 → ti24,underlying26 → un26,underlying47 → un47,underlying48 → un48,zeroValue24 → zv24,zeroValue26 → zv26
@[reducible] def cZ (n : Int) : List Pure:=[.a (.bool (decide (n < 0))),.sl (digs n.natAbs).length (encW (digs n.natAbs))]
def encZ : List Int → List Pure
 | []=>[]
 | a :: v=>cZ a ++ encZ v
@[simp] theorem encZ_length : ∀ v : List Int,(encZ v).length = v.length * 2
 | []=>rfl
 | a :: v=>by simp only [encZ,List.length_append,encZ_length v,cZ,List.length_cons,List.length_nil]; omega
theorem encZ_app : ∀ v u : List Int,encZ (v ++ u) = encZ v ++ encZ u
 | [],u=>rfl
 | a :: v,u=>by simp only [List.cons_append,encZ,encZ_app v u,List.append_assoc]
theorem getZ : ∀ {v : List Int} {i : Nat},i < v.length → ((encZ v).drop (i * 2)).take 2 = cZ (v.getD i 0)
 | [],i,h=>by simp at h
 | a :: v,0,_=>by simp [encZ,cZ]
 | a :: v,i + 1,h=>by
  have:=getZ (v:=v) (i:=i) (by simpa using h)
  rw [show (i + 1) * 2 = i * 2 + 1 + 1 by omega]
  simp only [encZ,cZ,List.cons_append,List.nil_append,List.drop_succ_cons,List.getD_cons_succ]
  exact this
@[reducible] def pVZ (v : List Int) : Pure:=.sl v.length (encZ v)
@[reducible] def rowZ (v : List Int) : Blk:=⟨24,2,.pure (encZ v)⟩
theorem rowZn (v : List Int) (a : Int) : (⟨24,2,.pure (encZ v ++ cZ a)⟩ : Blk) = rowZ (v ++ [a]):=by rw [rowZ,encZ_app]; simp [encZ]
theorem gDZ {v : List Int} {i : Nat} (h : i < v.length) : v.getD i 0 ∈ v:=by simp [List.getD_eq_getElem?_getD,h]
theorem takeZ {v : List Int} {i : Nat} (h : i < v.length) : v.take (i + 1) = v.take i ++ [v.getD i 0]:=by
 rw [List.take_add_one]; simp [List.getD_eq_getElem?_getD,h]
def lcmS (o x : Int) : Int:=o * (x / Int.gcd o x)
def lcmF (l : List Int) : Int:=l.foldl lcmS 1
theorem lcmF_take {l : List Int} {i : Nat} (h : i < l.length) : lcmF (l.take (i + 1)) = lcmS (lcmF (l.take i)) (l.getD i 0):=by
 rw [takeZ h]; simp [lcmF]
theorem quo_le {o x : Int} (hx : x ≠ 0) : (x / (Int.gcd o x : Int)).natAbs ≤ x.natAbs :=
 Nat.le_of_dvd (by omega) (Int.natAbs_dvd_natAbs.2 (Int.ediv_dvd_of_dvd (Int.gcd_dvd_right ..)))
theorem nw_lcm {B : Nat} : ∀ {l : List Int} {o : Int} {k : Nat},(∀ x ∈ l,nw x ≤ B) → nw o ≤ k → nw (l.foldl lcmS o) ≤ k + l.length * B
 | [],o,k,_,h=>by simpa using h
 | x :: l,o,k,hB,h=>by
  rw [List.foldl_cons]
  have h1 : nw (lcmS o x) ≤ k + B:=by
   have h2:=nw_mul o (x / (Int.gcd o x : Int))
   have h3 : nw (x / (Int.gcd o x : Int)) ≤ nw x:=by
    refine nw_mono ?_
    by_cases hx : x = 0
    ·subst hx; simp
    ·exact quo_le hx
   have:=hB x (by simp)
   unfold lcmS; omega
  have:=nw_lcm (l:=l) (k:=k + B) (fun y hy=>hB y (by simp [hy])) h1
  rw [List.length_cons,Nat.add_mul]; omega
theorem nw_lcmF {B : Nat} {l : List Int} (h : ∀ x ∈ l,nw x ≤ B) (i : Nat) : nw (lcmF (l.take i)) ≤ 1 + l.length * B:=by
 have:=nw_lcm (l:=l.take i) (o:=1) (k:=1) (fun x hx=>h x (List.mem_of_mem_take hx)) (by rw [nw_one]; exact Nat.le_refl _)
 have h2 : (l.take i).length * B ≤ l.length * B:=Nat.mul_le_mul_right _ (by simp; omega)
 unfold lcmF; omega
theorem mult_says (l : List Int) (B : Nat) (hl : l.length < 100000) (h0 : ∀ x ∈ l,x ≠ 0) (hB : ∀ x ∈ l,nw x ≤ B) (hb : 1 + l.length * B < 1000000000) : Says E 83 [pVZ l] (pZ (lcmF l)):=by
 refine says_of (xs:=[pZ (lcmF l)]) Tryz.func83 rfl Tryz.ntmps83 Tryz.results83 (by simp) fun F hG hX0 hnt hdf P0=>?_
 obtain ⟨L,hX,hN⟩:=pro hnt hX0 hG
 refine exr (swb (c_al (k:=2) (n:=2) zv24 (.cons rfl (.cons rfl .nil)) rfl (P0 _ rfl) (L rfl)) t0 t0 ⟨rfl,rfl⟩ (zn [(0,_),(2,_)] [(2,_)] t2 t1 (exr (cK hG hX cl63 hN one_says (L rfl) t0 (swb (c_al (k:=3) (n:=2) zv24 (.cons rfl (.cons rfl .nil)) rfl (P0 _ rfl) (L rfl)) t0 t0 ⟨rfl,rfl⟩ (sb (c_sm sz24 (by rfl) pa2 rfl pu2) t2 t1 ?_))))))
 refine zn [(0,_),(2,_),(3,_)] [(2,_),(3,_)] t3 t2 (ex_seq (exr (mV (L rfl) rfl (sw (c_ln un48 (L rfl)) t1 t0 (mV (L rfl) rfl (zn [(2,_),(3,_),(7,_),(8,_),(9,_)] [(2,_),(3,_)] t5 t2 (ex_block ?_)))))))
 refine exl (α:=Nat) (fun k=>[(9,vi (k:Int))]) (fun k=>[(3,bI (lcmF (l.take k)))]) (fun k=>k ≤ l.length) (fun k=>l.length - k) (0) (sl:=[(2,_),(3,_),(7,_),(8,_)]) (hb:=[(2,_)]) ?_ ⟨(by first | exact rfl | exact oi (by omega) rfl),rfl,rfl,rfl,rfl,trivial⟩ t2 ?_
 ·exact Nat.zero_le _
 intro k hk
 refine exr (sw (c_ls (L rfl)) t2 t0 (zn [(2,_),(3,_),(7,_),(8,_),(9,_),(10,_)] [(2,_),(3,_)] t6 t2 (ex_seq ?_)))
 refine ex_if rfl (fun hc=>?_) (fun hc=>?_)
 ·have hc:=dt hc
  have hkl : k < l.length:=by omega
  have hw:=nw_lcmF hB k
  have hx:=hB _ (gDZ hkl)
  have hxn:=h0 _ (gDZ hkl)
  have hlB : 1 * B ≤ l.length * B:=Nat.mul_le_mul_right _ (by omega)
  have hg:=gn (n:=lcmF (l.take k)) hxn (show nw (l.getD k 0) < 1000000000 by omega)
  have hw2:=nw_lcmF hB (k + 1)
  have hq : nw (l.getD k 0 / (Int.gcd (lcmF (l.take k)) (l.getD k 0) : Int)) ≤ nw (l.getD k 0):=nw_mono (quo_le hxn)
  refine ex_skip (show Exec _ _ _ _ _ from ?_)
  refine ex_seq (ex_block (exr (sw (core_indexAddrJ un48 sz24 (by omega) (by omega) (by simp) (by decide) (L rfl)) t2 t0 ?_)))
  refine sw (c_la ag24 sz24 (getZ hkl) rfl (L rfl)) t1 t0 (swb (c_al (k:=5) (n:=2) zv24 (.cons rfl (.cons rfl .nil)) rfl (P0 _ rfl) (L rfl)) t0 t0 ⟨rfl,rfl⟩ (sb (c_sm sz24 (by rfl) pa2 rfl pu2) t2 t1 ?_))
  refine zn [(2,_),(3,_),(5,_),(7,_),(8,_),(9,_)] [(2,_),(3,_),(5,_)] t6 t3 (exd0 (by rfl) ?_)
  refine lp2 ag24 sz24 (L rfl) rfl rfl (lp2 ag24 sz24 (L rfl) rfl rfl (lp2 ag24 sz24 (L rfl) rfl rfl (lp2 ag24 sz24 (L rfl) rfl rfl (cK hG hX cl66 hN (gcdZ (lcmF (l.take k)) (l.getD k 0) (by omega) (by omega)) (L rfl) t2 ?_))))
  refine cK hG hX cl74 hN (wholeZ (l.getD k 0) (Int.gcd (lcmF (l.take k)) (l.getD k 0) : Int) (by omega) (by omega) (gz hxn)) (L rfl) t2 ?_
  refine cK hG hX cl70 hN (mulZ (lcmF (l.take k)) (l.getD k 0 / (Int.gcd (lcmF (l.take k)) (l.getD k 0) : Int)) (by omega) (by omega)) (L rfl) t2 ?_
  refine sb (c_sm sz24 (by rfl) pa2 rfl pu2) t2 t1 ?_
  refine seq_nil ⟨aoks [⟨[3],[3],[13],[]⟩,⟨[5],[5],[14],[]⟩,⟨[3],[3],[15],[]⟩,⟨[5],[5],[16],[]⟩,⟨[15,16],[],[17],[]⟩,⟨[14,17],[],[18],[]⟩,⟨[13,18],[],[19],[]⟩,⟨[3,19],[3],[],[3]⟩] (by rfl) (by rfl) (by decide),?_⟩
  refine exr0 (sw (c_ad (L rfl) (w64 (by omega) (by omega))) t2 t0 ?_)
  refine mV (L rfl) rfl (seq_nil ?_)
  exact ⟨k + 1,(by omega),by omega,le_of ⟨(by first | exact rfl | exact oi (by omega) rfl),rfl,rfl,rfl,rfl,trivial⟩ ⟨obl rfl (by rw [lcmF_take hkl]; rfl),rfl,trivial⟩⟩
 ·have hc:=df hc
  refine ex_exit (show Exec _ _ _ _ _ from ?_)
  refine exr (lp2 ag24 sz24 (L rfl) rfl rfl (sb (c_sm sz24 (by rfl) pa2 rfl pu2) t2 t1 ?_))
  refine zn [(2,_)] [(2,_)] t1 t1 (ex_ret ?_)
  refine ⟨.inr rfl,ResVs.cast (.cons (.agg rfl rfl rfl ag24 sz24 (.cons (.cons .nil))) .nil) ?_⟩
  rw [List.take_of_length_le (by omega)]
def comD (l : List Rat) : Int:=lcmF (l.map fun a=>(a.den : Int))
def comN (l : List Rat) : List Int:=l.map fun a=>a.num * (comD l / a.den)
theorem denL {l : List Rat} {i : Nat} (h : i < l.length) : (l.map fun a=>(a.den : Int)).take (i + 1) = (l.map fun a=>(a.den : Int)).take i ++ [((l.getD i 0).den : Int)]:=by
 rw [takeZ (by simpa using h)]; simp [List.getD_eq_getElem?_getD,h]
theorem comNL {l : List Rat} {i : Nat} (h : i < l.length) : (comN l).take (i + 1) = (comN l).take i ++ [(l.getD i 0).num * (comD l / (l.getD i 0).den)]:=by
 rw [takeZ (by simpa [comN] using h)]; simp [comN,List.getD_eq_getElem?_getD,h]
theorem com_bd {l : List Rat} {B : Nat} (hB : ∀ a ∈ l,qw a ≤ B) : ∀ x ∈ l.map (fun a=>(a.den : Int)),nw x ≤ B:=by
 intro x hx
 obtain ⟨a,ha,rfl⟩:=List.mem_map.1 hx
 exact Nat.le_trans (nw_den_le a) (hB a ha)
theorem comD_nw {l : List Rat} {B : Nat} (hB : ∀ a ∈ l,qw a ≤ B) : nw (comD l) ≤ 1 + l.length * B:=by
 have:=nw_lcmF (com_bd hB) l.length
 rw [List.take_of_length_le (by simp)] at this
 rw [List.length_map] at this
 exact this
theorem quo_le' {a b : Int} : nw (a / b) ≤ nw a:=nw_mono (Int.natAbs_ediv_le_natAbs a b)
theorem gDQ {v : List Rat} {i : Nat} (h : i < v.length) : v.getD i 0 ∈ v:=by simp [List.getD_eq_getElem?_getD,h]
theorem com_says (l : List Rat) (B : Nat) (h1 : 0 < l.length) (hl : l.length < 100000) (hB : ∀ a ∈ l,qw a ≤ B) (hb : 1 + l.length * B < 900000000) : Says E 42 [pV l] (.tup [pVZ (comN l),pZ (comD l),vZ 0]):=by
 refine says_of (xs:=[pVZ (comN l),pZ (comD l),vZ 0]) Tryz.func42 rfl Tryz.ntmps42 Tryz.results42 (by simp) fun F hG hX0 hnt hdf P0=>?_
 obtain ⟨L,hX,hN⟩:=pro hnt hX0 hG
 have hBl : 1 * B ≤ l.length * B:=Nat.mul_le_mul_right _ h1
 have hd:=comD_nw hB
 refine exr (aV (L rfl) rfl (swb (c_al (k:=3) (n:=2) zv24 (.cons rfl (.cons rfl .nil)) rfl (P0 _ rfl) (L rfl)) t0 t0 ⟨rfl,rfl⟩ (aV (L rfl) rfl (zn [(0,_),(2,_),(3,_)] [(3,_)] t3 t1 (exr (aV (L rfl) rfl (zn [(0,_),(2,_),(3,_),(5,_)] [(3,_)] t4 t1 (ex_seq (exr (mV (L rfl) rfl (sw (c_ln un47 (L rfl)) t1 t0 ?_)))))))))))
 refine mV (L rfl) rfl (zn [(0,_),(2,_),(3,_),(5,_),(10,_),(11,_),(12,_)] [(3,_)] t7 t1 (ex_block ?_))
 refine exlp (α:=Nat) (fun k=>[(12,vi (k:Int)),(5,.ref 20 0 k (k * 2))]) (fun k=>[(20,rowZ ((l.map fun a=>(a.den : Int)).take k))]) (fun k=>k ≤ l.length ∧ 0 < k) (fun k=>l.length - k) (l.length + 1) (sl:=[(0,_),(2,_),(3,_),(10,_),(11,_)]) (hb:=[(3,_)]) t5 t1 ?_ ?_
 ·refine exr (sw (c_ls (L rfl)) t2 t0 (zn [(0,_),(2,_),(3,_),(5,_),(10,_),(11,_),(12,_),(13,_)] [(3,_)] t8 t1 (ex_seq ?_)))
  refine ex_if rfl (fun hc=>?_) (fun hc=>?_)
  ·refine ex_skip (show Exec _ _ _ _ _ from ?_)
   refine ex_seq (ex_block (exr (sw (core_indexAddrJ un47 sz26 (by decide) (by omega) (by simp) (by decide) (L rfl)) t2 t0 ?_)))
   refine sw (c_la ag26 sz26 (getQ h1) rfl (L rfl)) t1 t0 (swb (c_al (k:=7) (n:=4) zv26 (.cons rfl (.cons rfl (.cons rfl (.cons rfl .nil)))) rfl (P0 _ rfl) (L rfl)) t0 t0 ⟨rfl,rfl⟩ (sb (c_sm sz26 (by rfl) pa4 rfl pu4) t2 t1 ?_))
   refine zn [(0,_),(2,_),(3,_),(5,_),(7,_),(10,_),(11,_),(12,_)] [(3,_),(7,_)] t8 t2 (exr0 (mV (L rfl) rfl (sw (c_fa un26 rfl sz24 (by decide) (by exact rfl) (L rfl)) t1 t1 ?_)))
   refine lp2 ag24 sz24 (L rfl) rfl rfl (sw (c_bI (vs:=[_]) un48 ti24 rfl rfl (by decide) (by decide) rfl (zs_made (.cons rfl (.cons rfl .nil)) rfl) rfl (.cons rfl pa2 rfl pu2 .nil) (.cons (.cons .nil)) (L rfl)) t1 t0 ?_)
   refine swb (apN (k:=20) (sz:=2) un48 un48 ti24 rfl rfl rfl (by decide) (by simp) rfl (by first | (simp [Tryz.t24]; done) | (simp [Tryz.t24]; omega)) (by omega) (P0 _ rfl) (L rfl)) t2 t0 ⟨rfl,rfl⟩ ?_
   refine aV (L rfl) rfl (seq_nil (exr0 (sw (c_ad (L rfl) (w64 (by omega) (by omega))) t2 t0 ?_)))
   refine mV (L rfl) rfl (seq_nil ?_)
   exact ⟨1,(by omega),(by omega),le_of ⟨(by first | exact rfl | exact oi (by omega) rfl),(by first | exact rfl | exact oi (by omega) rfl),rfl,rfl,rfl,rfl,rfl,trivial⟩ ⟨obl rfl (by rw [denL h1]; rfl),rfl,trivial⟩⟩
  ·have hc:=df hc
   omega
 ·intro k hk
  obtain ⟨hk,hk0⟩:=hk
  refine exr (sw (c_ls (L rfl)) t2 t0 (zn [(0,_),(2,_),(3,_),(5,_),(10,_),(11,_),(12,_),(13,_)] [(3,_),(20,_)] t8 t2 (ex_seq ?_)))
  refine ex_if rfl (fun hc=>?_) (fun hc=>?_)
  ·have hc:=dt hc
   have hkl : k < l.length:=by omega
   refine ex_skip (show Exec _ _ _ _ _ from ?_)
   refine ex_seq (ex_block (exr (sw (core_indexAddrJ un47 sz26 (by omega) (by omega) (by simp) (by decide) (L rfl)) t2 t0 ?_)))
   refine sw (c_la ag26 sz26 (getQ hkl) rfl (L rfl)) t1 t0 (swb (c_al (k:=7) (n:=4) zv26 (.cons rfl (.cons rfl (.cons rfl (.cons rfl .nil)))) rfl (P0 _ rfl) (L rfl)) t0 t0 ⟨rfl,rfl⟩ (sb (c_sm sz26 (by rfl) pa4 rfl pu4) t2 t1 ?_))
   refine zn [(0,_),(2,_),(3,_),(5,_),(7,_),(10,_),(11,_),(12,_)] [(3,_),(7,_),(20,_)] t8 t3 (exr0 (mV (L rfl) rfl (sw (c_fa un26 rfl sz24 (by decide) (by exact rfl) (L rfl)) t1 t1 ?_)))
   refine lp2 ag24 sz24 (L rfl) rfl rfl (sw (c_bI (vs:=[_]) un48 ti24 rfl rfl (by decide) (by decide) rfl (zs_made (.cons rfl (.cons rfl .nil)) rfl) rfl (.cons rfl pa2 rfl pu2 .nil) (.cons (.cons .nil)) (L rfl)) t1 t0 ?_)
   refine swb (apP (sz:=2) un48 un48 ti24 rfl rfl rfl (by decide) (by exact (by simp <;> omega)) (by first | omega | rfl) (by simp) rfl rfl rfl (by first | (simp [Tryz.t24]; done) | (simp [Tryz.t24]; omega)) (by omega) (P0 _ rfl) (L rfl)) t2 t1 t0 ?_
   refine aV (L rfl) rfl (seq_nil (exr0 (sw (c_ad (L rfl) (w64 (by omega) (by omega))) t2 t0 ?_)))
   refine mV (L rfl) rfl (seq_nil ?_)
   exact ⟨k + 1,(by omega),(by omega),le_of ⟨(by first | exact rfl | exact oi (by omega) rfl),(by exact ov rfl (by simp; omega)),rfl,rfl,rfl,rfl,rfl,trivial⟩ ⟨obl rfl (by rw [denL hkl]; exact rowZn _ _),rfl,trivial⟩⟩
  ·have hc:=df hc
   obtain rfl : k = l.length:=by omega
   have hm:=mult_says (l.map fun a=>(a.den : Int)) B (by simpa using hl) (fun x hx=>by obtain ⟨a,_,rfl⟩:=List.mem_map.1 hx; exact den_ne a) (com_bd hB) (by rw [List.length_map]; omega)
   rw [show (l.map fun a=>(a.den : Int)).take l.length = l.map fun a=>(a.den : Int) from List.take_of_length_le (by simp)]
   refine ex_exit (show Exec _ _ _ _ _ from ?_)
   refine ex_cv [20] (sl:=[(0,_),(2,_),(3,_),(5,_)]) (hb:=[(3,_)]) (own_none hX0) ⟨⟨_,rfl,.same⟩,⟨_,rfl,.same⟩,⟨_,rfl,.same⟩,⟨_,rfl,(.ref rfl rfl (by exact (by simp <;> omega)) (by first | rfl | omega))⟩,trivial⟩ ⟨⟨rfl,_,rfl,.same⟩,trivial⟩ ?_
   rw [pVZ,List.length_map] at hm
   refine exr (mV (L rfl) rfl (cK hG hX cl83 hN hm (L rfl) t1 (sb (c_sm sz24 (by rfl) pa2 rfl pu2) t2 t1 ?_)))
   refine zn [(0,_),(2,_),(3,_)] [(3,_)] t3 t1 (ex_seq (exr (mV (L rfl) rfl (sw (c_ln un47 (L rfl)) t1 t0 (mV (L rfl) rfl (zn [(2,_),(3,_),(24,_),(25,_),(26,_)] [(3,_)] t5 t1 ?_))))))
   have e1 : lcmF (l.map fun a=>(a.den : Int)) = comD l:=rfl
   rw [e1]
   refine ex_block ?_
   refine exlp (α:=Nat) (fun k=>[(26,vi (k:Int)),(2,.ref 39 0 k (k * 2))]) (fun k=>[(39,rowZ ((comN l).take k))]) (fun k=>k ≤ l.length ∧ 0 < k) (fun k=>l.length - k) (l.length + 1) (sl:=[(3,_),(24,_),(25,_)]) (hb:=[(3,_)]) t3 t1 ?_ ?_
   ·refine exr (sw (c_ls (L rfl)) t2 t0 (zn [(2,_),(3,_),(24,_),(25,_),(26,_),(27,_)] [(3,_)] t6 t1 (ex_seq ?_)))
    refine ex_if rfl (fun hc=>?_) (fun hc=>?_)
    ·have q1:=nw_num_le (l.getD 0 0)
     have q2:=nw_den_le (l.getD 0 0)
     have q3:=hB _ (gDQ h1)
     have q4:=quo_le' (a:=comD l) (b:=(l.getD 0 0).den)
     refine ex_skip (show Exec _ _ _ _ _ from ?_)
     refine ex_seq (ex_block (exr (sw (core_indexAddrJ un47 sz26 (by decide) (by omega) (by simp) (by decide) (L rfl)) t2 t0 ?_)))
     refine sw (c_la ag26 sz26 (getQ h1) rfl (L rfl)) t1 t0 (swb (c_al (k:=9) (n:=4) zv26 (.cons rfl (.cons rfl (.cons rfl (.cons rfl .nil)))) rfl (P0 _ rfl) (L rfl)) t0 t0 ⟨rfl,rfl⟩ (sb (c_sm sz26 (by rfl) pa4 rfl pu4) t2 t1 ?_))
     refine zn [(2,_),(3,_),(9,_),(24,_),(25,_),(26,_)] [(3,_),(9,_)] t6 t2 (exd0 (by rfl) ?_)
     refine mV (L rfl) rfl (sw (c_fa un26 rfl sz24 (by decide) (by exact rfl) (L rfl)) t1 t1 ?_)
     refine lp2 ag24 sz24 (L rfl) rfl rfl (lp2 ag24 sz24 (L rfl) rfl rfl (sw (c_fa un26 rfl sz24 (by decide) (by exact rfl) (L rfl)) t1 t1 ?_))
     refine lp2 ag24 sz24 (L rfl) rfl rfl (cK hG hX cl74 hN (wholeZ (comD l) (l.getD 0 0).den (by omega) (by omega) (den_ne _)) (L rfl) t2 ?_)
     refine cK hG hX cl70 hN (mulZ (l.getD 0 0).num (comD l / (l.getD 0 0).den) (by omega) (by omega)) (L rfl) t2 ?_
     refine sw (c_bI (vs:=[_]) un48 ti24 rfl rfl (by decide) (by decide) rfl (zs_made (.cons rfl (.cons rfl .nil)) rfl) rfl (.cons rfl pa2 rfl pu2 .nil) (.cons (.cons .nil)) (L rfl)) t1 t0 ?_
     refine swb (apN (k:=39) (sz:=2) un48 un48 ti24 rfl rfl rfl (by decide) (by simp) rfl (by first | (simp [Tryz.t24]; done) | (simp [Tryz.t24]; omega)) (by omega) (P0 _ rfl) (L rfl)) t2 t0 ⟨rfl,rfl⟩ ?_
     refine aV (L rfl) rfl ?_
     refine seq_nil ⟨aok rfl rfl,?_⟩
     refine exr0 (sw (c_ad (L rfl) (w64 (by omega) (by omega))) t2 t0 ?_)
     refine mV (L rfl) rfl (seq_nil ?_)
     exact ⟨1,(by omega),(by omega),le_of ⟨(by first | exact rfl | exact oi (by omega) rfl),(by first | exact rfl | exact oi (by omega) rfl),rfl,rfl,rfl,trivial⟩ ⟨obl rfl (by rw [comNL h1]; rfl),rfl,trivial⟩⟩
    ·have hc:=df hc
     omega
   ·intro k hk
    obtain ⟨hk,hk0⟩:=hk
    refine exr (sw (c_ls (L rfl)) t2 t0 (zn [(2,_),(3,_),(24,_),(25,_),(26,_),(27,_)] [(3,_),(39,_)] t6 t2 (ex_seq ?_)))
    refine ex_if rfl (fun hc=>?_) (fun hc=>?_)
    ·have hc:=dt hc
     have hkl : k < l.length:=by omega
     have q1:=nw_num_le (l.getD k 0)
     have q2:=nw_den_le (l.getD k 0)
     have q3:=hB _ (gDQ hkl)
     have q4:=quo_le' (a:=comD l) (b:=(l.getD k 0).den)
     refine ex_skip (show Exec _ _ _ _ _ from ?_)
     refine ex_seq (ex_block (exr (sw (core_indexAddrJ un47 sz26 (by omega) (by omega) (by simp) (by decide) (L rfl)) t2 t0 ?_)))
     refine sw (c_la ag26 sz26 (getQ hkl) rfl (L rfl)) t1 t0 (swb (c_al (k:=9) (n:=4) zv26 (.cons rfl (.cons rfl (.cons rfl (.cons rfl .nil)))) rfl (P0 _ rfl) (L rfl)) t0 t0 ⟨rfl,rfl⟩ (sb (c_sm sz26 (by rfl) pa4 rfl pu4) t2 t1 ?_))
     refine zn [(2,_),(3,_),(9,_),(24,_),(25,_),(26,_)] [(3,_),(9,_),(39,_)] t6 t3 (exd0 (by rfl) ?_)
     refine mV (L rfl) rfl (sw (c_fa un26 rfl sz24 (by decide) (by exact rfl) (L rfl)) t1 t1 ?_)
     refine lp2 ag24 sz24 (L rfl) rfl rfl (lp2 ag24 sz24 (L rfl) rfl rfl (sw (c_fa un26 rfl sz24 (by decide) (by exact rfl) (L rfl)) t1 t1 ?_))
     refine lp2 ag24 sz24 (L rfl) rfl rfl (cK hG hX cl74 hN (wholeZ (comD l) (l.getD k 0).den (by omega) (by omega) (den_ne _)) (L rfl) t2 ?_)
     refine cK hG hX cl70 hN (mulZ (l.getD k 0).num (comD l / (l.getD k 0).den) (by omega) (by omega)) (L rfl) t2 ?_
     refine sw (c_bI (vs:=[_]) un48 ti24 rfl rfl (by decide) (by decide) rfl (zs_made (.cons rfl (.cons rfl .nil)) rfl) rfl (.cons rfl pa2 rfl pu2 .nil) (.cons (.cons .nil)) (L rfl)) t1 t0 ?_
     refine swb (apP (sz:=2) un48 un48 ti24 rfl rfl rfl (by decide) (by exact (by simp [comN] <;> omega)) (by first | omega | rfl) (by simp) rfl rfl rfl (by first | (simp [Tryz.t24]; done) | (simp [Tryz.t24]; omega)) (by omega) (P0 _ rfl) (L rfl)) t2 t1 t0 ?_
     refine aV (L rfl) rfl ?_
     refine seq_nil ⟨aoks [⟨[2],[],[30],[]⟩,⟨[9],[9],[31],[]⟩,⟨[31],[9],[32],[]⟩,⟨[3],[3],[33],[]⟩,⟨[9],[9],[34],[]⟩,⟨[34],[9],[35],[]⟩,⟨[33,35],[],[36],[]⟩,⟨[32,36],[],[37],[]⟩,⟨[37],[],[38],[]⟩,⟨[30,38],[39],[39],[39]⟩,⟨[39],[],[2],[]⟩] (by rfl) (by rfl) (by decide),?_⟩
     refine exr0 (sw (c_ad (L rfl) (w64 (by omega) (by omega))) t2 t0 ?_)
     refine mV (L rfl) rfl (seq_nil ?_)
     exact ⟨k + 1,(by omega),(by omega),le_of ⟨(by first | exact rfl | exact oi (by omega) rfl),(by exact ov rfl (by simp; omega)),rfl,rfl,rfl,trivial⟩ ⟨obl rfl (by rw [comNL hkl]; exact rowZn _ _),rfl,trivial⟩⟩
    ·have hc:=df hc
     obtain rfl : k = l.length:=by omega
     have e2 : (comN l).length = l.length:=by simp [comN]
     rw [show (comN l).take l.length = comN l from List.take_of_length_le (by omega)]
     refine ex_exit (show Exec _ _ _ _ _ from ?_)
     refine exd (by rfl) ?_
     refine mV (L rfl) rfl (lp2 ag24 sz24 (L rfl) rfl rfl (aV (L rfl) rfl (sb (c_sm sz24 (by rfl) pa2 rfl pu2) t2 t1 ?_)))
     refine aV (L rfl) rfl ?_
     refine seq_nil ⟨aoks [⟨[2],[],[41],[]⟩,⟨[3],[3],[42],[]⟩,⟨[41],[],[2],[]⟩,⟨[3,42],[3],[],[3]⟩,⟨[],[],[4],[]⟩] (by rfl) (by rfl) (by decide),[(2,_),(3,_),(4,_)],[(3,_),(39,_)],t3,t2,?_⟩
     refine ex_cv [39] (sl:=[(2,_),(3,_),(4,_)]) (hb:=[(3,_)]) (own_none hX0) ⟨⟨_,rfl,(.ref rfl rfl (by exact (by simp [comN] <;> omega)) (by first | rfl | omega))⟩,⟨_,rfl,.same⟩,⟨_,rfl,.same⟩,trivial⟩ ⟨⟨rfl,_,rfl,.same⟩,trivial⟩ ?_
     refine ex_ret ?_
     refine ⟨.inr rfl,ResVs.cast (.cons (.tmp rfl) (.cons (.agg rfl rfl rfl ag24 sz24 (.cons (.cons .nil))) (.cons (.tmp rfl) .nil))) ?_⟩
     rw [pVZ,e2]
end Go.Proofs.YtcifhkfpmhifaaaGreatDoor.N
set_option maxRecDepth 100000
set_option maxHeartbeats 4000000
namespace Go.Proofs.YtcifhkfpmhifaaaGreatDoor.N
open Go Go.Proofs.YtcifhkfpmhifaaaGreatDoor.SH Go.Proofs.YtcifhkfpmhifaaaGreatDoor.NumA
open Go.Proofs.Tryz renaming call30 → cl30,call63 → cl63,call64 → cl64,call65 → cl65,call98 → cl98,call99 → cl99,isAgg24 → ag24,sizeOf2 → sz2,sizeOf24 → sz24,underlying26 → un26
theorem str_app (a b : List UInt8) : str a ++ str b = str (a ++ b):=by
 apply ByteArray.ext; simp [str]
theorem sz2 {a b : List UInt8} (h : a.length + b.length ≤ 9223372036854775807) : (str a).size + (str b).size ≤ 9223372036854775807:=h
theorem itoa_len (n : Int) : (Lib.itoa n).length ≤ 10 * nw n + 2:=by
 have h : (Lib.decDigits n.natAbs).length ≤ 10 * nw n + 1:=dec_len (ten_big' n)
 unfold Lib.itoa; split
 ·rw [List.length_cons]; omega
 ·rw [show n.toNat = n.natAbs by omega]; omega
theorem printV_Z (n : Int) : printV (decide (n < 0)) (digs n.natAbs) = Lib.itoa n:=by rw [printV,if_pos (canon_digs n),sg_digs]
theorem printZ (n : Int) (h : nw n < 100000) : Says E 98 [pZ n] (pS (Lib.itoa n)):=by
 have:=print_says (decide (n < 0)) (digs n.natAbs) (by unfold nw at h; omega) (wd_digs _)
 rwa [printV_Z] at this
def printQ (a : Rat) : List UInt8:=if (a.den : Int) = 1 then Lib.itoa a.num else Lib.itoa a.num ++ (47 :: Lib.itoa a.den)
theorem qprint_says (a : Rat) (ha : qw a < 100000) : Says E 52 [pQ a] (pS (printQ a)):=by
 refine says_of (xs:=[pS (printQ a)]) Tryz.func52 rfl Tryz.ntmps52 Tryz.results52 (by simp) fun F hG hX0 hnt hdf P0=>?_
 obtain ⟨L,hX,hN⟩:=pro hnt hX0 hG
 have h1:=nw_num_le a
 have h2:=nw_den_le a
 have l1:=itoa_len a.num
 have l2:=itoa_len a.den
 refine exr (swb (c_bx (k:=1) (n:=4) pa4 rfl rfl (P0 _ rfl) (L rfl)) t1 t0 ⟨rfl,rfl⟩ (aV (L rfl) rfl (zn [(1,_)] [(1,_)] t1 t1 (ex_seq (exd (by rfl) ?_)))))
 refine sw (c_fa un26 rfl sz24 (by decide) (by exact rfl) (L rfl)) t1 t1 ?_
 refine lp2 ag24 sz24 (L rfl) rfl rfl (cK hG hX cl63 hN one_says (L rfl) t0 (cK hG hX cl65 hN (cmpZ a.den 1 (by omega) (by rw [nw_one]; decide)) (L rfl) t2 ?_))
 refine sw (c_e (L rfl)) t2 t0 ?_
 refine seq_nil ⟨aoks [⟨[1],[1],[3],[]⟩,⟨[3],[1],[4],[]⟩,⟨[],[],[5],[]⟩,⟨[4,5],[],[6],[]⟩,⟨[6],[],[7],[]⟩] (by rfl) (by rfl) (by decide),[(1,_),(7,_)],[(1,_)],t2,t1,?_⟩
 refine ex_if rfl (fun hc=>?_) (fun hc=>?_)
 ·have hc:=cmp0.1 (dt hc)
  refine exr (sw (c_fa un26 rfl sz24 (by decide) (by exact rfl) (L rfl)) t1 t1 ?_)
  refine lp2 ag24 sz24 (L rfl) rfl rfl (cK hG hX cl98 hN (printZ a.num (by omega)) (L rfl) t1 ?_)
  refine aV (L rfl) rfl (zn [(2,_)] [] t1 trivial (ex_ret ?_))
  refine ⟨.inr rfl,ResVs.cast (.cons (.tmp rfl) .nil) ?_⟩
  rw [printQ,if_pos hc]
 ·have hc : ¬ (a.den : Int) = 1:=fun c=>df hc (cmp0.2 c)
  refine ex_skip (show Exec _ _ _ _ _ from ?_)
  refine exd (by rfl) ?_
  refine sw (c_fa un26 rfl sz24 (by decide) (by exact rfl) (L rfl)) t1 t1 ?_
  refine lp2 ag24 sz24 (L rfl) rfl rfl (cK hG hX cl98 hN (printZ a.num (by omega)) (L rfl) t1 ?_)
  refine sw (c_sa (L rfl) (sz2 (a:=Lib.itoa a.num) (b:=[47]) (by simp; omega)) (show _ = str (Lib.itoa a.num ++ [47]) from str_app _ [47])) t2 t0 ?_
  refine sw (c_fa un26 rfl sz24 (by decide) (by exact rfl) (L rfl)) t1 t1 ?_
  refine lp2 ag24 sz24 (L rfl) rfl rfl (cK hG hX cl98 hN (printZ a.den (by omega)) (L rfl) t1 ?_)
  refine sw (c_sa (L rfl) (sz2 (a:=Lib.itoa a.num ++ [47]) (b:=Lib.itoa a.den) (by simp; omega)) (str_app _ _)) t2 t0 ?_
  refine aV (L rfl) rfl ?_
  refine seq_nil ⟨aoks [⟨[1],[1],[11],[]⟩,⟨[11],[1],[12],[]⟩,⟨[12],[],[13],[]⟩,⟨[13],[],[14],[]⟩,⟨[1],[1],[15],[]⟩,⟨[15],[1],[16],[]⟩,⟨[16],[],[17],[]⟩,⟨[14,17],[],[18],[]⟩,⟨[18],[],[2],[]⟩] (by rfl) (by rfl) (by decide),[(2,_)],[],t1,trivial,?_⟩
  refine ex_ret ?_
  refine ⟨.inr rfl,ResVs.cast (.cons (.tmp rfl) .nil) ?_⟩
  rw [printQ,if_neg hc]; simp
end Go.Proofs.YtcifhkfpmhifaaaGreatDoor.N
set_option maxRecDepth 100000
set_option maxHeartbeats 4000000
namespace Go.Proofs.YtcifhkfpmhifaaaGreatDoor.N
open Go Go.Proofs.YtcifhkfpmhifaaaGreatDoor.SH Go.Proofs.YtcifhkfpmhifaaaGreatDoor.NumA
open Go.Proofs.Tryz renaming call18 → cl18,call30 → cl30,call43 → cl43,call44 → cl44,call64 → cl64,call97 → cl97,isAgg24 → ag24,isAgg26 → ag26,sizeOf24 → sz24,sizeOf26 → sz26,underlying26 → un26,underlying9 → un9,zeroValue24 → zv24,zeroValue26 → zv26
theorem parse_ds {ds : List UInt8} {neg : Bool} (hd : Digits ds) (hn : ds ≠ []) (hl : ds.length ≤ 20000) (hh : (ds.getD 0 0).toNat ≠ 48 ∨ (ds.length = 1 ∧ neg = false)) : parseE (if neg then 45 :: ds else ds) = 0 ∧ parseV (if neg then 45 :: ds else ds) = sg neg (numI ds):=by
 have hlen : 0 < ds.length:=List.length_pos_iff.2 hn
 have h45 : (ds.getD 0 0).toNat ≠ 45:=by have:=hd.get (i:=0) hlen; omega
 have h1 : pNeg (if neg then 45 :: ds else ds) = neg:=by
  cases neg with
  | true=>simp [pNeg]
  | false =>
   have : ¬ (((ds.getD 0 0).toNat : Int) = 45):=by omega
   simp only [pNeg,Bool.false_eq_true,if_false]
   exact decide_eq_false (fun h=>this h.2)
 have h2 : pDs (if neg then 45 :: ds else ds) = ds:=by
  unfold pDs; rw [h1]
  cases neg <;> simp
 have h3 : pBad ds neg = false:=by
  unfold pBad
  refine decide_eq_false ?_
  rintro (h | ⟨h,h'⟩)
  ·omega
  ·rcases hh with hh | ⟨hh,rfl⟩
   ·omega
   ·rcases h' with h' | h'
    ·omega
    ·cases h'
 have h4 : parseE (if neg then 45 :: ds else ds) = 0:=by
  rw [parseE,h1,h2,if_neg,if_neg (by omega)]
  rintro (h | h)
  ·rw [h3] at h; cases h
  ·exact h hd
 refine ⟨h4,?_⟩
 rw [parseV,if_pos h4,h1,h2]
theorem parse_itoa {a : Int} (hw : nw a ≤ 1000) : parseE (Lib.itoa a) = 0 ∧ parseV (Lib.itoa a) = a:=by
 have h:=ten_big' a
 have hd:=fun u=>dec_digits u u (Nat.le_refl _)
 have hne : ∀ u,Lib.decDigits u ≠ []:=fun u e=>by have:=dec_pos u; rw [e] at this; simp at this
 by_cases hn : a < 0
 ·obtain ⟨d1,d2⟩:=hd a.natAbs
  have:=parse_ds (neg:=true) d1 (hne _) (Nat.le_trans (dec_len h) (by omega)) (.inl (dec_head _ _ (Nat.le_refl _) (by omega)))
  rw [if_pos rfl,d2] at this
  rw [Lib.itoa,if_pos hn]
  refine ⟨this.1,this.2.trans ?_⟩
  simp only [sg,if_true]; omega
 ·obtain ⟨d1,d2⟩:=hd a.toNat
  have hl:=dec_len (u:=a.toNat) (k:=10 * nw a) (by rw [show a.toNat = a.natAbs by omega]; exact h)
  have:=parse_ds (neg:=false) d1 (hne _) (Nat.le_trans hl (by omega)) (by
   by_cases h0 : a.toNat = 0
   ·rw [h0,dec_small (by decide)]; exact .inr ⟨rfl,rfl⟩
   ·exact .inl (dec_head _ _ (Nat.le_refl _) (by omega)))
  rw [if_neg (by decide),d2] at this
  rw [Lib.itoa,if_neg hn]
  refine ⟨this.1,this.2.trans ?_⟩
  simp only [sg]; rw [if_neg (by decide)]; omega
theorem itoa_parse {bs : List UInt8} (h : parseE bs = 0) : Lib.itoa (parseV bs) = bs:=by
 have hv : parseV bs = sg (pNeg bs) (numI (pDs bs)):=by rw [parseV,if_pos h]
 rw [parseE] at h
 split at h
 ·omega
 ·rename_i hb
  have hbad : ¬ pBad (pDs bs) (pNeg bs) = true:=fun e=>hb (.inl e)
  have hd : Digits (pDs bs):=by
   by_cases hd : Digits (pDs bs)
   ·exact hd
   ·exact absurd (.inr hd) hb
  unfold pBad at hbad
  rw [decide_eq_true_eq] at hbad
  have hlen : (pDs bs).length ≠ 0:=fun e=>hbad (.inl e)
  obtain ⟨k,hk⟩ : ∃ k,(pDs bs).length = k + 1:=⟨(pDs bs).length - 1,by omega⟩
  have hbd:=numI_bd hd
  rw [hv]
  cases hn : pNeg bs with
  | true =>
   rw [hn] at hbad
   have h48 : ((pDs bs).getD 0 0).toNat ≠ 48:=fun e=>hbad (.inr ⟨by omega,.inr rfl⟩)
   obtain ⟨e1,e2⟩:=dec_num k _ hk hd (.inl h48)
   have hp:=e2 h48
   have e3 : (sg true (numI (pDs bs))).natAbs = (numI (pDs bs)).toNat:=by simp only [sg,if_true]; omega
   rw [Lib.itoa,if_pos (by simp only [sg,if_true]; omega),e3,e1]
   have h0 : bs ≠ []:=by intro e; subst e; simp [pNeg] at hn
   obtain ⟨c,l,rfl⟩:=List.exists_cons_of_ne_nil h0
   unfold pDs
   rw [if_pos hn]
   have : (c.toNat : Int) = 45:=by
    unfold pNeg at hn
    rw [decide_eq_true_eq] at hn
    exact hn.2
   have hc : c = 45:=by
    have h45 : (45 : UInt8).toNat = 45:=rfl
    have : c.toNat = (45 : UInt8).toNat:=by omega
    exact UInt8.toNat_inj.1 this
   rw [hc]; rfl
  | false =>
   rw [hn] at hbad
   have hh : ((pDs bs).getD 0 0).toNat ≠ 48 ∨ k = 0:=by
    by_cases e : ((pDs bs).getD 0 0).toNat = 48
    ·right
     by_cases hk0 : k = 0
     ·exact hk0
     ·exact absurd (.inr ⟨by omega,.inl (by omega)⟩) hbad
    ·exact .inl e
   obtain ⟨e1,-⟩:=dec_num k _ hk hd hh
   have e3 : (sg false (numI (pDs bs))).toNat = (numI (pDs bs)).toNat:=rfl
   rw [Lib.itoa,if_neg (by simp only [sg]; rw [if_neg (by decide)]; omega),e3,e1]
   unfold pDs
   rw [if_neg (by rw [hn]; decide)]
theorem nw_parse (bs : List UInt8) : nw (parseV bs) ≤ bs.length:=by
 unfold parseV
 split
 ·rename_i h
  have hd : Digits (pDs bs):=by
   rw [parseE] at h
   split at h
   ·omega
   ·rename_i hb
    by_cases hd : Digits (pDs bs)
    ·exact hd
    ·exact absurd (.inr hd) hb
  have hl : (pDs bs).length ≤ bs.length:=by unfold pDs; split <;> simp
  obtain ⟨b0,b1⟩:=numI_bd hd
  apply nw_le
  have h1 : (sg (pNeg bs) (numI (pDs bs))).natAbs = (numI (pDs bs)).toNat:=by unfold sg; split <;> omega
  have h2 : (10 : Nat) ^ (pDs bs).length ≤ 4294967296 ^ (pDs bs).length:=Nat.pow_le_pow_left (by decide) _
  have h3 : (4294967296 : Nat) ^ (pDs bs).length ≤ 4294967296 ^ bs.length:=Nat.pow_le_pow_right (by decide) hl
  have h4 : ((10 ^ (pDs bs).length : Nat) : Int) ≤ ((4294967296 ^ bs.length : Nat) : Int):=Int.ofNat_le.2 (Nat.le_trans h2 h3)
  rw [Int.natCast_pow,Int.natCast_pow] at h4
  rw [h1,Int.toNat_of_nonneg b0]
  exact Int.lt_of_lt_of_le b1 h4
 ·rw [nw_zero.2 rfl]; exact Nat.zero_le _
def cutN : List UInt8 → Nat
 | []=>0
 | c :: l=>if c.toNat = 47 then 0 else cutN l + 1
theorem cutN_le : ∀ bs : List UInt8,cutN bs ≤ bs.length
 | []=>Nat.le_refl _
 | c :: l=>by
  have:=cutN_le l
  unfold cutN; split
  ·exact Nat.zero_le _
  ·simpa using this
def ab (bs : List UInt8) : List UInt8:=bs.take (cutN bs)
def be (bs : List UInt8) : List UInt8:=bs.drop (cutN bs + 1)
def pqBad (bs : List UInt8) : Bool:=decide (parseE (be bs) = 3 ∨ pNeg (be bs) = true ∨ parseV (be bs) = 1 ∨ (parseE (be bs) = 0 ∧ parseV (be bs) = 0))
def pqE (bs : List UInt8) : Int :=
 if parseE (ab bs) = 3 then 3
 else if cutN bs = bs.length then parseE (ab bs)
 else if pqBad bs = true then 3
 else if parseE (ab bs) ≠ 0 ∨ parseE (be bs) ≠ 0 then 2
 else if (Int.gcd (parseV (ab bs)) (parseV (be bs)) : Int) = 1 then 0 else 3
def pqV (bs : List UInt8) : RQ:=if pqE bs = 0 then RQ.of (if cutN bs = bs.length then (parseV (ab bs) : Rat) else Rat.divInt (parseV (ab bs)) (parseV (be bs))) else R0
theorem parseE_cases (bs : List UInt8) : parseE bs = 0 ∨ parseE bs = 2 ∨ parseE bs = 3:=by
 unfold parseE; split
 ·exact .inr (.inr rfl)
 ·split
  ·exact .inr (.inl rfl)
  ·exact .inl rfl
theorem pN_of {n d : Int} (hd : 0 < d) (hg : (Int.gcd n d : Int) = 1) : pN n d = pQ (Rat.divInt n d):=by
 have h1 : sgcd n d = 1:=by rw [sgcd,if_neg (by omega)]; exact hg
 exact cN (by rw [ovr_num (by omega),h1,Int.ediv_one]) (by rw [ovr_den (by omega),h1,Int.ediv_one])
theorem parse_pos {bs : List UInt8} (h1 : pNeg bs = false) (h2 : parseV bs ≠ 0) : 0 < parseV bs:=by
 unfold parseV at h2 ⊢
 split
 ·rename_i h
  rw [if_pos h] at h2
  have hd : Digits (pDs bs):=by
   rw [parseE] at h
   split at h
   ·omega
   ·rename_i hb
    by_cases hd : Digits (pDs bs)
    ·exact hd
    ·exact absurd (.inr hd) hb
  have:=(numI_bd hd).1
  rw [h1] at h2 ⊢
  simp only [sg,Bool.false_eq_true,if_false] at h2 ⊢
  omega
 ·rename_i h
  rw [if_neg h] at h2; exact absurd rfl h2
end Go.Proofs.YtcifhkfpmhifaaaGreatDoor.N
set_option maxRecDepth 100000
set_option maxHeartbeats 4000000
namespace Go.Proofs.YtcifhkfpmhifaaaGreatDoor.N
open Go Go.Proofs.YtcifhkfpmhifaaaGreatDoor.SH Go.Proofs.YtcifhkfpmhifaaaGreatDoor.NumA
open Go.Proofs.Tryz renaming call54 → cl54,call56 → cl56,isAgg26 → ag26,sizeOf26 → sz26,typeInfo26 → ti26,underlying47 → un47
end Go.Proofs.YtcifhkfpmhifaaaGreatDoor.N
namespace Go.Proofs.YtcifhkfpmhifaaaGreatDoor.NumA
theorem sub_int (x : Rat) (n : Int) : (x - (n : Rat)).num = x.num - n * x.den ∧ (x - (n : Rat)).den = x.den:=by
  have hc : (x.num - n * x.den).natAbs.Coprime x.den:=by
    have:=x.reduced
    unfold Nat.Coprime at this ⊢
    have h : Int.gcd (x.num - n * x.den) x.den = Int.gcd x.num x.den:=by
      rw [Int.sub_eq_add_neg,← Int.neg_mul,Int.gcd_add_mul_right_left]
    exact h.trans this
  have e : x - (n : Rat) = ⟨x.num - n * x.den,x.den,x.den_nz,hc⟩:=by
    rw [Rat.mk_eq_mkRat,Rat.sub_def',Rat.num_intCast,Rat.den_intCast]
    simp
  rw [e]; exact ⟨rfl,rfl⟩
theorem inv_pos_nd {x : Rat} (h : 0 < x) : (x⁻¹).num = x.den ∧ ((x⁻¹).den : Int) = x.num:=by
  have h1 : 0 < x.num:=by
    rcases Int.lt_trichotomy x.num 0 with c | c | c
    · have:=Rat.num_nonneg.2 (Rat.le_of_lt h); omega
    · rw [Rat.num_eq_zero] at c; rw [c] at h; exact absurd h (by decide)
    · exact c
  rw [Rat.num_inv,Rat.den_inv,Int.sign_eq_one_of_pos h1,if_neg (by omega)]
  omega
def cfE (lo hi : Rat) : Bool:=decide ((lo.floor : Rat) = lo) || decide (((lo.floor + 1 : Int) : Rat) ≤ hi)
def cfX (lo hi : Rat) : Int:=if (lo.floor : Rat) = lo then lo.floor else if ((lo.floor + 1 : Int) : Rat) ≤ hi then lo.floor + 1 else lo.floor
def cfN (lo hi : Rat) : Rat × Rat:=((hi - (lo.floor : Rat))⁻¹,(lo - (lo.floor : Rat))⁻¹)
def cf : Nat → Rat → Rat → List Int
  | 0,_,_=>[]
  | n + 1,lo,hi=>cfX lo hi :: if cfE lo hi = true then [] else cf n (cfN lo hi).1 (cfN lo hi).2
def cfZ : Nat → Rat → Rat → Rat × Rat
  | 0,lo,hi=>(lo,hi)
  | n + 1,lo,hi=>if cfE lo hi = true then (lo,hi) else cfZ n (cfN lo hi).1 (cfN lo hi).2
def Fin' : Nat → Rat → Rat → Prop
  | 0,_,_=>False
  | n + 1,lo,hi=>cfE lo hi = true ∨ Fin' n (cfN lo hi).1 (cfN lo hi).2
theorem cfE_not {lo hi : Rat} (h0 : lo ≤ hi) (h : ¬ cfE lo hi = true) : (lo.floor : Rat) < lo ∧ hi < (lo.floor : Rat) + 1 ∧ 0 < lo - (lo.floor : Rat) ∧ 0 < hi - (lo.floor : Rat):=by
  simp only [cfE,Bool.or_eq_true,decide_eq_true_eq,not_or] at h
  obtain ⟨h1,h2⟩:=h
  have h3:=Rat.floor_le lo
  have h4 : hi < ((lo.floor + 1 : Int) : Rat):=Rat.not_le.1 h2
  rw [Rat.intCast_add] at h4
  have h5 : ((1 : Int) : Rat) = 1:=rfl
  rw [h5] at h4
  have h6 : (lo.floor : Rat) < lo:=Rat.lt_of_le_of_ne h3 h1
  refine ⟨h6,h4,by grind,by grind⟩
theorem cfN_nd {lo hi : Rat} (h0 : lo ≤ hi) (h : ¬ cfE lo hi = true) :
    (cfN lo hi).1.num = hi.den ∧ ((cfN lo hi).1.den : Int) = hi.num - lo.floor * hi.den ∧ (cfN lo hi).2.num = lo.den ∧ ((cfN lo hi).2.den : Int) = lo.num - lo.floor * lo.den:=by
  obtain ⟨h1,h2,h3,h4⟩:=cfE_not h0 h
  obtain ⟨a1,a2⟩:=inv_pos_nd h4
  obtain ⟨b1,b2⟩:=inv_pos_nd h3
  obtain ⟨c1,c2⟩:=sub_int hi lo.floor
  obtain ⟨d1,d2⟩:=sub_int lo lo.floor
  exact ⟨by rw [cfN,a1,c2],by rw [cfN,a2,c1],by rw [cfN,b1,d2],by rw [cfN,b2,d1]⟩
theorem one_lt_inv {x : Rat} (h0 : 0 < x) (h1 : x < 1) : 1 < x⁻¹:=by
  obtain ⟨a1,a2⟩:=inv_pos_nd h0
  rw [Rat.lt_iff] at h1 ⊢
  have e1 : (1 : Rat).num = 1:=rfl
  have e2 : (1 : Rat).den = 1:=rfl
  rw [e1,e2] at h1 ⊢
  rw [a1,a2]; simpa using h1
theorem inv_le_inv {x y : Rat} (h0 : 0 < x) (h : x ≤ y) : y⁻¹ ≤ x⁻¹:=by
  have hy : 0 < y:=by grind
  obtain ⟨a1,a2⟩:=inv_pos_nd h0
  obtain ⟨b1,b2⟩:=inv_pos_nd hy
  rw [Rat.le_iff] at h ⊢
  rw [a1,a2,b1,b2]
  rw [Int.mul_comm (y.den : Int),Int.mul_comm (x.den : Int)]; exact h
theorem cfN_le {lo hi : Rat} (h0 : lo ≤ hi) (h : ¬ cfE lo hi = true) : 1 < (cfN lo hi).1 ∧ (cfN lo hi).1 ≤ (cfN lo hi).2:=by
  obtain ⟨h1,h2,h3,h4⟩:=cfE_not h0 h
  refine ⟨one_lt_inv h4 (by grind),inv_le_inv h3 (by grind)⟩
theorem floor_ge1 {x : Rat} (h : 1 < x) : 1 ≤ x.floor:=by
  rw [Rat.le_floor_iff]; exact Rat.le_of_lt h
theorem num_lt {x : Rat} {n : Int} (h : x < (n : Rat) + 1) : x.num - n * x.den < x.den:=by
  have : x - (n : Rat) < 1:=by grind
  obtain ⟨c1,c2⟩:=sub_int x n
  rw [Rat.lt_iff,c1,c2] at this
  have e1 : (1 : Rat).num = 1:=rfl
  have e2 : (1 : Rat).den = 1:=rfl
  rw [e1,e2] at this; simpa using this
theorem fin_of : ∀ (b : Nat) (lo hi : Rat),lo ≤ hi → lo.den < 2 ^ b → Fin' (2 * b) lo hi
  | 0,lo,_,_,h=>by have:=lo.den_pos; simp at h; omega
  | b + 1,lo,hi,h0,h=>by
    show Fin' (2 * b + 1 + 1) lo hi
    by_cases e1 : cfE lo hi = true
    · exact .inl e1
    · refine .inr ?_
      obtain ⟨a1,a2⟩:=cfN_le h0 e1
      obtain ⟨-,-,n3,n4⟩:=cfN_nd h0 e1
      by_cases e2 : cfE (cfN lo hi).1 (cfN lo hi).2 = true
      · exact .inl e2
      · refine .inr (fin_of b _ _ (cfN_le a2 e2).2 ?_)
        obtain ⟨m1,m2,-,-⟩:=cfN_nd a2 e2
        obtain ⟨-,k2,-,-⟩:=cfE_not a2 e2
        have k3:=num_lt k2
        have k4:=floor_ge1 a1
        generalize (cfN (cfN lo hi).1 (cfN lo hi).2).1.den = D at m2
        generalize (cfN lo hi).1.floor = f at k3 k4 m2
        rw [n3] at k3 m2
        generalize ((cfN lo hi).2.den : Int) = r at k3 m2
        have hr : f * r ≥ 1 * r:=by
          by_cases c : 0 ≤ r
          · exact Int.mul_le_mul_of_nonneg_right k4 c
          · exfalso
            have : f * r ≤ 1 * r:=Int.mul_le_mul_of_nonpos_right k4 (by omega)
            omega
        rw [Nat.pow_succ] at h
        omega
theorem cf_len {n : Nat} {lo hi : Rat} (h : Fin' n lo hi) : 0 < (cf n lo hi).length:=by
  cases n with
  | zero=>exact h.elim
  | succ n=>simp [cf]
def cfV : List Int → Rat
  | []=>0
  | a :: l=>(a : Rat) + (cfV l)⁻¹
theorem cf_le : ∀ (n : Nat) (lo hi : Rat),(cf n lo hi).length ≤ n
  | 0,_,_=>Nat.le_refl _
  | n + 1,lo,hi=>by
    rw [cf,List.length_cons]
    split
    · simp
    · have:=cf_le n (cfN lo hi).1 (cfN lo hi).2; omega
theorem cfX_ge {lo hi : Rat} : lo.floor ≤ cfX lo hi ∧ cfX lo hi ≤ lo.floor + 1:=by
  unfold cfX; repeat' split <;> omega
theorem cfV_pos : ∀ {l : List Int},l ≠ [] → (∀ t ∈ l,1 ≤ t) → 1 ≤ cfV l
  | [],h,_=>absurd rfl h
  | [a],_,h=>by
    have h1:=h a (by simp)
    have h2 : ((1 : Int) : Rat) ≤ (a : Rat):=Rat.intCast_le_intCast.2 h1
    simp only [cfV,Rat.inv_zero]
    have h3 : ((1 : Int) : Rat) = 1:=rfl
    grind
  | a :: b :: l,_,h=>by
    have h1:=h a (by simp)
    have h2 : ((1 : Int) : Rat) ≤ (a : Rat):=Rat.intCast_le_intCast.2 h1
    have h4:=cfV_pos (l:=b :: l) (by simp) (fun t ht=>h t (by simp [ht]))
    have h5 : 0 < (cfV (b :: l))⁻¹:=Rat.inv_pos.2 (by grind)
    rw [cfV]
    have h3 : ((1 : Int) : Rat) = 1:=rfl
    grind
theorem qw_intB (n : Int) : qw (n : Rat) = max (nw n) 1:=by rw [qw,Rat.num_intCast,Rat.den_intCast]; rw [show ((1 : Nat) : Int) = 1 from rfl,nw_one]
theorem cfV_qw {B : Nat} : ∀ {l : List Int},(∀ t ∈ l,nw t ≤ B) → qw (cfV l) ≤ l.length * (B + 2) + 1
  | [],_=>by rw [cfV,qw_zero]; simp
  | a :: l,h=>by
    have h1:=h a (by simp)
    have h2:=cfV_qw (l:=l) (fun t ht=>h t (by simp [ht]))
    have h3:=qw_add (a : Rat) (cfV l)⁻¹
    have h4:=qw_intB a
    have h5 : qw (cfV l)⁻¹ ≤ qw (cfV l):=by
      by_cases c : cfV l = 0
      · rw [c,Rat.inv_zero]; exact Nat.le_refl _
      · exact qw_inv c
    rw [cfV,List.length_cons,Nat.add_mul]; omega
def simpP (lo hi : Rat) : Rat:=cfV (cf (2 * bl lo.den) lo hi)
end Go.Proofs.YtcifhkfpmhifaaaGreatDoor.NumA
namespace Go.Proofs.YtcifhkfpmhifaaaGreatDoor.SH
open Go Go.RowKit
def setL (t : Array Value) (l : List (Nat × Value)) : Array Value:=l.foldl (fun t p=>t.setIfInBounds p.1 p.2) t
theorem setL_size : ∀ (l : List (Nat × Value)) (t : Array Value),(setL t l).size = t.size
  | [],_=>rfl
  | p :: l,t=>by show (setL (t.setIfInBounds p.1 p.2) l).size = _; rw [setL_size l]; simp
theorem zip_none {α β : Type} {ps : List Nat} {vs : List α} {us : List β} {t : Nat} : vs.length = ps.length → us.length = ps.length → (ps.zip vs).lookup t = none → (ps.zip us).lookup t = none:=by
  induction ps generalizing vs us with
  | nil=>intros; rfl
  | cons p ps ih =>
    intro h1 h2 h
    cases vs with
    | nil=>simp at h1
    | cons v vs=>cases us with
      | nil=>simp at h2
      | cons u us =>
        simp only [List.zip_cons_cons,List.lookup_cons] at h ⊢
        split at h
        · cases h
        · exact ih (by simpa using h1) (by simpa using h2) h
theorem zip_at {α : Type} {ps : List Nat} {vs : List α} {i t : Nat} {u : α} (hn : ps.Nodup) (hi : ps[i]? = some t) (hu : vs[i]? = some u) : (ps.zip vs).lookup t = some u:=by
  induction ps generalizing vs i with
  | nil=>simp at hi
  | cons p ps ih =>
    cases vs with
    | nil=>simp at hu
    | cons v vs =>
      rw [List.nodup_cons] at hn
      cases i with
      | zero =>
        simp only [List.getElem?_cons_zero,Option.some.injEq] at hi hu
        subst hi hu
        simp [List.lookup_cons]
      | succ i =>
        simp only [List.getElem?_cons_succ] at hi hu
        have hm:=List.mem_of_getElem? hi
        have hne : (t == p) = false:=by
          rw [beq_eq_false_iff_ne]; intro e; subst e; exact hn.1 hm
        simp only [List.zip_cons_cons,List.lookup_cons,hne]
        exact ih hn.2 hi hu
theorem zip_lookup {α : Type} {ps : List Nat} {vs : List α} {t : Nat} {u : α} (hn : ps.Nodup) (h : (ps.zip vs).lookup t = some u) : ∃ i : Nat,ps[i]? = some t ∧ vs[i]? = some u:=by
  induction ps generalizing vs with
  | nil=>simp at h
  | cons p ps ih =>
    cases vs with
    | nil=>simp at h
    | cons v vs =>
      rw [List.nodup_cons] at hn
      simp only [List.zip_cons_cons,List.lookup_cons] at h
      split at h
      · rename_i e; injection h with h; subst h
        exact ⟨0,by simp [beq_iff_eq.1 e],rfl⟩
      · obtain ⟨i,h1,h2⟩:=ih hn.2 h
        exact ⟨i + 1,h1,h2⟩
theorem setL_get {ps : List Nat} {vs : List Value} {t : Array Value} (hn : ps.Nodup) (hl : vs.length = ps.length) (hlt : ∀ p ∈ ps,p < t.size) (i : Nat) : (setL t (ps.zip vs))[i]? = ((ps.zip vs).lookup i).or t[i]?:=by
  induction ps generalizing vs t with
  | nil=>simp [setL]
  | cons p ps ih =>
    cases vs with
    | nil=>simp at hl
    | cons v vs =>
      rw [List.nodup_cons] at hn
      have:=ih (vs:=vs) (t:=t.setIfInBounds p v) hn.2 (by simpa using hl) (fun q hq=>by simp; exact hlt q (List.mem_cons_of_mem _ hq))
      show (setL (t.setIfInBounds p v) (ps.zip vs))[i]? = _
      rw [this]
      simp only [List.zip_cons_cons,List.lookup_cons]
      by_cases e : i = p
      · subst e
        have hno : (ps.zip vs).lookup i = none:=by
          cases e2 : (ps.zip vs).lookup i with
          | none=>rfl
          | some u=>obtain ⟨j,h1,_⟩:=zip_lookup hn.2 e2; exact absurd (List.mem_of_getElem? h1) hn.1
        rw [hno,Option.none_or,Array.getElem?_setIfInBounds_self_of_lt (hlt i (by simp))]
        simp
      · rw [show (i == p) = false by simpa using e,Array.getElem?_setIfInBounds_ne (Ne.symm e)]
def mkLL (fid : FuncId) (tmps : Array Value) (ps : List Nat) (asx bd : Code) (D : Nat) (st : LoopState) (pe : Option Code) : Loop:={ state:=st,pending:=pe,fn:=fid,tmps:=tmps,params:=ps.toArray,assign:=asx,body:=bd,defers:=D }
def looseB (lq : List Nat) (Hk : List (Nat × Blk)) (S : St) : Bool:=lq.all fun q=>freeSl q S.sl && S.hb.all fun p=>(Hk.lookup p.1).isSome || (!(p.1 == q) && p.2.cs.free q)
structure LooseS (lq : List Nat) (Hk : List (Nat × Blk)) (S : St) : Prop where
  slots : ∀ {q t v},q ∈ lq → S.slot t = some v → v.free q = true
  blks : ∀ {q j B},q ∈ lq → S.blk j = some B → Hk.lookup j = none → j ≠ q ∧ ∀ i x,B.cs.get i = some x → x.free q = true
theorem looseS_of {lq : List Nat} {Hk : List (Nat × Blk)} {S : St} (h : looseB lq Hk S = true) : LooseS lq Hk S:=by
  unfold looseB at h
  rw [List.all_eq_true] at h
  refine ⟨fun {q t v} hq ht=>?_,fun {q j B} hq hB hn=>?_⟩
  · have:=h q hq
    rw [Bool.and_eq_true] at this
    exact freeSl_get this.1 ht
  · have:=h q hq
    rw [Bool.and_eq_true,List.all_eq_true] at this
    have h2:=this.2 (j,B) (lookup_mem hB)
    simp only [hn,Option.isSome_none,Bool.false_or,Bool.and_eq_true,Bool.not_eq_true',beq_eq_false_iff_ne] at h2
    exact ⟨h2.1,fun i x hx=>Cells.free_get h2.2 hx⟩
structure XFrL (E : Env) (lq : List Nat) (H : List (Nat × Blk)) (n : Nat) (F : Fr) : Prop where
  g : E.G F.w0
  x : ∀ b,F.X b → E.ng ≤ b
  nt : F.nt = n
  df : F.df = []
  p0 : ∀ q,H.lookup q = none ∨ q ∈ lq → F.pin q = none
  lo : ∀ q,F.lo q = ((H.lookup q).isNone && !lq.contains q)
  ng : E.ng ≤ F.w0.heap.size
def roundFL (FI : Fr) (nt : Nat) (S : St) (ρ : Nat → Nat) (W W0 : World) (l : Nat) (lq : List Nat) (Hk : List (Nat × Blk)) : Fr :=
  ⟨W0,fun b=>okI FI S.blk ρ b ∧ b < W.heap.size,fun b=>∃ q,Hk.lookup q ≠ none ∧ b = ρ q,nt,[],fun q=>if Hk.lookup q ≠ none ∧ q ∉ lq then match hp W (ρ q) with | some (.cells c _ _)=>some (ρ q,c.size) | _=>none else none,some l,fun _ _=>False,fun q=>(Hk.lookup q).isNone && !lq.contains q⟩
structure ItFrL (FI : Fr) (l D : Nat) (L : Loop) (lq : List Nat) (H : Nat → List (Nat × Blk)) (n : Nat) : Prop where
  ro : FI.ro = none
  loop : FI.w0.heap[l]? = some (.loop L)
  lX : ¬ FI.X l
  lok : ¬ FI.okA l
  llt : l < FI.w0.heap.size
  pinL : ∀ q,q ∈ lq → FI.pin q = none
  keys : ∀ k,k < n → ∀ q,q ∉ lq → ((H (k + 1)).lookup q ≠ none ↔ (H k).lookup q ≠ none)
  keysL : ∀ k,k < n → ∀ q,q ∈ lq → (H k).lookup q ≠ none → (H (k + 1)).lookup q ≠ none
  same : ∀ k,k < n → ∀ q,q ∉ lq → ∀ B B',(H k).lookup q = some B → (H (k + 1)).lookup q = some B' → B'.sz = B.sz ∧ B'.cs.len = B.cs.len
  lo : ∀ k,k ≤ n → ∀ q,(H k).lookup q ≠ none → FI.lo q = false
  cont : ∀ k,k ≤ n → ∀ j B,(H k).lookup j = some B → ∀ i x,B.cs.get i = some x → ∀ q,x.free q = false → (H k).lookup q ≠ none
def YieldsL (P : Program) (F : Fr) (lq : List Nat) (l n : Nat) (encs : Nat → List Pure) (H : Nat → List (Nat × Blk)) : Prop :=
  ∀ k,k < n → ∀ (d : Nat) (fo : Operand) (os : List Operand) (ts : Array TypeId) (T : TypeId) (pos : String) (aft : Array Edge) (g : Option (Nat × Bool)),d < F.nt → os.length = (encs k).length →
    ∀ S a w,Sat F S a w → Ann.holds ⟨(fo,.clo (.yield l) [] []) :: os.zip ((encs k).map .p),H k,none,[(d,.p (.a (.bool true)))],H (k + 1)⟩ S → LooseS lq (H k) S → ∀ (Q : Exit → Act → World → Prop) (K : Act → World → Prop),
      (∀ a' w',Sat F (S.app ⟨(fo,.clo (.yield l) [] []) :: os.zip ((encs k).map .p),H k,none,[(d,.p (.a (.bool true)))],H (k + 1)⟩) a' w' → K a' w') → ∀ m,Oper.wpIn (fen F) m P ⟨some d,.call ⟨.value fo,os.toArray,ts⟩,T,pos,aft,g⟩ a w K Q
theorem yields_ofL {E : Env} {FI : Fr} {nt l D n : Nat} {ps : List Nat} {fid : FuncId} {tmps0 : Array Value} {asx bd : Code} {lq : List Nat} {encs : Nat → List Pure} {H : Nat → List (Nat × Blk)} {sl : List (Nat × PV)} (I : ItFrL FI l D (mkLL fid tmps0 ps asx bd D .ready none) lq H n)
    (hG : E.G FI.w0) (hx : ∀ b,FI.X b → E.ng ≤ b) (hng : E.ng ≤ FI.w0.heap.size) (hlng : E.ng ≤ l) (ht0 : tmps0.size = nt) (hps : ps.Nodup) (hlt : ∀ p ∈ ps,p < nt) (hen : ∀ k,k < n → (encs k).length = ps.length)
    (hout : ∀ k,k ≤ n → ∀ ρ S a W,SatR FI ρ S a W → (∀ q B,(H k).lookup q = some B → S.blk q = some B) → LooseS lq (H k) S → ∀ t v,sl.lookup t = some v → ∃ u,tmps0[t]? = some u ∧ RelV (lk (H k)) ρ (okI FI S.blk ρ) (hp W) v u)
    (hround : ∀ k,k < n → ∃ S1,(∀ F',XFrL E lq (H k) nt F' → Exec E.P F' asx ⟨ps.zip ((encs k).map .p) ++ sl,H k⟩ (fun e S'=>e = .normal ∧ S1.le S')) ∧
      (∀ F',XFrL E lq (H k) nt F' → Exec E.P F' bd S1 (fun e S'=>e = .normal ∧ HasB S' (H (k + 1))))) : YieldsL E.P FI lq l n encs H:=by
  intro k hk d fo os ts T pos aft g hd hol S a W ⟨ρ,h⟩ hA hLS Q K hK m
  obtain ⟨S1,has,hbd⟩:=hround k hk
  have hSH : ∀ q B,(H k).lookup q = some B → S.blk q = some B:=fun q B hq=>hA.rb (q,B) (lookup_mem hq)
  have hSH' : ∀ q,(H k).lookup q ≠ none → S.blk q ≠ none:=fun q hq=>by obtain ⟨B,hB⟩:=lookup_some hq; rw [hSH q B hB]; simp
  have hne : ∀ q,S.blk q ≠ none → ρ q < W.heap.size:=fun q hq=>by
    obtain ⟨B,hB⟩:=Option.ne_none_iff_exists'.1 hq
    obtain ⟨c,e1,_⟩:=h.blks q B hB; exact World.size_lt e1
  have hsz:=h.frame.size
  have hlW : W.heap[l]? = some (.loop (mkLL fid tmps0 ps asx bd D .ready none)):=(h.frame.block l I.llt I.lX).trans I.loop
  have hlown : ∀ q,S.blk q ≠ none → ρ q ≠ l:=fun q hq e=>by
    obtain ⟨B,hB⟩:=Option.ne_none_iff_exists'.1 hq
    obtain ⟨c,e1,_⟩:=h.blks q B hB
    have : hp W l = some (.loop (mkLL fid tmps0 ps asx bd D .ready none)):=hlW
    rw [e,this] at e1; cases e1
  have hlok : ∀ β ρ',¬ okI FI β ρ' l:=fun β ρ' hb=>by
    rcases hb.1 with hb | hb
    · exact I.lok hb
    · have:=I.llt; omega
  have ef : a.eval fo = .func (.yield l) #[] #[]:=by
    have:=opd_rel h (hA.rs (fo,.clo (.yield l) [] []) (by simp))
    simp only [RelV,RelVL] at this
    obtain ⟨fs,cs,h3,rfl,rfl⟩:=this
    exact h3
  have hlen:=hen k hk
  have rr : ∀ i x,(encs k)[i]? = some x → ∃ v,(os.map a.eval)[i]? = some v ∧ Rel (okI FI S.blk ρ) (hp W) x v:=fun i x hx=>by
    have hi:=(List.getElem?_eq_some_iff.1 hx).1
    have ho : os[i]? = some (os[i]'(by omega)):=List.getElem?_eq_getElem (by omega)
    have:=opd_rel h (hA.rs (os[i]'(by omega),.p x) (List.mem_cons_of_mem _ (List.mem_of_getElem? (i:=i) (by rw [List.getElem?_zip_eq_some]; exact ⟨ho,by simp [hx]⟩))))
    simp only [RelV] at this
    exact ⟨_,by rw [List.getElem?_map,ho]; rfl,this⟩
  obtain ⟨vs,hvs⟩ : ∃ vs,vs = os.map a.eval:=⟨_,rfl⟩
  rw [← hvs] at rr
  have hvl : vs.length = ps.length:=by rw [hvs,List.length_map]; omega
  obtain ⟨FR,hFR⟩ : ∃ FR,FR = roundFL FI nt S ρ W W l lq (H k):=⟨_,rfl⟩
  have hGW : E.G W:=E.stab FI.w0 W hG fun b hb=>h.frame.block b (by omega) (fun hx'=>by have:=hx b hx'; omega)
  have hXng : ∀ q,(H k).lookup q ≠ none → E.ng ≤ ρ q:=fun q hq=>by
    obtain ⟨B,hB⟩:=lookup_some hq
    obtain ⟨_,_,e2,_⟩:=h.blks q B (hSH q B hB)
    rcases e2 with e2 | e2
    · exact hx _ e2.1
    · omega
  have hXF : ∀ W0 : World,E.G W0 → E.ng ≤ W0.heap.size → XFrL E lq (H k) nt (roundFL FI nt S ρ W W0 l lq (H k)):=fun W0 h1 h2=>⟨h1,fun b ⟨q,hq,e⟩=>e ▸ hXng q hq,rfl,rfl,fun q hq=>by simp only [roundFL]; rw [if_neg (by rcases hq with hq | hq; simp [hq]; exact fun c=>c.2 hq)],fun _=>rfl,h2⟩
  have hnH : ∀ (β : Nat → Option Blk) (hβ : ∀ q,β q ≠ none → S.blk q ≠ none) b,okI FI S.blk ρ b → b < W.heap.size → ∀ W0,okI (roundFL FI nt S ρ W W0 l lq (H k)) β ρ b:=fun β hβ b hb hbs W0=>⟨.inl ⟨hb,hbs⟩,fun q hq=>hb.2 q (hβ q hq)⟩
  have hs1 : SatR FR ρ ⟨ps.zip ((encs k).map .p) ++ sl,H k⟩ ⟨setL tmps0 (ps.zip vs),[]⟩ W:=by
    rw [hFR]
    have hcar : Carry (okI FI S.blk ρ) (okI (roundFL FI nt S ρ W W l lq (H k)) (lk (H k)) ρ) (hp W) (hp W):=fun b hb hne'=>⟨hnH _ (fun q hq=>hSH' q hq) b hb (by obtain ⟨o,ho⟩:=Option.ne_none_iff_exists'.1 hne'; exact World.size_lt ho) W,rfl⟩
    have hkp : Keep (fun _=>True) S.blk (lk (H k)) ρ ρ (hp W) (hp W):=fun q _ B hB=>⟨B,hSH q B hB,rfl,Nat.le_refl _,fun _=>⟨rfl,fun c T fr hc=>⟨c,T,fr,hc,rfl⟩⟩⟩
    refine h.move (S':=⟨ps.zip ((encs k).map .p) ++ sl,H k⟩) (a':=⟨setL tmps0 (ps.zip vs),[]⟩) (Kp:=fun _=>True) ⟨rfl,rfl,rfl,Nat.le_refl _,fun _ _ _=>rfl⟩ (by show (setL _ _).size = nt; rw [setL_size]; exact ht0) (Marks.nil rfl) hcar hkp (fun q q' h1 h2 e=>h.inj q q' (hSH' q h1) (hSH' q' h2) e) (fun j b m hj hS=>?_) (fun t v ht=>.inr ?_) (fun q B hB=>.inl ⟨hSH q B hB,rfl,rfl,.inl ⟨⟨q,by have hB' : (H k).lookup q = some B:=hB; simp [hB'],rfl⟩,by have hB' : (H k).lookup q = some B:=hB; simp [roundFL,hB']⟩,fun _ _ _ _ _=>trivial⟩)
    · simp only [roundFL] at hj
      have hS' : (H k).lookup j ≠ none:=hS
      by_cases hjl : j ∈ lq
      · rw [if_neg (fun c=>c.2 hjl)] at hj; cases hj
      rw [if_pos ⟨hS',hjl⟩] at hj
      obtain ⟨B,hB⟩:=lookup_some hS'
      obtain ⟨c,e1,_⟩:=h.blks j B (hSH j B hB)
      rw [e1] at hj
      injection hj with hj; injection hj with hj1 hj2
      subst hj1 hj2
      exact ⟨rfl,c,B.T,e1,rfl⟩
    · have hget:=setL_get (t:=tmps0) hps hvl (fun p hp=>by rw [ht0]; exact hlt p hp) t
      simp only [St.slot,lookup_append] at ht
      cases e : (ps.zip ((encs k).map PV.p)).lookup t with
      | some v' =>
        rw [e,Option.some_or] at ht
        injection ht with ht; subst ht
        obtain ⟨i,hi1,hi2⟩:=zip_lookup hps e
        rw [List.getElem?_map] at hi2
        cases e2 : (encs k)[i]? with
        | none=>rw [e2] at hi2; cases hi2
        | some x =>
          rw [e2] at hi2
          injection hi2 with hi2; subst hi2
          obtain ⟨u,hu,hru⟩:=rr i x e2
          refine ⟨u,by rw [hget,zip_at hps hi1 hu]; rfl,?_⟩
          simp only [RelV]; exact Rel.mono hcar _ _ hru
      | none =>
        rw [e,Option.none_or] at ht
        obtain ⟨u,hu,hr⟩:=hout k (by omega) ρ S a W h hSH hLS t v ht
        refine ⟨u,by rw [hget,zip_none (vs:=(encs k).map PV.p) (by simp; omega) hvl e]; exact hu,RelV.mono (K:=fun _=>True) hcar (fun q _ B hB=>⟨B,hB,rfl,Nat.le_refl _,fun _=>⟨rfl,fun c T fr hc=>⟨c,T,fr,hc,rfl⟩⟩⟩) v u (fun _ _=>trivial) hr⟩
  have hyr : (Instr.yield l vs.toArray).run E.P W = .ok (.round l fid (setL tmps0 (ps.zip vs)) asx bd) W:=by
    have:=run_yield (P:=E.P) (args:=vs.toArray) hlW (by simp [mkLL,hvl])
    simpa [mkLL,setL] using this
  have hfw : fen FI = Fence.wide:=by simp [fen,I.ro,Fence.wide]
  unfold Oper.wpIn
  refine ⟨fun f _=>trivial,?_⟩
  rw [Oper.semAt_eq _ _ _ (by intro c e; cases e)]
  have hexec : (execOp a.eval ⟨some d,.call ⟨.value fo,os.toArray,ts⟩,T,pos,aft,g⟩).run E.P W = .ok (.round l fid (setL tmps0 (ps.zip vs)) asx bd) W:=by
    simp [execOp,resolve,ef,Deferred.ofValue,invoke,← hvs,hyr]
  rw [hexec,Oper.uponIn_round,hfw]
  refine ⟨fun hh=>by simp [Fence.wide] at hh,?_⟩
  refine roundIn_of_wpIn trivial ?_
  have hA1:=(has FR (by rw [hFR]; exact hXF W hGW (by omega))).run (m - 1) _ W ⟨ρ,hs1⟩
  rw [show fen FR = Fence.wide.inRound l by rw [hFR]; rfl] at hA1
  refine wpIn_mono hA1 fun ex a1 w1 hq=>?_
  obtain ⟨S',⟨he,hle1⟩,ρ1,hsa⟩:=hq.resolve_right (fun h=>by rw [hFR] at h; exact h.2)
  subst he
  have hsa:=hsa.weakR hle1
  have hRl : ∀ W0 : World,¬ (roundFL FI nt S ρ W W0 l lq (H k)).X l:=fun W0 ⟨q,hq,e⟩=>hlown q (hSH' q hq) e.symm
  have hw0 : FR.w0 = W:=by rw [hFR]; rfl
  have hl1 : w1.heap[l]? = some (.loop (mkLL fid tmps0 ps asx bd D .ready none)):=(hsa.frame.block l (by rw [hw0]; exact World.size_lt hlW) (by rw [hFR]; exact hRl W)).trans (by rw [hw0]; exact hlW)
  obtain ⟨W0b,hW0b⟩ : ∃ W0b,W0b = W.putObj l (.loop (mkLL fid tmps0 ps asx bd D .busy none)):=⟨_,rfl⟩
  obtain ⟨w2,hw2⟩ : ∃ w2,w2 = w1.putObj l (.loop (mkLL fid tmps0 ps asx bd D .busy none)):=⟨_,rfl⟩
  have hbeg : (Instr.beginRound l).run E.P w1 = .ok () w2:=by rw [hw2]; exact run_beginRound hl1 rfl
  have hszb : W0b.heap.size = W.heap.size:=by rw [hW0b]; simp
  have hob : ∀ b,b ≠ l → W0b.heap[b]? = W.heap[b]?:=fun b hb=>by rw [hW0b]; exact World.putObj_heap_other hb
  have ho2 : ∀ b,b ≠ l → w2.heap[b]? = w1.heap[b]?:=fun b hb=>by rw [hw2]; exact World.putObj_heap_other hb
  obtain ⟨FB,hFB⟩ : ∃ FB,FB = roundFL FI nt S ρ W W0b l lq (H k):=⟨_,rfl⟩
  have hlR : ∀ β ρ',¬ okI FR β ρ' l:=fun β ρ' hb=>by
    rw [hFR] at hb
    rcases hb.1 with hb | hb
    · exact hlok _ _ hb.1
    · have:=World.size_lt hlW; have : W.heap.size ≤ l:=hb; omega
  have hl1own : ∀ q B,S1.blk q = some B → ρ1 q ≠ l:=fun q B hB e=>by
    obtain ⟨c,e1,_⟩:=hsa.blks q B hB
    have : hp w1 l = some (.loop (mkLL fid tmps0 ps asx bd D .ready none)):=hl1
    rw [e,this] at e1; cases e1
  have hs2 : SatR FB ρ1 S1 a1 w2:=by
    obtain ⟨Ds,d1,d2,d3⟩:=hsa.df
    have hfr:=hsa.frame
    rw [hFB]
    refine hsa.move (Kp:=fun _=>True) ⟨?_,?_,?_,?_,fun b hb hx'=>?_⟩ (by rw [hsa.nt,hFR]; rfl) ⟨Ds,by rw [d1,hFR]; rfl,d2,fun D' hD'=>?_⟩ (fun b hb _=>⟨⟨?_,hb.2⟩,ho2 b (fun e=>hlR _ _ (e ▸ hb))⟩) (fun q _ B hB=>⟨B,hB,rfl,Nat.le_refl _,fun _=>⟨rfl,fun c T fr hc=>⟨c,T,fr,(ho2 _ (hl1own q B hB)).trans hc,rfl⟩⟩⟩) hsa.inj (fun j b n hj hS=>?_) (fun t v ht=>.inl ⟨ht,rfl,fun _ _=>trivial⟩) (fun q B hB=>.inl ⟨hB,rfl,ho2 _ (hl1own q B hB),?_,fun _ _ _ _ _=>trivial⟩)
    · rw [hw2]; show w1.os = W0b.os; rw [hfr.os,hw0,hW0b]; rfl
    · rw [hw2]; show w1.tape = W0b.tape; rw [hfr.tape,hw0,hW0b]; rfl
    · rw [hw2]; show w1.output = W0b.output; rw [hfr.output,hw0,hW0b]; rfl
    · show W0b.heap.size ≤ w2.heap.size; rw [hszb,hw2]; have:=hfr.size; rw [hw0] at this; simpa using this
    · show w2.heap[b]? = W0b.heap[b]?
      by_cases eb : b = l
      · subst eb; rw [hw2,hW0b,World.putObj_heap_same (World.size_lt hl1),World.putObj_heap_same (World.size_lt hlW)]
      · rw [ho2 b eb,hob b eb]
        have hb' : b < W0b.heap.size:=hb
        have:=hfr.block b (by rw [hw0]; omega) (by rw [hFR]; exact hx')
        rw [hw0] at this; exact this
    · obtain ⟨q1,q2⟩:=d3 D' hD'
      refine ⟨by show W0b.heap.size ≤ D'; rw [hszb]; rw [hw0] at q1; exact q1,(ho2 D' (fun e=>?_)).trans q2⟩
      rw [e,hl1] at q2; cases q2
    · rcases hb.1 with hb1 | hb1
      · rw [hFR] at hb1; exact .inl hb1
      · rw [hw0] at hb1; exact .inr (by show W0b.heap.size ≤ b; omega)
    · have hj' : FR.pin j = some (b,n):=by rw [hFR]; exact hj
      obtain ⟨q1,c,T,q2,q3⟩:=hsa.pin j b n hj' hS
      obtain ⟨B,hB⟩:=Option.ne_none_iff_exists'.1 hS
      exact ⟨q1,c,T,(ho2 b (by rw [← q1]; exact hl1own j B hB)).trans q2,q3⟩
    · obtain ⟨_,_,q2,_⟩:=hsa.blks q B hB
      rcases q2 with q2 | q2
      · rw [hFR] at q2; exact .inl q2
      · rw [hw0] at q2; exact .inr (by show W0b.heap.size ≤ _; omega)
  refine ⟨w2,hbeg,?_⟩
  have hGb : E.G W0b:=E.stab W W0b hGW fun b hb=>hob b (fun e=>by omega)
  have hB1:=(hbd FB (by rw [hFB]; exact hXF W0b hGb (by omega))).run (m - 1) a1 w2 ⟨ρ1,hs2⟩
  rw [show fen FB = Fence.wide.inRound l by rw [hFB]; rfl] at hB1
  refine wpIn_mono hB1 fun ex a3 w3 hq=>?_
  obtain ⟨S3,⟨he,hHB⟩,ρ3,hs3⟩:=hq.resolve_right (fun h=>by rw [hFB] at h; exact h.2)
  subst he
  have hw0b : FB.w0 = W0b:=by rw [hFB]; rfl
  have hl3 : w3.heap[l]? = some (.loop (mkLL fid tmps0 ps asx bd D .busy none)):=(hs3.frame.block l (by rw [hw0b,hszb]; exact World.size_lt hlW) (by rw [hFB]; exact hRl W0b)).trans (by rw [hw0b,hW0b]; exact World.putObj_heap_same (World.size_lt hlW))
  obtain ⟨w4,hw4⟩ : ∃ w4,w4 = w3.putObj l (.loop (mkLL fid tmps0 ps asx bd D .ready none)):=⟨_,rfl⟩
  have hend : (Instr.endRound l none).run E.P w3 = .ok (.bool true) w4:=by rw [hw4]; exact run_endRound none hl3
  have ho4 : ∀ b,b ≠ l → w4.heap[b]? = w3.heap[b]?:=fun b hb=>by rw [hw4]; exact World.putObj_heap_other hb
  have hfr3:=hs3.frame
  refine ⟨_,_,hend,?_⟩
  have hS3 : ∀ q B,(H (k + 1)).lookup q = some B → S3.blk q = some B:=fun q B hq=>hHB.all q B hq
  obtain ⟨ρ',hρ'⟩ : ∃ ρ' : Nat → Nat,ρ' = fun q=>if q ∈ lq then ρ3 q else ρ q:=⟨_,rfl⟩
  have hρL : ∀ q,q ∈ lq → ρ' q = ρ3 q:=fun q hq=>by rw [hρ']; simp only; rw [if_pos hq]
  have hρN : ∀ q,q ∉ lq → ρ' q = ρ q:=fun q hq=>by rw [hρ']; simp only; rw [if_neg hq]
  refine hK _ _ ⟨ρ',?_⟩
  have hkup : ∀ q,(H k).lookup q ≠ none → (H (k + 1)).lookup q ≠ none:=fun q hq=>by
    by_cases hl : q ∈ lq
    · exact I.keysL k hk q hl hq
    · exact (I.keys k hk q hl).2 hq
  have hplace : ∀ q,q ∉ lq → (H (k + 1)).lookup q ≠ none → ρ3 q = ρ q ∧ ∀ c T,hp W (ρ q) = some (.cells c T (0,0)) → ∃ c' T',hp w3 (ρ q) = some (.cells c' T' (0,0)) ∧ c'.size = c.size:=fun q hl hq=>by
    have hq0:=(I.keys k hk q hl).1 hq
    obtain ⟨B0,hB0⟩:=lookup_some hq0
    obtain ⟨B1,hB1⟩:=lookup_some hq
    obtain ⟨c,e1,_⟩:=h.blks q B0 (hSH q B0 hB0)
    have hp0 : FB.pin q = some (ρ q,c.size):=by rw [hFB]; simp only [roundFL]; rw [if_pos ⟨hq0,hl⟩,e1]
    obtain ⟨q1,c',T',q2,q3⟩:=hs3.pin q _ _ hp0 (by rw [hS3 q B1 hB1]; simp)
    refine ⟨q1,fun c2 T2 h2=>⟨c',T',q2,?_⟩⟩
    rw [e1] at h2; injection h2 with h2; injection h2 with h2; rw [q3,h2]
  have hρ3 : ∀ q,(H (k + 1)).lookup q ≠ none → ρ' q = ρ3 q:=fun q hq=>by
    by_cases hl : q ∈ lq
    · exact hρL q hl
    · rw [hρN q hl,(hplace q hl hq).1]
  have horg : ∀ q,(H (k + 1)).lookup q ≠ none → (∃ q',(H k).lookup q' ≠ none ∧ ρ3 q = ρ q') ∨ W.heap.size ≤ ρ3 q:=fun q hq=>by
    obtain ⟨B1,hB1⟩:=lookup_some hq
    obtain ⟨_,_,g2,_⟩:=hs3.blks q B1 (hS3 q B1 hB1)
    rcases g2 with g2 | g2
    · have g3:=g2.1
      rw [hFB] at g3
      obtain ⟨q',h1,h2⟩:=g3
      exact .inl ⟨q',h1,h2⟩
    · rw [hw0b,hszb] at g2; exact .inr g2
  have hkeep : ∀ q,(H k).lookup q = none → S.blk q ≠ none → hp w4 (ρ q) = hp W (ρ q):=fun q hq hS=>by
    have hl':=hlown q hS
    refine (ho4 _ hl').trans ((hfr3.block _ (by rw [hw0b,hszb]; exact hne q hS) (fun hX=>?_)).trans (by rw [hw0b]; exact hob _ hl'))
    rw [hFB] at hX
    obtain ⟨q',h1,h2⟩:=hX
    have:=h.inj q q' hS (hSH' q' h1) h2
    subst this; exact h1 hq
  have hold : ∀ b,okI FI S.blk ρ b → b < W.heap.size → hp w4 b = hp W b:=fun b hb hbs=>by
    have hl' : b ≠ l:=fun e=>hlok _ _ (e ▸ hb)
    refine (ho4 _ hl').trans ((hfr3.block _ (by rw [hw0b,hszb]; exact hbs) (fun hX=>?_)).trans (by rw [hw0b]; exact hob _ hl'))
    rw [hFB] at hX
    obtain ⟨q',h1,h2⟩:=hX
    exact hb.2 q' (hSH' q' h1) h2
  obtain ⟨S',hS'⟩ : ∃ S',S' = S.app ⟨(fo,.clo (.yield l) [] []) :: os.zip ((encs k).map .p),H k,none,[(d,.p (.a (.bool true)))],H (k + 1)⟩:=⟨_,rfl⟩
  rw [← hS']
  have hS'b : ∀ q,S'.blk q = ((H (k + 1)).lookup q).or (S.blk q):=fun q=>by rw [hS']; exact St.app_blk _ _ _
  have hS'o : ∀ q,(H (k + 1)).lookup q = none → S'.blk q ≠ none → S.blk q ≠ none ∧ (H k).lookup q = none ∧ q ∉ lq:=fun q e hq=>by
    have hq':=hq
    rw [hS'b,e,Option.none_or] at hq'
    have e2 : (H k).lookup q = none:=by
      cases e' : (H k).lookup q with
      | none=>rfl
      | some B=>exact absurd e (hkup q (by simp [e']))
    obtain ⟨B,hB⟩:=Option.ne_none_iff_exists'.1 hq'
    exact ⟨hq',e2,fun hl=>(hLS.blks hl hB e2).1 rfl⟩
  have hlown3 : ∀ q,(H (k + 1)).lookup q ≠ none → ρ3 q ≠ l:=fun q hq e=>by
    obtain ⟨B1,hB1⟩:=lookup_some hq
    obtain ⟨c,e1,_⟩:=hs3.blks q B1 (hS3 q B1 hB1)
    have : hp w3 l = some (.loop (mkLL fid tmps0 ps asx bd D .busy none)):=hl3
    rw [e,this] at e1; cases e1
  have hapart : ∀ q r,(H (k + 1)).lookup q ≠ none → (H (k + 1)).lookup r = none → S'.blk r ≠ none → ρ3 q ≠ ρ r:=fun q r hq hr hr' e=>by
    obtain ⟨g1,g2,g3⟩:=hS'o r hr hr'
    rcases horg q hq with ⟨q',h1,h2⟩ | h2
    · have:=h.inj r q' g1 (hSH' q' h1) (by rw [← e]; exact h2)
      subst this; exact h1 g2
    · have:=hne r g1; omega
  have hinj : ∀ q q',S'.blk q ≠ none → S'.blk q' ≠ none → ρ' q = ρ' q' → q = q':=fun q q' h1 h2 e=>by
    by_cases c1 : (H (k + 1)).lookup q = none
    · obtain ⟨a1,a2,a3⟩:=hS'o q c1 h1
      by_cases c2 : (H (k + 1)).lookup q' = none
      · obtain ⟨b1,b2,b3⟩:=hS'o q' c2 h2
        rw [hρN q a3,hρN q' b3] at e
        exact h.inj q q' a1 b1 e
      · rw [hρN q a3,hρ3 q' c2] at e
        exact absurd e.symm (hapart q' q c2 c1 h1)
    · by_cases c2 : (H (k + 1)).lookup q' = none
      · obtain ⟨b1,b2,b3⟩:=hS'o q' c2 h2
        rw [hρN q' b3,hρ3 q c1] at e
        exact absurd e (hapart q q' c1 c2 h2)
      · rw [hρ3 q c1,hρ3 q' c2] at e
        obtain ⟨B,hB⟩:=lookup_some c1
        obtain ⟨B',hB'⟩:=lookup_some c2
        exact hs3.inj q q' (by rw [hS3 q B hB]; simp) (by rw [hS3 q' B' hB']; simp) e
  have hcells : ∀ q,S.blk q ≠ none → ∃ c T,hp W (ρ q) = some (.cells c T (0,0)):=fun q hq=>by
    obtain ⟨B,hB⟩:=Option.ne_none_iff_exists'.1 hq
    obtain ⟨c,e1,_⟩:=h.blks q B hB; exact ⟨c,B.T,e1⟩
  have hsize : ∀ q,q ∉ lq → S'.blk q ≠ none → S.blk q ≠ none ∧ ∀ c T,hp W (ρ q) = some (.cells c T (0,0)) → ∃ c' T',hp w4 (ρ q) = some (.cells c' T' (0,0)) ∧ c'.size = c.size:=fun q hl hq=>by
    by_cases hH : (H (k + 1)).lookup q = none
    · obtain ⟨a1,a2,a3⟩:=hS'o q hH hq
      exact ⟨a1,fun c T hc=>⟨c,T,(hkeep q a2 a1).trans hc,rfl⟩⟩
    · have hSq:=hSH' q ((I.keys k hk q hl).1 hH)
      refine ⟨hSq,fun c T hc=>?_⟩
      obtain ⟨c',T',g1,g2⟩:=(hplace q hl hH).2 c T hc
      exact ⟨c',T',(ho4 _ (hlown q hSq)).trans g1,g2⟩
  have hok' : ∀ b,okI FI S.blk ρ b → b < W.heap.size → okI FI S'.blk ρ' b:=fun b hb hbs=>⟨hb.1,fun q hq e=>by
    by_cases c1 : (H (k + 1)).lookup q = none
    · obtain ⟨a1,a2,a3⟩:=hS'o q c1 hq
      rw [hρN q a3] at e
      exact hb.2 q a1 e
    · rw [hρ3 q c1] at e
      rcases horg q c1 with ⟨q',h1,h2⟩ | h2
      · exact hb.2 q' (hSH' q' h1) (e.trans h2)
      · omega⟩
  have hX3 : ∀ q,(H (k + 1)).lookup q ≠ none → (FI.X (ρ3 q) ∧ FI.lo q = false) ∨ FI.w0.heap.size ≤ ρ3 q:=fun q hq=>by
    rcases horg q hq with ⟨q',h1,h2⟩ | h2
    · obtain ⟨B,hB⟩:=lookup_some h1
      obtain ⟨_,_,e2,_⟩:=h.blks q' B (hSH q' B hB)
      rw [h2]
      rcases e2 with e2 | e2
      · exact .inl ⟨e2.1,I.lo (k + 1) (by omega) q hq⟩
      · exact .inr e2
    · have:=h.frame.size; exact .inr (by omega)
  refine h.upd (S':=S') (ρ':=ρ') (Kp:=fun q=>q ∉ lq) ⟨?_,?_,?_,?_,fun b hb hx'=>?_⟩ (by simp [Act.put,h.nt]) rfl (fun b hb hne'=>?_) (fun q hl B' hB'=>?_) hinj (fun j b n hj hSj=>?_) (fun t v ht=>?_) (fun q B hB=>?_)
  · rw [hw4]; show w3.os = _; rw [hfr3.os,hw0b,hW0b]; exact h.frame.os
  · rw [hw4]; show w3.tape = _; rw [hfr3.tape,hw0b,hW0b]; exact h.frame.tape
  · rw [hw4]; show w3.output = _; rw [hfr3.output,hw0b,hW0b]; exact h.frame.output
  · rw [hw4]; have:=hfr3.size; rw [hw0b,hszb] at this; simp; omega
  · by_cases eb : b = l
    · subst eb; rw [hw4,World.putObj_heap_same (World.size_lt hl3)]; exact I.loop.symm
    · rw [ho4 b eb,hfr3.block b (by rw [hw0b,hszb]; omega) (fun hX=>?_),hw0b,hob b eb]
      · exact h.frame.block b hb hx'
      · rw [hFB] at hX
        obtain ⟨q',h1,h2⟩:=hX
        obtain ⟨B,hB⟩:=lookup_some h1
        obtain ⟨_,_,e2,_⟩:=h.blks q' B (hSH q' B hB)
        rw [← h2] at e2
        rcases e2 with e2 | e2
        · exact hx' e2.1
        · omega
  · have hbs : b < W.heap.size:=by obtain ⟨o,ho⟩:=Option.ne_none_iff_exists'.1 hne'; exact World.size_lt ho
    exact ⟨hok' b hb hbs,hold b hb hbs⟩
  · obtain ⟨hSq,hsz'⟩:=hsize q hl (by simp [hB'])
    obtain ⟨c0,T0,e1⟩:=hcells q hSq
    obtain ⟨c',T',g1,g2⟩:=hsz' _ _ e1
    have hfin : ρ' q = ρ q ∧ ∀ c T fr,hp W (ρ q) = some (.cells c T fr) → ∃ c' T' fr',hp w4 (ρ q) = some (.cells c' T' fr') ∧ c'.size = c.size:=⟨hρN q hl,fun c T fr hc=>by
      rw [e1] at hc; injection hc with hc; injection hc with q1 q2 q3; subst q1
      exact ⟨c',T',(0,0),g1,g2⟩⟩
    rw [hS'b] at hB'
    cases e : (H (k + 1)).lookup q with
    | none =>
      rw [e,Option.none_or] at hB'
      exact ⟨B',hB',rfl,Nat.le_refl _,fun _=>hfin⟩
    | some B1 =>
      rw [e,Option.some_or] at hB'; injection hB' with hB'; subst hB'
      obtain ⟨B0,hB0⟩:=lookup_some ((I.keys k hk q hl).1 (by simp [e]))
      obtain ⟨s1,s2⟩:=I.same k hk q hl B0 B1 hB0 e
      exact ⟨B0,hSH q B0 hB0,s1,by omega,fun _=>hfin⟩
  · have hl : j ∉ lq:=fun hl=>by rw [I.pinL j hl] at hj; cases hj
    obtain ⟨hSq,hsz'⟩:=hsize j hl hSj
    exact ⟨hSq,hρN j hl,hsz'⟩
  · rw [hS',St.app_slot] at ht
    simp only [List.lookup_cons,List.lookup_nil] at ht
    by_cases e : t = d
    · subst e
      simp only [BEq.rfl,Option.some_or,Option.some.injEq] at ht
      subst ht
      exact .inr ⟨.bool true,by simp only [Act.put]; rw [Array.getElem?_setIfInBounds_self_of_lt (by rw [h.nt]; exact hd)],by simp [RelV,Rel]⟩
    · rw [show (t == d) = false by simpa using e,Option.none_or] at ht
      exact .inl ⟨ht,by simp only [Act.put]; rw [Array.getElem?_setIfInBounds_ne (Ne.symm e)],fun j hj hl=>by rw [hLS.slots hl ht] at hj; cases hj⟩
  · cases e : (H (k + 1)).lookup q with
    | none =>
      obtain ⟨a1,a2,a3⟩:=hS'o q e (by simp [hB])
      have hB0:=hB
      rw [hS'b,e,Option.none_or] at hB0
      exact .inl ⟨hB0,hρN q a3,hkeep q a2 a1,fun i x hx j hj hl=>by rw [(hLS.blks hl hB0 a2).2 i x hx] at hj; cases hj⟩
    | some B1 =>
      rw [hS'b,e,Option.some_or] at hB; injection hB with hB; subst hB
      have hq : (H (k + 1)).lookup q ≠ none:=by simp [e]
      obtain ⟨c,f1,f2,f3,f4⟩:=hs3.blks q B1 (hS3 q B1 e)
      refine .inr ⟨c,by rw [hρ3 q hq]; exact (ho4 _ (hlown3 q hq)).trans f1,by rw [hρ3 q hq]; exact hX3 q hq,f3,fun i x hx'=>?_⟩
      obtain ⟨u,hu,ho,hr⟩:=f4 i x hx'
      refine ⟨u,hu,ho,RelV.mono (K:=fun j=>(H (k + 1)).lookup j ≠ none) (fun b hb _=>?_) (fun j hj B' hB'=>?_) x u (I.cont (k + 1) (by omega) q B1 e i x hx') hr⟩
      · have hnl : b ≠ l := by
          rcases hb.1 with hb1 | hb1
          · rw [hFB] at hb1; exact fun e=>hlok _ _ (e ▸ hb1.1)
          · rw [hw0b,hszb] at hb1; exact fun e=>by have:=World.size_lt hlW; omega
        refine ⟨?_,ho4 b hnl⟩
        rcases hb.1 with hb1 | hb1
        · rw [hFB] at hb1
          exact hok' b hb1.1 hb1.2
        · rw [hw0b,hszb] at hb1
          refine ⟨.inr (by have:=h.frame.size; omega),fun j hj e=>?_⟩
          by_cases c1 : (H (k + 1)).lookup j = none
          · obtain ⟨a1,a2,a3⟩:=hS'o j c1 hj
            rw [hρN j a3] at e
            have:=hne j a1; omega
          · rw [hρ3 j c1] at e
            obtain ⟨Bj,hBj⟩:=lookup_some c1
            exact hb.2 j (by rw [hS3 j Bj hBj]; simp) e
      · obtain ⟨Bj,hBj⟩:=lookup_some hj
        rw [hS'b,hBj,Option.some_or] at hB'; injection hB' with hB'; subst hB'
        refine ⟨Bj,hS3 j Bj hBj,rfl,Nat.le_refl _,fun _=>⟨hρ3 j hj,fun c T fr hc=>⟨c,T,fr,?_,rfl⟩⟩⟩
        exact (ho4 _ (hlown3 j hj)).trans hc
end Go.Proofs.YtcifhkfpmhifaaaGreatDoor.SH
namespace Go.Proofs.YtcifhkfpmhifaaaGreatDoor.SH
open Go Go.RowKit
theorem same_allL {lq : List Nat} {n : Nat} {H : Nat → List (Nat × Blk)} (keys : ∀ k, k < n → ∀ q, q ∉ lq → ((H (k + 1)).lookup q ≠ none ↔ (H k).lookup q ≠ none)) (same : ∀ k, k < n → ∀ q, q ∉ lq → ∀ B B', (H k).lookup q = some B → (H (k + 1)).lookup q = some B' → B'.sz = B.sz ∧ B'.cs.len = B.cs.len) :
    ∀ k,k ≤ n → ∀ q,q ∉ lq → ((H k).lookup q ≠ none ↔ (H 0).lookup q ≠ none) ∧ ∀ B B',(H 0).lookup q = some B → (H k).lookup q = some B' → B'.sz = B.sz ∧ B'.cs.len = B.cs.len
  | 0,_,q,_=>⟨Iff.rfl,fun B B' h h'=>by rw [h] at h'; injection h' with h'; subst h'; exact ⟨rfl,rfl⟩⟩
  | k + 1,hk,q,hl=>by
    obtain ⟨h1,h2⟩:=same_allL keys same k (by omega) q hl
    have h3:=keys k (by omega) q hl
    refine ⟨h3.trans h1,fun B B' h h'=>?_⟩
    obtain ⟨B1,hB1⟩:=lookup_some (h3.1 (by simp [h']))
    obtain ⟨a1,a2⟩:=h2 B B1 h hB1
    obtain ⟨b1,b2⟩:=same k (by omega) q hl B1 B' hB1 h'
    exact ⟨b1.trans a1,b2.trans a2⟩
theorem ex_rangeL {E : Env} {F : Fr} {S : St} {Q : Exit → St → Prop} {tg gf n nI : Nat} {ps : List Nat} {asx bd c : Code} {fn : Func} {caps : List PV} {Hc Hc' : List (Nat × Blk)} (lq : List Nat) (H : Nat → List (Nat × Blk)) (encs : Nat → List Pure) {sl : List (Nat × PV)}
    (hG : E.G F.w0) (hX : ∀ b,F.X b → E.ng ≤ b) (hng : E.ng ≤ F.w0.heap.size) (hro : F.ro = none) (hlx : ∀ b,F.X b → ∀ q,q ∈ lq → F.lo q = false) (hpl : ∀ q,q ∈ lq → F.pin q = none) (htg : S.slot tg = some (.clo (.func gf) [] caps)) (hle : St.le ⟨sl,Hc ++ H 0⟩ S)
    (eg : ∀ args w,(callFunc gf args).run E.P w = .ok (.enter gf args) w) (hf : E.P.funcs[gf]? = some fn) (hb : fn.body = some c) (hn : fn.ntmps = nI) (hr : fn.results = #[]) (hcl : caps.length + 1 ≤ nI) (hps : ps.Nodup) (hlt : ∀ p ∈ ps,p < F.nt) (hen : ∀ k,k < n → (encs k).length = ps.length)
    (hdis : ∀ q,Hc.lookup q ≠ none → q ∉ lq ∧ ∀ k,k ≤ n → (H k).lookup q = none)
    (keys : ∀ k,k < n → ∀ q,q ∉ lq → ((H (k + 1)).lookup q ≠ none ↔ (H k).lookup q ≠ none)) (keysL : ∀ k,k < n → ∀ q,q ∈ lq → (H k).lookup q ≠ none → (H (k + 1)).lookup q ≠ none) (same : ∀ k,k < n → ∀ q,q ∉ lq → ∀ B B',(H k).lookup q = some B → (H (k + 1)).lookup q = some B' → B'.sz = B.sz ∧ B'.cs.len = B.cs.len)
    (cont : ∀ k,k ≤ n → ∀ j B,(H k).lookup j = some B → ∀ i x,B.cs.get i = some x → ∀ q,x.free q = false → (H k).lookup q ≠ none)
    (keysc : ∀ q,Hc'.lookup q ≠ none → Hc.lookup q ≠ none) (hsl : ∀ t v,sl.lookup t = some v → ∀ q,v.free q = false → (H 0).lookup q ≠ none ∧ q ∉ lq)
    (hit : ∀ l F',XFrL E lq (Hc ++ H 0) nI F' → F'.ro = none → YieldsL E.P F' lq l n encs H → Exec E.P F' c ⟨(0,.clo (.yield l) [] []) :: argSlotsV 1 caps,Hc ++ H 0⟩ (fun e S'=>(e = .normal ∨ e = .ret) ∧ HasB S' (Hc' ++ H n)))
    (hround : ∀ k,k < n → ∃ S1,(∀ F',XFrL E lq (H k) F.nt F' → Exec E.P F' asx ⟨ps.zip ((encs k).map .p) ++ sl,H k⟩ (fun e S'=>e = .normal ∧ S1.le S')) ∧
      (∀ F',XFrL E lq (H k) F.nt F' → Exec E.P F' bd S1 (fun e S'=>e = .normal ∧ HasB S' (H (k + 1)))))
    (hQ : Q .normal ⟨sl,Hc' ++ H n⟩) : Exec E.P F (.rangeFunc (.tmp tg) ps.toArray asx bd) S Q:=by
  refine ⟨fun nn a w ⟨ρ,h⟩=>wpIn_rangeFunc ?_⟩
  intro fid _
  have hsa:=same_allL keys same
  obtain ⟨uT,huT,hrT⟩:=h.slots tg _ htg
  simp only [RelV,RelVL] at hrT
  obtain ⟨fs,cs,rfl,rfl,hcs⟩:=hrT
  have htgv : a.eval (.tmp tg) = .func (.func gf) #[] cs.toArray:=by simp [Act.eval,Array.getD_eq_getD_getElem?,huT]
  have h0:=h.weakR hle
  let S0 : St:=⟨sl,Hc ++ H 0⟩
  have hS0 : ∀ q,S0.blk q = (Hc.lookup q).or ((H 0).lookup q):=fun q=>lookup_append _ _ _
  have hS0H : ∀ q B,(H 0).lookup q = some B → S0.blk q = some B:=fun q B hq=>by
    rw [hS0]
    cases e : Hc.lookup q with
    | none=>simp [hq]
    | some B'=>have:=(hdis q (by simp [e])).2 0 (by omega); rw [hq] at this; cases this
  obtain ⟨W1,hW1⟩ : ∃ W1,W1 = (w.alloc (.deferred (some []))).alloc (.loop (mkLL fid a.tmps ps asx bd w.heap.size .ready none)):=⟨_,rfl⟩
  have hsz1 : W1.heap.size = w.heap.size + 2:=by rw [hW1]; simp
  have hl1 : W1.heap[w.heap.size + 1]? = some (.loop (mkLL fid a.tmps ps asx bd w.heap.size .ready none)):=by
    rw [hW1]; have:=World.alloc_heap_new (w.alloc (.deferred (some []))) (.loop (mkLL fid a.tmps ps asx bd w.heap.size .ready none)); rwa [World.size_alloc] at this
  have hD1 : W1.heap[w.heap.size]? = some (.deferred (some [])):=by
    rw [hW1]; exact (Below.heap_alloc _ _ _ (by simp)).trans (World.alloc_heap_new w _)
  have hold1 : ∀ b,b < w.heap.size → W1.heap[b]? = w.heap[b]?:=fun b hb=>by
    rw [hW1]; exact (Below.heap_alloc _ _ _ (by simp; omega)).trans (Below.heap_alloc _ _ _ hb)
  have hos1 : W1.os = w.os ∧ W1.tape = w.tape ∧ W1.output = w.output:=by rw [hW1]; exact ⟨rfl,rfl,rfl⟩
  have hfsz:=h.frame.size
  have hne : ∀ q,S0.blk q ≠ none → ρ q < w.heap.size:=fun q hq=>by
    obtain ⟨B,hB⟩:=Option.ne_none_iff_exists'.1 hq
    obtain ⟨c,e1,_⟩:=h0.blks q B hB; exact World.size_lt e1
  have hXng : ∀ q,S0.blk q ≠ none → E.ng ≤ ρ q:=fun q hq=>by
    obtain ⟨B,hB⟩:=Option.ne_none_iff_exists'.1 hq
    obtain ⟨_,_,e2,_⟩:=h0.blks q B hB
    rcases e2 with e2 | e2
    · exact hX _ e2.1
    · omega
  obtain ⟨FI,hFI⟩ : ∃ FI : Fr,FI = ⟨W1,fun b=>okI F S0.blk ρ b ∧ b < w.heap.size,fun b=>∃ q,S0.blk q ≠ none ∧ b = ρ q,nI,[],fun q=>if S0.blk q ≠ none ∧ q ∉ lq then match hp w (ρ q) with | some (.cells c _ _)=>some (ρ q,c.size) | _=>none else none,none,fun _ _=>False,fun q=>(S0.blk q).isNone && !lq.contains q⟩:=⟨_,rfl⟩
  have iw : FI.w0 = W1:=by rw [hFI]
  have ix : ∀ b,FI.X b ↔ ∃ q,S0.blk q ≠ none ∧ b = ρ q:=fun b=>by rw [hFI]
  have ik : ∀ b,FI.okA b ↔ okI F S0.blk ρ b ∧ b < w.heap.size:=fun b=>by rw [hFI]
  have ipin : ∀ q B c,q ∉ lq → S0.blk q = some B → hp w (ρ q) = some (.cells c B.T (0,0)) → FI.pin q = some (ρ q,c.size):=fun q B c hl h1 h2=>by
    rw [hFI]; simp only; rw [if_pos ⟨by rw [h1]; simp,hl⟩,h2]
  have ipinL : ∀ q,q ∈ lq → FI.pin q = none:=fun q hl=>by rw [hFI]; simp only; rw [if_neg (fun c=>c.2 hl)]
  have iXlt : ∀ b,FI.X b → b < w.heap.size:=fun b hb=>by obtain ⟨q,h1,h2⟩:=(ix b).1 hb; rw [h2]; exact hne q h1
  have hGw : E.G w:=E.stab F.w0 w hG fun b hb=>h.frame.block b (by omega) (fun hx'=>by have:=hX b hx'; omega)
  have hG1 : E.G W1:=E.stab w W1 hGw fun b hb=>hold1 b (by omega)
  have iX : XFrL E lq (Hc ++ H 0) nI FI:=⟨by rw [iw]; exact hG1,fun b hb=>by obtain ⟨q,h1,h2⟩:=(ix b).1 hb; rw [h2]; exact hXng q h1,by rw [hFI],by rw [hFI],fun q hq=>by
    rcases hq with hq | hq
    · rw [hFI]; simp only; rw [if_neg (fun c=>c.1 (by simp only [S0,St.blk]; simp [hq]))]
    · exact ipinL q hq,fun q=>by rw [hFI]; rfl,by rw [iw]; omega⟩
  have hcarW : ∀ {ρ' S' a' W},SatR FI ρ' S' a' W → Carry (okI F S0.blk ρ) (okI FI S'.blk ρ') (hp w) (hp W):=fun {ρ' S' a' W} hs b hb hne'=>by
    have hbs : b < w.heap.size:=by obtain ⟨o,ho⟩:=Option.ne_none_iff_exists'.1 hne'; exact World.size_lt ho
    have hnX : ¬ FI.X b:=fun hx'=>by obtain ⟨q,h1,h2⟩:=(ix b).1 hx'; exact hb.2 q h1 h2
    refine ⟨⟨.inl ((ik b).2 ⟨hb,hbs⟩),fun q hq e=>?_⟩,(hs.frame.block b (by rw [iw]; omega) hnX).trans (by rw [iw]; exact hold1 b hbs)⟩
    obtain ⟨B,hB⟩:=Option.ne_none_iff_exists'.1 hq
    obtain ⟨_,_,e2,_⟩:=hs.blks q B hB
    rw [← e] at e2
    rcases e2 with e2 | e2
    · exact hnX e2.1
    · rw [iw] at e2; omega
  have hpinW : ∀ {ρ' S' a' W},SatR FI ρ' S' a' W → ∀ q B,q ∉ lq → S0.blk q = some B → S'.blk q ≠ none → ρ' q = ρ q ∧ ∀ c T,hp w (ρ q) = some (.cells c T (0,0)) → ∃ c' T',hp W (ρ q) = some (.cells c' T' (0,0)) ∧ c'.size = c.size:=fun {ρ' S' a' W} hs q B hl hB hS'=>by
    obtain ⟨c,e1,_⟩:=h0.blks q B hB
    obtain ⟨q1,c',T',q2,q3⟩:=hs.pin q _ _ (ipin q B c hl hB e1) hS'
    refine ⟨q1,fun c2 T2 h2=>⟨c',T',q2,?_⟩⟩
    rw [e1] at h2; injection h2 with h2; injection h2 with h2; rw [q3,h2]
  have hkeepW : ∀ {ρ' S' a' W} (β : Nat → Option Blk),SatR FI ρ' S' a' W → ∀ k,k ≤ n → (∀ q B,(H k).lookup q = some B → S'.blk q = some B) → (∀ q,(H 0).lookup q ≠ none ∧ q ∉ lq → ∀ B,β q = some B → (H k).lookup q = some B) → Keep (fun q=>(H 0).lookup q ≠ none ∧ q ∉ lq) S0.blk β ρ ρ' (hp w) (hp W):=fun {ρ' S' a' W} β hs k hk hH hβ q hq B' hB'=>by
    have hB':=hβ q hq B' hB'
    obtain ⟨B0,hB0⟩:=lookup_some hq.1
    obtain ⟨s1,s2⟩:=(hsa k hk q hq.2).2 B0 B' hB0 hB'
    have hb0:=hS0H q B0 hB0
    obtain ⟨q1,q2⟩:=hpinW hs q B0 hq.2 hb0 (by rw [hH q B' hB']; simp)
    refine ⟨B0,hb0,s1,by omega,fun _=>⟨q1,fun c T fr hc=>?_⟩⟩
    obtain ⟨c0,e1,_⟩:=h0.blks q B0 hb0
    have hc':=hc
    rw [e1] at hc'; injection hc' with hc'; injection hc' with r1 r2 r3; subst r1
    obtain ⟨c',T',g1,g2⟩:=q2 _ _ e1
    exact ⟨c',T',(0,0),g1,g2⟩
  have hIt : ItFrL FI (w.heap.size + 1) w.heap.size (mkLL fid a.tmps ps asx bd w.heap.size .ready none) lq H n:=by
    refine ⟨by rw [hFI],by rw [iw]; exact hl1,fun hh=>by have:=iXlt _ hh; omega,fun hh=>by have:=((ik _).1 hh).2; omega,by rw [iw]; omega,ipinL,keys,keysL,same,fun k hk q hq=>?_,cont⟩
    rw [hFI]; simp only
    by_cases hl : q ∈ lq
    · simp [hl]
    · obtain ⟨B0,hB0⟩:=lookup_some ((hsa k hk q hl).1.1 hq)
      rw [hS0H q B0 hB0]; rfl
  have hY : YieldsL E.P FI lq (w.heap.size + 1) n encs H:=by
    refine yields_ofL (nt:=F.nt) (sl:=sl) hIt (by rw [iw]; exact hG1) iX.x iX.ng (by omega) h.nt hps hlt hen (fun k hk ρ' S' a' W hs hH _ t v ht=>?_) hround
    obtain ⟨u,hu,hr'⟩:=h0.slots t v ht
    refine ⟨u,hu,RelV.mono (hcarW hs) (hkeepW (lk (H k)) hs k hk hH (fun q _ B hB=>hB)) v u (hsl t v ht) hr'⟩
  refine ⟨w.heap.size + 1,[{ target:=.collected w.heap.size,args:=#[] }],W1,{ target:=.fn (.func gf) cs.toArray,args:=#[.func (.yield (w.heap.size + 1)) #[] #[]] },W1,gf,#[.func (.yield (w.heap.size + 1)) #[] #[]] ++ cs.toArray,W1,?_,?_,fun _ _=>trivial,?_,fun hh=>by simp [Fence.wide] at hh,?_⟩
  · show (Instr.enterLoop fid a.tmps ps.toArray asx bd F.ro).run E.P w = _
    rw [hro,hW1]; exact run_enterLoop_outer _ _ _ _ _
  · simp only [resolve,rangeCall,htgv]; simp [Deferred.ofValue,Act.eval]
  · simp [invoke,eg]
  have hfw : fen F = Fence.wide:=by simp [fen,hro,Fence.wide]
  rw [hfw]
  refine callsIn_wide.2 ?_
  rw [show (#[Value.func (.yield (w.heap.size + 1)) #[] #[]] ++ cs.toArray : Array Value) = (Value.func (.yield (w.heap.size + 1)) #[] #[] :: cs).toArray by simp]
  have hcl' : cs.length = caps.length:=relVL_length hcs
  have hSI : SatR FI ρ ⟨(0,.clo (.yield (w.heap.size + 1)) [] []) :: argSlotsV 1 caps,Hc ++ H 0⟩ { tmps:=(Value.func (.yield (w.heap.size + 1)) #[] #[] :: cs).toArray ++ Array.replicate (fn.ntmps - (Value.func (.yield (w.heap.size + 1)) #[] #[] :: cs).toArray.size) undef,defers:=[] } W1:=by
    have hcar : Carry (okI F S.blk ρ) (okI FI (St.blk ⟨(0,.clo (.yield (w.heap.size + 1)) [] []) :: argSlotsV 1 caps,Hc ++ H 0⟩) ρ) (hp w) (hp W1):=fun b hb hne'=>by
      have hbs : b < w.heap.size:=by obtain ⟨o,ho⟩:=Option.ne_none_iff_exists'.1 hne'; exact World.size_lt ho
      have hsub : ∀ q,S0.blk q ≠ none → S.blk q ≠ none:=fun q hq=>by obtain ⟨B,hB⟩:=Option.ne_none_iff_exists'.1 hq; rw [hle.2 q B hB]; simp
      exact ⟨⟨.inl ((ik b).2 ⟨⟨hb.1,fun q hq=>hb.2 q (hsub q hq)⟩,hbs⟩),fun q hq=>hb.2 q (hsub q hq)⟩,hold1 b hbs⟩
    have hkp : Keep (fun _=>True) S.blk (St.blk ⟨(0,.clo (.yield (w.heap.size + 1)) [] []) :: argSlotsV 1 caps,Hc ++ H 0⟩) ρ ρ (hp w) (hp W1):=fun q _ B hB=>⟨B,hle.2 q B hB,rfl,Nat.le_refl _,fun _=>⟨rfl,fun c T fr hc=>⟨c,T,fr,(hold1 _ (hne q (by have hB' : S0.blk q = some B:=hB; simp [hB']))).trans hc,rfl⟩⟩⟩
    refine h.move (Kp:=fun _=>True) (by rw [hFI]; exact ⟨rfl,rfl,rfl,Nat.le_refl _,fun _ _ _=>rfl⟩) (by rw [iX.nt]; simp [hn,hcl']; omega) (Marks.nil iX.df) hcar hkp (fun q q' h1 h2 e=>h0.inj q q' h1 h2 e) (fun j b m hj hS=>?_) (fun t v ht=>.inr ?_) (fun q B hB=>.inl ⟨hle.2 q B hB,rfl,hold1 _ (hne q (by have hB' : S0.blk q = some B:=hB; simp [hB'])),.inl ⟨(ix _).2 ⟨q,by have hB' : S0.blk q = some B:=hB; simp [hB'],rfl⟩,by have hB' : S0.blk q = some B:=hB; rw [hFI]; simp [hB']⟩,fun _ _ _ _ _=>trivial⟩)
    · have hS' : S0.blk j ≠ none:=hS
      obtain ⟨B,hB⟩:=Option.ne_none_iff_exists'.1 hS'
      obtain ⟨c,e1,_⟩:=h0.blks j B hB
      by_cases hjl : j ∈ lq
      · rw [ipinL j hjl] at hj; cases hj
      rw [ipin j B c hjl hB e1] at hj
      injection hj with hj; injection hj with hj1 hj2
      subst hj1 hj2
      exact ⟨rfl,c,B.T,(hold1 _ (hne j hS')).trans e1,rfl⟩
    · simp only [St.slot,List.lookup_cons] at ht
      split at ht
      · rename_i e; injection ht with ht; subst ht
        obtain rfl : t = 0:=by simpa using e
        exact ⟨.func (.yield (w.heap.size + 1)) #[] #[],by rw [Array.getElem?_append_left (by simp)]; simp,by simp [RelV,RelVL]⟩
      · obtain ⟨j,rfl,hx⟩:=argSlotsV_get ht
        obtain ⟨u,hu,hru⟩:=relVL_get hcs hx
        refine ⟨u,?_,RelV.mono hcar hkp v u (fun _ _=>trivial) hru⟩
        have hjl:=(List.getElem?_eq_some_iff.1 hu).1
        rw [Array.getElem?_append_left (by simp; omega)]
        simp [Nat.add_comm 1 j,hu]
  refine calls_exec hf hb (by rw [hFI]) iX.df (by rw [hFI]; exact fun _ _ h=>h) ⟨ρ,hSI⟩ (hit _ FI iX (by rw [hFI]) hY) fun e SE hq=>⟨hq.1,fun ρE tmps W2 hE=>?_⟩
  have hHB:=hq.2
  refine ⟨.tuple #[],by unfold results; rw [hr]; simp,?_⟩
  have hSE : ∀ q B,(Hc' ++ H n).lookup q = some B → SE.blk q = some B:=fun q B hq=>hHB.all q B hq
  have hl2 : W2.heap[w.heap.size + 1]? = some (.loop (mkLL fid a.tmps ps asx bd w.heap.size .ready none)):=(hE.frame.block _ (by rw [iw]; omega) (fun hh=>by have:=iXlt _ hh; omega)).trans (by rw [iw]; exact hl1)
  have hD2 : W2.heap[w.heap.size]? = some (.deferred (some [])):=(hE.frame.block _ (by rw [iw]; omega) (fun hh=>by have:=iXlt _ hh; omega)).trans (by rw [iw]; exact hD1)
  obtain ⟨W4,hW4⟩ : ∃ W4,W4 = W2.putObj (w.heap.size + 1) (.loop (mkLL fid a.tmps ps asx bd w.heap.size .exhausted none)):=⟨_,rfl⟩
  have hend : (Instr.endLoop (w.heap.size + 1)).run E.P W2 = .ok none W4:=by rw [hW4]; exact run_endLoop hl2 (by simp [mkLL])
  refine ⟨none,W4,hend,?_⟩
  have hother : ∀ b,b ≠ w.heap.size + 1 → W4.heap[b]? = W2.heap[b]?:=fun b hb=>by rw [hW4]; exact World.putObj_heap_other hb
  have hsz2:=hE.frame.size
  rw [iw] at hsz2
  have hown : ∀ q,SE.blk q ≠ none → ρE q ≠ w.heap.size + 1 ∧ ρE q ≠ w.heap.size:=fun q hq=>by
    obtain ⟨B,hB⟩:=Option.ne_none_iff_exists'.1 hq
    obtain ⟨c2,q1,_⟩:=hE.blks q B hB
    refine ⟨fun e2=>?_,fun e2=>?_⟩
    · rw [e2] at q1
      have : hp W2 (w.heap.size + 1) = some (.loop (mkLL fid a.tmps ps asx bd w.heap.size .ready none)):=hl2
      rw [this] at q1; cases q1
    · rw [e2] at q1
      have : hp W2 w.heap.size = some (.deferred (some [])):=hD2
      rw [this] at q1; cases q1
  have hend0 : ∀ q B,q ∉ lq → (Hc' ++ H n).lookup q = some B → ∃ B0,S0.blk q = some B0:=fun q B hl hq=>by
    rw [lookup_append] at hq
    cases e : Hc'.lookup q with
    | some B1 =>
      obtain ⟨B0,hB0⟩:=lookup_some (keysc q (by simp [e]))
      exact ⟨B0,by rw [hS0,hB0]; rfl⟩
    | none =>
      rw [e,Option.none_or] at hq
      obtain ⟨B0,hB0⟩:=lookup_some ((hsa n (Nat.le_refl _) q hl).1.1 (by simp [hq]))
      exact ⟨B0,hS0H q B0 hB0⟩
  have hplace : ∀ q B,q ∉ lq → (Hc' ++ H n).lookup q = some B → ρE q = ρ q:=fun q B hl hq=>by
    obtain ⟨B0,hB0⟩:=hend0 q B hl hq
    exact (hpinW hE q B0 hl hB0 (by rw [hSE q B hq]; simp)).1
  have hlI : ∀ b,okI FI SE.blk ρE b → b ≠ w.heap.size + 1:=fun b hb e=>by
    subst e
    rcases hb.1 with hb1 | hb1
    · exact hIt.lok hb1
    · rw [iw] at hb1; omega
  have hokE : ∀ b,okI FI SE.blk ρE b → okI F (St.blk ⟨sl,Hc' ++ H n⟩) ρE b:=fun b hb=>by
    refine ⟨?_,fun q hq=>?_⟩
    · rcases hb.1 with hb1 | hb1
      · exact ((ik b).1 hb1).1.1
      · rw [iw] at hb1; exact .inr (by omega)
    · obtain ⟨B,hB⟩:=Option.ne_none_iff_exists'.1 hq
      exact hb.2 q (by rw [hSE q B hB]; simp)
  have hnX : ∀ b,b < F.w0.heap.size → ¬ F.X b → ¬ FI.X b:=fun b hb hx' hh=>by
    obtain ⟨q,h1,h2⟩:=(ix b).1 hh
    obtain ⟨B,hB⟩:=Option.ne_none_iff_exists'.1 h1
    obtain ⟨_,_,e2,_⟩:=h0.blks q B hB
    rw [← h2] at e2
    rcases e2 with e2 | e2
    · exact hx' e2.1
    · omega
  refine .inl ⟨⟨sl,Hc' ++ H n⟩,hQ,ρE,?_⟩
  have hfr4 : Frame F W4:=by
    have hfE:=hE.frame
    refine ⟨?_,?_,?_,?_,fun b hb hx'=>?_⟩
    · rw [hW4]; show W2.os = _; rw [hfE.os,iw,hos1.1]; exact h.frame.os
    · rw [hW4]; show W2.tape = _; rw [hfE.tape,iw,hos1.2.1]; exact h.frame.tape
    · rw [hW4]; show W2.output = _; rw [hfE.output,iw,hos1.2.2]; exact h.frame.output
    · rw [hW4]; simp; omega
    · rw [hother b (by omega),hfE.block b (by rw [iw]; omega) (hnX b hb hx'),iw,hold1 b (by omega)]; exact h.frame.block b hb hx'
  obtain ⟨Ds,d1,d2,d3⟩:=h.df
  have hcar4 : Carry (okI FI SE.blk ρE) (okI F (St.blk ⟨sl,Hc' ++ H n⟩) ρE) (hp W2) (hp W4):=fun b hb _=>⟨hokE b hb,hother b (hlI b hb)⟩
  have hkeep4 : Keep (fun _=>True) SE.blk (St.blk ⟨sl,Hc' ++ H n⟩) ρE ρE (hp W2) (hp W4):=fun q _ B hB=>⟨B,hSE q B hB,rfl,Nat.le_refl _,fun _=>⟨rfl,fun c T fr hc=>⟨c,T,fr,(hother _ (hown q (by rw [hSE q B hB]; simp)).1).trans hc,rfl⟩⟩⟩
  have hsub : ∀ q,St.blk ⟨sl,Hc' ++ H n⟩ q ≠ none → SE.blk q ≠ none:=fun q hq=>by
    obtain ⟨B,hB⟩:=Option.ne_none_iff_exists'.1 hq
    rw [hSE q B hB]; simp
  refine hE.move (Kp:=fun _=>True) hfr4 h.nt ⟨w.heap.size :: Ds,by rw [d1]; rfl,List.nodup_cons.2 ⟨fun hm=>?_,d2⟩,fun D' hD'=>?_⟩ hcar4 hkeep4 (fun q q' h1 h2 e=>hE.inj q q' (hsub q h1) (hsub q' h2) e) (fun j b m hj hS=>?_) (fun t v ht=>.inr ?_) (fun q B hB=>.inl ⟨hSE q B hB,rfl,hother _ (hown q (by rw [hSE q B hB]; simp)).1,?_,fun _ _ _ _ _=>trivial⟩)
  · obtain ⟨_,q2⟩:=d3 _ hm; have:=World.size_lt q2; omega
  · rcases List.mem_cons.1 hD' with rfl | hD'
    · exact ⟨hfsz,(hother _ (by omega)).trans hD2⟩
    · obtain ⟨q1,q2⟩:=d3 D' hD'
      have hlt':=World.size_lt q2
      refine ⟨q1,(hother _ (by omega)).trans ((hE.frame.block D' (by rw [iw]; omega) (fun hh=>?_)).trans (by rw [iw]; exact (hold1 _ hlt').trans q2))⟩
      obtain ⟨q,h1,h2⟩:=(ix _).1 hh
      obtain ⟨B,hB⟩:=Option.ne_none_iff_exists'.1 h1
      obtain ⟨c,e1,_⟩:=h0.blks q B hB
      have : hp w D' = some (.deferred (some [])):=q2
      rw [← h2,this] at e1; cases e1
  · obtain ⟨B,hB⟩:=Option.ne_none_iff_exists'.1 hS
    have hjl : j ∉ lq:=fun hl=>by rw [hpl j hl] at hj; cases hj
    obtain ⟨B0,hB0⟩:=hend0 j B hjl hB
    obtain ⟨q1,c,T,q2,q3⟩:=h0.pin j b m hj (by show S0.blk j ≠ none; rw [hB0]; simp)
    obtain ⟨r1,r2⟩:=hpinW hE j B0 hjl hB0 (by rw [hSE j B hB]; simp)
    rw [← q1] at q2
    obtain ⟨c',T',g1,g2⟩:=r2 c T q2
    refine ⟨r1.trans q1,c',T',?_,g2.trans q3⟩
    rw [← q1]
    exact (hother _ (by rw [← r1]; exact (hown j (by rw [hSE j B hB]; simp)).1)).trans g1
  · obtain ⟨u,hu,hr'⟩:=h0.slots t v ht
    refine ⟨u,hu,?_⟩
    have m1:=RelV.mono (hcarW hE) (hkeepW (fun q=>(Hc' ++ H n).lookup q) hE n (Nat.le_refl _) (fun q B hq=>?_) (fun q hq B hB=>?_)) v u (hsl t v ht) hr'
    · exact RelV.mono (K:=fun _=>True) hcar4 (fun q _ B hB=>⟨B,hB,rfl,Nat.le_refl _,fun _=>⟨rfl,fun c T fr hc=>⟨c,T,fr,(hother _ (hown q (by rw [hSE q B hB]; simp)).1).trans hc,rfl⟩⟩⟩) v u (fun _ _=>trivial) m1
    · refine hSE q B ?_
      rw [lookup_append]
      cases e : Hc'.lookup q with
      | none=>simp [hq]
      | some B1=>have:=(hdis q (keysc q (by simp [e]))).2 n (Nat.le_refl _); rw [hq] at this; cases this
    · rw [lookup_append] at hB
      cases e : Hc'.lookup q with
      | none=>rw [e,Option.none_or] at hB; exact hB
      | some B1=>exact absurd ((hdis q (keysc q (by simp [e]))).2 0 (by omega)) hq.1
  · by_cases hl : q ∈ lq
    · obtain ⟨_,_,e2,_⟩:=hE.blks q B (hSE q B hB)
      rcases e2 with e2 | e2
      · obtain ⟨q',h1,h2⟩:=(ix _).1 e2.1
        obtain ⟨B0,hB0⟩:=Option.ne_none_iff_exists'.1 h1
        obtain ⟨_,_,e3,_⟩:=h0.blks q' B0 hB0
        rw [← h2] at e3
        rcases e3 with e3 | e3
        · exact .inl ⟨e3.1,hlx _ e3.1 q hl⟩
        · exact .inr e3
      · rw [iw] at e2; exact .inr (by omega)
    · obtain ⟨B0,hB0⟩:=hend0 q B hl hB
      rw [hplace q B hl hB]
      obtain ⟨_,_,e2,_⟩:=h0.blks q B0 hB0
      exact e2
theorem nsY {P : Program} {F : Fr} {ops : Array Oper} {d : Nat} {fo : Operand} {yo : List Operand} {ts : Array TypeId} {T : TypeId} {pos : String} {aft : Array Edge} {lq : List Nat} {l n : Nat} {encs : Nat → List Pure} {H : Nat → List (Nat × Blk)} {os : List Oper} {sl : List (Nat × PV)} {hb : List (Nat × Blk)} {K : St → Prop} (hY : YieldsL P F lq l n encs H) (k : Nat) (hk : k < n) (hlt : d < F.nt) (hol : yo.length = (encs k).length)
    (h1 : Reads ⟨sl,hb⟩ ((fo,.clo (.yield l) [] []) :: yo.zip ((encs k).map .p))) (h2 : ReadsB ⟨sl,hb⟩ (H k)) (h3 : looseB lq (H k) ⟨sl,hb⟩ = true)
    (hn : SeqS P F ops os ⟨(d,.p (.a (.bool true))) :: sl,H (k + 1) ++ hb⟩ K) : SeqS P F ops (⟨some d,.call ⟨.value fo,yo.toArray,ts⟩,T,pos,aft,none⟩ :: os) ⟨sl,hb⟩ K :=
  .cons (fun a w hS Q K' hK=>by
    have hw : Region.wanted ⟨some d,.call ⟨.value fo,yo.toArray,ts⟩,T,pos,aft,none⟩ (yielded ops a.tmps) = true:=rfl
    rw [if_pos hw]
    exact .inr fun m=>hY k hk d fo yo ts T pos aft none hlt hol _ a w hS (holds_of h1 h2 trivial) (looseS_of h3) Q K' hK m) hn
end Go.Proofs.YtcifhkfpmhifaaaGreatDoor.SH
namespace Go.Proofs.YtcifhkfpmhifaaaGreatDoor.SH
open Go Go.RowKit
theorem says_ofR {E : Env} {f : FuncId} {fn : Func} {c : Code} {args xs : List Pure} {rs : List ResultVar} {n : Nat} (hf : E.P.funcs[f]? = some fn) (hb : fn.body = some c) (hn : fn.ntmps = n) (hr : fn.results = rs.toArray) (hle : args.length ≤ n)
    (h : ∀ F : Fr,E.G F.w0 → (∀ b,¬ F.X b) → F.nt = n → F.df = [] → (∀ k,Nat.blt k 1000 = true → F.pin k = none) → F.ro = none → Exec E.P F c ⟨argSlots 0 args,[]⟩ (fun e S=>(e = .normal ∨ e = .ret) ∧ ResVs E.P S rs xs)) : Says E f args (resOf xs):=by
  intro ok w vals hG hrel
  have hvl:=hrel.length
  let F : Fr:=⟨w,ok,fun _=>False,n,[],fun _=>none,none,fun _ _=>False,fun k=>Nat.blt k 1000⟩
  have hS : Sat F ⟨argSlots 0 args,[]⟩ { tmps:=vals.toArray ++ Array.replicate (fn.ntmps - vals.toArray.size) undef,defers:=[] } w:=by
    refine ⟨fun _=>0,⟨fun t v ht=>?_,fun k B hB=>by simp [St.blk] at hB,fun k k' hk=>by simp [St.blk] at hk,⟨rfl,rfl,rfl,Nat.le_refl _,fun _ _ _=>rfl⟩,?_,Marks.nil rfl,fun j b n hj=>by cases hj⟩⟩
    · obtain ⟨j,x,rfl,hx,rfl⟩:=argSlots_get ht
      obtain ⟨u,hu,hru⟩:=hrel.get hx
      refine ⟨u,?_,?_⟩
      · rw [Nat.zero_add,Array.getElem?_append_left (by have:=(List.getElem?_eq_some_iff.1 hu).1; simpa using this)]
        simpa using hu
      · simp only [RelV]
        exact Rel.mono (fun b hb _=>⟨⟨.inl hb,fun k hk=>by simp [St.blk] at hk⟩,rfl⟩) _ _ hru
    · simp [F,hn]; omega
  refine calls_exec hf hb rfl rfl (fun _ _ h=>h) hS (h F hG (fun _ h=>h) rfl rfl (fun _ _=>rfl) rfl) fun e S' hq=>⟨hq.1,fun ρ tmps w' hS'=>?_⟩
  obtain ⟨v,hv,hrv⟩:=results_run hS' hr hq.2
  exact ⟨v,hv,v,rfl,Rel.mono (fun b hb _=>⟨hb.1,rfl⟩) _ _ hrv,⟨hS'.frame.os,hS'.frame.tape,hS'.frame.output,hS'.frame.size,fun k hk=>hS'.frame.block k hk (fun h=>h)⟩⟩
theorem saysX_ofR {E : Env} {f : FuncId} {fn : Func} {c : Code} {args : List PV} {H H' : List (Nat × Blk)} {xs : List Pure} {rs : List ResultVar} {n : Nat} (hf : E.P.funcs[f]? = some fn) (hb : fn.body = some c) (hn : fn.ntmps = n) (hr : fn.results = rs.toArray) (hle : args.length ≤ n)
    (hk : H.all (fun p=>decide (1000 ≤ p.1)) = true) (hk' : ∀ j B',H'.lookup j = some B' → ∃ B,H.lookup j = some B)
    (h : ∀ F : Fr,E.G F.w0 → (∀ b,F.X b → E.ng ≤ b) → F.nt = n → F.df = [] → (∀ k,Nat.blt k 1000 = true → F.pin k = none) → (∀ b,F.X b → ∃ j n,F.pin j = some (b,n) ∧ H.lookup j ≠ none) → F.ro = none → (∀ k,F.lo k = Nat.blt k 1000) → (∀ k,H.lookup k = none → F.pin k = none) → Exec E.P F c ⟨argSlotsV 0 args,H⟩ (fun e S=>(e = .normal ∨ e = .ret) ∧ ResVs E.P S rs xs ∧ HasB S H')) : SaysX E f args H H' (resOf xs):=by
  intro ok ρ w vals hG hH hinj hrel
  have hvl:=relVL_length hrel
  let F : Fr:=⟨w,ok,fun b=>∃ j,H.lookup j ≠ none ∧ b = ρ j,n,[],fun j=>if H.lookup j ≠ none then match hp w (ρ j) with | some (.cells c _ _)=>some (ρ j,c.size) | _=>none else none,none,fun _ _=>False,fun k=>Nat.blt k 1000⟩
  have hblk : ∀ j,H.lookup j ≠ none → ∃ B,H.lookup j = some B:=fun j hj=>by cases e : H.lookup j with
    | none=>exact absurd e hj
    | some B=>exact ⟨B,rfl⟩
  have hpin : ∀ j B c,H.lookup j = some B → hp w (ρ j) = some (.cells c B.T (0,0)) → F.pin j = some (ρ j,c.size):=fun j B c hj hc=>by
    simp only [F]
    rw [if_pos (by simp [hj]),hc]
  have hcarry : Carry ok (okI F (lk H) ρ) (hp w) (hp w):=fun b hb _=>⟨⟨.inl hb,fun k hk e=>by obtain ⟨B,hB⟩:=hblk k hk; exact (hH k B hB).2.2 (e ▸ hb)⟩,rfl⟩
  have hkeep : Keep (fun _=>True) (lk H) (lk H) ρ ρ (hp w) (hp w):=fun k _ B hB=>⟨B,hB,rfl,Nat.le_refl _,fun _=>⟨rfl,fun c T fr hc=>⟨c,T,fr,hc,rfl⟩⟩⟩
  have hS : SatR F ρ ⟨argSlotsV 0 args,H⟩ { tmps:=vals.toArray ++ Array.replicate (fn.ntmps - vals.toArray.size) undef,defers:=[] } w:=by
    refine ⟨fun t v ht=>?_,fun k B hB=>?_,hinj,⟨rfl,rfl,rfl,Nat.le_refl _,fun _ _ _=>rfl⟩,?_,Marks.nil rfl,fun j b m hj hS=>?_⟩
    · obtain ⟨j,rfl,hx⟩:=argSlotsV_get ht
      obtain ⟨u,hu,hru⟩:=relVL_get hrel hx
      refine ⟨u,?_,RelV.mono hcarry hkeep v u (fun _ _=>trivial) hru⟩
      rw [Nat.zero_add,Array.getElem?_append_left (by have:=(List.getElem?_eq_some_iff.1 hu).1; simpa using this)]
      simpa using hu
    · obtain ⟨⟨c,h1,h2,h3⟩,h4,h5⟩:=hH k B hB
      refine ⟨c,h1,.inl ⟨⟨k,by simp only [St.blk] at hB; simp [hB],rfl⟩,by cases e : Nat.blt k 1000 with | false=>exact e | true=>exact absurd hB (by simp [St.blk,lookup_high hk e])⟩,h2,fun i x hx=>?_⟩
      obtain ⟨u,hu,ho,hru⟩:=h3 i x hx
      exact ⟨u,hu,ho,RelV.mono hcarry hkeep x u (fun _ _=>trivial) hru⟩
    · simp [F,hn]; omega
    · obtain ⟨B,hB⟩:=hblk j hS
      obtain ⟨⟨c,h1,_⟩,_⟩:=hH j B hB
      rw [hpin j B c hB h1] at hj
      injection hj with hj
      injection hj with hj1 hj2
      subst hj1 hj2
      exact ⟨rfl,c,B.T,h1,rfl⟩
  refine calls_exec hf hb rfl rfl (fun _ _ h=>h) ⟨ρ,hS⟩ (h F hG (fun b ⟨j,hj,e⟩=>by obtain ⟨B,hB⟩:=hblk j hj; subst e; exact (hH j B hB).2.1) rfl rfl (fun k hk2=>by simp only [F]; rw [if_neg (by simp [lookup_high hk hk2])]) (fun b ⟨j,hj,e⟩=>by obtain ⟨B,hB⟩:=hblk j hj; obtain ⟨⟨c,h1,_⟩,_⟩:=hH j B hB; subst e; exact ⟨j,_,hpin j B c hB h1,hj⟩) rfl (fun _=>rfl) (fun k hk2=>by simp only [F]; rw [if_neg (by simp [hk2])])) fun e S' hq=>⟨hq.1,fun ρ' tmps w' hS'=>?_⟩
  obtain ⟨-,hres,hHB⟩:=hq
  obtain ⟨v,hv,hrv⟩:=results_run hS' hr hres
  have hpin' : ∀ j B',H'.lookup j = some B' → ρ' j = ρ j ∧ S'.blk j = some B' ∧ ∀ c T,hp w (ρ j) = some (.cells c T (0,0)) → ∃ c' T',hp w' (ρ j) = some (.cells c' T' (0,0)) ∧ c'.size = c.size:=fun j B' hj=>by
    have hsb:=hHB.all j B' hj
    obtain ⟨B,hB⟩:=hk' j B' hj
    obtain ⟨⟨c,h1,_⟩,_⟩:=hH j B hB
    obtain ⟨e1,c',T',e2,e3⟩:=hS'.pin j _ _ (hpin j B c hB h1) (by simp [hsb])
    refine ⟨e1,hsb,fun c2 T2 hc2=>⟨c',T',e2,?_⟩⟩
    rw [h1] at hc2
    injection hc2 with hc2
    injection hc2 with hc2
    rw [e3,hc2]
  have hcar : Carry (okI F S'.blk ρ') (fun b=>(ok b ∨ w.heap.size ≤ b) ∧ ∀ j,H'.lookup j ≠ none → b ≠ ρ j) (hp w') (hp w'):=fun b hb _=>⟨⟨hb.1,fun j hj e=>by
    cases hj' : H'.lookup j with
    | none=>exact hj hj'
    | some B' =>
      obtain ⟨e1,e2,_⟩:=hpin' j B' hj'
      exact hb.2 j (by simp [e2]) (by rw [e1]; exact e)⟩,rfl⟩
  have hfin : ∃ v0, Ending.returned v = .returned v0 ∧ Rel (fun b => (ok b ∨ w.heap.size ≤ b) ∧ ∀ j, H'.lookup j ≠ none → b ≠ ρ j) (hp w') (resOf xs) v0 ∧
      (∀ j B',H'.lookup j = some B' → BlkAt (lk H') ρ (fun b=>(ok b ∨ w.heap.size ≤ b) ∧ ∀ j,H'.lookup j ≠ none → b ≠ ρ j) (hp w') j B' ∧
        ∀ c T,hp w (ρ j) = some (.cells c T (0,0)) → ∃ c' T',hp w' (ρ j) = some (.cells c' T' (0,0)) ∧ c'.size = c.size) ∧
      w'.os = w.os ∧ w'.tape = w.tape ∧ w'.output = w.output ∧ w.heap.size ≤ w'.heap.size ∧ ∀ b,b < w.heap.size → (∀ j,H.lookup j ≠ none → b ≠ ρ j) → w'.heap[b]? = w.heap[b]?:=by
    refine ⟨v,rfl,Rel.mono hcar _ _ hrv,fun j B' hj=>?_,hS'.frame.os,hS'.frame.tape,hS'.frame.output,hS'.frame.size,fun b hb hx=>hS'.frame.block b hb (fun ⟨j,hj,e⟩=>hx j hj e)⟩
    obtain ⟨e1,e2,e3⟩:=hpin' j B' hj
    obtain ⟨c',f1,_,f3,f4⟩:=hS'.blks j B' e2
    refine ⟨⟨c',by rw [← e1]; exact f1,f3,fun i x hx=>?_⟩,e3⟩
    obtain ⟨u,hu,ho,hru⟩:=f4 i x hx
    refine ⟨u,hu,ho,RelV.mono (K:=fun _=>True) hcar (fun k _ B hB=>?_) x u (fun _ _=>trivial) hru⟩
    obtain ⟨g1,g2,_⟩:=hpin' k B hB
    exact ⟨B,g2,rfl,Nat.le_refl _,fun _=>⟨g1.symm,fun c T fr hc=>⟨c,T,fr,hc,rfl⟩⟩⟩
  exact ⟨v,hv,hfin⟩
section
variable {P : Program} {F : Fr} {ops : Array Oper} {sl : List (Nat × PV)} {hb : List (Nat × Blk)} {op : Op} {T : TypeId} {pos : String} {aft : Array Edge} {os : List Oper} {dst : Option Nat} {rs : List (Operand × PV)} {rb : List (Nat × Blk)} {K : St → Prop}
theorem nswB {d : Nat} {v : PV} {wb : List (Nat × Blk)} (hc : CoreOk P F ⟨dst,op,T,pos,aft,none⟩ ⟨rs,rb,none,[(d,v)],wb⟩) (h1 : Reads ⟨sl,hb⟩ rs) (h2 : ReadsB ⟨sl,hb⟩ rb) (hn : SeqS P F ops os ⟨(d,v) :: sl,wb ++ hb⟩ K) : SeqS P F ops (⟨dst,op,T,pos,aft,none⟩ :: os) ⟨sl,hb⟩ K :=
  .cons (fun a w hS Q K' hK=>opok_plain rfl hc _ a w hS (holds_of h1 h2 trivial) Q K' hK) hn
end
theorem lkL_none {l : List (Nat × Blk)} {k : Nat} (h : ∀ p ∈ l,p.1 ≠ k) : l.lookup k = none:=by
  rw [List.lookup_eq_none_iff]; intro p hp; simpa using (fun e=>h p hp e.symm)
theorem p0L {E : Env} {lq : List Nat} {H : List (Nat × Blk)} {n : Nat} {F : Fr} (X : XFrL E lq H n F) (ns : List Nat) (h : (H.all fun p=>ns.contains p.1 || lq.contains p.1) = true) : ∀ k,(!ns.contains k) = true → F.pin k = none:=fun k hk=>by
  refine X.p0 k ?_
  by_cases hl : k ∈ lq
  · exact .inr hl
  · refine .inl (lkL_none fun p hp e=>?_)
    rw [List.all_eq_true] at h
    have:=h p hp
    subst e
    simp only [Bool.or_eq_true,List.contains_iff_mem] at this
    rcases this with c | c
    · simp [c] at hk
    · exact hl c
theorem ncNew {F : Fr} {sl slR : List (Nat × PV)} {hb pre H' : List (Nat × Blk)} (ns : List Nat) (P0 : ∀ k, Nat.blt k 1000 = true → F.pin k = none) (hns : (H'.all fun p => ns.contains p.1) = true) (hf : (ns.all fun q => Nat.blt q 1000 && ((hb.all fun p => !(p.1 == q)) && (freeHb q pre && freeSl q slR))) = true) (hS : HasS ⟨sl, hb⟩ slR) (hp : HasB ⟨sl, hb⟩ pre) (hw : Whole H') :
    NCall (fun k=>!ns.contains k) F ⟨sl,hb⟩ [] H' slR (pre ++ H'):=by
  rw [List.all_eq_true] at hf hns
  have hin : ∀ {q},(!ns.contains q) = false → q ∈ ns:=fun {q} h=>by simpa using h
  have hH : ∀ {q B},H'.lookup q = some B → q ∈ ns:=fun {q B} h=>by simpa using hns _ (lookup_mem h)
  have hf' : ∀ q,q ∈ ns → Nat.blt q 1000 = true ∧ hb.lookup q = none ∧ freeHb q pre = true ∧ freeSl q slR = true:=fun q hq=>by
    have:=hf q hq
    simp only [Bool.and_eq_true,List.all_eq_true] at this
    exact ⟨this.1,lkL_none fun p hp=>by have:=this.2.1 p hp; simpa using this,this.2.2.1,this.2.2.2⟩
  refine ⟨fun j B h=>by simp at h,hS,fun k B h=>?_,fun q B1 hq h=>?_,fun t v ht q hq hs=>?_,fun j h=>by simp at h,fun j hj=>?_,hw⟩
  · rw [lookup_append] at h
    cases e : pre.lookup k with
    | none=>rw [e,Option.none_or] at h; exact .inl h
    | some C =>
      rw [e,Option.some_or] at h
      injection h with h; subst h
      have e3 : hb.lookup k = some C:=hp.all k C e
      have hk : H'.lookup k = none:=by
        cases e2 : H'.lookup k with
        | none=>rfl
        | some D=>have:=(hf' k (hH e2)).2.1; rw [e3] at this; cases this
      refine .inr ⟨e3,rfl,hk,fun i x hx q hq hs=>?_⟩
      have:=Cells.free_get (freeHb_get (hf' q (hin hs)).2.2.1 e) hx
      rw [this] at hq; cases hq
  · have:=hH h
    simp [this] at hq
  · have:=freeSl_get (hf' q (hin hs)).2.2.2 ht
    rw [this] at hq; cases hq
  · cases e : (!ns.contains j) with
    | true=>rfl
    | false=>exact absurd (P0 j (hf' j (hin e)).1) hj
end Go.Proofs.YtcifhkfpmhifaaaGreatDoor.SH
set_option maxRecDepth 100000
set_option maxHeartbeats 4000000
namespace Go.Proofs.YtcifhkfpmhifaaaGreatDoor.N
open Go Go.Proofs.YtcifhkfpmhifaaaGreatDoor.SH Go.Proofs.YtcifhkfpmhifaaaGreatDoor.NumA
open Go.Proofs.Tryz renaming call17 → cl17,call26 → cl26,call31 → cl31,call35 → cl35,call63 → cl63,call67 → cl67,call76 → cl76,isAgg24 → ag24,isAgg26 → ag26,sizeOf24 → sz24,sizeOf26 → sz26,zeroValue24 → zv24
theorem hbI {S : St} {l l' : List (Nat × Blk)} (e : l = l') (h : HasB S l') : HasB S l:=e ▸ h
theorem cmpQ_eq {a b : Rat} : cmpQ a b = 0 ↔ a = b:=by
 unfold cmpQ; split
 ·rename_i h; constructor
  ·intro c; cases c
  ·rintro rfl; exact absurd h (by grind)
 ·split
  ·rename_i h; constructor
   ·intro c; cases c
   ·rintro rfl; exact absurd h (by grind)
  ·constructor
   ·intro _; grind
   ·intro _; rfl
theorem cmpQ_le {a b : Rat} : cmpQ a b ≤ 0 ↔ a ≤ b:=by
 unfold cmpQ; split
 ·constructor
  ·intro _; grind
  ·intro _; decide
 ·split
  ·constructor
   ·intro c; exact absurd c (by decide)
   ·intro _; grind
  ·constructor
   ·intro _; grind
   ·intro _; decide
theorem qw_int (n : Int) : qw (n : Rat) = max (nw n) 1:=by rw [qw,Rat.num_intCast,Rat.den_intCast]; rw [show ((1 : Nat) : Int) = 1 from rfl,nw_one]
theorem nw_floor (a : Rat) : nw a.floor ≤ qw a:=by rw [Rat.floor_def]; exact Nat.le_trans quo_le' (nw_num_le a)
@[reducible] def hA (xs : List Int) : Nat → List (Nat × Blk)
 | 0=>[(2,⟨48,1,.mix [.p (.a (.slice none 0 0))]⟩)]
 | k + 1=>[(2,⟨48,1,.mix [.ref 1061 0 (k + 1) ((k + 1) * 2)]⟩),(1061,rowZ (xs.take (k + 1)))]
theorem cf_succ {xs : List Int} {k m : Nat} {lo hi : Rat} (h : xs.drop k = cf (m + 1) lo hi) : k < xs.length ∧ xs.getD k 0 = cfX lo hi ∧ xs.drop (k + 1) = if cfE lo hi = true then [] else cf m (cfN lo hi).1 (cfN lo hi).2:=by
 have hk : k < xs.length:=by
  have:=congrArg List.length h
  rw [List.length_drop,cf,List.length_cons] at this; omega
 rw [List.drop_eq_getElem_cons hk,cf] at h
 injection h with h1 h2
 exact ⟨hk,by simp [List.getD_eq_getElem?_getD,hk,h1],h2⟩
structure TermsAt (B : Nat) (xs : List Int) (z : Rat × Rat) (x : Nat × Nat × Rat × Rat) : Prop where
 d : xs.drop x.1 = cf x.2.1 x.2.2.1 x.2.2.2
 f : Fin' x.2.1 x.2.2.1 x.2.2.2
 h0 : 0 < x.2.2.1
 le : x.2.2.1 ≤ x.2.2.2
 q1 : qw x.2.2.1 ≤ B
 q2 : qw x.2.2.2 ≤ B
 z : cfZ x.2.1 x.2.2.1 x.2.2.2 = z
theorem nw_le_abs {a b : Int} (h : a.natAbs ≤ b.natAbs) : nw a ≤ nw b:=nw_mono h
theorem TermsAt.step {B : Nat} {xs : List Int} {z : Rat × Rat} {k m : Nat} {lo hi : Rat} (h : TermsAt B xs z (k,m + 1,lo,hi)) (he : ¬ cfE lo hi = true) : TermsAt B xs z (k + 1,m,(hi - (lo.floor : Rat))⁻¹,(lo - (lo.floor : Rat))⁻¹):=by
 obtain ⟨d,f,h0,le,q1,q2,hz⟩:=h
 simp only at d f h0 le q1 q2 hz
 obtain ⟨-,-,d3⟩:=cf_succ d
 rw [if_neg he] at d3
 obtain ⟨a1,a2⟩:=cfN_le le he
 obtain ⟨n1,n2,n3,n4⟩:=cfN_nd le he
 obtain ⟨e1,e2,e3,e4⟩:=cfE_not le he
 have b1:=nw_num_le lo
 have b2:=nw_den_le lo
 have b3:=nw_num_le hi
 have b4:=nw_den_le hi
 have k1:=num_lt e2
 have k2:=num_lt (show lo < (lo.floor : Rat) + 1 by grind)
 have p1:=(cfN lo hi).1.den_pos
 have p2:=(cfN lo hi).2.den_pos
 have w1 : nw ((cfN lo hi).1.den : Int) ≤ nw (hi.den : Int):=nw_le_abs (by omega)
 have w2 : nw ((cfN lo hi).2.den : Int) ≤ nw (lo.den : Int):=nw_le_abs (by omega)
 refine ⟨d3,f.resolve_left he,by show 0 < (cfN lo hi).1; grind,a2,?_,?_,?_⟩
 ·show max (nw (cfN lo hi).1.num) (nw ((cfN lo hi).1.den : Int)) ≤ B
  rw [n1]; omega
 ·show max (nw (cfN lo hi).2.num) (nw ((cfN lo hi).2.den : Int)) ≤ B
  rw [n3]; omega
 ·rw [← hz]; show _ = cfZ (m + 1) lo hi; rw [cfZ,if_neg he]; rfl
theorem TermsAt.last {B : Nat} {xs : List Int} {z : Rat × Rat} {k m : Nat} {lo hi : Rat} (h : TermsAt B xs z (k,m + 1,lo,hi)) (he : cfE lo hi = true) : xs.length = k + 1 ∧ z = (lo,hi):=by
 obtain ⟨hk,-,d3⟩:=cf_succ h.d
 rw [if_pos he] at d3
 have:=congrArg List.length d3
 rw [List.length_drop,List.length_nil] at this
 refine ⟨by simp only at this hk; omega,?_⟩
 have hz:=h.z
 simp only [cfZ,if_pos he] at hz
 exact hz.symm
theorem terms_hit (xs : List Int) (n0 : Nat) (lo hi : Rat) (B : Nat) (hB : B < 1000000) (hx : TermsAt B xs (cfZ n0 lo hi) (0,n0,lo,hi)) : ∀ (F : Fr) (code : Code) (l : Nat),Tryz.f122.body = some code → XFrL E [1061] ([(1000,bQ lo),(1001,bQ hi)] ++ hA xs 0) 44 F → YieldsL E.P F [1061] l xs.length (fun k=>[pZ (xs.getD k 0)]) (hA xs) → Exec E.P F code ⟨[(0,.clo (.yield l) [] []),(1,.at_ 1000 0 4),(2,.at_ 1001 0 4)],[(1000,bQ lo),(1001,bQ hi)] ++ hA xs 0⟩ (fun e S'=>(e = .normal ∨ e = .ret) ∧ HasB S' ([(1000,bQ (cfZ n0 lo hi).1),(1001,bQ (cfZ n0 lo hi).2)] ++ hA xs xs.length)):=by
 intro F code l hcode XF hY
 injection (show some _ = some code from hcode) with hcode
 subst hcode
 have hG:=XF.g
 have hX:=XF.x
 have hN:=XF.ng
 have L:=lti XF.nt
 have P0:=p0L XF [1000,1001,2] rfl
 obtain ⟨z,hz⟩ : ∃ z,z = cfZ n0 lo hi:=⟨_,rfl⟩
 rw [← hz] at hx ⊢
 refine ex_block ?_
 refine exl (α:=(Nat × Nat × Rat × Rat)) (fun x=>[]) (fun x=>[(1000,bQ x.2.2.1),(1001,bQ x.2.2.2)] ++ hA xs x.1) (fun x=>TermsAt B xs z x) (fun x=>x.2.1) ((0,n0,lo,hi)) (sl:=[(0,_),(1,_),(2,_)]) (hb:=[]) ?_ t3 (hbI (l':=[(1000,_),(1001,_),(2,_)]) rfl t3) ?_
 ·exact hx
 intro x hx
 obtain ⟨k,m,lo,hi⟩:=x
 rcases m with _ | m
 ·exact hx.f.elim
 have hle:=hx.le
 have q1:=hx.q1
 have q2:=hx.q2
 have hfw:=nw_floor lo
 obtain ⟨hk,hck,hdr⟩:=cf_succ hx.d
 simp only at hle q1 q2 hk hck
 have q3 : qw (lo.floor : Rat) ≤ B + 1:=by rw [qw_int]; omega
 have hfu:=nw_add lo.floor 1
 rw [nw_one] at hfu
 have q4 : qw ((lo.floor + 1 : Int) : Rat) ≤ B + 2:=by rw [qw_int]; omega
 dsimp only
 rcases k with _ | k
 ·dsimp only [hA,List.append_nil]
  refine ex_block (exr (lp4 ag26 sz26 (L rfl) rfl rfl (cK hG hX cl31 hN (qfloor_says lo (by omega)) (L rfl) t1 ?_)))
  refine swb (c_al (k:=4) (n:=2) zv24 (.cons rfl (.cons rfl .nil)) rfl (P0 _ rfl) (L rfl)) t0 t0 ⟨rfl,rfl⟩ (sb (c_sm sz24 (by rfl) pa2 rfl pu2) t2 t1 ?_)
  refine zn [(0,_),(1,_),(2,_),(4,_)] [(2,_),(4,_),(1000,_),(1001,_)] t4 t4 (exd (by rfl) ?_)
  refine lp2 ag24 sz24 (L rfl) rfl rfl (cK hG hX cl63 hN one_says (L rfl) t0 (cK hG hX cl76 hN (addZ lo.floor 1 (by omega) (by rw [nw_one]; decide)) (L rfl) t2 ?_))
  refine swb (c_al (k:=5) (n:=2) zv24 (.cons rfl (.cons rfl .nil)) rfl (P0 _ rfl) (L rfl)) t0 t0 ⟨rfl,rfl⟩ (sb (c_sm sz24 (by rfl) pa2 rfl pu2) t2 t1 ?_)
  refine seq_nil ⟨aok rfl rfl,[(0,_),(1,_),(2,_),(4,_),(5,_)],[(2,_),(4,_),(5,_),(1000,_),(1001,_)],t5,t5,?_⟩
  refine ex_seq (ex_block (exd (by rfl) ?_))
  refine lp2 ag24 sz24 (L rfl) rfl rfl (cK hG hX cl17 hN (qwhole_says lo.floor) (L rfl) t1 (lp4 ag26 sz26 (L rfl) rfl rfl (cK hG hX cl26 hN (qcmp_says (lo.floor : Rat) lo (by omega) (by omega)) (L rfl) t2 ?_)))
  refine sw (c_e (L rfl)) t2 t0 (aV (L rfl) rfl ?_)
  refine seq_nil ⟨aoks [⟨[4],[4],[12],[]⟩,⟨[12],[],[13],[]⟩,⟨[1],[1000],[14],[]⟩,⟨[13,14],[],[15],[]⟩,⟨[15],[],[16],[]⟩,⟨[16],[],[11],[]⟩] (by rfl) (by rfl) (by decide),[(0,_),(1,_),(2,_),(4,_),(5,_),(11,_)],[(2,_),(4,_),(5,_),(1000,_),(1001,_)],t6,t5,?_⟩
  refine ex_if rfl (fun hc=>?_) (fun hc=>?_)
  ·have hc:=cmpQ_eq.1 (dt hc)
   have he : cfE lo hi = true:=by simp [cfE,hc]
   obtain ⟨hl,hz2⟩:=hx.last he
   rw [cfX,if_pos hc] at hck
   rw [hz2]
   refine exrN (nsw (c_m (L rfl)) t1 t0 (nsw (c_lp ag24 sz24 (by rfl) (by exact al2) rfl (L rfl)) t1 t1 ?_))
   refine nsY hY (0) hk (L rfl) rfl ⟨rfl,ov rfl (by rw [hck]),trivial⟩ t1 rfl ?_
   refine .nil ⟨[],(2,_) :: (1000,_) :: (1001,_) :: (1061,_) :: [],trivial,t4,?_⟩
   rw [hl]
   exact ex_ret ⟨.inr rfl,hbI (l':=[(1000,_),(1001,_),(2,_),(1061,_)]) rfl t4⟩
  ·have hc : ¬ (lo.floor : Rat) = lo:=fun c=>df hc (cmpQ_eq.2 c)
   rw [cfX,if_neg hc] at hck
   refine exd (by rfl) ?_
   refine lp2 ag24 sz24 (L rfl) rfl rfl (cK hG hX cl17 hN (qwhole_says (lo.floor + 1)) (L rfl) t1 (lp4 ag26 sz26 (L rfl) rfl rfl (cK hG hX cl26 hN (qcmp_says ((lo.floor + 1 : Int) : Rat) hi (by omega) (by omega)) (L rfl) t2 ?_)))
   refine sw (c_le (L rfl)) t2 t0 (aV (L rfl) rfl ?_)
   refine seq_nil ⟨aoks [⟨[5],[5],[21],[]⟩,⟨[21],[],[22],[]⟩,⟨[2],[1001],[23],[]⟩,⟨[22,23],[],[24],[]⟩,⟨[24],[],[25],[]⟩,⟨[25],[],[20],[]⟩] (by rfl) (by rfl) (by decide),[(0,_),(1,_),(2,_),(4,_),(5,_),(20,_)],[(2,_),(4,_),(5,_),(1000,_),(1001,_)],t6,t5,?_⟩
   refine ex_if rfl (fun hd=>?_) (fun hd=>?_)
   ·have hd:=cmpQ_le.1 (dt hd)
    have he : cfE lo hi = true:=by rw [cfE,decide_eq_true hd,Bool.or_true]
    obtain ⟨hl,hz2⟩:=hx.last he
    rw [if_pos hd] at hck
    rw [hz2]
    refine exrN (nsw (c_m (L rfl)) t1 t0 (nsw (c_lp ag24 sz24 (by rfl) (by exact al2) rfl (L rfl)) t1 t1 ?_))
    refine nsY hY (0) hk (L rfl) rfl ⟨rfl,ov rfl (by rw [hck]),trivial⟩ t1 rfl ?_
    refine .nil ⟨[],(2,_) :: (1000,_) :: (1001,_) :: (1061,_) :: [],trivial,t4,?_⟩
    rw [hl]
    exact ex_ret ⟨.inr rfl,hbI (l':=[(1000,_),(1001,_),(2,_),(1061,_)]) rfl t4⟩
   ·have hd : ¬ ((lo.floor + 1 : Int) : Rat) ≤ hi:=fun c=>df hd (cmpQ_le.2 c)
    have he : ¬ cfE lo hi = true:=by simp only [cfE,Bool.or_eq_true,decide_eq_true_eq]; rintro (c | c); exact hc c; exact hd c
    rw [if_neg hd] at hck
    obtain ⟨e1,e2,e3,e4⟩:=cfE_not hle he
    have w1:=qw_sub hi (lo.floor : Rat)
    have w2:=qw_sub lo (lo.floor : Rat)
    refine exrN (nsw (c_m (L rfl)) t1 t0 (nsw (c_lp ag24 sz24 (by rfl) (by exact al2) rfl (L rfl)) t1 t1 ?_))
    refine nsY hY (0) hk (L rfl) rfl ⟨rfl,ov rfl (by rw [hck]),trivial⟩ t1 rfl ?_
    refine nsw (c_no (L rfl)) t1 t0 (nsw (c_a (L rfl)) t1 t0 ?_)
    refine .nil ⟨[(0,_),(1,_),(2,_),(4,_),(29,_)],(2,_) :: (4,_) :: (1000,_) :: (1001,_) :: (1061,_) :: [],t5,t5,?_⟩
    refine ex_false rfl rfl ?_
    refine ex_skip (show Exec _ _ _ _ _ from ?_)
    refine exd0 (by rfl) ?_
    refine lp4 ag26 sz26 (L rfl) rfl rfl (lp2 ag24 sz24 (L rfl) rfl rfl (cK hG hX cl17 hN (qwhole_says lo.floor) (L rfl) t1 (cK hG hX cl35 hN (qsub_says hi (lo.floor : Rat) (by omega) (by omega)) (L rfl) t2 ?_)))
    refine cK hG hX cl67 hN (qinv_says (hi - (lo.floor : Rat)) (by omega) (by grind)) (L rfl) t1 ?_
    refine lp4 ag26 sz26 (L rfl) rfl rfl (lp2 ag24 sz24 (L rfl) rfl rfl (cK hG hX cl17 hN (qwhole_says lo.floor) (L rfl) t1 (cK hG hX cl35 hN (qsub_says lo (lo.floor : Rat) (by omega) (by omega)) (L rfl) t2 ?_)))
    refine cK hG hX cl67 hN (qinv_says (lo - (lo.floor : Rat)) (by omega) (by grind)) (L rfl) t1 ?_
    refine sb (c_sm sz26 (by rfl) pa4 rfl pu4) t2 t1 ?_
    refine sb (c_sm sz26 (by rfl) pa4 rfl pu4) t2 t1 ?_
    refine seq_nil ⟨aoks [⟨[2],[1001],[34],[]⟩,⟨[4],[4],[35],[]⟩,⟨[35],[],[36],[]⟩,⟨[34,36],[],[37],[]⟩,⟨[37],[],[38],[]⟩,⟨[1],[1000],[39],[]⟩,⟨[4],[4],[40],[]⟩,⟨[40],[],[41],[]⟩,⟨[39,41],[],[42],[]⟩,⟨[42],[],[43],[]⟩,⟨[1,38],[1000],[],[1000]⟩,⟨[2,43],[1001],[],[1001]⟩] (by rfl) (by rfl) (by decide),?_⟩
    exact ⟨(0 + 1,m,(hi - (lo.floor : Rat))⁻¹,(lo - (lo.floor : Rat))⁻¹),(hx.step he),(by simp only; omega),le_of t3 (hbI (l':=[(1000,_),(1001,_),(2,_),(1061,_)]) rfl t4)⟩
 ·dsimp only [hA,List.append_nil]
  refine ex_block (exr (lp4 ag26 sz26 (L rfl) rfl rfl (cK hG hX cl31 hN (qfloor_says lo (by omega)) (L rfl) t1 ?_)))
  refine swb (c_al (k:=4) (n:=2) zv24 (.cons rfl (.cons rfl .nil)) rfl (P0 _ rfl) (L rfl)) t0 t0 ⟨rfl,rfl⟩ (sb (c_sm sz24 (by rfl) pa2 rfl pu2) t2 t1 ?_)
  refine zn [(0,_),(1,_),(2,_),(4,_)] [(2,_),(4,_),(1000,_),(1001,_),(1061,_)] t4 t5 (exd (by rfl) ?_)
  refine lp2 ag24 sz24 (L rfl) rfl rfl (cK hG hX cl63 hN one_says (L rfl) t0 (cK hG hX cl76 hN (addZ lo.floor 1 (by omega) (by rw [nw_one]; decide)) (L rfl) t2 ?_))
  refine swb (c_al (k:=5) (n:=2) zv24 (.cons rfl (.cons rfl .nil)) rfl (P0 _ rfl) (L rfl)) t0 t0 ⟨rfl,rfl⟩ (sb (c_sm sz24 (by rfl) pa2 rfl pu2) t2 t1 ?_)
  refine seq_nil ⟨aok rfl rfl,[(0,_),(1,_),(2,_),(4,_),(5,_)],[(2,_),(4,_),(5,_),(1000,_),(1001,_),(1061,_)],t5,t6,?_⟩
  refine ex_seq (ex_block (exd (by rfl) ?_))
  refine lp2 ag24 sz24 (L rfl) rfl rfl (cK hG hX cl17 hN (qwhole_says lo.floor) (L rfl) t1 (lp4 ag26 sz26 (L rfl) rfl rfl (cK hG hX cl26 hN (qcmp_says (lo.floor : Rat) lo (by omega) (by omega)) (L rfl) t2 ?_)))
  refine sw (c_e (L rfl)) t2 t0 (aV (L rfl) rfl ?_)
  refine seq_nil ⟨aoks [⟨[4],[4],[12],[]⟩,⟨[12],[],[13],[]⟩,⟨[1],[1000],[14],[]⟩,⟨[13,14],[],[15],[]⟩,⟨[15],[],[16],[]⟩,⟨[16],[],[11],[]⟩] (by rfl) (by rfl) (by decide),[(0,_),(1,_),(2,_),(4,_),(5,_),(11,_)],[(2,_),(4,_),(5,_),(1000,_),(1001,_),(1061,_)],t6,t6,?_⟩
  refine ex_if rfl (fun hc=>?_) (fun hc=>?_)
  ·have hc:=cmpQ_eq.1 (dt hc)
   have he : cfE lo hi = true:=by simp [cfE,hc]
   obtain ⟨hl,hz2⟩:=hx.last he
   rw [cfX,if_pos hc] at hck
   rw [hz2]
   refine exrN (nsw (c_m (L rfl)) t1 t0 (nsw (c_lp ag24 sz24 (by rfl) (by exact al2) rfl (L rfl)) t1 t1 ?_))
   refine nsY hY (k + 1) hk (L rfl) rfl ⟨rfl,ov rfl (by rw [hck]),trivial⟩ t2 rfl ?_
   refine .nil ⟨[],(2,_) :: (1000,_) :: (1001,_) :: (1061,_) :: [],trivial,t4,?_⟩
   rw [hl]
   exact ex_ret ⟨.inr rfl,hbI (l':=[(1000,_),(1001,_),(2,_),(1061,_)]) rfl t4⟩
  ·have hc : ¬ (lo.floor : Rat) = lo:=fun c=>df hc (cmpQ_eq.2 c)
   rw [cfX,if_neg hc] at hck
   refine exd (by rfl) ?_
   refine lp2 ag24 sz24 (L rfl) rfl rfl (cK hG hX cl17 hN (qwhole_says (lo.floor + 1)) (L rfl) t1 (lp4 ag26 sz26 (L rfl) rfl rfl (cK hG hX cl26 hN (qcmp_says ((lo.floor + 1 : Int) : Rat) hi (by omega) (by omega)) (L rfl) t2 ?_)))
   refine sw (c_le (L rfl)) t2 t0 (aV (L rfl) rfl ?_)
   refine seq_nil ⟨aoks [⟨[5],[5],[21],[]⟩,⟨[21],[],[22],[]⟩,⟨[2],[1001],[23],[]⟩,⟨[22,23],[],[24],[]⟩,⟨[24],[],[25],[]⟩,⟨[25],[],[20],[]⟩] (by rfl) (by rfl) (by decide),[(0,_),(1,_),(2,_),(4,_),(5,_),(20,_)],[(2,_),(4,_),(5,_),(1000,_),(1001,_),(1061,_)],t6,t6,?_⟩
   refine ex_if rfl (fun hd=>?_) (fun hd=>?_)
   ·have hd:=cmpQ_le.1 (dt hd)
    have he : cfE lo hi = true:=by rw [cfE,decide_eq_true hd,Bool.or_true]
    obtain ⟨hl,hz2⟩:=hx.last he
    rw [if_pos hd] at hck
    rw [hz2]
    refine exrN (nsw (c_m (L rfl)) t1 t0 (nsw (c_lp ag24 sz24 (by rfl) (by exact al2) rfl (L rfl)) t1 t1 ?_))
    refine nsY hY (k + 1) hk (L rfl) rfl ⟨rfl,ov rfl (by rw [hck]),trivial⟩ t2 rfl ?_
    refine .nil ⟨[],(2,_) :: (1000,_) :: (1001,_) :: (1061,_) :: [],trivial,t4,?_⟩
    rw [hl]
    exact ex_ret ⟨.inr rfl,hbI (l':=[(1000,_),(1001,_),(2,_),(1061,_)]) rfl t4⟩
   ·have hd : ¬ ((lo.floor + 1 : Int) : Rat) ≤ hi:=fun c=>df hd (cmpQ_le.2 c)
    have he : ¬ cfE lo hi = true:=by simp only [cfE,Bool.or_eq_true,decide_eq_true_eq]; rintro (c | c); exact hc c; exact hd c
    rw [if_neg hd] at hck
    obtain ⟨e1,e2,e3,e4⟩:=cfE_not hle he
    have w1:=qw_sub hi (lo.floor : Rat)
    have w2:=qw_sub lo (lo.floor : Rat)
    refine exrN (nsw (c_m (L rfl)) t1 t0 (nsw (c_lp ag24 sz24 (by rfl) (by exact al2) rfl (L rfl)) t1 t1 ?_))
    refine nsY hY (k + 1) hk (L rfl) rfl ⟨rfl,ov rfl (by rw [hck]),trivial⟩ t2 rfl ?_
    refine nsw (c_no (L rfl)) t1 t0 (nsw (c_a (L rfl)) t1 t0 ?_)
    refine .nil ⟨[(0,_),(1,_),(2,_),(4,_),(29,_)],(2,_) :: (4,_) :: (1000,_) :: (1001,_) :: (1061,_) :: [],t5,t5,?_⟩
    refine ex_false rfl rfl ?_
    refine ex_skip (show Exec _ _ _ _ _ from ?_)
    refine exd0 (by rfl) ?_
    refine lp4 ag26 sz26 (L rfl) rfl rfl (lp2 ag24 sz24 (L rfl) rfl rfl (cK hG hX cl17 hN (qwhole_says lo.floor) (L rfl) t1 (cK hG hX cl35 hN (qsub_says hi (lo.floor : Rat) (by omega) (by omega)) (L rfl) t2 ?_)))
    refine cK hG hX cl67 hN (qinv_says (hi - (lo.floor : Rat)) (by omega) (by grind)) (L rfl) t1 ?_
    refine lp4 ag26 sz26 (L rfl) rfl rfl (lp2 ag24 sz24 (L rfl) rfl rfl (cK hG hX cl17 hN (qwhole_says lo.floor) (L rfl) t1 (cK hG hX cl35 hN (qsub_says lo (lo.floor : Rat) (by omega) (by omega)) (L rfl) t2 ?_)))
    refine cK hG hX cl67 hN (qinv_says (lo - (lo.floor : Rat)) (by omega) (by grind)) (L rfl) t1 ?_
    refine sb (c_sm sz26 (by rfl) pa4 rfl pu4) t2 t1 ?_
    refine sb (c_sm sz26 (by rfl) pa4 rfl pu4) t2 t1 ?_
    refine seq_nil ⟨aoks [⟨[2],[1001],[34],[]⟩,⟨[4],[4],[35],[]⟩,⟨[35],[],[36],[]⟩,⟨[34,36],[],[37],[]⟩,⟨[37],[],[38],[]⟩,⟨[1],[1000],[39],[]⟩,⟨[4],[4],[40],[]⟩,⟨[40],[],[41],[]⟩,⟨[39,41],[],[42],[]⟩,⟨[42],[],[43],[]⟩,⟨[1,38],[1000],[],[1000]⟩,⟨[2,43],[1001],[],[1001]⟩] (by rfl) (by rfl) (by decide),?_⟩
    exact ⟨(k + 1 + 1,m,(hi - (lo.floor : Rat))⁻¹,(lo - (lo.floor : Rat))⁻¹),(hx.step he),(by simp only; omega),le_of t3 (hbI (l':=[(1000,_),(1001,_),(2,_),(1061,_)]) rfl t4)⟩
end Go.Proofs.YtcifhkfpmhifaaaGreatDoor.N
set_option maxRecDepth 100000
set_option maxHeartbeats 4000000
namespace Go.Proofs.YtcifhkfpmhifaaaGreatDoor.N
open Go Go.Proofs.YtcifhkfpmhifaaaGreatDoor.SH Go.Proofs.YtcifhkfpmhifaaaGreatDoor.NumA
open Go.Proofs.Tryz renaming call121 → cl121,call122 → cl122,call17 → cl17,call33 → cl33,call67 → cl67,isAgg24 → ag24,isAgg26 → ag26,isAgg48 → ag48,sizeOf24 → sz24,sizeOf26 → sz26,sizeOf48 → sz48,typeInfo24 → ti24,underlying48 → un48,zeroValue24 → zv24
theorem lk_iff {l : List (Nat × Blk)} {q : Nat} : l.lookup q ≠ none ↔ q ∈ l.map (·.1):=by
 rw [Ne,List.lookup_eq_none_iff,List.mem_map]
 constructor
 ·intro h
  refine Decidable.byContradiction fun c=>h fun p hp=>?_
  rw [bne_iff_ne]
  exact fun e=>c ⟨p,hp,e.symm⟩
 ·rintro ⟨p,hp,rfl⟩ h
  have:=h p hp
  simp at this
theorem hA_key {xs : List Int} {k q : Nat} (h : q ≠ 1061) : (hA xs k).lookup q ≠ none ↔ q = 2:=by
 rw [lk_iff]; cases k <;> simp [hA,h]
theorem whole_of {H : List (Nat × Blk)} (h : (H.all fun p=>p.2.cs.only (H.map (·.1))) = true) : Whole H:=by
 intro j B hj i x hx q hq
 rw [List.all_eq_true] at h
 rw [lk_iff]
 exact PV.only_mem (Cells.only_get (h _ (lookup_mem hj)) hx) hq
theorem take0 {xs : List Int} (h : 0 < xs.length) : xs.take 1 = [xs.getD 0 0]:=by rw [takeZ h]; rfl
theorem appseq_says (xs : List Int) (n0 : Nat) (lo hi : Rat) (B : Nat) (hB : B < 1000000) (hl : xs.length < 1000000) (hx : TermsAt B xs (cfZ n0 lo hi) (0,n0,lo,hi)) : SaysX E 121 [.p (.a (.slice none 0 0)),.clo (.func 122) [] [.at_ 1000 0 4,.at_ 1001 0 4]] [(1000,bQ lo),(1001,bQ hi)] [(1000,bQ (cfZ n0 lo hi).1),(1001,bQ (cfZ n0 lo hi).2)] (pVZ xs):=by
 refine saysX_ofR (xs:=[pVZ xs]) Tryz.func121 rfl Tryz.ntmps121 Tryz.results121 (by simp) rfl (sub_of rfl) fun F hG hX hnt hdf P0 hXp hro hlo hpn=>?_
 have L:=lti hnt
 have hN:=ng_le hG
 have hpos : 0 < xs.length:=by
  obtain ⟨d,f,-⟩:=hx
  have:=cf_len f
  rw [← d] at this; simpa using this
 refine exr (swb (c_bx (k:=2) (n:=1) (.atom rfl) rfl rfl (P0 _ rfl) (L rfl)) t1 t0 ⟨rfl,rfl⟩ (aV (L rfl) rfl (zn [(1,_),(2,_),(4,_)] [(2,_),(1000,_),(1001,_)] t3 t3 (ex_seq (exr (mV (L rfl) rfl (zn [(2,_),(4,_),(6,_)] [(2,_),(1000,_),(1001,_)] t3 t3 (ex_block ?_))))))))
 refine ex_rangeL (fn:=Tryz.f122) (ps:=[7]) (nI:=44) (caps:=[.at_ 1000 0 4,.at_ 1001 0 4]) (Hc:=[(1000,bQ lo),(1001,bQ hi)]) (Hc':=[(1000,bQ (cfZ n0 lo hi).1),(1001,bQ (cfZ n0 lo hi).2)]) [1061] (hA xs) (fun k=>[pZ (xs.getD k 0)]) (n:=xs.length) (sl:=[(2,.at_ 2 0 1)]) hG hX hN hro (fun b _ q hq=>by rw [hlo,List.mem_singleton.1 hq]; rfl) (fun q hq=>hpn q (by rw [List.mem_singleton.1 hq]; rfl)) rfl (le_of t1 t3) cl122 Tryz.func122 rfl Tryz.ntmps122 rfl (by decide) (by decide) (fun p hp=>?_) (fun _ _=>rfl) ?_ ?_ ?_ ?_ ?_ ?_ ?_ ?_ ?_ ?_
 ·obtain rfl : p = 7:=by simpa using hp
  exact L rfl
 ·intro q hq
  rw [lk_iff] at hq
  simp only [List.map_cons,List.map_nil,List.mem_cons,List.not_mem_nil,or_false] at hq
  rcases hq with rfl | rfl
  ·exact ⟨by decide,fun k _=>by cases k <;> rfl⟩
  ·exact ⟨by decide,fun k _=>by cases k <;> rfl⟩
 ·intro k _ q hq
  rw [hA_key (by simpa using hq),hA_key (by simpa using hq)]
 ·intro k _ q hq _
  rw [List.mem_singleton.1 hq]; exact fun c=>by cases c
 ·intro k _ q hq B B' h1 h2
  have e : q = 2:=(hA_key (xs:=xs) (k:=k) (by simpa using hq)).1 (by rw [h1]; exact fun c=>by cases c)
  subst e
  cases k <;> (injection h1 with h1; injection h2 with h2; subst h1 h2; exact ⟨rfl,rfl⟩)
 ·intro k _
  cases k
  ·exact whole_of rfl
  ·exact whole_of rfl
 ·intro q hq
  rw [lk_iff] at hq ⊢
  simpa using hq
 ·intro t v ht q hq
  simp only [List.lookup_cons,List.lookup_nil] at ht
  split at ht
  ·injection ht with ht; subst ht
   have e : q = 2:=Eq.symm (by simpa [PV.free] using hq)
   subst e
   exact ⟨fun c=>(by cases c),by decide⟩
  ·cases ht
 ·intro l F' XF hro' hY
  exact terms_hit xs n0 lo hi B hB hx F' _ l rfl XF hY
 ·intro k hk
  rcases k with _ | k
  ·refine ⟨⟨[(5,.at_ 5 0 2),(2,.at_ 2 0 1)],[(5,bI (xs.getD 0 0)),(2,⟨48,1,.mix [.p (.a (.slice none 0 0))]⟩)]⟩,fun F' XF=>?_,fun F' XF=>?_⟩
   ·have L:=lti (XF.nt.trans hnt)
    have P0:=p0L XF [2] rfl
    skip
    refine exr0 (swb (c_al (k:=5) (n:=2) zv24 (.cons rfl (.cons rfl .nil)) rfl (P0 _ rfl) (L rfl)) t0 t0 ⟨rfl,rfl⟩ (sb (c_sm sz24 (by rfl) pa2 rfl pu2) t2 t1 ?_))
    refine seq_nil ?_
    exact ⟨rfl,le_of t2 t2⟩
   ·have L:=lti (XF.nt.trans hnt)
    have P0:=p0L XF [2] rfl
    skip
    refine ex_block (exr0 (sw (c_l1 ag48 (by rfl) (by rfl) (L rfl)) t1 t1 ?_))
    refine lp2 ag24 sz24 (L rfl) rfl rfl (sw (c_bI (vs:=[_]) un48 ti24 rfl rfl (by decide) (by decide) rfl (zs_made (.cons rfl (.cons rfl .nil)) rfl) rfl (.cons rfl pa2 rfl pu2 .nil) (.cons (.cons .nil)) (L rfl)) t1 t0 ?_)
    refine swb (apN (k:=1061) (sz:=2) un48 un48 ti24 rfl rfl rfl (by decide) (by simp) rfl (by first | (simp [Tryz.t24]; done) | (simp [Tryz.t24]; omega)) (by omega) (P0 _ rfl) (L rfl)) t2 t0 ⟨rfl,rfl⟩ ?_
    refine sb (c_sm sz48 (by rfl) .ref rfl pu1) t2 t1 ?_
    refine seq_nil ?_
    exact ⟨rfl,⟨rfl,obl rfl (by rw [take0 hpos]; rfl),trivial⟩⟩
  ·refine ⟨⟨[(5,.at_ 5 0 2),(2,.at_ 2 0 1)],[(5,bI (xs.getD (k + 1) 0)),(2,⟨48,1,.mix [.ref 1061 0 (k + 1) ((k + 1) * 2)]⟩),(1061,rowZ (xs.take (k + 1)))]⟩,fun F' XF=>?_,fun F' XF=>?_⟩
   ·have L:=lti (XF.nt.trans hnt)
    have P0:=p0L XF [2] rfl
    skip
    refine exr0 (swb (c_al (k:=5) (n:=2) zv24 (.cons rfl (.cons rfl .nil)) rfl (P0 _ rfl) (L rfl)) t0 t0 ⟨rfl,rfl⟩ (sb (c_sm sz24 (by rfl) pa2 rfl pu2) t2 t1 ?_))
    refine seq_nil ?_
    exact ⟨rfl,le_of t2 t3⟩
   ·have L:=lti (XF.nt.trans hnt)
    have P0:=p0L XF [2] rfl
    skip
    refine ex_block (exr0 (sw (c_l1 ag48 (by rfl) (by rfl) (L rfl)) t1 t1 ?_))
    refine lp2 ag24 sz24 (L rfl) rfl rfl (sw (c_bI (vs:=[_]) un48 ti24 rfl rfl (by decide) (by decide) rfl (zs_made (.cons rfl (.cons rfl .nil)) rfl) rfl (.cons rfl pa2 rfl pu2 .nil) (.cons (.cons .nil)) (L rfl)) t1 t0 ?_)
    refine swb (apP (sz:=2) un48 un48 ti24 rfl rfl rfl (by decide) (by exact (by simp; omega)) (by first | omega | rfl) (by simp) rfl rfl rfl (by first | (simp [Tryz.t24]; done) | (simp [Tryz.t24]; omega)) (by omega) (P0 _ rfl) (L rfl)) t2 t1 t0 ?_
    refine sb (c_sm sz48 (by rfl) .ref rfl pu1) t2 t1 ?_
    refine seq_nil ?_
    exact ⟨rfl,⟨obl rfl (by simp; omega),obl rfl (by rw [takeZ hk]; exact rowZn _ _),trivial⟩⟩
 ·show Exec _ _ _ _ _
  obtain ⟨m,hm⟩ : ∃ m,xs.length = m + 1:=⟨xs.length - 1,by omega⟩
  rw [hm]
  dsimp only [hA]
  rw [show xs.take (m + 1) = xs from List.take_of_length_le (by omega)]
  skip
  refine exr (sw (c_l1 ag48 (by rfl) (by rfl) (L rfl)) t1 t1 ?_)
  refine aV (L rfl) rfl (zn [(4,_)] [(1000,_),(1001,_),(1061,_)] t1 t3 (ex_cv [1061] (sl:=[(4,_)]) (hb:=[(1000,_),(1001,_)]) (own_of hXp rfl) ⟨⟨_,rfl,(.ref rfl rfl (by exact (by simp; omega)) (by first | rfl | omega))⟩,trivial⟩ ⟨⟨rfl,_,rfl,.same⟩,⟨rfl,_,rfl,.same⟩,trivial⟩ ?_))
  refine ex_ret ?_
  refine ⟨.inr rfl,ResVs.cast (.cons (.tmp rfl) .nil) ?_,t2⟩
  rw [pVZ,hm]
theorem collect_says (xs : List Int) (n0 : Nat) (lo hi : Rat) (B : Nat) (hB : B < 1000000) (hl : xs.length < 1000000) (hx : TermsAt B xs (cfZ n0 lo hi) (0,n0,lo,hi)) : SaysX E 88 [.clo (.func 122) [] [.at_ 1000 0 4,.at_ 1001 0 4]] [(1000,bQ lo),(1001,bQ hi)] [(1000,bQ (cfZ n0 lo hi).1),(1001,bQ (cfZ n0 lo hi).2)] (pVZ xs):=by
 refine saysX_of (xs:=[pVZ xs]) Tryz.func88 rfl Tryz.ntmps88 Tryz.results88 (by simp) rfl (sub_of rfl) fun F hG hX hnt hdf P0 hXp=>?_
 have L:=lti hnt
 have hN:=ng_le hG
 refine exr (aV (L rfl) rfl (zn [(0,_)] [(1000,_),(1001,_)] t1 t2 (exr (mV (L rfl) rfl (swB (c_cx hG hX [1000,1001] hN (appseq_says xs n0 lo hi B hB hl hx) rfl (args_fn (ys:=[_,_]) cl121 rfl (by rfl)) (by rfl) (by rfl) (by rfl) (by rfl) (SameH.to (.cons rfl (.cons rfl .nil))) (by rfl) (by rfl) (L rfl)) t2 t2 ?_)))))
 refine aV (L rfl) rfl (zn [(2,_)] [(1000,_),(1001,_)] t1 t2 (ex_ret ?_))
 refine ⟨.inr rfl,ResVs.cast (.cons (.tmp rfl) .nil) ?_,t2⟩
 rfl
theorem terms_says (lo hi : Rat) : SaysG E (fun k=>!([602,603].contains k)) 89 [.p (pQ lo),.p (pQ hi)] ([]) ([(602,bQ lo),(603,bQ hi)]) (.clo (.func 122) [] [.at_ 602 0 4,.at_ 603 0 4]):=by
 refine saysG_tmp Tryz.func89 rfl Tryz.ntmps89 Tryz.results89 (by simp) fun F G=>?_
 have L:=lti G.nt
 have hG:=G.g
 have hX:=G.x
 have hN:=ng_le hG
 have P0:=G.p0
 refine exr (swb (c_bx (k:=602) (n:=4) pa4 rfl rfl (P0 _ rfl) (L rfl)) t1 t0 ⟨rfl,rfl⟩ (swb (c_bx (k:=603) (n:=4) pa4 rfl rfl (P0 _ rfl) (L rfl)) t1 t0 ⟨rfl,rfl⟩ (aV (L rfl) rfl (zn [(2,_),(3,_)] [(602,_),(603,_)] t2 t2 (exr (sw (c_fn (vs:=[]) (us:=[_,_]) rfl rfl (L rfl)) t2 t0 (aV (L rfl) rfl (zn [(4,_)] [(602,_),(603,_)] t1 t2 (ex_ret ?_)))))))))
 refine ⟨.inr rfl,rfl,t2⟩
theorem simp1_says (f : Int) (x : Rat) (hf : nw f < 100000) (hx : qw x < 100000000) (h0 : x ≠ 0) : SaysX E 90 [.p (pZ f),.at_ 1000 0 4] [(1000,bQ x)] [(1000,bQ ((f : Rat) + x⁻¹))] (.tup []):=by
 refine saysX_of (xs:=[]) Tryz.func90 rfl Tryz.ntmps90 Tryz.results90 (by simp) rfl (sub_of rfl) fun F hG hX hnt hdf P0 hXp=>?_
 have L:=lti hnt
 have hN:=ng_le hG
 have h1:=qw_inv h0
 have h2:=qw_int f
 refine exr (swb (c_bx (k:=2) (n:=2) pa2 rfl rfl (P0 _ rfl) (L rfl)) t1 t0 ⟨rfl,rfl⟩ (zn [(1,_),(2,_)] [(2,_),(1000,_)] t2 t2 (exd0 (by rfl) ?_)))
 refine lp2 ag24 sz24 (L rfl) rfl rfl (cK hG hX cl17 hN (qwhole_says f) (L rfl) t1 (lp4 ag26 sz26 (L rfl) rfl rfl (cK hG hX cl67 hN (qinv_says x (by omega) h0) (L rfl) t1 ?_)))
 refine cK hG hX cl33 hN (qadd_says (f : Rat) x⁻¹ (by omega) (by omega)) (L rfl) t2 ?_
 refine sb (c_sm sz26 (by rfl) pa4 rfl pu4) t2 t1 ?_
 refine seq_nil ⟨aoks [⟨[2],[2],[3],[]⟩,⟨[3],[],[4],[]⟩,⟨[1],[1000],[5],[]⟩,⟨[5],[],[6],[]⟩,⟨[4,6],[],[7],[]⟩,⟨[1,7],[1000],[],[1000]⟩] (by rfl) (by rfl) (by decide),?_⟩
 refine ⟨.inl rfl,ResVs.cast .nil ?_,t1⟩
 rfl
theorem back_says (ys : List Int) : SaysC E 91 [pVZ ys] 123 48 (pVZ ys):=by
 refine saysC_of (k:=1) Tryz.func91 rfl Tryz.ntmps91 Tryz.results91 (by simp) fun F hG hX0 hnt hdf P0=>?_
 obtain ⟨L,hX,hN⟩:=pro hnt hX0 hG
 refine exr (swb (c_bx (k:=1) (n:=1) .sl rfl rfl (P0 _ rfl) (L rfl)) t1 t0 ⟨rfl,rfl⟩ (aV (L rfl) rfl (zn [(1,_)] [(1,_)] t1 t1 (exr (sw (c_fn (vs:=[]) (us:=[_]) rfl rfl (L rfl)) t1 t0 (aV (L rfl) rfl (zn [(2,_)] [(1,_)] t1 t1 (ex_ret ?_))))))))
 exact ⟨.inr rfl,rfl,rfl⟩
end Go.Proofs.YtcifhkfpmhifaaaGreatDoor.N
set_option maxRecDepth 100000
set_option maxHeartbeats 4000000
namespace Go.Proofs.YtcifhkfpmhifaaaGreatDoor.N
open Go Go.Proofs.YtcifhkfpmhifaaaGreatDoor.SH Go.Proofs.YtcifhkfpmhifaaaGreatDoor.NumA
open Go.Proofs.Tryz renaming call123 → cl123,call17 → cl17,call19 → cl19,call24 → cl24,call26 → cl26,call88 → cl88,call89 → cl89,call90 → cl90,call91 → cl91,isAgg24 → ag24,isAgg26 → ag26,isAgg48 → ag48,isAgg86 → ag86,sizeOf24 → sz24,sizeOf26 → sz26,sizeOf86 → sz86,underlying48 → un48,zeroValue24 → zv24,zeroValue26 → zv26,zeroValue86 → zv86
@[reducible] def bxL (ys : List Int) : Blk:=⟨48,1,.mix [.p (pVZ ys)]⟩
@[reducible] def hS9 (xk : Nat → Rat) (k : Nat) : List (Nat × Blk):=[(9,bQ (xk k)),(10,⟨86,1,.mix [.clo (.func 90) [] [.at_ 9 0 4]]⟩),(4,⟨26,4,.mix [.p (.a (.bool false)),.p (.a (.slice none 0 0)),.p (.a (.bool false)),.p (.a (.slice none 0 0))]⟩)]
theorem back_hit (ys : List Int) (xk : Nat → Rat) (hl : ys.length < 1000000) : ∀ (F : Fr) (code : Code) (l : Nat),Tryz.f123.body = some code → XFrL E [] ([(71,bxL ys)] ++ hS9 xk 0) 19 F → YieldsL E.P F [] l ys.length (fun k=>[vZ ((ys.length : Int) - 1 - k),pZ (ys.getD ((ys.length : Int) - 1 - k).toNat 0)]) (hS9 xk) → Exec E.P F code ⟨[(0,.clo (.yield l) [] []),(1,.at_ 71 0 1)],[(71,bxL ys)] ++ hS9 xk 0⟩ (fun e S'=>(e = .normal ∨ e = .ret) ∧ HasB S' ([(71,bxL ys)] ++ hS9 xk ys.length)):=by
 intro F code l hcode XF hY
 injection (show some _ = some code from hcode) with hcode
 subst hcode
 have hG:=XF.g
 have hX:=XF.x
 have hN:=XF.ng
 have L:=lti XF.nt
 refine exr (sw (c_l1 ag48 (by rfl) (by rfl) (L rfl)) t1 t1 ?_)
 refine sw (c_ln un48 (L rfl)) t1 t0 (sw (c_su (L rfl) (w64 (by omega) (by omega))) t2 t0 ?_)
 refine aV (L rfl) rfl (zn [(0,_),(1,_),(3,_)] [(4,_),(9,_),(10,_),(71,_)] t3 t4 (ex_block ?_))
 refine exl (α:=Nat) (fun k=>[(3,vi ((ys.length : Int) - 1 - k))]) (fun k=>[(9,bQ (xk k))]) (fun k=>k ≤ ys.length) (fun k=>ys.length - k) (0) (sl:=[(0,_),(1,_)]) (hb:=[(4,_),(10,_),(71,_)]) ?_ ⟨(by first | exact rfl | exact oi (by omega) rfl),rfl,rfl,trivial⟩ t4 ?_
 ·exact Nat.zero_le _
 intro k hk
 refine ex_seq (exr (mV (L rfl) rfl (sw (c_ge (L rfl)) t2 t0 (zn [(0,_),(1,_),(3,_),(8,_)] [(4,_),(9,_),(10,_),(71,_)] t4 t4 ?_))))
 refine ex_if rfl (fun hc=>?_) (fun hc=>?_)
 ·have hc:=dt hc
  have hkl : k < ys.length:=by omega
  have hix : ((ys.length : Int) - 1 - k).toNat < ys.length:=by omega
  refine ex_skip (show Exec _ _ _ _ _ from ?_)
  refine ex_seq (ex_block (exrN (nsw (c_m (L rfl)) t1 t0 (nsw (c_m (L rfl)) t1 t0 (nsw (c_l1 ag48 (by rfl) (by rfl) (L rfl)) t1 t1 ?_)))))
  refine nsw (c_m (L rfl)) t1 t0 (nsw (core_indexAddrJ un48 sz24 (by omega) (by omega) (by simp) (by decide) (L rfl)) t2 t0 ?_)
  refine nsw (c_la ag24 sz24 (getZ hix) rfl (L rfl)) t1 t0 (nsY hY (k) hkl (L rfl) rfl t3 t3 rfl (nsw (c_no (L rfl)) t1 t0 ?_))
  refine .nil ⟨[(0,_),(1,_),(3,_),(18,_)],(4,_) :: (9,_) :: (10,_) :: (71,_) :: [],t4,t4,?_⟩
  refine ex_false rfl rfl ?_
  refine ex_skip (show Exec _ _ _ _ _ from ?_)
  refine exr0 (mV (L rfl) rfl (sw (c_su (L rfl) (w64 (by omega) (by omega))) t2 t0 ?_))
  refine aV (L rfl) rfl (seq_nil ?_)
  exact ⟨k + 1,(by omega),by omega,le_of ⟨(by first | exact rfl | exact oi (by omega) rfl),rfl,rfl,trivial⟩ t4⟩
 ·have hc:=df hc
  obtain rfl : k = ys.length:=by omega
  refine ex_exit ?_
  exact ⟨.inl rfl,t4⟩
theorem terms_all {B : Nat} {xs : List Int} {z : Rat × Rat} : ∀ {m k : Nat} {lo hi : Rat},TermsAt B xs z (k,m,lo,hi) → ∀ j,k ≤ j → j < xs.length → ∃ m' lo' hi',TermsAt B xs z (j,m' + 1,lo',hi') ∧ (k < j → 1 < lo') ∧ (j = k → lo' = lo)
 | 0,k,lo,hi,h,_,_,_=>h.f.elim
 | m + 1,k,lo,hi,h,j,hj,hl=>by
  by_cases e : j = k
  ·subst e; exact ⟨m,lo,hi,h,fun c=>absurd c (Nat.lt_irrefl _),fun _=>rfl⟩
  ·by_cases he : cfE lo hi = true
   ·have:=(h.last he).1; omega
   ·obtain ⟨m',lo',hi',h1,h2,h3⟩:=terms_all (h.step he) j (by omega) hl
    refine ⟨m',lo',hi',h1,fun _=>?_,fun c=>absurd c e⟩
    by_cases e2 : j = k + 1
    ·rw [h3 e2]; exact (cfN_le h.le he).1
    ·exact h2 (by omega)
theorem terms_bd {B m : Nat} {xs : List Int} {z : Rat × Rat} {lo hi : Rat} (h : TermsAt B xs z (0,m,lo,hi)) : (∀ t ∈ xs,nw t ≤ B + 1) ∧ ∀ j,0 < j → ∀ t ∈ xs.drop j,1 ≤ t:=by
 have key : ∀ i,i < xs.length → nw (xs.getD i 0) ≤ B + 1 ∧ (0 < i → 1 ≤ xs.getD i 0):=fun i hi=>by
  obtain ⟨m',lo',hi',h1,h2,-⟩:=terms_all h i (Nat.zero_le _) hi
  obtain ⟨-,e,-⟩:=cf_succ h1.d
  have hb:=cfX_ge (lo:=lo') (hi:=hi')
  have hf:=nw_floor lo'
  have hq:=h1.q1
  simp only at e hq
  have h3:=nw_add lo'.floor 1
  rw [nw_one] at h3
  rw [e]
  constructor
  ·rcases (show cfX lo' hi' = lo'.floor ∨ cfX lo' hi' = lo'.floor + 1 by omega) with c | c <;> rw [c]
   ·omega
   ·have h4 : nw (lo'.floor + 1) ≤ max (nw lo'.floor) 1 + 1:=h3
    by_cases c0 : nw lo'.floor = 0
    ·rw [nw_zero] at c0
     rw [c0,Int.zero_add,nw_one]; omega
    ·omega
  ·intro h0
   have:=floor_ge1 (h2 h0)
   omega
 constructor
 ·intro t ht
  obtain ⟨i,hi,rfl⟩:=List.getElem_of_mem ht
  have:=(key i hi).1
  simpa [List.getD_eq_getElem?_getD,hi] using this
 ·intro j hj t ht
  obtain ⟨i,hi,rfl⟩:=List.getElem_of_mem ht
  rw [List.length_drop] at hi
  have:=(key (j + i) (by omega)).2 (by omega)
  rw [List.getElem_drop]
  simpa [List.getD_eq_getElem?_getD,show j + i < xs.length by omega] using this
def cfL (lo hi : Rat) : List Int:=cf (2 * bl lo.den) lo hi
theorem terms_start {lo hi : Rat} {B : Nat} (h0 : 0 < lo) (hle : lo ≤ hi) (h1 : qw lo ≤ B) (h2 : qw hi ≤ B) : TermsAt B (cfL lo hi) (cfZ (2 * bl lo.den) lo hi) (0,2 * bl lo.den,lo,hi):=⟨rfl,fin_of _ lo hi hle (bl_lt _),h0,hle,h1,h2,rfl⟩
theorem cfL_len {lo hi : Rat} : (cfL lo hi).length ≤ 64 * qw lo:=by
 have h1:=cf_le (2 * bl lo.den) lo hi
 have h2:=bl_le_nw' (lo.den : Int)
 rw [Int.natAbs_natCast] at h2
 have h3:=nw_den_le lo
 unfold cfL; omega
theorem simp_step {xs : List Int} {k : Nat} (hk : k + 1 < xs.length) : cfV (xs.drop (xs.length - 1 - (k + 1))) = ((xs.getD (xs.length - 2 - k) 0 : Int) : Rat) + (cfV (xs.drop (xs.length - 1 - k)))⁻¹:=by
 rw [List.drop_eq_getElem_cons (show xs.length - 1 - (k + 1) < xs.length by omega),cfV]
 congr 2
 ·have e : xs.length - 1 - (k + 1) = xs.length - 2 - k:=by omega
  simp only [e,List.getD_eq_getElem?_getD]
  rw [List.getElem?_eq_getElem (by omega)]; rfl
 ·congr 2; omega
theorem qisQ (a : Rat) (h : qw a < 1000000000) : Says E 19 [pQ a] (bZ true):=by
 have h1:=RQ.sm_of h
 have:=qis_says h1.1 h1.2.1 h1.2.2
 rwa [RQ.is_of] at this
theorem cmpQ_pos {a : Rat} (h : 0 < a) : cmpQ a 0 = 1:=by
 unfold cmpQ; rw [if_neg (by grind),if_pos h]
theorem encZ_take : ∀ {v : List Int} {n : Nat},(encZ v).take (n * 2) = encZ (v.take n)
 | [],n=>by simp [encZ]
 | a :: v,0=>by simp [encZ]
 | a :: v,n + 1=>by
  rw [show (n + 1) * 2 = n * 2 + 1 + 1 by omega]
  simp only [encZ,cZ,List.cons_append,List.nil_append,List.take_succ_cons,encZ_take]
theorem last_v {xs : List Int} {m : Nat} (hm : xs.length = m + 1) : ((xs.getD ((xs.length : Int) - 1).toNat 0 : Int) : Rat) = cfV (xs.drop (xs.length - 1 - 0)):=by
 have e : ((xs.length : Int) - 1).toNat = m:=by omega
 rw [e,show xs.length - 1 - 0 = m by omega,List.drop_eq_getElem_cons (by omega),cfV,List.drop_of_length_le (by omega),cfV,Rat.inv_zero,Rat.add_zero]
 simp [List.getD_eq_getElem?_getD,hm]
theorem y_get {xs ys : List Int} {m k : Nat} (hm : xs.length = m + 1) (hys : ys = xs.take m) (hk : k < m) : ys.getD ((ys.length : Int) - 1 - k).toNat 0 = xs.getD (xs.length - 2 - k) 0:=by
 have hyl : ys.length = m:=by rw [hys,List.length_take]; omega
 have e : ((ys.length : Int) - 1 - k).toNat = xs.length - 2 - k:=by omega
 rw [e,hys,List.getD_eq_getElem?_getD,List.getD_eq_getElem?_getD,List.getElem?_take,if_pos (by omega)]
theorem drop_qw {xs : List Int} {B j : Nat} (h : ∀ t ∈ xs,nw t ≤ B + 1) (hB : B < 1000) (hl : xs.length ≤ 64 * B) : qw (cfV (xs.drop j)) < 100000000:=by
 have h1:=cfV_qw (l:=xs.drop j) (B:=B + 1) (fun t ht=>h t (List.mem_of_mem_drop ht))
 have h2 : (xs.drop j).length * (B + 1 + 2) ≤ (64 * 1000) * 1003:=Nat.mul_le_mul (by rw [List.length_drop]; omega) (by omega)
 omega
theorem simp_pos (lo hi : Rat) (B : Nat) (h0 : 0 < lo) (hle : lo ≤ hi) (hq : qw lo ≤ B) (hq2 : qw hi ≤ B) (hB : B < 1000) : Says E 46 [pQ lo,pQ hi] (.tup [pQ (simpP lo hi),vZ 0]):=by
 refine says_ofR (xs:=[pQ (simpP lo hi),vZ 0]) Tryz.func46 rfl Tryz.ntmps46 Tryz.results46 (by simp) fun F hG hX0 hnt hdf P0 hro=>?_
 obtain ⟨L,hX,hN⟩:=pro hnt hX0 hG
 have hs:=terms_start h0 hle hq hq2
 obtain ⟨xs,hxs⟩ : ∃ xs,xs = cfL lo hi:=⟨_,rfl⟩
 have hln : xs.length ≤ 64 * qw lo:=by rw [hxs]; exact cfL_len
 have hres : simpP lo hi = cfV xs:=by rw [hxs]; rfl
 rw [← hxs] at hs
 rw [hres]
 obtain ⟨hb1,hb2⟩:=terms_bd hs
 have hpos : 0 < xs.length:=by
  have h1:=cf_len hs.f
  have hd:=hs.d
  simp only at h1 hd
  rw [List.drop_zero] at hd
  rw [← hd] at h1; exact h1
 obtain ⟨m,hm⟩ : ∃ m,xs.length = m + 1:=⟨xs.length - 1,by omega⟩
 have hc:=cmpQ_le.2 hle
 have hsl:=cmpQ_pos h0
 have hsh:=cmpQ_pos (show 0 < hi by grind)
 refine exr (swb (c_bx (k:=2) (n:=4) pa4 rfl rfl (P0 _ rfl) (L rfl)) t1 t0 ⟨rfl,rfl⟩ (swb (c_bx (k:=3) (n:=4) pa4 rfl rfl (P0 _ rfl) (L rfl)) t1 t0 ⟨rfl,rfl⟩ (swb (c_al (k:=4) (n:=4) zv26 (.cons rfl (.cons rfl (.cons rfl (.cons rfl .nil)))) rfl (P0 _ rfl) (L rfl)) t0 t0 ⟨rfl,rfl⟩ (aV (L rfl) rfl (zn [(2,_),(3,_),(4,_),(5,_)] [(2,_),(3,_),(4,_)] t4 t3 (ex_seq (ex_block (exr (lp4 ag26 sz26 (L rfl) rfl rfl (cK hG hX cl19 hN (qisQ lo (by omega)) (L rfl) t1 ?_))))))))))
 refine sw (c_no (L rfl)) t1 t0 (mV (L rfl) rfl (swg (g:=17) rfl rfl (c_lp ag26 sz26 (by rfl) (by exact al4) rfl (L rfl)) rfl t1 t1 ?_))
 refine swg (g:=17) rfl rfl (c_c hG hX cl19 rfl hN (qisQ hi (by omega)) (L rfl)) rfl t1 t0 ?_
 refine swg (g:=17) rfl rfl (c_no (L rfl)) rfl t1 t0 (sw (c_pf rfl (L rfl)) t2 t0 (mV (L rfl) rfl (swg (g:=22) rfl rfl (c_lp ag26 sz26 (by rfl) (by exact al4) rfl (L rfl)) rfl t1 t1 ?_)))
 refine swg (g:=22) rfl rfl (c_lp ag26 sz26 (by rfl) (by exact al4) rfl (L rfl)) rfl t1 t1 ?_
 refine swg (g:=22) rfl rfl (c_c hG hX cl26 rfl hN (qcmp_says lo hi (by omega) (by omega)) (L rfl)) rfl t2 t0 ?_
 refine swg (g:=22) rfl rfl (c_gt (L rfl)) rfl t2 t0 (sw (c_pf rfl (L rfl)) t2 t0 (aV (L rfl) rfl (zn [(2,_),(3,_),(4,_),(5,_),(13,_)] [(2,_),(3,_),(4,_)] t5 t3 (ex_false rfl (decide_eq_false (by omega)) ?_))))
 refine exr (lp4 ag26 sz26 (L rfl) rfl rfl (cK hG hX cl24 hN (qsign_says lo (by omega)) (L rfl) t1 ?_))
 refine sw (c_le (L rfl)) t2 t0 (mV (L rfl) rfl (swn (g:=33) rfl (decide_eq_false (by omega)) (L rfl) rfl ?_))
 refine swn (g:=33) rfl (decide_eq_false (by omega)) (L rfl) rfl ?_
 refine swn (g:=33) rfl (decide_eq_false (by omega)) (L rfl) rfl ?_
 refine sw (c_pf (decide_eq_false (by omega)) (L rfl)) t2 t0 ?_
 refine aV (L rfl) rfl (zn [(2,_),(3,_),(4,_),(5,_),(29,_)] [(2,_),(3,_),(4,_)] t5 t3 (ex_false rfl rfl (exr (lp4 ag26 sz26 (L rfl) rfl rfl (cK hG hX cl24 hN (qsign_says hi (by omega)) (L rfl) t1 ?_)))))
 refine sw (c_ls (L rfl)) t2 t0 (aV (L rfl) rfl (zn [(2,_),(3,_),(4,_),(5,_),(39,_)] [(2,_),(3,_),(4,_)] t5 t3 (ex_false rfl (decide_eq_false (by omega)) ?_)))
 refine ex_skip (show Exec _ _ _ _ _ from ?_)
 refine exrN (nsw (c_lp ag26 sz26 (by rfl) (by exact al4) rfl (L rfl)) t1 t1 ?_)
 refine nsw (c_lp ag26 sz26 (by rfl) (by exact al4) rfl (L rfl)) t1 t1 ?_
 refine nsI hG hX hN [(4,.at_ 4 0 4),(5,vi 0)] ([(4,_)] ++ ([(602,bQ lo),(603,bQ hi)])) (terms_says lo hi) (L rfl) (args_fn (ys:=[_,_]) cl89 rfl rfl) t2 (by exact ncNew (pre:=[(4,_)]) [602,603] P0 rfl rfl t2 t1 (whole_of rfl)) (fun q h=>lk_iff.2 (PV.only_mem (ks:=[602,603]) rfl h)) rfl ?_
 refine nswB (c_cx hG hX [602,603] hN (collect_says xs (2 * bl lo.den) lo hi B (by omega) (by omega) hs) rfl (args_fn (ys:=[_]) cl88 rfl (by rfl)) (by rfl) (by rfl) (by rfl) (by rfl) (SameH.to (.cons rfl (.cons rfl .nil))) (by rfl) (by rfl) (L rfl)) t1 t2 ?_
 refine nsw (c_a (L rfl)) t1 t0 ?_
 refine .nil ⟨[(4,_),(5,_),(8,_)],(4,_) :: [],t3,t1,?_⟩
 have hlx:=last_v hm
 have hix : ((xs.length : Int) - 1).toNat < xs.length:=by omega
 refine exr (mV (L rfl) rfl (mV (L rfl) rfl (sw (c_ln un48 (L rfl)) t1 t0 (sw (c_su (L rfl) (w64 (by omega) (by omega))) t2 t0 ?_))))
 refine sw (core_indexAddrJ un48 sz24 (by omega) (by omega) (by simp) (by decide) (L rfl)) t2 t0 ?_
 refine sw (c_la ag24 sz24 (getZ hix) rfl (L rfl)) t1 t0 (cK hG hX cl17 hN (qwhole_says (xs.getD ((xs.length : Int) - 1).toNat 0)) (L rfl) t1 (swb (c_al (k:=9) (n:=4) zv26 (.cons rfl (.cons rfl (.cons rfl (.cons rfl .nil)))) rfl (P0 _ rfl) (L rfl)) t0 t0 ⟨rfl,rfl⟩ (sb (c_sm sz26 (by rfl) pa4 rfl pu4) t2 t1 ?_)))
 refine seq_nil ⟨[(4,_),(5,_),(8,_),(9,_)],[(4,_),(9,bQ (cfV (xs.drop (xs.length - 1 - 0))))],t4,⟨rfl,obl rfl (by rw [← hlx]),trivial⟩,?_⟩
 refine exr (sw (c_fn (vs:=[]) (us:=[_]) rfl rfl (L rfl)) t1 t0 (swb (c_al (k:=10) (n:=1) zv86 (.cons rfl .nil) rfl (P0 _ rfl) (L rfl)) t0 t0 ⟨rfl,rfl⟩ (sb (c_sm sz86 (by rfl) .clo rfl pu1) t2 t1 ?_)))
 refine zn [(4,_),(5,_),(8,_),(9,_),(10,_)] [(4,_),(9,_),(10,_)] t5 t3 ?_
 obtain ⟨ys,hys⟩ : ∃ ys,ys = xs.take m:=⟨_,rfl⟩
 have hyl : ys.length = m:=by rw [hys,List.length_take]; omega
 have hbk:=back_says ys
 rw [pVZ,hyl] at hbk
 refine ex_seq (exr (mV (L rfl) rfl (mV (L rfl) rfl (sw (c_ln un48 (L rfl)) t1 t0 (sw (c_su (L rfl) (w64 (by omega) (by omega))) t2 t0 ?_)))))
 refine sw (slI_hi un48 sz24 (h:=m) (by first | exact rfl | omega) (by omega) (show _ = encZ ys by rw [hys]; exact encZ_take) (L rfl)) t2 t0 ?_
 refine swb (core_callC (k:=71) hG hX cl91 rfl hN hbk (P0 _ rfl) (L rfl)) t1 t0 ⟨rfl,rfl⟩ (zn [(4,_),(5,_),(9,_),(10,_),(71,_)] [(4,_),(9,_),(10,_),(71,_)] t5 t4 (ex_block ?_))
 refine ex_rangeL (fn:=Tryz.f123) (ps:=[72,73]) (nI:=19) (caps:=[.at_ 71 0 1]) (Hc:=[(71,bxL ys)]) (Hc':=[(71,bxL ys)]) [] (hS9 fun k=>cfV (xs.drop (xs.length - 1 - k))) (fun k=>[vZ ((ys.length : Int) - 1 - k),pZ (ys.getD ((ys.length : Int) - 1 - k).toNat 0)]) (n:=ys.length) (sl:=[(4,.at_ 4 0 4),(5,vi 0),(9,.at_ 9 0 4),(10,.at_ 10 0 1)]) hG hX hN hro (fun b hb=>absurd hb (hX0 b)) (fun q hq=>by cases hq) rfl (le_of t4 ⟨obl rfl (by rw [bxL,pVZ,hyl]),rfl,rfl,rfl,trivial⟩) cl123 Tryz.func123 rfl Tryz.ntmps123 rfl (by decide) (by decide) (fun p hp=>?_) (fun _ _=>rfl) ?_ ?_ ?_ ?_ ?_ ?_ ?_ ?_ ?_ ?_
 ·simp only [List.mem_cons,List.not_mem_nil,or_false] at hp
  rcases hp with rfl | rfl
  ·exact L rfl
  ·exact L rfl
 ·intro q hq
  rw [lk_iff] at hq
  simp only [List.map_cons,List.map_nil,List.mem_cons,List.not_mem_nil,or_false] at hq
  subst hq
  exact ⟨by decide,fun k _=>rfl⟩
 ·intro k _ q _
  rw [lk_iff,lk_iff]; exact Iff.rfl
 ·intro k _ q hq
  cases hq
 ·intro k _ q _ B B' h1 h2
  have hm1:=lookup_mem h1
  have hm2:=lookup_mem h2
  simp only [hS9,List.mem_cons,List.not_mem_nil,or_false,Prod.mk.injEq] at hm1 hm2
  rcases hm1 with ⟨rfl,rfl⟩ | ⟨rfl,rfl⟩ | ⟨rfl,rfl⟩ <;> rcases hm2 with ⟨e,rfl⟩ | ⟨e,rfl⟩ | ⟨e,rfl⟩ <;> first | exact ⟨rfl,rfl⟩ | (cases e)
 ·intro k _
  exact whole_of rfl
 ·intro q hq; exact hq
 ·intro t v ht q hq
  have hnm : ((hS9 (fun k=>cfV (xs.drop (xs.length - 1 - k))) 0).map (·.1)) = [9,10,4]:=rfl
  have ho : ([(4,.at_ 4 0 4),(5,vi 0),(9,.at_ 9 0 4),(10,.at_ 10 0 1)] : List (Nat × PV)).all (fun p=>p.2.only [4,9,10]) = true:=rfl
  rw [List.all_eq_true] at ho
  have:=PV.only_mem (ho _ (lookup_mem' ht)) hq
  refine ⟨lk_iff.2 ?_,by simp⟩
  rw [hnm]
  simp only [List.mem_cons,List.not_mem_nil,or_false] at this ⊢
  omega
 ·intro l F' XF hro' hY
  exact back_hit ys _ (by omega) F' _ l rfl XF hY
 ·intro k hk
  have hkm : k + 1 < xs.length:=by omega
  have hst:=simp_step hkm
  have hfx:=y_get hm hys (show k < m by omega)
  have hfw : nw (ys.getD ((ys.length : Int) - 1 - k).toNat 0) < 100000:=by
   rw [hfx]; have:=hb1 _ (gDZ (show xs.length - 2 - k < xs.length by omega)); omega
  have hxq:=drop_qw (j:=xs.length - 1 - k) hb1 hB (by omega)
  have hx1:=cfV_pos (l:=xs.drop (xs.length - 1 - k)) (fun c=>by have:=congrArg List.length c; simp at this; omega) (hb2 _ (by omega))
  refine ⟨⟨[(12,.at_ 12 0 2),(10,.at_ 10 0 1)],(12,bI (ys.getD ((ys.length : Int) - 1 - k).toNat 0)) :: hS9 (fun k=>cfV (xs.drop (xs.length - 1 - k))) k⟩,fun F' XF=>?_,fun F' XF=>?_⟩
  ·have L:=lti (XF.nt.trans hnt)
   have P0:=p0L XF [9,10,4] rfl
   skip
   refine exr0 (swb (c_al (k:=12) (n:=2) zv24 (.cons rfl (.cons rfl .nil)) rfl (P0 _ rfl) (L rfl)) t0 t0 ⟨rfl,rfl⟩ (sb (c_sm sz24 (by rfl) pa2 rfl pu2) t2 t1 ?_))
   refine seq_nil ?_
   exact ⟨rfl,le_of t2 t4⟩
  ·have L:=lti (XF.nt.trans hnt)
   have P0:=p0L XF [9,10,4] rfl
   have hG:=XF.g
   have hX:=XF.x
   have hN:=XF.ng
   skip
   refine ex_block (exr0 (sw (c_l1 ag86 (by rfl) (by rfl) (L rfl)) t1 t1 ?_))
   refine lp2 ag24 sz24 (L rfl) rfl rfl (swB (c_cx hG hX [9] hN (simp1_says (ys.getD ((ys.length : Int) - 1 - k).toNat 0) (cfV (xs.drop (xs.length - 1 - k))) hfw hxq (by grind)) rfl (args_clo (fst:=[]) (ys:=[_]) (cap:=[_]) cl90 rfl (by rfl)) (by rfl) (by rfl) (by rfl) (by rfl) (SameH.to (.cons rfl .nil)) (by rfl) (by rfl) (L rfl)) t2 t1 ?_)
   refine seq_nil ?_
   exact ⟨rfl,⟨obl rfl (by show bQ _ = bQ (cfV (xs.drop (xs.length - 1 - (k + 1)))); rw [hst,hfx]),rfl,rfl,trivial⟩⟩
 ·show Exec _ _ _ _ _
  have e : cfV (xs.drop (xs.length - 1 - ys.length)) = cfV xs:=by rw [hyl,show xs.length - 1 - m = 0 by omega,List.drop_zero]
  skip
  refine exr (lp4 ag26 sz26 (L rfl) rfl rfl (sb (c_sm sz26 (by rfl) pa4 rfl pu4) t2 t1 ?_))
  refine aV (L rfl) rfl (zn [(4,_),(5,_)] [(4,_)] t2 t1 (ex_ret ?_))
  refine ⟨.inr rfl,ResVs.cast (.cons (.agg rfl rfl rfl ag26 sz26 (.cons (.cons (.cons (.cons .nil))))) (.cons (.tmp rfl) .nil)) ?_⟩
  show [pQ (cfV (xs.drop (xs.length - 1 - ys.length))),vZ 0] = _
  rw [e]
end Go.Proofs.YtcifhkfpmhifaaaGreatDoor.N
set_option maxRecDepth 100000
set_option maxHeartbeats 4000000
namespace Go.Proofs.YtcifhkfpmhifaaaGreatDoor.N
open Go Go.Proofs.YtcifhkfpmhifaaaGreatDoor.SH Go.Proofs.YtcifhkfpmhifaaaGreatDoor.NumA
open Go.Proofs.Tryz renaming call19 → cl19,call24 → cl24,call26 → cl26,call28 → cl28,call46 → cl46,call87 → cl87,isAgg26 → ag26,sizeOf24 → sz24,sizeOf26 → sz26,underlying26 → un26,zeroValue26 → zv26
end Go.Proofs.YtcifhkfpmhifaaaGreatDoor.N
set_option maxRecDepth 100000
set_option maxHeartbeats 4000000
namespace Go.Proofs.YtcifhkfpmhifaaaGreatDoor.N
open Go Go.Proofs.YtcifhkfpmhifaaaGreatDoor.SH Go.Proofs.YtcifhkfpmhifaaaGreatDoor.NumA
open Go.Proofs.Tryz renaming isAgg5 → ag5,isAgg9 → ag9,sizeOf5 → sz5,sizeOf9 → sz9,underlying116 → un116,underlying5 → un5,underlying68 → un68,underlying9 → un9
theorem blocks_says (s : ByteArray) : SaysC E 142 [.a (.string s)] 154 9 (.a (.string s)):=by
 refine saysC_of (k:=1) Tryz.func142 rfl Tryz.ntmps142 Tryz.results142 (by simp) fun F hG hX0 hnt hdf P0=>?_
 obtain ⟨L,hX,hN⟩:=pro hnt hX0 hG
 refine exr (swb (c_bx (k:=1) (n:=1) (.atom rfl) rfl rfl (P0 _ rfl) (L rfl)) t1 t0 ⟨rfl,rfl⟩ (aV (L rfl) rfl (zn [(1,_)] [(1,_)] t1 t1 (exr (sw (c_fn (vs:=[]) (us:=[_]) rfl rfl (L rfl)) t1 t0 (aV (L rfl) rfl (zn [(2,_)] [(1,_)] t1 t1 (ex_ret ?_))))))))
 exact ⟨.inr rfl,rfl,rfl⟩
@[reducible] def b4P : Blk:=⟨127,10,.mix [vu 1,vu 10,vu 100,vu 1000,vu 10000,vu 100000,vu 1000000,vu 10000000,vu 100000000,vu 1000000000]⟩
@[reducible] def hPw (ws : List Int) : List (Nat × Blk):=[(2,⟨24,2,.mix [.p (.a (.bool false)),.p (.a (.slice none 0 0))]⟩),(4,b4P),(9,⟨22,1,.mix [.ref 68 0 ws.length ws.length]⟩),(68,⟨68,1,.pure (encW ws)⟩)]
@[reducible] def hP (ds : List UInt8) (k : Nat) : List (Nat × Blk):=hPw (wsK (chunks ds) k)
@[reducible] def bxS (ds : List UInt8) : Blk:=⟨9,1,.mix [.p (pS ds)]⟩
@[reducible] def encC (b : Int × Int) : List Pure:=[.a (.int .u32 b.1),.a (.int .i64 b.2)]
theorem blocks_hit (ds : List UInt8) (hl0 : ds.length < 100000000) (hdg : Digits ds) : ∀ (F : Fr) (code : Code) (l : Nat),Tryz.f154.body = some code → XFrL E [68] ([(70,bxS ds)] ++ hP ds 0) 39 F → YieldsL E.P F [68] l (chunks ds).length (fun k=>encC ((chunks ds).getD k (0,0))) (hP ds) → Exec E.P F code ⟨[(0,.clo (.yield l) [] []),(1,.at_ 70 0 1)],[(70,bxS ds)] ++ hP ds 0⟩ (fun e S'=>(e = .normal ∨ e = .ret) ∧ HasB S' ([(70,bxS [])] ++ hP ds (chunks ds).length)):=by
 intro F code l hcode XF hY
 injection (show some _ = some code from hcode) with hcode
 subst hcode
 have hG:=XF.g
 have hX:=XF.x
 have hN:=XF.ng
 have L:=lti XF.nt
 refine ex_block ?_
 refine exl (α:=(Nat × List UInt8)) (fun x=>[]) (fun x=>[(70,bxS x.2),(9,⟨22,1,.mix [.ref 68 0 (wsK (chunks ds) x.1).length (wsK (chunks ds) x.1).length]⟩),(68,⟨68,1,.pure (encW (wsK (chunks ds) x.1))⟩)]) (fun x=>(chunks ds).drop x.1 = chunks x.2 ∧ Digits x.2 ∧ x.1 ≤ (chunks ds).length ∧ x.2.length ≤ ds.length) (fun x=>x.2.length) ((0,ds)) (sl:=[(0,_),(1,_)]) (hb:=[(2,_),(4,_)]) ?_ t2 t5 ?_
 ·exact ⟨rfl,hdg,Nat.zero_le _,Nat.le_refl _⟩
 intro x hx
 obtain ⟨k,rest⟩:=x
 obtain ⟨hc,hd,hk,hrl⟩:=hx
 simp only at hc hd hk hrl
 dsimp only
 have hsz:=str_size rest
 refine ex_seq (exr (sw (c_l1 ag9 (by rfl) (by rfl) (L rfl)) t1 t1 ?_))
 refine sw (c_lS un9 (L rfl)) t1 t0 (sw (c_gt (L rfl)) t2 t0 (zn [(0,_),(1,_),(9,_)] [(2,_),(4,_),(9,_),(68,_),(70,_)] t3 t5 ?_))
 refine ex_if rfl (fun he=>?_) (fun he=>?_)
 ·have he:=dt he
  rw [hsz] at he
  have hne : rest ≠ []:=by intro e; subst e; simp at he
  obtain ⟨n,hn⟩ : ∃ n,n = (rest.length - 1) % 9 + 1:=⟨_,rfl⟩
  have hnl : n ≤ rest.length:=by omega
  have hcc:=chunks_cons hne
  rw [← hn] at hcc
  have hck : (chunks ds)[k]? = some (numI (rest.take n),(n : Int)):=by
   have : ((chunks ds).drop k)[0]? = some (numI (rest.take n),(n : Int)):=by rw [hc,hcc]; rfl
   simpa using this
  have htl : (rest.take n).length = n:=by simp; omega
  have hdt:=hd.take n
  refine ex_skip (show Exec _ _ _ _ _ from ?_)
  refine ex_block (exr (sw (c_l1 ag9 (by rfl) (by rfl) (L rfl)) t1 t1 ?_))
  refine sw (c_lS un9 (L rfl)) t1 t0 (sw (c_su (L rfl) (w64 (by omega) (by omega))) t2 t0 ?_)
  refine sw (c_r (L rfl) (by decide) (show _ = (((rest.length - 1) % 9 : Nat) : Int) by rw [Int.tmod_eq_emod_of_nonneg (by omega)]; omega)) t2 t0 ?_
  refine sw (c_ad (L rfl) (show _ = (n : Int) by rw [w64 (by omega) (by omega)]; omega)) t2 t0 ?_
  refine aV (L rfl) rfl (zn [(0,_),(1,_),(3,_)] [(2,_),(4,_),(9,_),(68,_),(70,_)] t3 t5 (exr (aV (L rfl) rfl (zn [(0,_),(1,_),(3,_),(4,_)] [(2,_),(4,_),(9,_),(68,_),(70,_)] t4 t5 (ex_seq (exr (sw (c_l1 ag9 (by rfl) (by rfl) (L rfl)) t1 t1 ?_)))))))
  refine mV (L rfl) rfl (sw (slS_hi un9 (h:=n) (by first | exact rfl | omega) (by rw [hsz]; exact hnl) (L rfl)) t2 t0 ?_)
  refine sw (c_s2 (n:=n) (xs:=encB (rest.take n)) un9 un116 un5 (by rw [str_extract,str_size]; simp; omega) (by rw [str_extract]; simp [str,encB]) (L rfl)) t1 t0 ?_
  refine sw (c_ln un116 (L rfl)) t1 t0 (mV (L rfl) rfl (zn [(0,_),(1,_),(3,_),(4,_),(18,_),(19,_),(20,_)] [(2,_),(4,_),(9,_),(68,_),(70,_)] t7 t5 (ex_block ?_)))
  refine exl (α:=Nat) (fun y=>[(20,vi (y : Int)),(4,vu (numI ((rest.take n).take y)))]) (fun y=>[]) (fun y=>y ≤ n) (fun y=>n - y) (0) (sl:=[(0,_),(1,_),(3,_),(18,_),(19,_)]) (hb:=[(2,_),(4,_),(9,_),(68,_),(70,_)]) ?_ ⟨(by first | exact rfl | exact oi (by omega) rfl),(by first | exact rfl | exact oi (by omega) rfl),rfl,rfl,rfl,rfl,rfl,trivial⟩ t5 ?_
  ·exact Nat.zero_le _
  intro y hy2
  refine exr (sw (c_ls (L rfl)) t2 t0 (zn [(0,_),(1,_),(3,_),(4,_),(18,_),(19,_),(20,_),(21,_)] [(2,_),(4,_),(9,_),(68,_),(70,_)] t8 t5 (ex_seq ?_)))
  refine ex_if rfl (fun hf=>?_) (fun hf=>?_)
  ·have hf:=dt hf
   have hb9:=numI_bd (hdt.take y)
   have hg:=hdt.get (i:=y) (by omega)
   have hlen9 : ((rest.take n).take y).length = y:=by simp; omega
   rw [hlen9] at hb9
   have hp10 : (10 : Int) ^ y ≤ 100000000:=by
    have h2 : ((10 ^ y : Nat) : Int) ≤ ((10 ^ 8 : Nat) : Int):=Int.ofNat_le.2 (Nat.pow_le_pow_right (by decide) (by omega))
    rw [Int.natCast_pow] at h2
    exact h2
   refine ex_skip (show Exec _ _ _ _ _ from ?_)
   refine ex_seq (ex_block (exr (sw (ixJ un116 sz5 (j:=y) (by first | exact rfl | omega) (by omega) (by simp; omega) (L rfl)) t2 t0 ?_)))
   refine sw (c_li ag5 (by first | exact getB (by omega) | rfl) (L rfl)) t1 t0 ?_
   refine aV (L rfl) rfl (zn [(0,_),(1,_),(3,_),(4,_),(6,_),(18,_),(19,_),(20,_)] [(2,_),(4,_),(9,_),(68,_),(70,_)] t8 t5 (exr0 (mV (L rfl) rfl (sw (c_mu (L rfl) (fu32 (by omega) (by omega))) t2 t0 ?_))))
   refine mV (L rfl) rfl (sw (c_su (L rfl) (fu8 (by omega) (by omega))) t2 t0 ?_)
   refine sw (c_cv un5 un68 (L rfl) (fu32 (by omega) (by omega))) t1 t0 ?_
   refine sw (c_ad (L rfl) (show _ = numI ((rest.take n).take (y + 1)) by rw [numI_take_succ (by omega),dg]; exact fu32 (by omega) (by omega))) t2 t0 ?_
   refine aV (L rfl) rfl (seq_nil (exr0 (sw (c_ad (L rfl) (w64 (by omega) (by omega))) t2 t0 ?_)))
   refine mV (L rfl) rfl (seq_nil ?_)
   exact ⟨y + 1,(by omega),(by omega),le_of ⟨(by first | exact rfl | exact oi (by omega) rfl),(by first | exact rfl | exact oi (by omega) rfl),rfl,rfl,rfl,rfl,rfl,trivial⟩ t5⟩
  ·have hf:=df hf
   have hyn : y = n:=by omega
   subst hyn
   have hnum : (rest.take y).take y = rest.take y:=List.take_of_length_le (by omega)
   rw [hnum]
   have hkn : k < (chunks ds).length:=(List.getElem?_eq_some_iff.1 hck).1
   have hgd : (chunks ds).getD k (0,0) = (numI (rest.take y),(y : Int)):=by rw [List.getD_eq_getElem?_getD,hck]; rfl
   refine ex_exit (show Exec _ _ _ _ _ from ?_)
   refine ex_seq (exrN (nsw (c_m (L rfl)) t1 t0 (nsw (c_m (L rfl)) t1 t0 (nsw (c_m (L rfl)) t1 t0 (nsY hY (k) hkn (L rfl) rfl ⟨rfl,ov rfl (by rw [hgd]),ov rfl (by rw [hgd]),trivial⟩ t4 rfl ?_)))))
   refine nsw (c_no (L rfl)) t1 t0 ?_
   refine .nil ⟨[(0,_),(1,_),(3,_),(35,_)],(2,_) :: (4,_) :: (9,_) :: (68,_) :: (70,_) :: [],t4,t5,?_⟩
   refine ex_false rfl rfl ?_
   refine ex_skip (show Exec _ _ _ _ _ from ?_)
   refine exr0 (sw (c_l1 ag9 (by rfl) (by rfl) (L rfl)) t1 t1 ?_)
   refine mV (L rfl) rfl (sw (slS_lo un9 (l:=y) (by first | exact rfl | omega) (by rw [hsz]; exact hnl) (L rfl)) t2 t0 ?_)
   refine sb (c_sm sz9 (by rfl) (.atom rfl) rfl pu1) t2 t1 ?_
   refine seq_nil ?_
   exact ⟨(k + 1,rest.drop y),⟨by rw [show (chunks ds).drop (k + 1) = ((chunks ds).drop k).drop 1 by simp,hc,hcc]; rfl,hd.drop y,by have:=(List.getElem?_eq_some_iff.1 hck).1; simp only; omega,by simp only [List.length_drop]; omega⟩,(by simp only [List.length_drop]; omega),le_of t2 ⟨obl rfl (by rw [hsz,str_extract]; simp only; rw [List.take_of_length_le (by simp)]),rfl,rfl,rfl,rfl,trivial⟩⟩
 ·have he:=df he
  rw [hsz] at he
  have hr0 : rest = []:=List.eq_nil_of_length_eq_zero (by omega)
  subst hr0
  rw [chunks_nil] at hc
  have hkl : k = (chunks ds).length:=by
   have:=congrArg List.length hc
   simp at this; omega
  subst hkl
  refine ex_exit ?_
  exact ⟨.inl rfl,t5⟩
end Go.Proofs.YtcifhkfpmhifaaaGreatDoor.N
set_option maxRecDepth 100000
set_option maxHeartbeats 4000000
namespace Go.Proofs.YtcifhkfpmhifaaaGreatDoor.N
open Go Go.Proofs.YtcifhkfpmhifaaaGreatDoor.SH Go.Proofs.YtcifhkfpmhifaaaGreatDoor.NumA
open Go.Proofs.Tryz renaming call109 → cl109,call142 → cl142,call154 → cl154,isAgg22 → ag22,isAgg24 → ag24,isAgg5 → ag5,isAgg68 → ag68,sizeOf127 → sz127,sizeOf22 → sz22,sizeOf24 → sz24,sizeOf4 → sz4,sizeOf5 → sz5,sizeOf68 → sz68,typeInfo68 → ti68,underlying116 → un116,underlying127 → un127,underlying22 → un22,underlying24 → un24,underlying5 → un5,underlying68 → un68,underlying78 → un78,underlying9 → un9,zeroValue127 → zv127,zeroValue22 → zv22,zeroValue24 → zv24
theorem pow_get {n : Nat} (h : n ≤ 9) : (Cells.mix [vu 1,vu 10,vu 100,vu 1000,vu 10000,vu 100000,vu 1000000,vu 10000000,vu 100000000,vu 1000000000]).get n = some (vu (10 ^ n)):=by
 rcases (show n = 0 ∨ n = 1 ∨ n = 2 ∨ n = 3 ∨ n = 4 ∨ n = 5 ∨ n = 6 ∨ n = 7 ∨ n = 8 ∨ n = 9 by omega) with rfl | rfl | rfl | rfl | rfl | rfl | rfl | rfl | rfl | rfl <;> rfl
theorem parse_says (bs : List UInt8) (hl : bs.length < 100000000) : Says E 126 [pS bs] (.tup [pZ (parseV bs),vZ (parseE bs)]):=by
 refine says_ofR (xs:=[pZ (parseV bs),vZ (parseE bs)]) Tryz.func126 rfl Tryz.ntmps126 Tryz.results126 (by simp) fun F hG hX0 hnt hdf P0 hro=>?_
 obtain ⟨L,hX,hN⟩:=pro hnt hX0 hG
 have hsz:=str_size bs
 refine exr (swb (c_al (k:=2) (n:=2) zv24 (.cons rfl (.cons rfl .nil)) rfl (P0 _ rfl) (L rfl)) t0 t0 ⟨rfl,rfl⟩ (aV (L rfl) rfl (zn [(0,_),(2,_),(3,_)] [(2,_)] t3 t1 (exr (sw (core_buildArr (vs:=[_,_,_,_,_,_,_,_,_,_]) un127 zv127 (.cons rfl (.cons rfl (.cons rfl (.cons rfl (.cons rfl (.cons rfl (.cons rfl (.cons rfl (.cons rfl (.cons rfl .nil)))))))))) sz68 rfl (.cons rfl (.atom rfl) rfl pu1 (.cons rfl (.atom rfl) rfl (.skip pu1) (.cons rfl (.atom rfl) rfl (.skip (.skip pu1)) (.cons rfl (.atom rfl) rfl (.skip (.skip (.skip pu1))) (.cons rfl (.atom rfl) rfl (.skip (.skip (.skip (.skip pu1)))) (.cons rfl (.atom rfl) rfl (.skip (.skip (.skip (.skip (.skip pu1))))) (.cons rfl (.atom rfl) rfl (.skip (.skip (.skip (.skip (.skip (.skip pu1)))))) (.cons rfl (.atom rfl) rfl (.skip (.skip (.skip (.skip (.skip (.skip (.skip pu1))))))) (.cons rfl (.atom rfl) rfl (.skip (.skip (.skip (.skip (.skip (.skip (.skip (.skip pu1)))))))) (.cons rfl (.atom rfl) rfl (.skip (.skip (.skip (.skip (.skip (.skip (.skip (.skip (.skip pu1))))))))) .nil)))))))))) (.cons (.cons (.cons (.cons (.cons (.cons (.cons (.cons (.cons (.cons .nil)))))))))) (L rfl)) t10 t0 (swb (c_al (k:=4) (n:=10) zv127 (.cons rfl (.cons rfl (.cons rfl (.cons rfl (.cons rfl (.cons rfl (.cons rfl (.cons rfl (.cons rfl (.cons rfl .nil)))))))))) rfl (P0 _ rfl) (L rfl)) t0 t0 ⟨rfl,rfl⟩ (sb (c_sm sz127 (by rfl) pa10 rfl pu10) t2 t1 ?_)))))))
 refine zn [(0,_),(2,_),(3,_),(4,_)] [(2,_),(4,_)] t4 t2 (exr (mV (L rfl) rfl (aV (L rfl) rfl (aV (L rfl) rfl (zn [(0,_),(2,_),(3,_),(4,_),(5,_),(6,_)] [(2,_),(4,_)] t6 t2 (ex_seq ?_))))))
 refine exm (sl:=[(25,vb (pNeg bs))]) (sl0:=[(0,_),(2,_),(3,_),(4,_),(5,_),(6,_)]) (hb:=[]) (hb0:=[(2,_),(4,_)]) t6 t2 ?_ ?_
 ·by_cases h0 : 0 < bs.length
  ·refine mV (L rfl) rfl (sw (c_lS un9 (L rfl)) t1 t0 (sw (c_gt (L rfl)) t2 t0 (mV (L rfl) rfl (gV (g:=21) rfl (by rw [hsz]; exact decide_eq_true (by omega)) (L rfl) rfl rfl ?_))))
   refine swg (g:=21) rfl (by rw [hsz]; exact decide_eq_true (by omega)) (c_is un9 (by decide) (by exact str_get (i:=0) h0) (L rfl)) rfl t2 t0 ?_
   refine swg (g:=21) rfl (by rw [hsz]; exact decide_eq_true (by omega)) (c_e (L rfl)) rfl t2 t0 ?_
   refine sw (c_pt (by rw [hsz]; exact decide_eq_true (by omega)) (L rfl)) t2 t0 ?_
   exact seq_nil ⟨⟨ob rfl (by rw [pNeg]; exact dec_eq ⟨fun c=>⟨h0,c⟩,fun c=>c.2⟩),rfl,rfl,rfl,rfl,rfl,rfl,trivial⟩,t2⟩
  ·refine mV (L rfl) rfl (sw (c_lS un9 (L rfl)) t1 t0 (sw (c_gt (L rfl)) t2 t0 (mV (L rfl) rfl (swn (g:=21) rfl (by rw [hsz]; exact decide_eq_false (by omega)) (L rfl) rfl ?_))))
   refine swn (g:=21) rfl (by rw [hsz]; exact decide_eq_false (by omega)) (L rfl) rfl ?_
   refine swn (g:=21) rfl (by rw [hsz]; exact decide_eq_false (by omega)) (L rfl) rfl ?_
   refine sw (c_pf (by rw [hsz]; exact decide_eq_false (by omega)) (L rfl)) t2 t0 ?_
   exact seq_nil ⟨⟨ob rfl (by rw [pNeg]; exact (decide_eq_false (fun c=>h0 c.1)).symm),rfl,rfl,rfl,rfl,rfl,rfl,trivial⟩,t2⟩
 obtain ⟨ds,hds⟩ : ∃ ds,ds = pDs bs:=⟨_,rfl⟩
 have hdl : ds.length < 100000000:=by rw [hds,pDs]; split <;> (try simp only [List.length_drop]) <;> omega
 obtain ⟨neg,hneg⟩ : ∃ neg,neg = pNeg bs:=⟨_,rfl⟩
 have f3 : (pBad ds neg = true ∨ ¬ Digits ds) → parseV bs = 0 ∧ parseE bs = 3:=fun h=>by
  have e : parseE bs = 3:=by rw [parseE,← hds,← hneg,if_pos h]
  exact ⟨by rw [parseV,e]; rfl,e⟩
 have f2 : ¬ (pBad ds neg = true ∨ ¬ Digits ds) → 20000 < ds.length → parseV bs = 0 ∧ parseE bs = 2:=fun h h2=>by
  have e : parseE bs = 2:=by rw [parseE,← hds,← hneg,if_neg h,if_pos h2]
  exact ⟨by rw [parseV,e]; rfl,e⟩
 have f0 : ¬ (pBad ds neg = true ∨ ¬ Digits ds) → ¬ 20000 < ds.length → parseV bs = sg neg (numI ds) ∧ parseE bs = 0:=fun h h2=>by
  have e : parseE bs = 0:=by rw [parseE,← hds,← hneg,if_neg h,if_neg h2]
  exact ⟨by rw [parseV,if_pos e,← hds,← hneg],e⟩
 refine ex_cut (sl:=[(5,.p (pS ds)),(6,vb neg)]) (sl0:=[(2,_),(3,_),(4,_)]) (hb:=[]) (hb0:=[(2,_),(4,_)]) t3 t2 ?_ ?_
 ·refine ex_if rfl (fun hc=>?_) (fun hc=>?_)
  ·have hb : pNeg bs = true:=hc
   have h0 : 0 < bs.length:=by rw [pNeg] at hb; exact (of_decide_eq_true hb).1
   refine exr0 (mV (L rfl) rfl (sw (slS_lo un9 (l:=1) (by first | exact rfl | omega) (by rw [hsz]; omega) (L rfl)) t2 t0 ?_))
   refine aV (L rfl) rfl (aV (L rfl) rfl (seq_nil ?_))
   exact ⟨⟨ov rfl (by rw [hsz,str_extract,hds,pDs,if_pos hb,List.take_of_length_le (show (bs.drop 1).length ≤ bs.length - 1 by simp)]),ob rfl (by rw [hneg]; exact hc.symm),(by first | exact rfl | exact oi (by omega) rfl),(by first | exact rfl | exact oi (by omega) rfl),(by first | exact rfl | exact oi (by omega) rfl),trivial⟩,t2⟩
  ·have hb : ¬ pNeg bs = true:=by rw [hc]; simp
   refine ex_skip ?_
   exact ⟨⟨ov rfl (by rw [hds,pDs,if_neg hb]),ob rfl (by rw [hneg]; exact hc.symm),(by first | exact rfl | exact oi (by omega) rfl),(by first | exact rfl | exact oi (by omega) rfl),(by first | exact rfl | exact oi (by omega) rfl),trivial⟩,t2⟩
 ·have hsd:=str_size ds
  refine ex_seq ?_
  refine exm (sl:=[(43,vb (pBad ds neg))]) (sl0:=[(2,_),(3,_),(4,_),(5,_),(6,_)]) (hb:=[]) (hb0:=[(2,_),(4,_)]) t5 t2 ?_ ?_
  ·rcases pcases ds with h1 | ⟨h1,h2⟩ | ⟨h2,h3⟩ | ⟨h1,h2,h3⟩
   ·refine mV (L rfl) rfl (sw (c_lS un9 (L rfl)) t1 t0 (sw (c_e (L rfl)) t2 t0 (mV (L rfl) rfl (swn (g:=31) rfl (by rw [hsd]; exact decide_eq_true (by omega)) (L rfl) rfl ?_))))
    refine swn (g:=31) rfl (by rw [hsd]; exact decide_eq_true (by omega)) (L rfl) rfl ?_
    refine swn (g:=31) rfl (by rw [hsd]; exact decide_eq_true (by omega)) (L rfl) rfl ?_
    refine swn (g:=31) rfl (by rw [hsd]; exact decide_eq_true (by omega)) (L rfl) rfl ?_
    refine swu (g:=35) rfl (L rfl) rfl (swu (g:=35) rfl (L rfl) rfl (swu (g:=35) rfl (L rfl) rfl (swu (g:=35) rfl (L rfl) rfl (swu (g:=39) rfl (L rfl) rfl (swu (g:=35) rfl (L rfl) rfl (swn (g:=31) rfl (by rw [hsd]; exact decide_eq_true (by omega)) (L rfl) rfl ?_))))))
    refine sw (c_pt (by rw [hsd]; exact decide_eq_true (by omega)) (L rfl)) t2 t0 ?_
    exact seq_nil ⟨⟨ob rfl (by rw [pBad]; exact (decide_eq_true (.inl h1)).symm),rfl,rfl,rfl,rfl,rfl,trivial⟩,t2⟩
   ·refine mV (L rfl) rfl (sw (c_lS un9 (L rfl)) t1 t0 (sw (c_e (L rfl)) t2 t0 (mV (L rfl) rfl (gV (g:=31) rfl (by rw [hsd]; exact decide_eq_false (by omega)) (L rfl) rfl rfl ?_))))
    refine swg (g:=31) rfl (by rw [hsd]; exact decide_eq_false (by omega)) (c_is un9 (by decide) (by exact str_get (i:=0) (by omega)) (L rfl)) rfl t2 t0 ?_
    refine swg (g:=31) rfl (by rw [hsd]; exact decide_eq_false (by omega)) (c_e (L rfl)) rfl t2 t0 ?_
    refine gV (g:=31) rfl (by rw [hsd]; exact decide_eq_false (by omega)) (L rfl) rfl rfl ?_
    refine swn (g:=35) rfl (decide_eq_false h2) (L rfl) rfl (swn (g:=35) rfl (decide_eq_false h2) (L rfl) rfl (swn (g:=35) rfl (decide_eq_false h2) (L rfl) rfl (swn (g:=35) rfl (decide_eq_false h2) (L rfl) rfl (swu (g:=39) rfl (L rfl) rfl (swn (g:=35) rfl (decide_eq_false h2) (L rfl) rfl (swg (g:=31) rfl (by rw [hsd]; exact decide_eq_false (by omega)) (c_pf (decide_eq_false h2) (L rfl)) rfl t2 t0 ?_))))))
    refine sw (c_pf (by rw [hsd]; exact decide_eq_false (by omega)) (L rfl)) t2 t0 ?_
    exact seq_nil ⟨⟨ob rfl (by rw [pBad]; exact (decide_eq_false (fun c=>c.elim h1 (fun c=>h2 c.1))).symm),rfl,rfl,rfl,rfl,rfl,trivial⟩,t2⟩
   ·refine mV (L rfl) rfl (sw (c_lS un9 (L rfl)) t1 t0 (sw (c_e (L rfl)) t2 t0 (mV (L rfl) rfl (gV (g:=31) rfl (by rw [hsd]; exact decide_eq_false (by omega)) (L rfl) rfl rfl ?_))))
    refine swg (g:=31) rfl (by rw [hsd]; exact decide_eq_false (by omega)) (c_is un9 (by decide) (by exact str_get (i:=0) (by omega)) (L rfl)) rfl t2 t0 ?_
    refine swg (g:=31) rfl (by rw [hsd]; exact decide_eq_false (by omega)) (c_e (L rfl)) rfl t2 t0 ?_
    refine gV (g:=31) rfl (by rw [hsd]; exact decide_eq_false (by omega)) (L rfl) rfl rfl ?_
    refine gV (g:=35) rfl (decide_eq_true h2) (L rfl) rfl rfl (swg (g:=35) rfl (decide_eq_true h2) (c_lS un9 (L rfl)) rfl t1 t0 (swg (g:=35) rfl (decide_eq_true h2) (c_gt (L rfl)) rfl t2 t0 (gV (g:=35) rfl (decide_eq_true h2) (L rfl) rfl rfl (swn (g:=39) rfl (by rw [hsd]; exact decide_eq_true (by omega)) (L rfl) rfl ?_))))
    refine swg (g:=35) rfl (decide_eq_true h2) (c_pt (by rw [hsd]; exact decide_eq_true (by omega)) (L rfl)) rfl t2 t0 ?_
    refine swg (g:=31) rfl (by rw [hsd]; exact decide_eq_false (by omega)) (c_pt (decide_eq_true h2) (L rfl)) rfl t2 t0 ?_
    refine sw (c_pf (by rw [hsd]; exact decide_eq_false (by omega)) (L rfl)) t2 t0 ?_
    exact seq_nil ⟨⟨ob rfl (by rw [pBad]; exact (decide_eq_true (.inr ⟨h2,.inl h3⟩)).symm),rfl,rfl,rfl,rfl,rfl,trivial⟩,t2⟩
   ·refine mV (L rfl) rfl (sw (c_lS un9 (L rfl)) t1 t0 (sw (c_e (L rfl)) t2 t0 (mV (L rfl) rfl (gV (g:=31) rfl (by rw [hsd]; exact decide_eq_false (by omega)) (L rfl) rfl rfl ?_))))
    refine swg (g:=31) rfl (by rw [hsd]; exact decide_eq_false (by omega)) (c_is un9 (by decide) (by exact str_get (i:=0) (by omega)) (L rfl)) rfl t2 t0 ?_
    refine swg (g:=31) rfl (by rw [hsd]; exact decide_eq_false (by omega)) (c_e (L rfl)) rfl t2 t0 ?_
    refine gV (g:=31) rfl (by rw [hsd]; exact decide_eq_false (by omega)) (L rfl) rfl rfl ?_
    refine gV (g:=35) rfl (decide_eq_true h2) (L rfl) rfl rfl (swg (g:=35) rfl (decide_eq_true h2) (c_lS un9 (L rfl)) rfl t1 t0 (swg (g:=35) rfl (decide_eq_true h2) (c_gt (L rfl)) rfl t2 t0 (gV (g:=35) rfl (decide_eq_true h2) (L rfl) rfl rfl (gV (g:=39) rfl (by rw [hsd]; exact decide_eq_false (by omega)) (L rfl) rfl rfl ?_))))
    refine swg (g:=35) rfl (decide_eq_true h2) (c_pf (by rw [hsd]; exact decide_eq_false (by omega)) (L rfl)) rfl t2 t0 ?_
    refine swg (g:=31) rfl (by rw [hsd]; exact decide_eq_false (by omega)) (c_pt (decide_eq_true h2) (L rfl)) rfl t2 t0 ?_
    refine sw (c_pf (by rw [hsd]; exact decide_eq_false (by omega)) (L rfl)) t2 t0 ?_
    exact seq_nil ⟨⟨ob rfl (by rw [pBad]; cases neg; exact (decide_eq_false (fun c=>c.elim h1 (fun c=>c.2.elim h3 (fun e=>by cases e)))).symm; exact (decide_eq_true (.inr ⟨h2,.inr rfl⟩)).symm),rfl,rfl,rfl,rfl,rfl,trivial⟩,t2⟩
  refine ex_if rfl (fun hbad=>?_) (fun hbad=>?_)
  ·refine exr (sw (c_pc (c_bp (vs:=[]) un24 zv24 (.cons rfl (.cons rfl .nil)) ((Places.cons sz4 (Places.cons sz22 Places.nil))).to rfl .nil (.cons (.cons .nil)) (L rfl)) (.agg (.cons .same (.cons .nil .nil)))) t0 t0 (sb (c_sm sz24 (by rfl) pa2 rfl pu2) t2 t1 ?_))
   refine aV (L rfl) rfl (zn [(2,_),(3,_)] [(2,_)] t2 t1 (ex_ret ?_))
   refine ⟨.inr rfl,ResVs.cast (.cons (.agg rfl rfl rfl ag24 sz24 (.cons (.cons .nil))) (.cons (.tmp rfl) .nil)) ?_⟩
   rw [(f3 (.inl hbad)).1,(f3 (.inl hbad)).2,pZ_zero]; rfl
  ·refine ex_skip (show Exec _ _ _ _ _ from ?_)
   refine ex_seq (exr (mV (L rfl) rfl (sw (c_s2 (n:=ds.length) (xs:=encB ds) un9 un116 un5 hsd (by simp [str,encB]) (L rfl)) t1 t0 ?_)))
   refine sw (c_ln un116 (L rfl)) t1 t0 (mV (L rfl) rfl (zn [(2,_),(3,_),(4,_),(5,_),(6,_),(46,_),(47,_),(48,_)] [(2,_),(4,_)] t8 t2 (ex_block ?_)))
   refine exl (α:=Nat) (fun j=>[(48,vi (j : Int))]) (fun j=>[]) (fun j=>j ≤ ds.length ∧ Digits (ds.take j)) (fun j=>ds.length - j) (0) (sl:=[(2,_),(3,_),(4,_),(5,_),(6,_),(46,_),(47,_)]) (hb:=[(2,_),(4,_)]) ?_ ⟨(by first | exact rfl | exact oi (by omega) rfl),rfl,rfl,rfl,rfl,rfl,rfl,rfl,trivial⟩ t2 ?_
   ·exact ⟨Nat.zero_le _,by intro c hc; simp at hc⟩
   intro j hj
   obtain ⟨hjl,hjd⟩:=hj
   refine exr (sw (c_ls (L rfl)) t2 t0 (zn [(2,_),(3,_),(4,_),(5,_),(6,_),(46,_),(47,_),(48,_),(49,_)] [(2,_),(4,_)] t9 t2 (ex_seq ?_)))
   refine ex_if rfl (fun he=>?_) (fun he=>?_)
   ·have he:=dt he
    refine ex_skip (show Exec _ _ _ _ _ from ?_)
    refine ex_seq (ex_block (exr (sw (ixJ un116 sz5 (j:=j) (by first | exact rfl | omega) (by omega) (by simp) (L rfl)) t2 t0 ?_)))
    refine sw (c_li ag5 (by first | exact getB (by omega) | rfl) (L rfl)) t1 t0 ?_
    refine aV (L rfl) rfl (zn [(2,_),(3,_),(4,_),(5,_),(6,_),(8,_),(46,_),(47,_),(48,_)] [(2,_),(4,_)] t9 t2 ?_)
    refine exm (sl:=[(57,vb (decide (¬ (48 ≤ (ds.getD j 0).toNat ∧ (ds.getD j 0).toNat ≤ 57))))]) (sl0:=[(2,_),(3,_),(4,_),(5,_),(6,_),(46,_),(47,_),(48,_)]) (hb:=[]) (hb0:=[(2,_),(4,_)]) t8 t2 ?_ ?_
    ·by_cases h8 : ((ds.getD j 0).toNat : Int) < 48
     ·refine mV (L rfl) rfl (sw (c_ls (L rfl)) t2 t0 (mV (L rfl) rfl (swn (g:=54) rfl (decide_eq_true h8) (L rfl) rfl (swn (g:=54) rfl (decide_eq_true h8) (L rfl) rfl (sw (c_pt (decide_eq_true h8) (L rfl)) t2 t0 ?_)))))
      exact seq_nil ⟨⟨ob rfl (decide_eq_true (by omega)).symm,rfl,rfl,rfl,rfl,rfl,rfl,rfl,rfl,trivial⟩,t2⟩
     ·refine mV (L rfl) rfl (sw (c_ls (L rfl)) t2 t0 (mV (L rfl) rfl (gV (g:=54) rfl (decide_eq_false h8) (L rfl) rfl rfl (swg (g:=54) rfl (decide_eq_false h8) (c_gt (L rfl)) rfl t2 t0 (sw (c_pf (decide_eq_false h8) (L rfl)) t2 t0 ?_)))))
      exact seq_nil ⟨⟨ob rfl (dec_eq (by omega)),rfl,rfl,rfl,rfl,rfl,rfl,rfl,rfl,trivial⟩,t2⟩
    refine ex_if rfl (fun hq=>?_) (fun hq=>?_)
    ·have hq:=dt hq
     have hnd : ¬ Digits ds:=fun hd=>hq (hd.get (by omega))
     refine exr (sw (c_pc (c_bp (vs:=[]) un24 zv24 (.cons rfl (.cons rfl .nil)) ((Places.cons sz4 (Places.cons sz22 Places.nil))).to rfl .nil (.cons (.cons .nil)) (L rfl)) (.agg (.cons .same (.cons .nil .nil)))) t0 t0 (sb (c_sm sz24 (by rfl) pa2 rfl pu2) t2 t1 ?_))
     refine aV (L rfl) rfl (zn [(2,_),(3,_)] [(2,_)] t2 t1 (ex_ret ?_))
     refine ⟨.inr rfl,ResVs.cast (.cons (.agg rfl rfl rfl ag24 sz24 (.cons (.cons .nil))) (.cons (.tmp rfl) .nil)) ?_⟩
     rw [(f3 (.inr hnd)).1,(f3 (.inr hnd)).2,pZ_zero]; rfl
    ·have hq:=Decidable.not_not.1 (df hq)
     refine ex_skip (show Exec _ _ _ _ _ from ?_)
     refine exr0 (sw (c_ad (L rfl) (w64 (by omega) (by omega))) t2 t0 ?_)
     refine mV (L rfl) rfl (seq_nil ?_)
     exact ⟨j + 1,⟨by omega,Digits.snoc hjd (by omega) hq⟩,(by omega),le_of ⟨(by first | exact rfl | exact oi (by omega) rfl),rfl,rfl,rfl,rfl,rfl,rfl,rfl,trivial⟩ t2⟩
   ·have he:=df he
    have hje : j = ds.length:=by omega
    subst hje
    have hdg : Digits ds:=by rwa [List.take_length] at hjd
    have hnb : ¬ (pBad ds neg = true ∨ ¬ Digits ds):=by rintro (c | c); rw [hbad] at c; cases c; exact c hdg
    refine ex_exit (show Exec _ _ _ _ _ from ?_)
    refine ex_seq (exr (mV (L rfl) rfl (sw (c_lS un9 (L rfl)) t1 t0 (sw (c_gt (L rfl)) t2 t0 (zn [(2,_),(3,_),(4,_),(5,_),(6,_),(62,_)] [(2,_),(4,_)] t6 t2 ?_)))))
    refine ex_if rfl (fun hlim=>?_) (fun hlim=>?_)
    ·have hlim : 20000 < ds.length:=by have:=dt hlim; rw [hsd] at this; omega
     refine exr (sw (c_pc (c_bp (vs:=[]) un24 zv24 (.cons rfl (.cons rfl .nil)) ((Places.cons sz4 (Places.cons sz22 Places.nil))).to rfl .nil (.cons (.cons .nil)) (L rfl)) (.agg (.cons .same (.cons .nil .nil)))) t0 t0 (sb (c_sm sz24 (by rfl) pa2 rfl pu2) t2 t1 ?_))
     refine aV (L rfl) rfl (zn [(2,_),(3,_)] [(2,_)] t2 t1 (ex_ret ?_))
     refine ⟨.inr rfl,ResVs.cast (.cons (.agg rfl rfl rfl ag24 sz24 (.cons (.cons .nil))) (.cons (.tmp rfl) .nil)) ?_⟩
     rw [(f2 hnb hlim).1,(f2 hnb hlim).2,pZ_zero]; rfl
    ·have hlim:=df hlim
     rw [hsd] at hlim
     rw [(f0 hnb (by omega)).1,(f0 hnb (by omega)).2]
     refine ex_skip (show Exec _ _ _ _ _ from ?_)
     refine exr (mV (L rfl) rfl (sw (c_lS un9 (L rfl)) t1 t0 (sw (c_q (L rfl) (by decide) (tdiv64 (show _ = ((ds.length / 9 : Nat) : Int) by rw [hsd]; omega))) t2 t0 ?_)))
     refine sw (c_ad (L rfl) (show _ = ((ds.length / 9 + 1 : Nat) : Int) by rw [w64 (by omega) (by omega)]; omega)) t2 t0 ?_
     refine swb (c_mk (k:=68) un22 ti68 rfl rfl rfl rfl rfl (show _ = ((ds.length / 9 + 1 : Nat) : Int) from rfl) (Nat.zero_le _) (by simp [Tryz.t68]; omega) (by omega) (P0 _ rfl) (L rfl)) t2 t0 ⟨rfl,rfl⟩ ?_
     refine swb (c_al (k:=9) (n:=1) zv22 (.cons rfl .nil) rfl (P0 _ rfl) (L rfl)) t0 t0 ⟨rfl,rfl⟩ (sb (c_sm sz22 (by rfl) .ref rfl pu1) t2 t1 ?_)
     refine zn [(2,_),(3,_),(4,_),(5,_),(6,_),(9,_)] [(2,_),(4,_),(9,_),(68,_)] t6 t4 (ex_seq (exr (mV (L rfl) rfl (swb (core_callC (k:=70) hG hX cl142 rfl hN (blocks_says (str ds)) (P0 _ rfl) (L rfl)) t1 t0 ⟨rfl,rfl⟩ (zn [(2,_),(3,_),(4,_),(6,_),(9,_),(70,_)] [(2,_),(4,_),(9,_),(68,_),(70,_)] t6 t5 ?_)))))
     have hL9:=chunks_len ds
     refine ex_block ?_
     refine ex_rangeL (fn:=Tryz.f154) (ps:=[71,72]) (nI:=39) (caps:=[.at_ 70 0 1]) (Hc:=[(70,bxS ds)]) (Hc':=[(70,bxS [])]) [68] (hP ds) (fun k=>encC ((chunks ds).getD k (0,0))) (n:=(chunks ds).length) (sl:=[(2,.at_ 2 0 2),(3,vi 0),(4,.at_ 4 0 10),(6,vb neg),(9,.at_ 9 0 1)]) hG hX hN hro (fun b hb=>absurd hb (hX0 b)) (fun q hq=>by rw [List.mem_singleton.1 hq]; exact P0 68 rfl) rfl (le_of t5 ⟨rfl,rfl,rfl,obl rfl (by simp [wsK]),obl rfl (by simp [wsK,encW]),trivial⟩) cl154 Tryz.func154 rfl Tryz.ntmps154 rfl (by decide) (by decide) (fun p hp=>?_) (fun _ _=>rfl) ?_ ?_ ?_ ?_ ?_ ?_ ?_ ?_ ?_ ?_
     ·simp only [List.mem_cons,List.not_mem_nil,or_false] at hp
      rcases hp with rfl | rfl
      ·exact L rfl
      ·exact L rfl
     ·intro q hq
      rw [lk_iff] at hq
      simp only [List.map_cons,List.map_nil,List.mem_cons,List.not_mem_nil,or_false] at hq
      subst hq
      exact ⟨by decide,fun k _=>rfl⟩
     ·intro k _ q _
      rw [lk_iff,lk_iff]; exact Iff.rfl
     ·intro k _ q _ h
      rw [lk_iff] at h ⊢; exact h
     ·intro k _ q hq B B' h1 h2
      have hm1:=lookup_mem h1
      have hm2:=lookup_mem h2
      simp only [List.mem_cons,List.not_mem_nil,or_false,Prod.mk.injEq] at hm1 hm2 hq
      rcases hm1 with ⟨rfl,rfl⟩ | ⟨rfl,rfl⟩ | ⟨rfl,rfl⟩ | ⟨rfl,rfl⟩ <;> rcases hm2 with ⟨e,rfl⟩ | ⟨e,rfl⟩ | ⟨e,rfl⟩ | ⟨e,rfl⟩ <;> first | exact ⟨rfl,rfl⟩ | (exact absurd rfl hq) | (cases e)
     ·intro k _
      exact whole_of rfl
     ·intro q hq
      rw [lk_iff] at hq ⊢; exact hq
     ·intro t v ht q hq
      have hnm : ((hP ds 0).map (·.1)) = [2,4,9,68]:=rfl
      have ho : ([(2,.at_ 2 0 2),(3,vi 0),(4,.at_ 4 0 10),(6,vb neg),(9,.at_ 9 0 1)] : List (Nat × PV)).all (fun p=>p.2.only [2,4,9]) = true:=rfl
      rw [List.all_eq_true] at ho
      have:=PV.only_mem (ho _ (lookup_mem' ht)) hq
      simp only [List.mem_cons,List.not_mem_nil,or_false] at this
      refine ⟨lk_iff.2 ?_,?_⟩
      ·rw [hnm]
       simp only [List.mem_cons,List.not_mem_nil,or_false]
       omega
      ·simp only [List.mem_singleton]; omega
     ·intro l F' XF hro' hY
      exact blocks_hit ds (by omega) hdg F' _ l rfl XF hY
     ·intro k hk
      have hb : (chunks ds)[k]? = some ((chunks ds).getD k (0,0)):=by rw [List.getD_eq_getElem?_getD,List.getElem?_eq_getElem hk]; rfl
      obtain ⟨b,hbb⟩ : ∃ b,b = (chunks ds).getD k (0,0):=⟨_,rfl⟩
      rw [← hbb] at hb
      have hck:=chunks_get hdg b (List.mem_of_getElem? hb)
      rw [← hbb]
      refine ⟨⟨[(11,vi b.2),(10,vu b.1),(2,.at_ 2 0 2),(3,vi 0),(4,.at_ 4 0 10),(6,vb neg),(9,.at_ 9 0 1)],hP ds k⟩,fun F' XF=>?_,fun F' XF=>?_⟩
      ·have L:=lti (XF.nt.trans hnt)
       skip
       refine exr (aV (L rfl) rfl (zn [(2,_),(3,_),(4,_),(6,_),(9,_),(10,_),(71,_),(72,_)] [(2,_),(4,_),(9,_),(68,_)] t8 t4 (exr0 (aV (L rfl) rfl (seq_nil ?_)))))
       exact ⟨rfl,le_of t7 t4⟩
      ·have L:=lti (XF.nt.trans hnt)
       have P0:=p0L XF [2,4,9] rfl
       have hG:=XF.g
       have hX:=XF.x
       have hN:=XF.ng
       have hW:=wsK_wd (chunks ds) k
       have hWl:=wsK_len (chunks ds) k
       have hkl : k < (chunks ds).length:=hk
       have hstep:=wsK_succ hb
       obtain ⟨n,hn⟩ : ∃ n : Nat,b.2 = (n : Int):=⟨b.2.toNat,by omega⟩
       rw [hn]
       have hp10 : (10 : Int) ^ n ≤ 1000000000 ∧ 0 < (10 : Int) ^ n:=by
        have h2 : ((10 ^ n : Nat) : Int) ≤ ((10 ^ 9 : Nat) : Int):=Int.ofNat_le.2 (Nat.pow_le_pow_right (by decide) (by omega))
        rw [Int.natCast_pow] at h2
        exact ⟨h2,Int.pow_pos (by decide)⟩
       have ebn : (b.1,(n : Int)) = b:=by rw [← hn]
       have hend : ∀ {ys c},TenAt (wsK (chunks ds) k) (10 ^ n) b.1 ((wsK (chunks ds) k).length,ys,c) → (c = 0 → ys = wsK (chunks ds) (k + 1)) ∧ (0 < c → ys ++ [c] = wsK (chunks ds) (k + 1)):=fun {ys c} h=>by
        have:=TenAt.end_ (n:=(n : Int)) h
        rwa [ebn,← hstep] at this
       rw [show hP ds k = hPw (wsK (chunks ds) k) from rfl]
       obtain ⟨ws,hws⟩ : ∃ ws,ws = wsK (chunks ds) k:=⟨_,rfl⟩
       rw [← hws] at hW hWl hend ⊢
       skip
       refine ex_block (exr (mV (L rfl) rfl (sw (c_cv un68 un78 (L rfl) (fu64 (by omega) (by omega))) t1 t0 ?_)))
       refine aV (L rfl) rfl (zn [(2,_),(3,_),(4,_),(6,_),(9,_),(10,_),(11,_),(12,_)] [(2,_),(4,_),(9,_),(68,_)] t8 t4 (ex_seq (exr (sw (c_l1 ag22 (by rfl) (by rfl) (L rfl)) t1 t1 ?_))))
       refine sw (c_lr un22 (by exact (by simp)) (L rfl)) t1 t1 ?_
       refine mV (L rfl) rfl (zn [(2,_),(3,_),(4,_),(6,_),(9,_),(10,_),(11,_),(12,_),(75,_),(76,_),(77,_)] [(2,_),(4,_),(9,_),(68,_)] t11 t4 (ex_block ?_))
       refine exl (α:=(Nat × List Int × Int)) (fun x=>[(77,vi (x.1 : Int)),(12,vw x.2.2)]) (fun x=>[(68,⟨68,1,.pure (encW (x.2.1 ++ ws.drop x.1))⟩)]) (fun x=>TenAt ws (10 ^ n) b.1 x) (fun x=>ws.length - x.1) (((0 : Nat),([] : List Int),b.1)) (sl:=[(2,_),(3,_),(4,_),(6,_),(9,_),(10,_),(11,_),(75,_),(76,_)]) (hb:=[(2,_),(4,_),(9,_)]) ?_ ⟨(by first | exact rfl | exact oi (by omega) rfl),(by first | exact rfl | exact oi (by omega) rfl),rfl,rfl,rfl,rfl,rfl,rfl,rfl,rfl,rfl,trivial⟩ ⟨obl rfl (by simp),rfl,rfl,rfl,trivial⟩ ?_
       ·exact TenAt.zero ws hck.1 (by omega)
       intro x hx
       obtain ⟨i,ys,c⟩:=x
       have hle:=hx.le
       have hyl:=hx.len
       have c0:=hx.c0
       have c1:=hx.c1
       simp only at hle hyl c0 c1
       dsimp only
       refine exr (sw (c_ls (L rfl)) t2 t0 (zn [(2,_),(3,_),(4,_),(6,_),(9,_),(10,_),(11,_),(12,_),(75,_),(76,_),(77,_),(78,_)] [(2,_),(4,_),(9,_),(68,_)] t12 t4 (ex_seq ?_)))
       refine ex_if rfl (fun hf=>?_) (fun hf=>?_)
       ·have hf:=dt hf
        have hw:=hW.getD i
        have tb:=take_bd hw (show 0 ≤ (10 : Int) ^ n ∧ (10 : Int) ^ n < 4294967296 by omega) ⟨c0,c1⟩
        have mb:=mul_bd hw (show 0 ≤ (10 : Int) ^ n ∧ (10 : Int) ^ n < 4294967296 by omega)
        refine ex_skip (show Exec _ _ _ _ _ from ?_)
        refine ex_seq (ex_block (exr (mV (L rfl) rfl (sw (ixR0 un22 sz68 (by exact (by simp; omega)) (j:=i) (by first | exact rfl | omega) (by omega) (L rfl)) t2 t1 ?_))))
        refine sw (c_l1 ag68 (by exact (by simp; omega)) (getC (getU (L:=ws) (p:=i) (q:=i) (i:=0) hyl rfl rfl (by omega))) (L rfl)) t1 t1 ?_
        refine aV (L rfl) rfl (aV (L rfl) rfl (zn [(2,_),(3,_),(4,_),(6,_),(9,_),(10,_),(11,_),(12,_),(13,_),(14,_),(75,_),(76,_),(77,_)] [(2,_),(4,_),(9,_),(68,_)] t13 t4 (exr (mV (L rfl) rfl (sw (c_cv un68 un78 (L rfl) (fu64 (by omega) (by omega))) t1 t0 ?_)))))
        refine mV (L rfl) rfl (sw (core_indexAddrA un127 sz68 (by rfl) (by omega) (by omega) (L rfl)) t2 t1 ?_)
        refine sw (c_l1 ag68 (by rfl) (by rw [Int.toNat_natCast,Nat.mul_one,Nat.zero_add]; exact pow_get (by omega)) (L rfl)) t1 t1 ?_
        refine sw (c_cv un68 un78 (L rfl) (fu64 (by omega) (by omega))) t1 t0 ?_
        refine sw (c_mu (L rfl) (fu64 (by omega) (by omega))) t2 t0 ?_
        refine mV (L rfl) rfl (sw (c_ad (L rfl) (fu64 (by omega) (by omega))) t2 t0 ?_)
        refine aV (L rfl) rfl (zn [(2,_),(3,_),(4,_),(6,_),(9,_),(10,_),(11,_),(13,_),(15,_),(75,_),(76,_),(77,_)] [(2,_),(4,_),(9,_),(68,_)] t12 t4 (exr (sw (c_l1 ag22 (by rfl) (by rfl) (L rfl)) t1 t1 ?_)))
        refine mV (L rfl) rfl (mV (L rfl) rfl (sw (c_cv un78 un68 (L rfl) wu32) t1 t0 (sw (ixR0 un22 sz68 (by exact (by simp; omega)) (j:=i) (by first | exact rfl | omega) (by omega) (L rfl)) t2 t1 ?_)))
        refine sb (c_s1 sz68 (by exact (by simp; omega)) (.atom rfl) (by omega)) t2 t1 ?_
        refine zn [(2,_),(3,_),(4,_),(6,_),(9,_),(10,_),(11,_),(15,_),(75,_),(76,_),(77,_)] [(2,_),(4,_),(9,_),(68,_)] t11 t4 (exr0 (mV (L rfl) rfl (sw (c_sr (L rfl) (by decide) (shrE (c:=4294967296) (by rfl) (by decide))) t2 t0 ?_)))
        refine aV (L rfl) rfl (seq_nil (exr0 (sw (c_ad (L rfl) (w64 (by omega) (by omega))) t2 t0 ?_)))
        refine mV (L rfl) rfl (seq_nil ?_)
        exact ⟨(i + 1,ys ++ [(ws.getD i 0 * 10 ^ n + c) % 4294967296],(ws.getD i 0 * 10 ^ n + c) / 4294967296),hx.next hW (by omega) (by omega),(by simp only; omega),le_of ⟨(by first | exact rfl | exact oi (by omega) rfl),(by first | exact rfl | exact oi (by omega) rfl),rfl,rfl,rfl,rfl,rfl,rfl,rfl,rfl,rfl,trivial⟩ ⟨obl rfl (by rw [encW_set,tail_set hyl (by omega)]),rfl,rfl,rfl,trivial⟩⟩
       ·have hf:=df hf
        have hi : i = ws.length:=by omega
        subst hi
        obtain ⟨h1,h2⟩:=hend hx
        refine ex_exit (show Exec _ _ _ _ _ from ?_)
        refine exr (mV (L rfl) rfl (sw (c_gt (L rfl)) t2 t0 (zn [(2,_),(3,_),(4,_),(6,_),(9,_),(10,_),(11,_),(12,_),(100,_)] [(2,_),(4,_),(9,_),(68,_)] t9 t4 ?_)))
        refine ex_if rfl (fun hz=>?_) (fun hz=>?_)
        ·have hz:=dt hz
         refine exr0 (sw (c_l1 ag22 (by rfl) (by rfl) (L rfl)) t1 t1 ?_)
         refine mV (L rfl) rfl (sw (c_cv un78 un68 (L rfl) (fu32 (by omega) (by omega))) t1 t0 ?_)
         refine sw (c_bI (vs:=[_]) un22 ti68 rfl rfl (by decide) (by decide) rfl (zs_made (.cons rfl .nil) rfl) rfl (.cons rfl (.atom rfl) rfl pu1 .nil) (.cons .nil) (L rfl)) t1 t0 ?_
         refine swb (apP (sz:=1) un22 un22 ti68 rfl rfl rfl (by decide) (by exact (by simp; omega)) (by first | omega | rfl) (by simp) rfl rfl rfl (by first | (simp [Tryz.t68]; done) | (simp [Tryz.t68]; omega)) (by omega) (P0 _ rfl) (L rfl)) t2 t1 t0 ?_
         refine sb (c_sm sz22 (by rfl) .ref rfl pu1) t2 t1 ?_
         refine seq_nil ?_
         exact ⟨rfl,⟨rfl,rfl,obl rfl (by rw [← h2 hz]; simp [hyl]),obl rfl (by rw [← h2 hz]; simp [encW]),trivial⟩⟩
        ·have hz:=df hz
         have h1:=h1 (by omega)
         refine ex_skip ?_
         exact ⟨rfl,⟨rfl,rfl,obl rfl (by rw [← h1]; simp [hyl]),obl rfl (by rw [← h1]; simp),trivial⟩⟩
     ·show Exec _ _ _ _ _
      have hWl:=wsK_len (chunks ds) (chunks ds).length
      have md:=made_says neg (wsK (chunks ds) (chunks ds).length) (by omega) (wsK_wd _ _)
      rw [wsK_end hdg] at md
      skip
      refine ex_cv [68] (sl:=[(2,_),(6,_),(9,_)]) (hb:=[(2,_),(9,_)]) (own_none hX0) ⟨⟨_,rfl,.same⟩,⟨_,rfl,.same⟩,⟨_,rfl,.same⟩,trivial⟩ ⟨⟨rfl,_,rfl,.same⟩,⟨rfl,_,rfl,(.mix (.cons (.ref rfl rfl (by exact (by simp)) (by first | rfl | omega)) .nil))⟩,trivial⟩ ?_
      refine exr (mV (L rfl) rfl (sw (c_l1 ag22 (by rfl) (by rfl) (L rfl)) t1 t1 ?_))
      refine cK hG hX cl109 hN md (L rfl) t2 (sb (c_sm sz24 (by rfl) pa2 rfl pu2) t2 t1 ?_)
      refine aV (L rfl) rfl (zn [(2,_),(3,_)] [(2,_)] t2 t1 (ex_ret ?_))
      refine ⟨.inr rfl,ResVs.cast (.cons (.agg rfl rfl rfl ag24 sz24 (.cons (.cons .nil))) (.cons (.tmp rfl) .nil)) ?_⟩
      rfl
end Go.Proofs.YtcifhkfpmhifaaaGreatDoor.N
set_option maxRecDepth 100000
set_option maxHeartbeats 4000000
namespace Go.Proofs.YtcifhkfpmhifaaaGreatDoor.SH
open Go
section
variable {P : Program} {F : Fr} {d : Nat} {x y : Operand} {T : TypeId} {pos : String} {aft : Array Edge} {g : Option (Nat × Bool)}
theorem core_ibs {f : FuncId} {ts : Array TypeId} {s : ByteArray} {c : Int} (hf : ∀ (s : ByteArray) (c : Int) (w : World),(callFunc f #[.string s,.int .u8 c]).run P w = .ok (.value (.int .i64 (Lib.indexByte s.data.toList c.toNat.toUInt8))) w) (hlt : d < F.nt) :
  CoreOk P F ⟨some d,.call ⟨.value (.func f),#[x,y],ts⟩,T,pos,aft,g⟩ { rs:=[(x,.p (.a (.string s))),(y,.p (.a (.int .u8 c)))],ws:=[(d,.p (.a (.int .i64 (Lib.indexByte s.data.toList c.toNat.toUInt8))))] } :=
 core_val rfl hlt rfl rfl fun ρ S a w h hA=>by
  have h1:=atom_eval h (v:=.string s) (hA.rs (x,_) (by simp))
  have h2:=atom_eval h (v:=.int .u8 c) (hA.rs (y,_) (by simp))
  refine ⟨.int .i64 (Lib.indexByte s.data.toList c.toNat.toUInt8),?_,by simp only [RelV,Rel]⟩
  have hef : a.eval (.func f) = .func (.func f) #[] #[]:=rfl
  simp [execOp,resolve,hef,Deferred.ofValue,invoke,h1,h2,hf]
end
end Go.Proofs.YtcifhkfpmhifaaaGreatDoor.SH
namespace Go.Proofs.YtcifhkfpmhifaaaGreatDoor.N
open Go Go.Proofs.YtcifhkfpmhifaaaGreatDoor.SH Go.Proofs.YtcifhkfpmhifaaaGreatDoor.NumA
open Go.Proofs.Tryz renaming call124 → cl124,call125 → cl125,call141 → cl141,call150 → cl150,underlying9 → un9
theorem ibs : ∀ (s : ByteArray) (c : Int) (w : World),(callFunc 156 #[.string s,.int .u8 c]).run Tryz.prog w = .ok (.value (.int .i64 (Lib.indexByte s.data.toList c.toNat.toUInt8))) w:=fun s c w=>by
 rw [run_callFunc_extern Tryz.func156 (by rfl) (by rfl) (by rfl) (show Extern.find _ = some Extern.BytealgIndexByte.indexByte by rfl) #[.string s,.int .u8 c] w,Lib.run_indexByteString s c w]
 rfl
theorem ib_cut : ∀ bs : List UInt8,Lib.indexByte bs 47 = if cutN bs = bs.length then -1 else (cutN bs : Int)
 | []=>rfl
 | c :: l=>by
  rw [Lib.indexByte,cutN,ib_cut l]
  have hle:=cutN_le l
  by_cases h : c.toNat = 47
  ·have e : c = 47:=UInt8.toNat_inj.1 h
   subst e
   simp
  ·have e : ¬ (c == 47) = true:=by
    rw [beq_iff_eq]; rintro rfl; exact h rfl
   rw [if_neg e,if_neg h,List.length_cons]
   by_cases h2 : cutN l = l.length
   ·rw [if_pos h2,if_pos (show cutN l + 1 = l.length + 1 by omega)]; rfl
   ·have h3 : ¬ (((cutN l : Nat) : Int) == -1) = true:=by rw [beq_iff_eq]; omega
    rw [if_neg h2,if_neg (show ¬ cutN l + 1 = l.length + 1 by omega),if_neg h3]; omega
def ixN (bs : List UInt8) : Int:=if cutN bs = bs.length then -1 else (cutN bs : Int)
theorem ib_says (bs : List UInt8) : Says E 150 [pS bs,.a (.int .u8 47)] (vZ (ixN bs)):=by
 refine says_of (xs:=[vZ (ixN bs)]) Tryz.func150 rfl Tryz.ntmps150 Tryz.results150 (by simp) fun F hG hX0 hnt hdf P0=>?_
 obtain ⟨L,hX,hN⟩:=pro hnt hX0 hG
 refine exr (aV (L rfl) rfl (zn [(0,_),(1,_)] [] t2 trivial (exr (mV (L rfl) rfl (mV (L rfl) rfl (sw (core_ibs ibs (L rfl)) t2 t0 (aV (L rfl) rfl (zn [(4,_)] [] t1 trivial (ex_ret ?_)))))))))
 refine ⟨.inr rfl,ResVs.cast (.cons (.tmp rfl) .nil) ?_⟩
 exact vcong (ib_cut bs)
theorem str_list (bs : List UInt8) : (str bs).data.toList = bs:=rfl
theorem index_says (bs : List UInt8) : Says E 141 [pS bs,pS [47]] (vZ (ixN bs)):=by
 refine says_of (xs:=[vZ (ixN bs)]) Tryz.func141 rfl Tryz.ntmps141 Tryz.results141 (by simp) fun F hG hX0 hnt hdf P0=>?_
 obtain ⟨L,hX,hN⟩:=pro hnt hX0 hG
 refine exr (aV (L rfl) rfl (zn [(0,_),(1,_)] [] t2 trivial (exr (mV (L rfl) rfl (sw (c_lS un9 (L rfl)) t1 t0 (aV (L rfl) rfl (zn [(0,_),(1,_),(5,_)] [] t3 trivial (ex_seq (ex_block ?_)))))))))
 refine exm (sl:=[(16,vb (decide (bs = [47])))]) (sl0:=[(0,_),(1,_),(5,_)]) (hb:=[]) (hb0:=[]) t3 t0 ?_ ?_
 ·skip
  ·refine mV (L rfl) rfl (sw (c_e (L rfl)) t2 t0 (mV (L rfl) rfl (gV (g:=19) rfl rfl (L rfl) rfl rfl (gV (g:=19) rfl rfl (L rfl) rfl rfl (swg (g:=19) rfl rfl (c_se (L rfl)) rfl t2 t0 (sw (c_pf rfl (L rfl)) t2 t0 (aV (L rfl) rfl ?_)))))))
   exact seq_nil ⟨⟨ob rfl (dec_eq ⟨fun h=>h.symm,fun h=>h.symm⟩),rfl,rfl,rfl,trivial⟩,trivial⟩
 refine ex_if rfl (fun hc=>?_) (fun hc=>?_)
 ·have hc:=dt hc
  refine exr (aV (L rfl) rfl (zn [(4,_)] [] t1 trivial (ex_ret ?_)))
  refine ⟨.inr rfl,ResVs.cast (.cons (.tmp rfl) .nil) ?_⟩
  rw [hc]; rfl
 ·refine exr (mV (L rfl) rfl (sw (c_e (L rfl)) t2 t0 (aV (L rfl) rfl (zn [(0,_),(1,_),(5,_),(24,_)] [] t4 trivial (ex_true rfl rfl (exr (mV (L rfl) rfl (mV (L rfl) rfl (sw (c_is un9 (by decide) (by exact str_get (bs:=[47]) (i:=0) (by decide)) (L rfl)) t2 t0 ?_)))))))))
  refine cK hG hX cl150 hN (ib_says bs) (L rfl) t2 (aV (L rfl) rfl (zn [(4,_)] [] t1 trivial (ex_ret ?_)))
  refine ⟨.inr rfl,ResVs.cast (.cons (.tmp rfl) .nil) ?_⟩
  rfl
theorem ixN_ge {bs : List UInt8} : 0 ≤ ixN bs ↔ cutN bs < bs.length:=by
 have:=cutN_le bs
 unfold ixN; split <;> omega
theorem ab_all {bs : List UInt8} (h : ¬ cutN bs < bs.length) : ab bs = bs ∧ be bs = []:=by
 have:=cutN_le bs
 exact ⟨List.take_of_length_le (by omega),List.drop_of_length_le (by omega)⟩
theorem ext_ab {bs : List UInt8} : (str bs).extract 0 (cutN bs) = str (ab bs):=by rw [str_extract]; rfl
theorem ext_be {bs : List UInt8} : (str bs).extract (cutN bs + 1) (str bs).size = str (be bs):=by
 rw [str_extract,str_size,List.take_of_length_le (by simp)]; rfl
theorem cut_says (bs : List UInt8) (hl : bs.length < 1000000000) : Says E 124 [pS bs,pS [47]] (.tup [pS (ab bs),pS (be bs),bZ (decide (cutN bs < bs.length))]):=by
 refine says_of (xs:=[pS (ab bs),pS (be bs),bZ (decide (cutN bs < bs.length))]) Tryz.func124 rfl Tryz.ntmps124 Tryz.results124 (by simp) fun F hG hX0 hnt hdf P0=>?_
 obtain ⟨L,hX,hN⟩:=pro hnt hX0 hG
 have hsz:=str_size bs
 refine exr (aV (L rfl) rfl (aV (L rfl) rfl (aV (L rfl) rfl (zn [(0,_),(1,_)] [] t2 trivial (ex_seq (exr (mV (L rfl) rfl (mV (L rfl) rfl (cK hG hX cl141 hN (index_says bs) (L rfl) t2 (aV (L rfl) rfl (zn [(0,_),(1,_),(7,_)] [] t3 trivial ?_)))))))))))
 refine exr (mV (L rfl) rfl (sw (c_ge (L rfl)) t2 t0 (zn [(0,_),(1,_),(7,_),(12,_)] [] t4 trivial ?_)))
 refine ex_if rfl (fun hc=>?_) (fun hc=>?_)
 ·have hc:=ixN_ge.1 (dt hc)
  have e : ixN bs = (cutN bs : Int):=by rw [ixN,if_neg (by omega)]
  rw [e]
  refine exd (by rfl) ?_
  refine mV (L rfl) rfl (mV (L rfl) rfl (sw (slS_hi un9 (h:=cutN bs) (by first | exact rfl | omega) (by rw [hsz]; omega) (L rfl)) t2 t0 ?_))
  refine mV (L rfl) rfl (mV (L rfl) rfl (mV (L rfl) rfl (sw (c_lS un9 (L rfl)) t1 t0 (sw (c_ad (L rfl) (show _ = ((cutN bs + 1 : Nat) : Int) from w64 (show -9223372036854775808 ≤ (cutN bs : Int) + 1 by omega) (show (cutN bs : Int) + 1 < 9223372036854775808 by omega))) t2 t0 ?_))))
  refine sw (slS_lo un9 (l:=cutN bs + 1) (by first | exact rfl | omega) (by rw [hsz]; omega) (L rfl)) t2 t0 ?_
  refine aV (L rfl) rfl (aV (L rfl) rfl (aV (L rfl) rfl ?_))
  refine seq_nil ⟨aoks [⟨[0],[],[13],[]⟩,⟨[7],[],[14],[]⟩,⟨[13,14],[],[15],[]⟩,⟨[0],[],[16],[]⟩,⟨[7],[],[17],[]⟩,⟨[1],[],[18],[]⟩,⟨[18],[],[19],[]⟩,⟨[17,19],[],[20],[]⟩,⟨[16,20],[],[21],[]⟩,⟨[15],[],[4],[]⟩,⟨[21],[],[5],[]⟩,⟨[],[],[6],[]⟩] (by rfl) (by rfl) (by decide),[(4,_),(5,_),(6,_)],[],t3,trivial,?_⟩
  refine ex_ret ?_
  refine ⟨.inr rfl,ResVs.cast (.cons (.tmp rfl) (.cons (.tmp rfl) (.cons (.tmp rfl) .nil))) ?_⟩
  rw [ext_ab,ext_be,decide_eq_true hc]
 ·have hc : ¬ cutN bs < bs.length:=fun c=>df hc (ixN_ge.2 c)
  refine ex_skip (show Exec _ _ _ _ _ from ?_)
  refine exr (mV (L rfl) rfl (aV (L rfl) rfl (aV (L rfl) rfl (aV (L rfl) rfl (zn [(4,_),(5,_),(6,_)] [] t3 trivial (ex_ret ?_))))))
  refine ⟨.inr rfl,ResVs.cast (.cons (.tmp rfl) (.cons (.tmp rfl) (.cons (.tmp rfl) .nil))) ?_⟩
  rw [(ab_all hc).1,(ab_all hc).2,decide_eq_false hc]; rfl
theorem scut_says (bs : List UInt8) (hl : bs.length < 1000000000) : Says E 94 [pS bs,pS [47]] (.tup [pS (ab bs),pS (be bs),bZ (decide (cutN bs < bs.length))]):=by
 refine says_of (xs:=[pS (ab bs),pS (be bs),bZ (decide (cutN bs < bs.length))]) Tryz.func94 rfl Tryz.ntmps94 Tryz.results94 (by simp) fun F hG hX0 hnt hdf P0=>?_
 obtain ⟨L,hX,hN⟩:=pro hnt hX0 hG
 refine exr (aV (L rfl) rfl (aV (L rfl) rfl (aV (L rfl) rfl (zn [(0,_),(1,_)] [] t2 trivial (exr (mV (L rfl) rfl (mV (L rfl) rfl (cK hG hX cl124 hN (cut_says bs hl) (L rfl) t2 (sw (c_ex rfl (L rfl)) t1 t0 (sw (c_ex rfl (L rfl)) t1 t0 (sw (c_ex rfl (L rfl)) t1 t0 ?_)))))))))))
 refine aV (L rfl) rfl (aV (L rfl) rfl (aV (L rfl) rfl (zn [(4,_),(5,_),(6,_)] [] t3 trivial (ex_ret ?_))))
 refine ⟨.inr rfl,ResVs.cast (.cons (.tmp rfl) (.cons (.tmp rfl) (.cons (.tmp rfl) .nil))) ?_⟩
 rfl
theorem head45 {bs : List UInt8} (h : 0 < bs.length) : (bs.take 1 = [45]) ↔ pNeg bs = true:=by
 obtain ⟨c,l,rfl⟩:=List.exists_cons_of_ne_nil (List.ne_nil_of_length_pos h)
 unfold pNeg
 rw [decide_eq_true_eq]
 simp only [List.take_succ_cons,List.take_zero,List.cons.injEq,and_true,List.getD_cons_zero,List.length_cons]
 constructor
 ·rintro rfl; exact ⟨by omega,rfl⟩
 ·intro hc
  have h45 : (45 : UInt8).toNat = 45:=rfl
  have : c.toNat = (45 : UInt8).toNat:=by omega
  exact UInt8.toNat_inj.1 this
theorem hp_says (bs : List UInt8) : Says E 125 [pS bs,pS [45]] (bZ (pNeg bs)):=by
 refine says_of (xs:=[bZ (pNeg bs)]) Tryz.func125 rfl Tryz.ntmps125 Tryz.results125 (by simp) fun F hG hX0 hnt hdf P0=>?_
 obtain ⟨L,hX,hN⟩:=pro hnt hX0 hG
 have hsz:=str_size bs
 refine exr (aV (L rfl) rfl (zn [(0,_),(1,_)] [] t2 trivial ?_))
 refine exm (sl:=[(4,vb (pNeg bs))]) (sl0:=[]) (hb:=[]) (hb0:=[]) t0 t0 ?_ ?_
 ·by_cases h0 : 1 ≤ bs.length
  ·refine mV (L rfl) rfl (sw (c_lS un9 (L rfl)) t1 t0 (mV (L rfl) rfl (sw (c_lS un9 (L rfl)) t1 t0 (sw (c_ge (L rfl)) t2 t0 (mV (L rfl) rfl (gV (g:=10) rfl (by rw [hsz]; exact decide_eq_true (by show (1 : Int) ≤ _; omega)) (L rfl) rfl rfl ?_))))))
   refine gV (g:=10) rfl (by rw [hsz]; exact decide_eq_true (by show (1 : Int) ≤ _; omega)) (L rfl) rfl rfl ?_
   refine swg (g:=10) rfl (by rw [hsz]; exact decide_eq_true (by show (1 : Int) ≤ _; omega)) (c_lS un9 (L rfl)) rfl t1 t0 ?_
   refine swg (g:=10) rfl (by rw [hsz]; exact decide_eq_true (by show (1 : Int) ≤ _; omega)) (slS_hi un9 (h:=1) (by first | exact rfl | omega) (by rw [hsz]; exact h0) (L rfl)) rfl t2 t0 ?_
   refine gV (g:=10) rfl (by rw [hsz]; exact decide_eq_true (by show (1 : Int) ≤ _; omega)) (L rfl) rfl rfl ?_
   refine swg (g:=10) rfl (by rw [hsz]; exact decide_eq_true (by show (1 : Int) ≤ _; omega)) (c_se (L rfl)) rfl t2 t0 ?_
   refine sw (c_pt (by rw [hsz]; exact decide_eq_true (by show (1 : Int) ≤ _; omega)) (L rfl)) t2 t0 ?_
   refine aV (L rfl) rfl ?_
   exact seq_nil ⟨⟨ob rfl (by rw [str_extract,str_list,str_list]; have:=head45 (bs:=bs) (by omega); rw [Bool.eq_iff_iff,decide_eq_true_iff]; exact this),trivial⟩,trivial⟩
  ·refine mV (L rfl) rfl (sw (c_lS un9 (L rfl)) t1 t0 (mV (L rfl) rfl (sw (c_lS un9 (L rfl)) t1 t0 (sw (c_ge (L rfl)) t2 t0 (mV (L rfl) rfl (swn (g:=10) rfl (by rw [hsz]; exact decide_eq_false (by show ¬ (1 : Int) ≤ _; omega)) (L rfl) rfl ?_))))))
   refine swn (g:=10) rfl (by rw [hsz]; exact decide_eq_false (by show ¬ (1 : Int) ≤ _; omega)) (L rfl) rfl ?_
   refine swn (g:=10) rfl (by rw [hsz]; exact decide_eq_false (by show ¬ (1 : Int) ≤ _; omega)) (L rfl) rfl ?_
   refine swn (g:=10) rfl (by rw [hsz]; exact decide_eq_false (by show ¬ (1 : Int) ≤ _; omega)) (L rfl) rfl ?_
   refine swn (g:=10) rfl (by rw [hsz]; exact decide_eq_false (by show ¬ (1 : Int) ≤ _; omega)) (L rfl) rfl ?_
   refine swn (g:=10) rfl (by rw [hsz]; exact decide_eq_false (by show ¬ (1 : Int) ≤ _; omega)) (L rfl) rfl ?_
   refine sw (c_pf (by rw [hsz]; exact decide_eq_false (by show ¬ (1 : Int) ≤ _; omega)) (L rfl)) t2 t0 ?_
   refine aV (L rfl) rfl ?_
   exact seq_nil ⟨⟨ob rfl (by rw [pNeg]; exact (decide_eq_false (fun c=>h0 c.1)).symm),trivial⟩,trivial⟩
 refine ex_ret ?_
 refine ⟨.inr rfl,ResVs.cast (.cons (.tmp rfl) .nil) ?_⟩
 rfl
theorem shp_says (bs : List UInt8) : Says E 95 [pS bs,pS [45]] (bZ (pNeg bs)):=by
 refine says_of (xs:=[bZ (pNeg bs)]) Tryz.func95 rfl Tryz.ntmps95 Tryz.results95 (by simp) fun F hG hX0 hnt hdf P0=>?_
 obtain ⟨L,hX,hN⟩:=pro hnt hX0 hG
 refine exr (aV (L rfl) rfl (zn [(0,_),(1,_)] [] t2 trivial (exr (mV (L rfl) rfl (mV (L rfl) rfl (cK hG hX cl125 hN (hp_says bs) (L rfl) t2 (aV (L rfl) rfl (zn [(4,_)] [] t1 trivial (ex_ret ?_)))))))))
 refine ⟨.inr rfl,ResVs.cast (.cons (.tmp rfl) .nil) ?_⟩
 rfl
end Go.Proofs.YtcifhkfpmhifaaaGreatDoor.N
namespace Go.Proofs.YtcifhkfpmhifaaaGreatDoor.SH
open Go Go.RowKit
theorem leave_listD {P : Program} {F : Fr} {fn : Func} {R : Ending → World → Prop} {ρ : Nat → Nat} {S : St} {tmps : Array Value} {u : FrameMode} (hu : u ≠ .run) (hfin : ∀ w', SatR F ρ S ⟨tmps, F.df⟩ w' → LeavesInM Fence.wide 0 P fn tmps R F.df u w') :
    ∀ (Ds : List Nat) (w : World),SatR F ρ S ⟨tmps,Ds.map (fun D=>({ target:=.collected D,args:=#[] } : Deferred)) ++ F.df⟩ w → Ds.Nodup → (∀ D ∈ Ds,F.w0.heap.size ≤ D ∧ w.heap[D]? = some (.deferred (some []))) →
      LeavesInM Fence.wide 0 P fn tmps R (Ds.map (fun D=>({ target:=.collected D,args:=#[] } : Deferred)) ++ F.df) u w
  | [],w,h,_,_=>hfin w h
  | D :: Ds,w,h,hn,hD=>by
    obtain ⟨h1,h2⟩:=hD D (by simp)
    have hn':=List.nodup_cons.1 hn
    have hDs : ∀ D' ∈ Ds,F.w0.heap.size ≤ D' ∧ (w.putObj D (.deferred none)).heap[D']? = some (.deferred (some [])):=fun D' hD'=>by
      obtain ⟨h3,h4⟩:=hD D' (by simp [hD'])
      exact ⟨h3,(World.putObj_heap_other (fun e : D' = D=>hn'.1 (e ▸ hD'))).trans h4⟩
    refine ⟨hu,.inl ⟨D,_,rfl,run_takeDeferred h2,?_⟩⟩
    refine leave_listD hu hfin Ds _ ?_ hn'.2 hDs
    have hfr:=h.frame
    exact h.agree ⟨hfr.os,hfr.tape,hfr.output,by simpa using hfr.size,fun b hb hx=>(World.putObj_heap_other (by omega)).trans (hfr.block b hb hx)⟩ (agree_mark h2 (by intros; simp) _) rfl ⟨Ds,rfl,hn'.2,hDs⟩
theorem leave_D {P : Program} {F : Fr} {fn : Func} {R : Ending → World → Prop} {ρ : Nat → Nat} {S : St} {a : Act} {w : World} {u : FrameMode} (hu : u ≠ .run) (h : SatR F ρ S a w) (hfin : ∀ w', SatR F ρ S ⟨a.tmps, F.df⟩ w' → LeavesInM Fence.wide 0 P fn a.tmps R F.df u w') :
    LeavesInM Fence.wide 0 P fn a.tmps R a.defers u w:=by
  obtain ⟨Ds,h1,h2,h3⟩:=h.df
  rw [h1]
  exact leave_listD hu hfin Ds w (by rw [← h1]; exact h) h2 h3
theorem steps_of_leavesM {P : Program} {F : Fence} {n : Nat} {fn : Func} {tmps : Array Value} {R : Ending → World → Prop} : ∀ (ds : List Deferred) (w : World) (fr : Go.Frame) (cs : List Go.Frame), fr.mode = .returning → fr.defers = ds → fr.tmps = tmps → (∀ d ∈ ds, ∃ r, d.target = .collected r) → F.fn fr.fn → F.room (cs.length + 1 + n) → LeavesInM F n P fn tmps R ds .returning w →
    ∃ v w',StepsIn (Machine.fenced P F) P (lone fr cs w) (lone { fr with defers:=[] } cs w') ∧ (results fn tmps).run P w' = .ok v w' ∧ R (.returned v) w':=by
  intro ds
  induction ds with
  | nil =>
    intro w fr cs hu hd ht _ _ _ h
    obtain ⟨v,hr,hR⟩:=h
    have e : ({ fr with defers:=[] } : Go.Frame) = fr:=by rw [← hd]
    exact ⟨v,w,by rw [e]; exact StepsIn.refl _,hr,hR⟩
  | cons d ds ih =>
    intro w fr cs hu hd ht hall hb hroom h
    obtain ⟨hrun,h⟩:=h
    obtain ⟨r0,hr0⟩:=hall d (by simp)
    rcases h with ⟨r,w',htar,htake,hrest⟩ | ⟨hn,fv,cap,f,args,htar,_⟩
    · have h1:=step_collected (cs:=cs) (hu ▸ hrun) hd htar htake
      have i1 : (lone fr cs w).fenced P F:=fenced_out hb hroom (hu ▸ hrun) hd (fun g hg=>by rw [htar] at hg; simp [Target.leads] at hg)
      obtain ⟨v,w'',hs,hr,hR⟩:=ih w' { fr with defers:=[] ++ ds } cs hu rfl ht (fun d hd=>hall d (by simp [hd])) hb hroom hrest
      exact ⟨v,w'',StepsIn.trans (.one i1 h1) hs,hr,hR⟩
    · rw [htar] at hr0; cases hr0
def bodyPostSM (F : Fence) (n : Nat) (P : Program) (fn : Func) (c₀ : Go.Frame) (cs : List Go.Frame) (R : Ending → FrameMode → World → Prop) : Exit → Act → List Go.Frame → World → Prop
  | .normal,a,cs',w | .ret,a,cs',w=>∃ u',cs' = { c₀ with mode:=u' } :: cs ∧ (∀ d ∈ a.defers,∃ r,d.target = .collected r) ∧ LeavesInM F n P fn a.tmps (fun e w'=>R e u' w') a.defers .returning w
  | _,_,_,_=>False
theorem callsDIn_of_wpSInM {P : Program} {F : Fence} {n : Nat} {f : FuncId} {fn : Func} {c : Code} {args : Array Value} {u : FrameMode} {w : World} {R : Ending → FrameMode → World → Prop}
    (hf : P.funcs[f]? = some fn) (hb : fn.body = some c) (hF : F.fn f)
    (h : ∀ (c₀ : Go.Frame) (cs : List Go.Frame),c₀.mode = u →
      c.wpSIn F n P (bodyPostSM F n P fn c₀ cs R) { tmps:=args ++ Array.replicate (fn.ntmps - args.size) undef,defers:=[] } (c₀ :: cs) w) :
    CallsDIn F n P f args u w R:=by
  refine ⟨hF,fun c₀ cs hu hroom=>?_⟩
  let b : Go.Frame:={ (default : Go.Frame) with fn:=f,kind:=.deferred,roundOf:=none }
  have henter : Go.Frame.enter P f args .deferred =
      b.atR { tmps:=args ++ Array.replicate (fn.ntmps - args.size) undef,defers:=[] } [.code c]:=by
    simp [Go.Frame.enter,Go.Frame.atR,hf,hb,b]
  obtain ⟨e,a',cs',w',hl,hq,harr⟩:=h c₀ cs hu b [] rfl rfl hF hroom
  rw [← henter] at harr
  cases e with
  | normal =>
    obtain ⟨u',rfl,hall,hL⟩:=hq
    obtain ⟨v,w'',hs,hr,hR⟩:=steps_of_leavesM a'.defers w' { b.atR a' [] with mode:=.returning } ({ c₀ with mode:=u' } :: cs) rfl rfl rfl hall hF (by simpa using hroom) hL
    exact ⟨.returned v,u',w'',_,hR,StepsIn.trans (StepsIn.trans harr (.one (fenced_calm (fr:=b.atR a' []) hF hroom rfl) (stepR_end rfl))) hs,rfl,rfl,rfl,rfl,fn,hf,hr⟩
  | ret =>
    obtain ⟨u',rfl,hall,hL⟩:=hq
    obtain ⟨todo,hs0⟩:=harr.1 rfl
    obtain ⟨v,w'',hs,hr,hR⟩:=steps_of_leavesM a'.defers w' { b.atR a' todo with mode:=.returning } ({ c₀ with mode:=u' } :: cs) rfl rfl rfl hall hF (by simpa using hroom) hL
    exact ⟨.returned v,u',w'',_,hR,StepsIn.trans hs0 hs,rfl,rfl,rfl,rfl,fn,hf,hr⟩
  | panic chain=>exact hq.elim
  | exit id=>exact hq.elim
  | goto l=>exact hq.elim
  | outgrown=>exact hq.elim
theorem opsS_none {n : Nat} {P : Program} {ops : Array Oper} {Q : Exit → Act → List Go.Frame → World → Prop} {i : Nat} {rest : List Nat} {a : Act} {cs : List Go.Frame} {w w' : World} {o : Oper} (ho : ops[i]? = some o) (hw : Region.wanted o (yielded ops a.tmps) = true) (hrun : (execOp a.eval o).run P w = .ok .recover w') (hr : recoverD cs = none)
    (h : wpOpsSIn Fence.wide n P ops Q rest (a.put o.dst .nilIface) cs w') : wpOpsSIn Fence.wide n P ops Q (i :: rest) a cs w:=by
  unfold wpOpsSIn
  simp only [ho,hw,hrun,hr,if_true]
  exact ⟨fun _ _=>trivial,h⟩
theorem opsS_some {n : Nat} {P : Program} {ops : Array Oper} {Q : Exit → Act → List Go.Frame → World → Prop} {i : Nat} {rest : List Nat} {a : Act} {cs cs' : List Go.Frame} {w w' : World} {o : Oper} {v : Value} (ho : ops[i]? = some o) (hw : Region.wanted o (yielded ops a.tmps) = true) (hrun : (execOp a.eval o).run P w = .ok .recover w') (hr : recoverD cs = some (v, cs'))
    (h : wpOpsSIn Fence.wide n P ops Q rest (a.put o.dst v) cs' w') : wpOpsSIn Fence.wide n P ops Q (i :: rest) a cs w:=by
  unfold wpOpsSIn
  simp only [ho,hw,hrun,hr,if_true]
  exact ⟨fun _ _=>trivial,h⟩
theorem opsS_value {n : Nat} {P : Program} {ops : Array Oper} {Q : Exit → Act → List Go.Frame → World → Prop} {i : Nat} {rest : List Nat} {a : Act} {cs : List Go.Frame} {w w' : World} {o : Oper} {v : Value} (ho : ops[i]? = some o) (hw : Region.wanted o (yielded ops a.tmps) = true) (hrun : (execOp a.eval o).run P w = .ok (.value v) w')
    (h : wpOpsSIn Fence.wide n P ops Q rest (a.put o.dst v) cs w') : wpOpsSIn Fence.wide n P ops Q (i :: rest) a cs w:=by
  unfold wpOpsSIn
  simp only [ho,hw,hrun,if_true]
  exact ⟨fun _ _=>trivial,h⟩
theorem opsS_nil {n : Nat} {P : Program} {ops : Array Oper} {Q : Exit → Act → List Go.Frame → World → Prop} {a : Act} {cs : List Go.Frame} {w : World} (h : Q .normal a cs w) : wpOpsSIn Fence.wide n P ops Q [] a cs w:=by unfold wpOpsSIn; exact h
def DefG (E : Env) (f : FuncId) (args : List PV) (H H' : List (Nat × Blk)) (u U : FrameMode) : Prop :=
  ∀ (ok : Nat → Prop) (ρ : Nat → Nat) (w : World) (vals : List Value),E.G w →
    (∀ j B,H.lookup j = some B → BlkAt (lk H) ρ ok (hp w) j B ∧ E.ng ≤ ρ j ∧ ¬ ok (ρ j)) →
    (∀ j j',H.lookup j ≠ none → H.lookup j' ≠ none → ρ j = ρ j' → j = j') → RelVL (lk H) ρ ok (hp w) args vals →
    CallsDIn Fence.wide 0 E.P f vals.toArray u w fun e u' w'=>∃ v ρ',e = .returned v ∧ u' = U ∧ GPost E (fun _=>true) ok ρ w H H' (.p (.tup [])) v ρ' w'
theorem defG_of {E : Env} {f : FuncId} {fn : Func} {rest : Code} {args : List PV} {H H' : List (Nat × Blk)} {id d0 d1 n : Nat} {T0 T1 : TypeId} {q0 q1 : String} {b0 b1 : Array Edge} {rv : Value} {pv : PV} {u U : FrameMode}
    (hf : E.P.funcs[f]? = some fn) (hb : fn.body = some (.seq (.region id #[⟨some d0,.call ⟨.builtin .recover,#[],#[]⟩,T0,q0,b0,none⟩,⟨some d1,.assign (.tmp d0),T1,q1,b1,none⟩] false) rest)) (hn : fn.ntmps = n) (hr : fn.results = #[]) (hle : args.length ≤ n) (h0 : args.length ≤ d0 ∧ d0 < n) (h1 : args.length ≤ d1 ∧ d1 < n)
    (hrec : ∀ (c₀ : Go.Frame) (cs : List Go.Frame),c₀.mode = u → (recoverD (c₀ :: cs) = none ∧ rv = .nilIface ∧ U = u) ∨ recoverD (c₀ :: cs) = some (rv,{ c₀ with mode:=U } :: cs))
    (hpv : ∀ β ρ ok Hp,RelV β ρ ok Hp pv rv)
    (h : ∀ F : Fr,GFr E (fun _=>true) H n F → Exec E.P F rest ⟨(d1,pv) :: argSlotsV 0 args,H⟩ (fun e S=>(e = .normal ∨ e = .ret) ∧ HasB S H')) : DefG E f args H H' u U:=by
  intro ok ρ w vals hG hH hinj hrel
  have hvl:=relVL_length hrel
  let F : Fr:=⟨w,ok,fun b=>∃ j,H.lookup j ≠ none ∧ b = ρ j,n,[],fun j=>if H.lookup j ≠ none then match hp w (ρ j) with | some (.cells c _ _)=>some (ρ j,c.size) | _=>none else none,none,fun _ _=>False,fun k=>(H.lookup k).isNone⟩
  have hpin : ∀ j B c,H.lookup j = some B → hp w (ρ j) = some (.cells c B.T (0,0)) → F.pin j = some (ρ j,c.size):=fun j B c hj hc=>by
    simp only [F]
    rw [if_pos (by simp [hj]),hc]
  have hcarry : Carry ok (okI F (lk H) ρ) (hp w) (hp w):=fun b hb _=>⟨⟨.inl hb,fun k hk e=>by obtain ⟨B,hB⟩:=lookup_some hk; exact (hH k B hB).2.2 (e ▸ hb)⟩,rfl⟩
  have hkeep : Keep (fun _=>True) (lk H) (lk H) ρ ρ (hp w) (hp w):=fun k _ B hB=>⟨B,hB,rfl,Nat.le_refl _,fun _=>⟨rfl,fun c T fr hc=>⟨c,T,fr,hc,rfl⟩⟩⟩
  have hS : SatR F ρ ⟨argSlotsV 0 args,H⟩ { tmps:=vals.toArray ++ Array.replicate (fn.ntmps - vals.toArray.size) undef,defers:=[] } w:=by
    refine ⟨fun t v ht=>?_,fun k B hB=>?_,hinj,⟨rfl,rfl,rfl,Nat.le_refl _,fun _ _ _=>rfl⟩,?_,Marks.nil rfl,fun j b m hj hS=>?_⟩
    · obtain ⟨j,rfl,hx⟩:=argSlotsV_get ht
      obtain ⟨u,hu,hru⟩:=relVL_get hrel hx
      refine ⟨u,?_,RelV.mono hcarry hkeep v u (fun _ _=>trivial) hru⟩
      rw [Nat.zero_add,Array.getElem?_append_left (by have:=(List.getElem?_eq_some_iff.1 hu).1; simpa using this)]
      simpa using hu
    · obtain ⟨⟨c,h1,h2,h3⟩,h4,h5⟩:=hH k B hB
      have hB' : H.lookup k = some B:=hB
      refine ⟨c,h1,.inl ⟨⟨k,by simp [hB'],rfl⟩,by simp [F,hB']⟩,h2,fun i x hx=>?_⟩
      obtain ⟨u,hu,ho,hru⟩:=h3 i x hx
      exact ⟨u,hu,ho,RelV.mono hcarry hkeep x u (fun _ _=>trivial) hru⟩
    · simp [F,hn]; omega
    · obtain ⟨B,hB⟩:=lookup_some (l:=H) (j:=j) hS
      obtain ⟨⟨c,h1,_⟩,_⟩:=hH j B hB
      rw [hpin j B c hB h1] at hj
      injection hj with hj
      injection hj with hj1 hj2
      subst hj1 hj2
      exact ⟨rfl,c,B.T,h1,rfl⟩
  have hfr : GFr E (fun _=>true) H n F:=⟨hG,fun b ⟨j,hj,e⟩=>by obtain ⟨B,hB⟩:=lookup_some hj; subst e; exact (hH j B hB).2.1,rfl,rfl,fun k hk2=>(by simp only [F]; rw [if_neg (fun h=>h hk2)]),fun k hk2=>(by cases hk2),fun _=>rfl,rfl⟩
  obtain ⟨T,hT⟩ : ∃ T,T = vals.toArray ++ Array.replicate (fn.ntmps - vals.toArray.size) undef:=⟨_,rfl⟩
  rw [← hT] at hS
  have hTs : T.size = n:=hS.nt
  refine callsDIn_of_wpSInM hf hb trivial fun c₀ cs hu=>?_
  rw [← hT]
  obtain ⟨T2,hT2⟩ : ∃ T2,T2 = (T.setIfInBounds d0 rv).setIfInBounds d1 rv:=⟨_,rfl⟩
  have hS2 : SatR F ρ ⟨(d1,pv) :: argSlotsV 0 args,H⟩ ⟨T2,[]⟩ w:=by
    refine ⟨fun t v ht=>?_,hS.blks,hS.inj,hS.frame,by rw [hT2]; simpa using hTs,hS.df,hS.pin⟩
    simp only [St.slot,List.lookup_cons] at ht
    split at ht
    · rename_i e
      injection ht with ht; subst ht
      obtain rfl : t = d1:=by simpa using e
      exact ⟨rv,by rw [hT2,Array.getElem?_setIfInBounds_self_of_lt (by simp [hTs]; exact h1.2)],hpv _ _ _ _⟩
    · rename_i e
      obtain ⟨u',hu',hr'⟩:=hS.slots t v ht
      obtain ⟨j,rfl,hx⟩:=argSlotsV_get ht
      have hj:=(List.getElem?_eq_some_iff.1 hx).1
      exact ⟨u',by rw [hT2,Array.getElem?_setIfInBounds_ne (by omega),Array.getElem?_setIfInBounds_ne (by omega)]; exact hu',hr'⟩
  have hrest : ∀ mode,mode = U → rest.wpSIn Fence.wide 0 E.P (bodyPostSM Fence.wide 0 E.P fn c₀ cs fun e u' w'=>∃ v ρ',e = .returned v ∧ u' = U ∧ GPost E (fun _=>true) ok ρ w H H' (.p (.tup [])) v ρ' w') ⟨T2,[]⟩ ({ c₀ with mode:=mode } :: cs) w:=fun mode hm=>by
    subst hm
    have h2:=(h F hfr).run 0 _ w ⟨ρ,hS2⟩
    rw [show fen F = Fence.wide from rfl] at h2
    refine wpSIn_of_wpIn rfl (wpIn_mono h2 fun e a' w' hq=>?_)
    obtain ⟨S',⟨he,hHB⟩,ρ',hS'⟩:=hq.resolve_right (fun h=>h.2)
    have hall : ∀ d ∈ a'.defers,∃ r,d.target = .collected r:=fun d hd=>by
      obtain ⟨Ds,e1,_⟩:=hS'.df
      rw [e1,show F.df = [] from rfl,List.append_nil] at hd
      obtain ⟨D,_,rfl⟩:=List.mem_map.1 hd
      exact ⟨D,rfl⟩
    have hL : LeavesInM Fence.wide 0 E.P fn a'.tmps (fun e w'=>∃ v ρ',e = .returned v ∧ mode = mode ∧ GPost E (fun _=>true) ok ρ w H H' (.p (.tup [])) v ρ' w') a'.defers .returning w':=by
      refine leave_D (by simp) hS' fun w' hS'=>?_
      refine ⟨.tuple #[],by unfold results; rw [hr]; simp,?_⟩
      have hsb : ∀ j B',H'.lookup j = some B' → S'.blk j = some B':=fun j B' hj=>hHB.all j B' hj
      have hcar : Carry (okI F S'.blk ρ') (okG ok w H' ρ') (hp w') (hp w'):=fun b hb _=>⟨⟨hb.1,fun j hj e=>by
        obtain ⟨B',hB'⟩:=lookup_some hj
        exact hb.2 j (by simp [hsb j B' hB']) e⟩,rfl⟩
      have hkp : ∀ K : Nat → Prop,Keep K S'.blk (lk H') ρ' ρ' (hp w') (hp w'):=fun K k _ B hB=>⟨B,hsb k B hB,rfl,Nat.le_refl _,fun _=>⟨rfl,fun c T fr hc=>⟨c,T,fr,hc,rfl⟩⟩⟩
      refine ⟨.tuple #[],ρ',rfl,rfl,by simp only [RelV,Rel,RelL]; exact ⟨[],rfl,rfl⟩,fun j B' hj=>?_,fun j j' h1 h2 e=>?_,fun j h1 h2=>?_,fun j h1 h2=>?_,fun j h1 h2 h3=>?_,hS'.frame.os,hS'.frame.tape,hS'.frame.output,hS'.frame.size,fun b hb hx=>hS'.frame.block b hb (fun ⟨j,hj,e⟩=>hx j hj e)⟩
      · obtain ⟨c',f1,_,f3,f4⟩:=hS'.blks j B' (hsb j B' hj)
        refine ⟨c',f1,f3,fun i x hx=>?_⟩
        obtain ⟨u,hu,ho,hru⟩:=f4 i x hx
        exact ⟨u,hu,ho,RelV.mono (K:=fun _=>True) hcar (hkp _) x u (fun _ _=>trivial) hru⟩
      · obtain ⟨B,hB⟩:=lookup_some h1
        obtain ⟨B',hB'⟩:=lookup_some h2
        exact hS'.inj j j' (by simp [hsb j B hB]) (by simp [hsb j' B' hB']) e
      · obtain ⟨B,hB⟩:=lookup_some h1
        obtain ⟨_,_,f2,_⟩:=hS'.blks j B (hsb j B hB)
        rcases f2 with ⟨⟨i,hi,e⟩,_⟩ | f2
        · exact .inl ⟨i,hi,e⟩
        · exact .inr f2
      · obtain ⟨B,hB⟩:=lookup_some h1
        obtain ⟨_,_,f2,_⟩:=hS'.blks j B (hsb j B hB)
        rcases f2 with ⟨_,f2⟩ | f2
        · simp only [F,h2] at f2; cases f2
        · exact f2
      · obtain ⟨B',hB'⟩:=lookup_some h1
        obtain ⟨B,hB⟩:=lookup_some h2
        obtain ⟨⟨c,g1,_⟩,_⟩:=hH j B hB
        obtain ⟨e1,c',T',e2,e3⟩:=hS'.pin j _ _ (hpin j B c hB g1) (by simp [hsb j B' hB'])
        refine ⟨e1,fun c2 T2 hc2=>⟨c',T',e2,?_⟩⟩
        rw [g1] at hc2
        injection hc2 with hc2
        injection hc2 with hc2
        rw [e3,hc2]
    rcases he with rfl | rfl <;> exact ⟨mode,rfl,hall,hL⟩
  refine wpSIn_seq (wpSIn_region ?_)
  have hr2 : List.range (#[(⟨some d0,.call ⟨.builtin .recover,#[],#[]⟩,T0,q0,b0,none⟩ : Oper),⟨some d1,.assign (.tmp d0),T1,q1,b1,none⟩] : Array Oper).size = [0,1]:=rfl
  rw [hr2]
  have hex0 : ∀ (a : Act),(execOp a.eval (⟨some d0,.call ⟨.builtin .recover,#[],#[]⟩,T0,q0,b0,none⟩ : Oper)).run E.P w = .ok .recover w:=fun a=>by simp [execOp,resolve,invoke,builtin]
  have hex1 : ∀ (a : Act),(execOp a.eval (⟨some d1,.assign (.tmp d0),T1,q1,b1,none⟩ : Oper)).run E.P w = .ok (.value (a.eval (.tmp d0))) w:=fun a=>by simp [execOp]
  have hfin : ∀ v,v = rv → (Act.eval ⟨T.setIfInBounds d0 v,[]⟩ (.tmp d0)) = rv:=fun v hv=>by
    subst hv; simp [Act.eval,Array.getD_eq_getD_getElem?,Array.getElem?_setIfInBounds_self_of_lt (show d0 < T.size by rw [hTs]; exact h0.2)]
  have hb0 : ∀ (a : Act) (o : Oper),o = ⟨some d0,.call ⟨.builtin .recover,#[],#[]⟩,T0,q0,b0,none⟩ ∨ o = ⟨some d1,.assign (.tmp d0),T1,q1,b1,none⟩ → (∀ f,o.about E.P w a.eval = some f → Fence.wide.fn f):=fun _ _ _ _ _=>trivial
  have hput : ∀ v,v = rv → ((⟨T,[]⟩ : Act).put (some d0) v).put (some d1) (((⟨T,[]⟩ : Act).put (some d0) v).eval (.tmp d0)) = ⟨T2,[]⟩:=fun v hv=>by
    have:=hfin v hv
    simp only [Act.put]
    rw [this,hT2,hv]
  show wpOpsSIn Fence.wide 0 E.P _ _ [0,1] _ _ _
  rcases hrec c₀ cs hu with ⟨hr0,hrv,hU⟩ | hr0
  · refine opsS_none (o:=⟨some d0,.call ⟨.builtin .recover,#[],#[]⟩,T0,q0,b0,none⟩) rfl rfl (hex0 _) hr0 ?_
    refine opsS_value (o:=⟨some d1,.assign (.tmp d0),T1,q1,b1,none⟩) rfl rfl (hex1 _) ?_
    have:=hrest u hU.symm
    rw [← hu] at this
    exact opsS_nil (by rw [hput _ hrv.symm]; exact this)
  · refine opsS_some (o:=⟨some d0,.call ⟨.builtin .recover,#[],#[]⟩,T0,q0,b0,none⟩) rfl rfl (hex0 _) hr0 ?_
    refine opsS_value (o:=⟨some d1,.assign (.tmp d0),T1,q1,b1,none⟩) rfl rfl (hex1 _) ?_
    exact opsS_nil (by rw [hput _ rfl]; exact hrest U rfl)
end Go.Proofs.YtcifhkfpmhifaaaGreatDoor.SH
namespace Go.Proofs.YtcifhkfpmhifaaaGreatDoor.SH
open Go Go.RowKit
theorem opsI_value {F : Fr} {n : Nat} {P : Program} {ops : Array Oper} {Q : Exit → Act → World → Prop} {i : Nat} {rest : List Nat} {a : Act} {w w' : World} {o : Oper} {v : Value} (ho : ops[i]? = some o) (hw : Region.wanted o (yielded ops a.tmps) = true) (hd : ∀ c, o.op ≠ .defer c) (hrun : (execOp a.eval o).run P w = .ok (.value v) w')
    (h : wpOpsIn (fen F) n P ops Q rest (a.put o.dst v) w') : wpOpsIn (fen F) n P ops Q (i :: rest) a w:=by
  unfold wpOpsIn
  simp only [ho,hw,if_true]
  refine ⟨fun _ _=>trivial,?_⟩
  rw [Oper.semAt_eq _ _ _ hd,hrun]
  exact h
theorem opsI_defer {F : Fr} {n : Nat} {P : Program} {ops : Array Oper} {Q : Exit → Act → World → Prop} {i : Nat} {rest : List Nat} {a : Act} {w w' : World} {o : Oper} {D : Deferred} (hro : F.ro = none) (ho : ops[i]? = some o) (hw : Region.wanted o (yielded ops a.tmps) = true) (hrun : (execOp a.eval o).run P w = .ok (.defer D) w')
    (h : wpOpsIn (fen F) n P ops Q rest ({ a with defers:=D :: a.defers }.put o.dst undef) w') : wpOpsIn (fen F) n P ops Q (i :: rest) a w:=by
  unfold wpOpsIn
  simp only [ho,hw,if_true]
  refine ⟨fun _ _=>trivial,?_⟩
  rw [show (fen F).round = none from hro,Oper.semAt_none,hrun]
  exact h
theorem opsI_nil {F : Fr} {n : Nat} {P : Program} {ops : Array Oper} {Q : Exit → Act → World → Prop} {a : Act} {w : World} (h : Q .normal a w) : wpOpsIn (fen F) n P ops Q [] a w:=by unfold wpOpsIn; exact h
def DPost (E : Env) (g : FuncId) (t2 t3 k2 k3 n2 n3 : Nat) (H' : List (Nat × Blk)) (e : Exit) (S : St) : Prop :=
  S.slot t2 = some (.at_ k2 0 n2) ∧ S.slot t3 = some (.at_ k3 0 n3) ∧ ∃ u U B2 B3,(((e = .normal ∨ e = .ret) ∧ u = .returning) ∨ ∃ ch,e = .panic ch ∧ u = .panicking ch) ∧ HasB S [(k2,B2),(k3,B3)] ∧ B2.cs.len = n2 ∧ B3.cs.len = n3 ∧ DefG E g [.at_ k2 0 n2,.at_ k3 0 n3] [(k2,B2),(k3,B3)] H' u U ∧ settle U = .returning
theorem freeSl_args (k : Nat) : ∀ (xs : List Pure) (i : Nat),freeSl k (argSlots i xs) = true
  | [],_=>rfl
  | x :: xs,i=>by simp only [argSlots,freeSl,PV.free,Bool.true_and]; exact freeSl_args k xs (i + 1)
theorem says_defer {E : Env} {f g : FuncId} {fn : Func} {rest : Code} {args xs : List Pure} {n t2 t3 tf k2 k3 n2 n3 id0 id1 : Nat} {X2 X3 Y2 Y3 Y4 Y5 : TypeId} {s0 s1 s2 s3 : String} {e0 e1 e2 e3 : Array Edge} {ts : Array TypeId} {z2 z3 : Value} {vs2 vs3 : List PV} {H' : List (Nat × Blk)} {B2' B3' : Blk}
    (hgs : ∀ w,E.G w → E.ng ≤ w.heap.size)
    (hf : E.P.funcs[f]? = some fn) (hb : fn.body = some (.seq (.region id0 #[⟨some t2,.alloc X2,Y2,s0,e0,none⟩,⟨some t3,.alloc X3,Y3,s1,e1,none⟩] false) (.seq (.region id1 #[⟨some tf,.makeFunc (.func g) #[] #[.tmp t2,.tmp t3],Y4,s2,e2,none⟩,⟨none,.defer ⟨.value (.tmp tf),#[],ts⟩,Y5,s3,e3,none⟩] false) rest)))
    (hn : fn.ntmps = n) (hr : fn.results = #[.cell t2 X2,.cell t3 X3]) (hle : args.length ≤ n)
    (hz2 : ∀ w,(zeroValue X2).run E.P w = .ok z2 w) (hv2 : Zs z2.cells.toList vs2) (hl2 : vs2.length = n2) (hz3 : ∀ w,(zeroValue X3).run E.P w = .ok z3 w) (hv3 : Zs z3.cells.toList vs3) (hl3 : vs3.length = n3)
    (ht2 : args.length ≤ t2 ∧ t2 < n) (ht3 : args.length ≤ t3 ∧ t3 < n) (htf : args.length ≤ tf ∧ tf < n) (hne : t2 ≠ t3 ∧ t2 ≠ tf ∧ t3 ≠ tf) (hk : k2 ≠ k3) (hk2 : 1000 ≤ k2) (hk3 : 1000 ≤ k3)
    (hcall : ∀ args w,(callFunc g args).run E.P w = .ok (.enter g args) w)
    (hH2 : H'.lookup k2 = some B2') (hH3 : H'.lookup k3 = some B3') (hHn : ∀ j,H'.lookup j ≠ none → j = k2 ∨ j = k3) (hB2 : B2'.cs.len = n2) (hB3 : B3'.cs.len = n3)
    (hres : ResVs E.P ⟨[(t2,.at_ k2 0 n2),(t3,.at_ k3 0 n3)],H'⟩ [.cell t2 X2,.cell t3 X3] xs)
    (h : ∀ F : Fr,E.G F.w0 → (∀ b,¬ F.X b) → F.nt = n → (∀ k,Nat.blt k 1000 = true → F.pin k = none) → F.ro = none → Exec E.P F rest ⟨(t3,.at_ k3 0 n3) :: (t2,.at_ k2 0 n2) :: argSlots 0 args,[(k3,⟨X3,n3,.mix vs3⟩),(k2,⟨X2,n2,.mix vs2⟩)]⟩ (DPost E g t2 t3 k2 k3 n2 n3 H')) : Says E f args (resOf xs):=by
  intro ok w0 vals hG hrel
  have hvl:=hrel.length
  let F : Fr:=⟨w0,ok,fun _=>False,n,[],fun _=>none,none,fun _ _=>False,fun k=>Nat.blt k 1000⟩
  obtain ⟨a,ha⟩ : ∃ a : Act,a = { tmps:=vals.toArray ++ Array.replicate (fn.ntmps - vals.toArray.size) undef,defers:=[] }:=⟨_,rfl⟩
  have had : a.defers = []:=by rw [ha]
  have hS : Sat F ⟨argSlots 0 args,[]⟩ a w0:=by
    rw [ha]
    refine ⟨fun _=>0,⟨fun t v ht=>?_,fun k B hB=>by simp [St.blk] at hB,fun k k' hk=>by simp [St.blk] at hk,⟨rfl,rfl,rfl,Nat.le_refl _,fun _ _ _=>rfl⟩,?_,Marks.nil rfl,fun j b n hj=>by cases hj⟩⟩
    · obtain ⟨j,x,rfl,hx,rfl⟩:=argSlots_get ht
      obtain ⟨u,hu,hru⟩:=hrel.get hx
      refine ⟨u,?_,?_⟩
      · rw [Nat.zero_add,Array.getElem?_append_left (by have:=(List.getElem?_eq_some_iff.1 hu).1; simpa using this)]
        simpa using hu
      · simp only [RelV]
        exact Rel.mono (fun b hb _=>⟨⟨.inl hb,fun k hk=>by simp [St.blk] at hk⟩,rfl⟩) _ _ hru
    · simp [F,hn]; omega
  refine callsIn_wide.1 (callsIn_of_wp_marks (n:=0) hf hb trivial ?_)
  rw [← ha]
  clear ha
  have alloc : ∀ {S : St} {a : Act} {w : World} {t k m : Nat} {X Y : TypeId} {s : String} {ed : Array Edge} {z : Value} {vs : List PV}, (∀ w, (zeroValue X).run E.P w = .ok z w) → Zs z.cells.toList vs → vs.length = m → t < n → Sat F S a w → S.blk k = none → S.free k = true →
      ∃ v w',(execOp a.eval (⟨some t,.alloc X,Y,s,ed,none⟩ : Oper)).run E.P w = .ok (.value v) w' ∧ Sat F ⟨(t,.at_ k 0 m) :: S.sl,(k,⟨X,m,.mix vs⟩) :: S.hb⟩ (a.put (some t) v) w':=by
    intro S a w t k m X Y s ed z vs hz hv hl ht hS hb hfr
    have hc : CoreOk E.P F ⟨some t,.alloc X,Y,s,ed,none⟩ { fresh:=some k,ws:=[(t,.at_ k 0 m)],wb:=[(k,⟨X,m,.mix vs⟩)] }:=c_al hz hv hl rfl ht
    have hrun : ∃ v w',(execOp a.eval (⟨some t,.alloc X,Y,s,ed,none⟩ : Oper)).run E.P w = .ok (.value v) w':=⟨_,_,by simp [execOp,Instr.alloc,hz,newVar,newRow]; exact ⟨rfl,rfl⟩⟩
    obtain ⟨v,w',hrun⟩:=hrun
    refine ⟨v,w',hrun,?_⟩
    have:=hc S a w hS ⟨by simp,by simp,fun j hj=>by injection hj with hj; subst hj; exact ⟨hb,hfr⟩⟩ (fun _ _ _=>False) (Sat F (S.app _)) (fun _ _ h=>h)
    unfold Oper.wp at this
    rw [hrun] at this
    exact this
  refine wpIn_seq (wpIn_region ?_)
  show wpOpsIn (fen F) 0 E.P _ _ [0,1] _ _
  obtain ⟨v2,w1,hr1,hS1⟩:=alloc (t:=t2) (k:=k2) (Y:=Y2) (s:=s0) (ed:=e0) hz2 hv2 hl2 ht2.2 hS rfl (by simp [St.free,freeSl_args,freeHb])
  refine opsI_value (o:=⟨some t2,.alloc X2,Y2,s0,e0,none⟩) rfl rfl (by simp) hr1 ?_
  obtain ⟨v3,w2,hr2,hS2⟩:=alloc (t:=t3) (k:=k3) (Y:=Y3) (s:=s1) (ed:=e1) hz3 hv3 hl3 ht3.2 hS1 (by simp [St.blk,Ne.symm hk]) (by simp only [St.free,freeSl,freeHb,PV.free,Cells.free,freeSl_args,(hv2.rel (β:=fun _=>none) (ρ:=id) (ok:=fun _=>True) (H:=fun _=>none)).2.2 k3]; simp [hk])
  refine opsI_value (o:=⟨some t3,.alloc X3,Y3,s1,e1,none⟩) rfl rfl (by simp) hr2 (opsI_nil ?_)
  obtain ⟨a2,ha2⟩ : ∃ a2,a2 = (a.put (some t2) v2).put (some t3) v3:=⟨_,rfl⟩
  have had2 : a2.defers = []:=by rw [ha2]; simp [Act.put,had]
  rw [← ha2] at hS2
  show Code.wpIn _ _ _ _ _ (Act.put (Act.put a _ _) _ _) _
  rw [← ha2]
  clear ha2 hr1 hr2 hS1
  obtain ⟨ρ,hS2⟩:=hS2
  have h23 : (t2 == t3) = false:=by simpa using hne.1
  have hk23 : (k2 == k3) = false:=by simpa using hk
  have hk32 : (k3 == k2) = false:=by simpa using Ne.symm hk
  have hp2 : a2.eval (.tmp t2) = .pointer (some ⟨ρ k2,0,none⟩):=at_eval hS2 (x:=.tmp t2) (k:=k2) (off:=0) (tot:=n2) (B:=⟨X2,n2,.mix vs2⟩) (by simp [St.opd,St.slot,List.lookup_cons,h23]) (by simp [St.blk,List.lookup_cons,hk23]) (by simp [Cells.len,hl2])
  have hp3 : a2.eval (.tmp t3) = .pointer (some ⟨ρ k3,0,none⟩):=at_eval hS2 (x:=.tmp t3) (k:=k3) (off:=0) (tot:=n3) (B:=⟨X3,n3,.mix vs3⟩) (by simp [St.opd,St.slot,List.lookup_cons]) (by simp [St.blk,List.lookup_cons]) (by simp [Cells.len,hl3])
  obtain ⟨p2,hq2⟩ : ∃ p,p = Value.pointer (some ⟨ρ k2,0,none⟩):=⟨_,rfl⟩
  obtain ⟨p3,hq3⟩ : ∃ p,p = Value.pointer (some ⟨ρ k3,0,none⟩):=⟨_,rfl⟩
  rw [← hq2] at hp2
  rw [← hq3] at hp3
  have h2s : a2.tmps.size = n:=hS2.nt
  let D : Deferred:={ target:=.fn (.func g) #[p2,p3],args:=#[] }
  obtain ⟨a3,ha3⟩ : ∃ a3,a3 = a2.put (some tf) (.func (.func g) #[] #[p2,p3]):=⟨_,rfl⟩
  have he3 : a3.eval (.tmp tf) = .func (.func g) #[] #[p2,p3]:=by
    rw [ha3]; simp [Act.put,Act.eval,Array.getD_eq_getD_getElem?,Array.getElem?_setIfInBounds_self_of_lt (show tf < a2.tmps.size by rw [h2s]; exact htf.2)]
  refine wpIn_seq (wpIn_region ?_)
  show wpOpsIn (fen F) 0 E.P _ _ [0,1] _ _
  refine opsI_value (o:=⟨some tf,.makeFunc (.func g) #[] #[.tmp t2,.tmp t3],Y4,s2,e2,none⟩) (w:=w2) (w':=w2) (v:=.func (.func g) #[] #[p2,p3]) rfl rfl (by simp) (by simp [execOp,Instr.makeFunc,hp2,hp3]) ?_
  show wpOpsIn _ _ _ _ _ _ (a2.put (some tf) _) _
  rw [← ha3]
  refine opsI_defer (o:=⟨none,.defer ⟨.value (.tmp tf),#[],ts⟩,Y5,s3,e3,none⟩) (w:=w2) (w':=w2) (D:=D) rfl rfl rfl (by simp [execOp,resolve,he3,Deferred.ofValue,D]) (opsI_nil ?_)
  obtain ⟨a4,ha4⟩ : ∃ a4 : Act,a4 = ⟨a3.tmps,[D]⟩:=⟨_,rfl⟩
  have ha4' : (({ a3 with defers:=D :: a3.defers } : Act).put none undef) = a4:=by rw [ha4,ha3]; simp [Act.put,had2]
  show Code.wpIn _ _ _ _ _ (({ a3 with defers:=D :: a3.defers } : Act).put none undef) _
  rw [ha4']
  obtain ⟨c2,hc2,hX2,-,-⟩:=hS2.blks k2 ⟨X2,n2,.mix vs2⟩ (by simp [St.blk,List.lookup_cons,hk23])
  obtain ⟨c3,hc3,hX3,-,-⟩:=hS2.blks k3 ⟨X3,n3,.mix vs3⟩ (by simp [St.blk,List.lookup_cons])
  have hX2 : w0.heap.size ≤ ρ k2:=hX2.resolve_left (fun h=>h.1)
  have hX3 : w0.heap.size ≤ ρ k3:=hX3.resolve_left (fun h=>h.1)
  let F1 : Fr:=⟨w0,ok,fun _=>False,n,[D],fun j=>if j = k2 then some (ρ k2,c2.size) else if j = k3 then some (ρ k3,c3.size) else none,none,fun _ _=>False,fun k=>Nat.blt k 1000⟩
  have hS4 : SatR F1 ρ ⟨(t3,.at_ k3 0 n3) :: (t2,.at_ k2 0 n2) :: argSlots 0 args,[(k3,⟨X3,n3,.mix vs3⟩),(k2,⟨X2,n2,.mix vs2⟩)]⟩ a4 w2:=by
    refine ⟨fun t v ht=>?_,hS2.blks,hS2.inj,⟨hS2.frame.os,hS2.frame.tape,hS2.frame.output,hS2.frame.size,hS2.frame.block⟩,by rw [ha4,ha3]; simpa [Act.put] using h2s,⟨[],by rw [ha4]; rfl,.nil,by simp⟩,fun j b m hj hB=>?_⟩
    · obtain ⟨u,hu,hru⟩:=hS2.slots t v ht
      refine ⟨u,?_,hru⟩
      have htt : t ≠ tf:=fun e=>by
        subst e
        simp only [St.slot,List.lookup_cons,show (t == t3) = false by simpa using Ne.symm hne.2.2,show (t == t2) = false by simpa using Ne.symm hne.2.1] at ht
        obtain ⟨j,x,rfl,hx,_⟩:=argSlots_get ht
        have:=(List.getElem?_eq_some_iff.1 hx).1
        omega
      rw [ha4,ha3]
      simp only [Act.put]
      rw [Array.getElem?_setIfInBounds_ne (Ne.symm htt)]
      exact hu
    · simp only [F1] at hj
      split at hj
      · rename_i e
        subst e
        injection hj with hj
        injection hj with hj1 hj2
        subst hj1 hj2
        exact ⟨rfl,c2,X2,hc2,rfl⟩
      · split at hj
        · rename_i e
          subst e
          injection hj with hj
          injection hj with hj1 hj2
          subst hj1 hj2
          exact ⟨rfl,c3,X3,hc3,rfl⟩
        · cases hj
  have hgo:=(h F1 hG (fun _ h=>h) rfl (fun k hk1=>by
    have : k < 1000:=by simpa using hk1
    simp only [F1]
    rw [if_neg (by omega),if_neg (by omega)]) rfl).run 0 a4 w2 ⟨ρ,hS4⟩
  refine wpIn_mono hgo fun e a' w' hq=>?_
  obtain ⟨S',⟨hs2,hs3,u,U,B2,B3,hu,hHB,hb2,hb3,hg,hset⟩,ρ',hS'⟩:=hq.resolve_right (fun h=>h.2)
  have hL : LeavesInM Fence.wide 0 E.P fn a'.tmps (fun e w'=>∃ v,e = .returned v ∧ Rel (fun b=>ok b ∨ w0.heap.size ≤ b) (hp w') (resOf xs) v ∧ Below w0.heap.size w0 w') a'.defers u w':=by
    have hune : u ≠ .run:=by rcases hu with ⟨_,h⟩ | ⟨ch,_,h⟩ <;> rw [h] <;> simp
    refine leave_D hune hS' fun w3 hS3=>?_
    have hsb : ∀ j B',[(k2,B2),(k3,B3)].lookup j = some B' → S'.blk j = some B':=fun j B' hj=>hHB.all j B' hj
    have hB2s : S'.blk k2 = some B2:=hsb k2 B2 (by simp [List.lookup_cons])
    have hB3s : S'.blk k3 = some B3:=hsb k3 B3 (by simp [List.lookup_cons,hk32])
    have hr2 : ρ' k2 = ρ k2:=(hS3.pin k2 (ρ k2) c2.size (by simp [F1]) (by simp [hB2s])).1
    have hr3 : ρ' k3 = ρ k3:=(hS3.pin k3 (ρ k3) c3.size (by simp [F1,Ne.symm hk]) (by simp [hB3s])).1
    have hcar : Carry (okI F1 S'.blk ρ') (okI F1 (lk [(k2,B2),(k3,B3)]) ρ') (hp w3) (hp w3):=fun b hb _=>⟨⟨hb.1,fun j hj e=>by
      obtain ⟨B',hB'⟩:=lookup_some hj
      exact hb.2 j (by simp [hsb j B' hB']) e⟩,rfl⟩
    have hkp : ∀ K : Nat → Prop,Keep K S'.blk (lk [(k2,B2),(k3,B3)]) ρ' ρ' (hp w3) (hp w3):=fun K k _ B hB=>⟨B,hsb k B hB,rfl,Nat.le_refl _,fun _=>⟨rfl,fun c T fr hc=>⟨c,T,fr,hc,rfl⟩⟩⟩
    have hGw : E.G w3:=E.stab w0 w3 hG fun b hb=>hS3.frame.block b (by have:=hgs w0 hG; show b < w0.heap.size; omega) (fun h=>h)
    have hown : ∀ j B,[(k2,B2),(k3,B3)].lookup j = some B → w0.heap.size ≤ ρ' j:=fun j B hj=>by
      obtain ⟨_,_,f2,_⟩:=hS3.blks j B (hsb j B hj)
      exact f2.resolve_left (fun h=>h.1)
    have hg':=hg (okI F1 (lk [(k2,B2),(k3,B3)]) ρ') ρ' w3 [p2,p3] hGw
      (fun j B hj => ⟨by
          obtain ⟨c',f1,_,f3,f4⟩:=hS3.blks j B (hsb j B hj)
          refine ⟨c',f1,f3,fun i x hx=>?_⟩
          obtain ⟨u,hu,ho,hru⟩:=f4 i x hx
          exact ⟨u,hu,ho,RelV.mono (K:=fun _=>True) hcar (hkp _) x u (fun _ _=>trivial) hru⟩,by have:=hgs w0 hG; have:=hown j B hj; omega,fun hb=>hb.2 j (by simp [lk,hj]) rfl⟩)
      (fun j j' h1 h2 e=>by
        obtain ⟨B,hB⟩:=lookup_some h1
        obtain ⟨B',hB'⟩:=lookup_some h2
        exact hS3.inj j j' (by simp [hsb j B hB]) (by simp [hsb j' B' hB']) e)
      (by
        simp only [RelVL,RelV]
        refine ⟨p2,[p3],rfl,fun B hB=>?_,p3,[],rfl,fun B hB=>?_,rfl⟩
        · have : B = B2:=by simp [lk,List.lookup_cons] at hB; exact hB.symm
          subst this
          exact ⟨by omega,fun _=>by rw [hq2,hr2]⟩
        · have : B = B3:=by simp [lk,List.lookup_cons,hk32] at hB; exact hB.symm
          subst this
          exact ⟨by omega,fun _=>by rw [hq3,hr3]⟩)
    refine ⟨hune,.inr ⟨fun hh=>absurd hh (by simp [Fence.wide]),.func g,#[p2,p3],g,#[p2,p3],rfl,by simp [D,invoke,hcall],fun _ _=>trivial,CallsDIn.mono hg' fun e' u' w4 ⟨v,ρ4,he,hU,hP⟩=>?_⟩⟩
    subst he hU
    have hend : ∃ v,(results fn a'.tmps).run E.P w4 = .ok v w4 ∧ ∃ v',Ending.returned v = .returned v' ∧ Rel (fun b=>ok b ∨ w0.heap.size ≤ b) (hp w4) (resOf xs) v' ∧ Below w0.heap.size w0 w4:=by
      have hnn : ∀ j,H'.lookup j ≠ none → [(k2,B2),(k3,B3)].lookup j ≠ none:=fun j hj=>by
        rcases hHn j hj with rfl | rfl <;> simp [List.lookup_cons,hk32]
      have hst : ∀ j,H'.lookup j ≠ none → ρ4 j = ρ' j:=fun j hj=>(hP.stay j hj (hnn j hj) rfl).1
      have hcar4 : Carry (okG (okI F1 (lk [(k2,B2),(k3,B3)]) ρ') w3 H' ρ4) (okI F (lk H') ρ4) (hp w4) (hp w4):=fun b hb _=>⟨⟨by
        rcases hb.1 with h | h
        · exact h.1
        · exact .inr (Nat.le_trans hS3.frame.size h),hb.2⟩,rfl⟩
      have hkp4 : ∀ K : Nat → Prop,Keep K (lk H') (lk H') ρ4 ρ4 (hp w4) (hp w4):=fun K k _ B hB=>⟨B,hB,rfl,Nat.le_refl _,fun _=>⟨rfl,fun c T fr hc=>⟨c,T,fr,hc,rfl⟩⟩⟩
      have hpt : ∀ t k m B,S'.slot t = some (.at_ k 0 m) → S'.blk k = some B → B.cs.len = m → a'.tmps[t]? = some (.pointer (some ⟨ρ' k,0,none⟩)):=fun t k m B h1 h2 h3=>by
        obtain ⟨u,hu,hr⟩:=hS3.slots t _ h1
        simp only [RelV] at hr
        rw [← (hr B h2).2 h3]
        exact hu
      have hS5 : SatR F ρ4 ⟨[(t2,.at_ k2 0 n2),(t3,.at_ k3 0 n3)],H'⟩ ⟨a'.tmps,[]⟩ w4:=by
        refine ⟨fun t v ht=>?_,fun k B hB=>?_,hP.inj,⟨hP.os.trans hS3.frame.os,hP.tape.trans hS3.frame.tape,hP.output.trans hS3.frame.output,Nat.le_trans hS3.frame.size hP.size,fun b hb hx=>?_⟩,hS3.nt,Marks.nil rfl,fun j b m hj=>by cases hj⟩
        · simp only [St.slot,List.lookup_cons] at ht
          split at ht
          · rename_i e
            injection ht with ht
            subst ht
            obtain rfl : t = t2:=by simpa using e
            refine ⟨_,hpt t k2 n2 B2 hs2 hB2s hb2,?_⟩
            simp only [RelV]
            intro B hB
            have : B = B2':=Option.some.inj ((show H'.lookup k2 = some B from hB).symm.trans hH2)
            subst this
            exact ⟨by omega,fun _=>by rw [hst k2 (by simp [hH2])]⟩
          · split at ht
            · rename_i e
              injection ht with ht
              subst ht
              obtain rfl : t = t3:=by simpa using e
              refine ⟨_,hpt t k3 n3 B3 hs3 hB3s hb3,?_⟩
              simp only [RelV]
              intro B hB
              have : B = B3':=Option.some.inj ((show H'.lookup k3 = some B from hB).symm.trans hH3)
              subst this
              exact ⟨by omega,fun _=>by rw [hst k3 (by simp [hH3])]⟩
            · simp at ht
        · have hB' : H'.lookup k = some B:=hB
          obtain ⟨c',f1,f3,f4⟩:=hP.blk k B hB'
          obtain ⟨B0,hB0⟩:=lookup_some (hnn k (by simp [hB']))
          refine ⟨c',f1,.inr (by rw [hst k (by simp [hB'])]; exact hown k B0 hB0),f3,fun i x hx=>?_⟩
          obtain ⟨u,hu,ho,hru⟩:=f4 i x hx
          exact ⟨u,hu,ho,RelV.mono (K:=fun _=>True) hcar4 (hkp4 _) x u (fun _ _=>trivial) hru⟩
        · have h1 : b < w3.heap.size:=Nat.lt_of_lt_of_le hb hS3.frame.size
          rw [hP.frame b h1 (fun j hj e=>by obtain ⟨B,hB⟩:=lookup_some hj; have:=hown j B hB; have : b < w0.heap.size:=hb; omega)]
          exact hS3.frame.block b hb (fun h=>h)
      obtain ⟨v,hv,hrv⟩:=results_run (rs:=[.cell t2 X2,.cell t3 X3]) hS5 hr hres
      exact ⟨v,hv,v,rfl,Rel.mono (fun b hb _=>⟨hb.1,rfl⟩) _ _ hrv,⟨hS5.frame.os,hS5.frame.tape,hS5.frame.output,hS5.frame.size,fun k hk=>hS5.frame.block k hk (fun h=>h)⟩⟩
    show LeavesInM _ _ _ _ _ _ [] (settle _) w4
    rw [hset]
    exact hend
  rcases hu with ⟨he,rfl⟩ | ⟨ch,rfl,rfl⟩
  · rcases he with rfl | rfl <;> exact hL
  · exact hL
end Go.Proofs.YtcifhkfpmhifaaaGreatDoor.SH
namespace Go.Proofs.YtcifhkfpmhifaaaGreatDoor.SH
open Go Go.RowKit
def SaysP (E : Env) (f : FuncId) (args : List PV) (ch : List PanicEntry) : Prop :=
  ∀ (ok : Nat → Prop) (w : World) (vals : List Value),E.G w → RelVL (fun _=>none) (fun _=>0) ok (hp w) args vals →
    Calls E.P f vals.toArray w fun e w'=>e = .panicked ch ∧ Below w.heap.size w w'
theorem saysP_of {E : Env} {f : FuncId} {fn : Func} {c : Code} {args : List PV} {ch : List PanicEntry} {n : Nat} (hf : E.P.funcs[f]? = some fn) (hb : fn.body = some c) (hn : fn.ntmps = n) (hle : args.length ≤ n)
    (h : ∀ F : Fr,E.G F.w0 → (∀ b,¬ F.X b) → F.nt = n → F.df = [] → (∀ k,Nat.blt k 1000 = true → F.pin k = none) → F.ro = none → Exec E.P F c ⟨argSlotsV 0 args,[]⟩ (fun e _=>e = .panic ch)) : SaysP E f args ch:=by
  intro ok w vals hG hrel
  have hvl:=relVL_length hrel
  let F : Fr:=⟨w,ok,fun _=>False,n,[],fun _=>none,none,fun _ _=>False,fun k=>Nat.blt k 1000⟩
  have hS : Sat F ⟨argSlotsV 0 args,[]⟩ { tmps:=vals.toArray ++ Array.replicate (fn.ntmps - vals.toArray.size) undef,defers:=[] } w:=by
    refine ⟨fun _=>0,⟨fun t v ht=>?_,fun k B hB=>by simp [St.blk] at hB,fun k k' hk=>by simp [St.blk] at hk,⟨rfl,rfl,rfl,Nat.le_refl _,fun _ _ _=>rfl⟩,?_,Marks.nil rfl,fun j b n hj=>by cases hj⟩⟩
    · obtain ⟨j,rfl,hx⟩:=argSlotsV_get ht
      obtain ⟨u,hu,hru⟩:=relVL_get hrel hx
      refine ⟨u,?_,RelV.mono (K:=fun _=>True) (fun b hb _=>⟨⟨.inl hb,fun k hk=>by simp [St.blk] at hk⟩,rfl⟩) (fun k _ B hB=>by simp [St.blk] at hB) v u (fun _ _=>trivial) hru⟩
      rw [Nat.zero_add,Array.getElem?_append_left (by have:=(List.getElem?_eq_some_iff.1 hu).1; simpa using this)]
      simpa using hu
    · simp [F,hn]; omega
  have h0:=(h F hG (fun _ h=>h) rfl rfl (fun _ _=>rfl) rfl).run 0 _ w hS
  rw [show fen F = Fence.wide from rfl] at h0
  refine callsIn_wide.1 (callsIn_of_wp_marks (n:=0) hf hb trivial (wpIn_mono h0 fun e a' w' hq=>?_))
  obtain ⟨S',rfl,ρ,hS'⟩:=hq.resolve_right (fun h=>h.2)
  refine leave_D (by simp) hS' fun w'' hS''=>?_
  exact ⟨rfl,⟨hS''.frame.os,hS''.frame.tape,hS''.frame.output,hS''.frame.size,fun k hk=>hS''.frame.block k hk (fun h=>h)⟩⟩
def OpX (P : Program) (F : Fr) (o : Oper) (S : St) (ch : List PanicEntry) : Prop :=
  ∀ a w,Sat F S a w → ∀ (Q : Exit → Act → World → Prop) (K : Act → World → Prop),(∀ w',Sat F S a w' → Q (.panic ch) a w') → o.wp P a w K Q
theorem seqX_ops {P : Program} {F : Fr} {ops : Array Oper} {Q : Exit → Act → World → Prop} {l2 : List Oper} {ox : Oper} {ch : List PanicEntry} (hnd : ∀ o ∈ ops.toList, ∀ c, o.op ≠ .defer c) (m : Nat) {K : St → Prop} (hgd : ox.guard = none) (hX : ∀ S', K S' → OpX P F ox S' ch) (hQ : ∀ S' a w, K S' → Sat F S' a w → Q (.panic ch) a w) : ∀ {os : List Oper} {S : St} {n : Nat}, SeqS P F ops os S K →
    (∀ j,(os ++ ox :: l2)[j]? = ops[n + j]?) → ∀ a w,Sat F S a w → wpOpsIn (fen F) m P ops Q ((List.range (os ++ ox :: l2).length).map (n + ·)) a w:=by
  intro os S n h
  induction h generalizing n with
  | @nil S K hK =>
    intro hj a w hS
    have h0 : ops[n]? = some ox:=by have:=hj 0; simpa using this.symm
    rw [List.nil_append,List.length_cons,List.range_succ_eq_map,List.map_cons,Nat.add_zero,wpOpsIn_cons]
    refine opIn_of h0 (hnd ox (List.mem_of_getElem? (by rw [Array.getElem?_toList]; exact h0))) ?_
    rw [if_pos (by simp [Region.wanted,hgd])]
    exact .inl (hX S hK a w hS _ _ fun w' hw=>hQ S a w' hK hw)
  | @cons o os S S1 K hop _ ih =>
    intro hj a w hS
    have h0 : ops[n]? = some o:=by have:=hj 0; simpa using this.symm
    rw [List.cons_append,List.length_cons,List.range_succ_eq_map,List.map_cons,List.map_map,Nat.add_zero,wpOpsIn_cons]
    refine opIn_of h0 (hnd o (List.mem_of_getElem? (by rw [Array.getElem?_toList]; exact h0))) (hop a w hS Q _ fun a' w' h'=>?_)
    have:=ih hX hQ (n:=n + 1) (fun j=>by have:=hj (j + 1); simp only [List.cons_append,List.getElem?_cons_succ] at this; rw [this]; congr 1; omega) a' w' h'
    have e : (fun x=>n + 1 + x) = ((fun x=>n + x) ∘ Nat.succ):=by funext x; simp; omega
    rwa [e] at this
section
variable {P : Program} {F : Fr} {Q : Exit → St → Prop} {S : St}
theorem exrX (n : Nat) {id : Nat} {l : List Oper} {ox : Oper} {ch : List PanicEntry} (ho : l[n]? = some ox) (hgd : ox.guard = none) (h : SeqS P F l.toArray (l.take n) S fun S1=>OpX P F ox S1 ch ∧ Q (.panic ch) S1) (hnd : noDef l = true:=by rfl) : Exec P F (.region id l.toArray false) S Q:=⟨fun m a w hS=>by
  refine wpIn_region ?_
  have hn : n < l.length:=(List.getElem?_eq_some_iff.1 ho).1
  have e : l.take n ++ ox :: l.drop (n + 1) = l:=by
    have : ox = l[n]:=(List.getElem?_eq_some_iff.1 ho).2.symm
    rw [this,List.getElem_cons_drop,List.take_append_drop]
  have:=seqX_ops (l2:=l.drop (n + 1)) (by simpa using noDef_all hnd) m (Q:=fun e a' w'=>(∃ S',Q e S' ∧ Sat F S' a' w') ∨ (e = .ret ∧ F.esc a' w')) hgd (fun S' hK=>hK.1) (fun S' a w hK hS=>.inl ⟨S',hK.2,hS⟩) h (n:=0) (fun j=>by rw [e]; simp) a w hS
  rw [e] at this
  simpa using this⟩
theorem opX_panic {dst : Option Nat} {x : Operand} {T : TypeId} {pos : String} {aft : Array Edge} {g : Option (Nat × Bool)} {t : TypeId} {y : Pure} {v0 : Value} (hv : ∀ ok H v,Rel ok H y v → v = v0) (hx : S.opd x = some (.p (.ifc t y))) : OpX P F ⟨dst,.panic x,T,pos,aft,g⟩ S [{ v:=.iface t v0,recovered:=false }]:=by
  intro a w ⟨ρ,h⟩ Q K hK
  have hr:=opd_rel h hx
  simp only [RelV,Rel] at hr
  obtain ⟨v,he,hr⟩:=hr
  rw [hv _ _ _ hr] at he
  have hrun : (execOp a.eval (⟨dst,.panic x,T,pos,aft,g⟩ : Oper)).run P w = .halt (.panic (.iface t v0)) w:=by simp [execOp,he,Instr.panic,goPanic]
  unfold Oper.wp
  rw [hrun]
  exact hK w ⟨ρ,h⟩
end
theorem opX_call {E : Env} {F : Fr} (hG : E.G F.w0) (hX : ∀ b, F.X b → E.ng ≤ b) {S : St} {dst : Option Nat} {f : FuncId} {os : List Operand} {xs : List PV} {ch : List PanicEntry} {ts : Array TypeId} {T : TypeId} {pos : String} {aft : Array Edge} {g : Option (Nat × Bool)}
    (hcall : ∀ args w,(callFunc f args).run E.P w = .ok (.enter f args) w) (hng : E.ng ≤ F.w0.heap.size) (hs : SaysP E f xs ch) (hlen : os.length = xs.length) (hr : ∀ (i : Nat) (x : PV) (o : Operand),xs[i]? = some x → os[i]? = some o → x = .dead ∨ ∃ y,x = .p y ∧ S.opd o = some (.p y)) :
    OpX E.P F ⟨dst,.call ⟨.value (.func f),os.toArray,ts⟩,T,pos,aft,g⟩ S ch:=by
  intro a w ⟨ρ,h⟩ Q K hK
  have hrun : (execOp a.eval (⟨dst,.call ⟨.value (.func f),os.toArray,ts⟩,T,pos,aft,g⟩ : Oper)).run E.P w = .ok (.enter f (os.map a.eval).toArray) w:=by
    simp [execOp,resolve,Act.eval,Deferred.ofValue,invoke,hcall]
  unfold Oper.wp
  rw [hrun]
  simp only [Oper.upon]
  have hrel : RelVL (fun _=>none) (fun _=>0) (okI F S.blk ρ) (hp w) xs (os.map a.eval):=relVL_of (by simp [hlen]) fun i x hx=>by
    have hlt : i < os.length:=by rw [hlen]; exact (List.getElem?_eq_some_iff.1 hx).1
    refine ⟨a.eval os[i],by simp [hlt],?_⟩
    rcases hr i x os[i] hx (by simp [hlt]) with rfl | ⟨y,rfl,ho⟩
    · simp only [RelV]
    · have:=opd_rel h ho
      simpa [RelV] using this
  have hGw : E.G w:=E.stab F.w0 w hG fun b hb=>h.frame.block b (by omega) (fun hx=>by have:=hX b hx; omega)
  refine Calls.mono (hs (okI F S.blk ρ) w _ hGw hrel) fun e w' ⟨he,hbl⟩=>?_
  subst he
  refine hK w' ⟨ρ,?_⟩
  have hne : ∀ k,S.blk k ≠ none → ρ k < w.heap.size:=fun k hk=>by
    cases hB : S.blk k with
    | none=>exact absurd hB hk
    | some B=>obtain ⟨c,e1,_⟩:=h.blks k B hB; exact World.size_lt e1
  have hhp : ∀ b,b < w.heap.size → hp w' b = hp w b:=fun b hb=>hbl.block b hb
  refine h.upd (Kp:=fun _=>True) ⟨hbl.os.trans h.frame.os,hbl.tape.trans h.frame.tape,hbl.output.trans h.frame.output,Nat.le_trans h.frame.size hbl.size,fun b hb hx=>(hbl.block b (Nat.lt_of_lt_of_le hb h.frame.size)).trans (h.frame.block b hb hx)⟩ h.nt rfl
    (fun b hb hne'=>⟨hb,?_⟩) (fun k _ B hB=>⟨B,hB,rfl,Nat.le_refl _,fun _=>⟨rfl,fun c T fr hc=>⟨c,T,fr,?_,rfl⟩⟩⟩) h.inj (fun j _ _ _ hj=>⟨hj,rfl,fun c T hc=>⟨c,T,by rw [hhp _ (World.size_lt hc)]; exact hc,rfl⟩⟩) (fun t v ht=>.inl ⟨ht,rfl,fun _ _=>trivial⟩)
    (fun k B hB=>.inl ⟨hB,rfl,hhp _ (hne k (by simp [hB])),fun _ _ _ _ _=>trivial⟩)
  · cases e : hp w b with
    | none=>exact absurd e hne'
    | some o=>rw [hhp b (World.size_lt e),e]
  · rw [hhp _ (World.size_lt hc)]; exact hc
section
variable {P : Program} {F : Fr} {d : Nat} {T : TypeId} {pos : String} {aft : Array Edge} {g : Option (Nat × Bool)} {x : Operand} {t xT yT : TypeId} {y : Pure} {c : Value} {ms : Array (String × TypeId)} {fs : Array Field}
theorem core_mkIface (hu : P.underlying t = some (.struct fs)) (hlt : d < F.nt) : CoreOk P F ⟨some d,.makeInterface t x,T,pos,aft,g⟩ { rs:=[(x,.p y)],ws:=[(d,.p (.ifc t y))] } :=
  core_val rfl hlt rfl rfl fun ρ S a w h hA=>by
    have hr:=opd_rel h (hA.rs (x,.p y) (by simp))
    simp only [RelV] at hr
    exact ⟨.iface t (a.eval x),by simp [execOp,Instr.makeInterface,run_underlying hu],by simp only [RelV,Rel]; exact ⟨_,rfl,hr⟩⟩
theorem core_asserts (hu : P.underlying t = some (.struct fs)) (hlt : d < F.nt) : CoreOk P F ⟨some d,.typeAssert x xT t true,T,pos,aft,g⟩ { rs:=[(x,.p (.ifc t y))],ws:=[(d,.p (.tup [y,.a (.bool true)]))] } :=
  core_val rfl hlt rfl rfl fun ρ S a w h hA=>by
    have hr:=opd_rel h (hA.rs (x,.p (.ifc t y)) (by simp))
    simp only [RelV,Rel] at hr
    obtain ⟨v,he,hr⟩:=hr
    refine ⟨.tuple #[v,.bool true],by simp [execOp,Instr.typeAssert,run_underlying hu,he],?_⟩
    simp only [RelV,Rel,RelL]
    exact ⟨[v,.bool true],rfl,v,[.bool true],rfl,hr,.bool true,[],rfl,rfl,rfl⟩
theorem core_nilNil (hu : P.underlying xT = some (.interface ms)) (hlt : d < F.nt) : CoreOk P F ⟨some d,.binOp .neq xT x (.const .nilIface) yT,T,pos,aft,g⟩ { rs:=[(x,.p (.a .nilIface))],ws:=[(d,.p (.a (.bool false)))] } :=
  core_val rfl hlt rfl rfl fun ρ S a w h hA=>by
    have hr:=atom_eval h (v:=.nilIface) (hA.rs (x,_) (by simp))
    have hc : a.eval (.const .nilIface) = .nilIface:=rfl
    refine ⟨.bool false,?_,by simp [RelV,Rel]⟩
    have hb : (binOp .neq xT .nilIface .nilIface).run P w = .ok (.bool false) w:=by
      have h : ∀ d : Nat,(Op.equalIn (d + 1) xT .nilIface .nilIface).run P w = .ok true w:=fun d=>by simp [Op.equalIn,run_underlying hu]
      simp only [binOp]
      simp [Op.equal,Op.maxDepth,h 9999]
    simp only [execOp,hr,hc]
    simp [go_sem,hb]
theorem core_nilVal (hu : P.underlying xT = some (.interface ms)) (hlt : d < F.nt) : CoreOk P F ⟨some d,.binOp .neq xT x (.const .nilIface) yT,T,pos,aft,g⟩ { rs:=[(x,.p (.ifc t y))],ws:=[(d,.p (.a (.bool true)))] } :=
  core_val rfl hlt rfl rfl fun ρ S a w h hA=>by
    have hr:=opd_rel h (hA.rs (x,.p (.ifc t y)) (by simp))
    simp only [RelV,Rel] at hr
    obtain ⟨v,hr,_⟩:=hr
    have hc : a.eval (.const .nilIface) = .nilIface:=rfl
    refine ⟨.bool true,?_,by simp [RelV,Rel]⟩
    have hb : (binOp .neq xT (.iface t v) .nilIface).run P w = .ok (.bool true) w:=by
      have h : ∀ d : Nat,(Op.equalIn (d + 1) xT (.iface t v) .nilIface).run P w = .ok false w:=fun d=>by simp [Op.equalIn,run_underlying hu]
      simp only [binOp]
      simp [Op.equal,Op.maxDepth,h 9999]
    simp only [execOp,hr,hc]
    simp [eqGuard,hb]
end
end Go.Proofs.YtcifhkfpmhifaaaGreatDoor.SH
set_option maxRecDepth 100000
set_option maxHeartbeats 4000000
namespace Go.Proofs.YtcifhkfpmhifaaaGreatDoor.N
open Go Go.Proofs.YtcifhkfpmhifaaaGreatDoor.SH Go.Proofs.YtcifhkfpmhifaaaGreatDoor.NumA
open Go.Proofs.Tryz renaming call126 → cl126,isAgg24 → ag24,sizeOf24 → sz24,sizeOf28 → sz28,sizeOf4 → sz4,underlying92 → un92,zeroValue24 → zv24,zeroValue92 → zv92
@[reducible] def stopV (e : Int) : List PanicEntry:=[{ v:=.iface 92 (.agg #[.int .i64 e]),recovered:=false }]
theorem stopR (e : Int) : ∀ (ok : Nat → Prop) (H : Nat → Option Obj) (v : Value),Rel ok H (.agg [vZ e]) v → v = .agg #[.int .i64 e]:=fun ok H v h=>by
 simp only [Rel,RelL] at h
 obtain ⟨cs,rfl,⟨v,r,rfl,rfl,rfl⟩,-⟩:=h
 rfl
theorem dec_ne {p : Prop} [Decidable p] (h : (!decide p) = true) : ¬ p:=by simpa using h
theorem dec_eq' {p : Prop} [Decidable p] (h : (!decide p) = false) : p:=by simpa using h
theorem int_bad (bs : List UInt8) (hl : bs.length < 100000) (h : parseE bs = 3) : SaysP E 96 [.p (pS bs),.dead] (stopV 3):=by
 refine saysP_of Tryz.func96 rfl Tryz.ntmps96 (by simp) fun F hG hX0 hnt hdf P0 hro=>?_
 obtain ⟨L,hX,hN⟩:=pro hnt hX0 hG
 refine exr (swb (c_al (k:=4) (n:=2) zv24 (.cons rfl (.cons rfl .nil)) rfl (P0 _ rfl) (L rfl)) t0 t0 ⟨rfl,rfl⟩ (zn [(0,_),(4,_)] [(4,_)] t2 t1 (exr (mV (L rfl) rfl (cK hG hX cl126 hN (parse_says bs (by omega)) (L rfl) t1 ?_)))))
 refine mV (L rfl) rfl (sw (c_ex rfl (L rfl)) t1 t0 (sw (c_ex rfl (L rfl)) t1 t0 (swb (c_al (k:=5) (n:=2) zv24 (.cons rfl (.cons rfl .nil)) rfl (P0 _ rfl) (L rfl)) t0 t0 ⟨rfl,rfl⟩ (sb (c_sm sz24 (by rfl) pa2 rfl pu2) t2 t1 ?_))))
 refine aV (L rfl) rfl (zn [(4,_),(5,_),(6,_)] [(4,_),(5,_)] t3 t2 (ex_seq (exr (mV (L rfl) rfl (sw (c_e (L rfl)) t2 t0 (zn [(4,_),(5,_),(6,_),(13,_)] [(4,_),(5,_)] t4 t2 ?_))))))
 refine ex_if rfl (fun hc=>?_) (fun hc=>?_)
 ·exact absurd (dt hc) (by omega)
 ·refine exr (mV (L rfl) rfl (sw (c_n (L rfl)) t2 t0 (zn [(4,_),(5,_),(17,_)] [(4,_),(5,_)] t3 t2 ?_)))
  refine ex_if rfl (fun hc=>?_) (fun hc=>?_)
  ·refine exrX 2 (ch:=stopV 3) rfl rfl (nsw (c_bp (vs:=[_]) un92 zv92 (.cons rfl .nil) ((Places.cons sz28 Places.nil)).to rfl (.cons rfl (.atom rfl) rfl pu1 .nil) (.cons .nil) (L rfl)) t1 t0 (nsw (core_mkIface un92 (L rfl)) t1 t0 ?_))
   refine .nil ⟨opX_panic (stopR 3) rfl,?_⟩
   rfl
  ·exact absurd h (by have:=dec_eq' hc; omega)
@[reducible] def bL (b : Bool) : Blk:=⟨4,1,.mix [.p (bZ b)]⟩
theorem int_ok (b : Bool) (bs : List UInt8) (hl : bs.length < 100000) (h : parseE bs ≠ 3) : SaysX E 96 [.p (pS bs),.at_ 1000 0 1] [(1000,bL b)] [(1000,bL (b || decide (parseE bs = 2)))] (pZ (parseV bs)):=by
 refine saysX_of (xs:=[pZ (parseV bs)]) Tryz.func96 rfl Tryz.ntmps96 Tryz.results96 (by simp) rfl (sub_of rfl) fun F hG hX hnt hdf P0 hXp=>?_
 have L:=lti hnt
 have hN:=ng_le hG
 refine exr (swb (c_al (k:=4) (n:=2) zv24 (.cons rfl (.cons rfl .nil)) rfl (P0 _ rfl) (L rfl)) t0 t0 ⟨rfl,rfl⟩ (zn [(0,_),(1,_),(4,_)] [(4,_),(1000,_)] t3 t2 (exr (mV (L rfl) rfl (cK hG hX cl126 hN (parse_says bs (by omega)) (L rfl) t1 ?_)))))
 refine mV (L rfl) rfl (sw (c_ex rfl (L rfl)) t1 t0 (sw (c_ex rfl (L rfl)) t1 t0 (swb (c_al (k:=5) (n:=2) zv24 (.cons rfl (.cons rfl .nil)) rfl (P0 _ rfl) (L rfl)) t0 t0 ⟨rfl,rfl⟩ (sb (c_sm sz24 (by rfl) pa2 rfl pu2) t2 t1 ?_))))
 refine aV (L rfl) rfl (zn [(1,_),(4,_),(5,_),(6,_)] [(4,_),(5,_),(1000,_)] t4 t3 (ex_seq (exr (mV (L rfl) rfl (sw (c_e (L rfl)) t2 t0 (zn [(1,_),(4,_),(5,_),(6,_),(13,_)] [(4,_),(5,_),(1000,_)] t5 t3 ?_))))))
 refine ex_if rfl (fun hc=>?_) (fun hc=>?_)
 ·have hc:=dt hc
  refine exr0 (mV (L rfl) rfl (sw (core_nilCheck (by exact rfl) (L rfl)) t1 t1 ?_))
  refine sb (c_sm sz4 (by rfl) (.atom rfl) rfl pu1) t2 t1 ?_
  refine seq_nil (exr (lp2 ag24 sz24 (L rfl) rfl rfl (sb (c_sm sz24 (by rfl) pa2 rfl pu2) t2 t1 ?_)))
  refine zn [(4,_)] [(4,_),(1000,_)] t1 t2 (ex_ret ?_)
  refine ⟨.inr rfl,ResVs.cast (.cons (.agg rfl rfl rfl ag24 sz24 (.cons (.cons .nil))) .nil) ?_,⟨(by rw [hc]; cases b <;> rfl),trivial⟩⟩
  rfl
 ·have hc:=df hc
  refine exr (mV (L rfl) rfl (sw (c_n (L rfl)) t2 t0 (zn [(4,_),(5,_),(17,_)] [(4,_),(5,_),(1000,_)] t3 t3 ?_)))
  refine ex_if rfl (fun hc2=>?_) (fun hc2=>?_)
  ·exact absurd (dec_ne hc2) (by have:=parseE_cases bs; omega)
  ·refine ex_skip (show Exec _ _ _ _ _ from ?_)
   refine exr (lp2 ag24 sz24 (L rfl) rfl rfl (sb (c_sm sz24 (by rfl) pa2 rfl pu2) t2 t1 ?_))
   refine zn [(4,_)] [(4,_),(1000,_)] t1 t2 (ex_ret ?_)
   refine ⟨.inr rfl,ResVs.cast (.cons (.agg rfl rfl rfl ag24 sz24 (.cons (.cons .nil))) .nil) ?_,⟨(by rw [decide_eq_false hc,Bool.or_false]; rfl),trivial⟩⟩
   rfl
end Go.Proofs.YtcifhkfpmhifaaaGreatDoor.N
set_option maxRecDepth 100000
set_option maxHeartbeats 4000000
namespace Go.Proofs.YtcifhkfpmhifaaaGreatDoor.N
open Go Go.Proofs.YtcifhkfpmhifaaaGreatDoor.SH Go.Proofs.YtcifhkfpmhifaaaGreatDoor.NumA
open Go.Proofs.Tryz renaming isAgg28 → ag28,sizeOf24 → sz24,sizeOf26 → sz26,sizeOf28 → sz28,sizeOf92 → sz92,underlying20 → un20,underlying26 → un26,underlying92 → un92,zeroValue26 → zv26,zeroValue92 → zv92
theorem rec_ret (c₀ : Go.Frame) (cs : List Go.Frame) (hu : c₀.mode = .returning) : (recoverD (c₀ :: cs) = none ∧ Value.nilIface = .nilIface ∧ FrameMode.returning = .returning) ∨ recoverD (c₀ :: cs) = some (.nilIface,{ c₀ with mode:=.returning } :: cs) :=
 .inl ⟨by simp [recoverD,hu],rfl,rfl⟩
@[reducible] def stopU (e : Int) : FrameMode:=.panicking [{ v:=.iface 92 (.agg #[.int .i64 e]),recovered:=true }]
theorem rec_pan (e : Int) (c₀ : Go.Frame) (cs : List Go.Frame) (hu : c₀.mode = .panicking (stopV e)) : (recoverD (c₀ :: cs) = none ∧ Value.iface 92 (.agg #[.int .i64 e]) = .nilIface ∧ stopU e = .panicking (stopV e)) ∨ recoverD (c₀ :: cs) = some (.iface 92 (.agg #[.int .i64 e]),{ c₀ with mode:=stopU e } :: cs) :=
 .inr (by simp [recoverD,hu])
theorem dg_ret (B2 B3 : Blk) : DefG E 93 [.at_ 1002 0 4,.at_ 1003 0 1] [(1002,B2),(1003,B3)] [(1002,B2),(1003,B3)] .returning .returning:=by
 refine defG_of (pv:=.p (.a .nilIface)) Tryz.func93 rfl Tryz.ntmps93 Tryz.results93 (by decide) (by decide) (by decide) rec_ret (fun _ _ _ _=>by simp only [RelV,Rel]) fun F G=>?_
 have L:=lti G.nt
 have hG:=G.g
 have hX:=G.x
 have hN:=ng_le hG
 have P0:=G.p0
 refine exr (mV (L rfl) rfl (sw (core_nilNil un20 (L rfl)) t1 t0 (zn [(0,_),(1,_),(2,_),(7,_)] [(1002,_),(1003,_)] t4 t2 ?_)))
 refine ex_if rfl (fun hc=>?_) (fun hc=>?_)
 ·cases hc
 ·exact ex_skip ⟨.inl rfl,rfl,rfl,trivial⟩
theorem dg_pan (e : Int) (a b c d x : Pure) : DefG E 93 [.at_ 1002 0 4,.at_ 1003 0 1] [(1002,⟨26,4,.mix [.p a,.p b,.p c,.p d]⟩),(1003,⟨28,1,.mix [.p x]⟩)] [(1002,⟨26,4,.mix ((cR R0).map .p)⟩),(1003,⟨28,1,.mix [.p (vZ e)]⟩)] (.panicking (stopV e)) (stopU e):=by
 refine defG_of (pv:=.p (.ifc 92 (.agg [vZ e]))) Tryz.func93 rfl Tryz.ntmps93 Tryz.results93 (by decide) (by decide) (by decide) (rec_pan e) (fun _ _ _ _=>by simp only [RelV,Rel,RelL]; exact ⟨_,rfl,[.int .i64 e],rfl,⟨_,_,rfl,rfl,rfl⟩,by simp [Value.oneCell']⟩) fun F G=>?_
 have L:=lti G.nt
 have hG:=G.g
 have hX:=G.x
 have hN:=ng_le hG
 have P0:=G.p0
 refine exr (mV (L rfl) rfl (sw (core_nilVal un20 (L rfl)) t1 t0 (zn [(0,_),(1,_),(2,_),(7,_)] [(1002,_),(1003,_)] t4 t2 ?_)))
 refine ex_if rfl (fun hc=>?_) (fun hc=>?_)
 ·refine exr (mV (L rfl) rfl (sw (core_asserts un92 (L rfl)) t1 t0 (mV (L rfl) rfl (sw (c_ex rfl (L rfl)) t1 t0 (sw (c_ex rfl (L rfl)) t1 t0 (swb (c_al (k:=3) (n:=1) zv92 (.cons rfl .nil) rfl (P0 _ rfl) (L rfl)) t0 t0 ⟨rfl,rfl⟩ (sb (c_sm sz92 (by rfl) pa1 rfl pu1) t2 t1 ?_)))))))
  refine aV (L rfl) rfl (zn [(0,_),(1,_),(2,_),(3,_),(4,_)] [(3,_),(1002,_),(1003,_)] t5 t3 (ex_seq (exr (mV (L rfl) rfl (sw (c_no (L rfl)) t1 t0 (zn [(0,_),(1,_),(2,_),(3,_),(14,_)] [(3,_),(1002,_),(1003,_)] t5 t3 ?_))))))
  refine ex_if rfl (fun hc2=>?_) (fun hc2=>?_)
  ·cases hc2
  ·refine ex_skip (show Exec _ _ _ _ _ from ?_)
   refine exd0 (by rfl) ?_
   refine sw (c_pc (c_bp (vs:=[]) un26 zv26 (.cons rfl (.cons rfl (.cons rfl (.cons rfl .nil)))) ((Places.cons sz24 (Places.cons sz24 Places.nil))).to rfl .nil (.cons (.cons (.cons (.cons .nil)))) (L rfl)) (.agg (.cons .same (.cons .nil (.cons .same (.cons .nil .nil)))))) t0 t0 (sw (c_fa un92 rfl sz28 (by decide) (by exact rfl) (L rfl)) t1 t1 ?_)
   refine sw (c_l1 ag28 (by rfl) (by rfl) (L rfl)) t1 t1 ?_
   refine sb (c_sm sz26 (by rfl) pa4 rfl pu4) t2 t1 ?_
   refine sb (c_sm sz28 (by rfl) (.atom rfl) rfl pu1) t2 t1 ?_
   refine seq_nil ⟨aoks [⟨[],[],[16],[]⟩,⟨[3],[3],[17],[]⟩,⟨[17],[3],[18],[]⟩,⟨[0,16],[1002],[],[1002]⟩,⟨[1,18],[1003],[],[1003]⟩] (by rfl) (by rfl) (by decide),?_⟩
   exact ⟨.inl rfl,rfl,rfl,trivial⟩
 ·cases hc
end Go.Proofs.YtcifhkfpmhifaaaGreatDoor.N
set_option maxRecDepth 100000
set_option maxHeartbeats 4000000
namespace Go.Proofs.YtcifhkfpmhifaaaGreatDoor.N
open Go Go.Proofs.YtcifhkfpmhifaaaGreatDoor.SH Go.Proofs.YtcifhkfpmhifaaaGreatDoor.NumA
open Go.Proofs.Tryz renaming call17 → cl17,call19 → cl19,call93 → cl93,call94 → cl94,call95 → cl95,call96 → cl96,isAgg26 → ag26,isAgg28 → ag28,isAgg4 → ag4,sizeOf24 → sz24,sizeOf26 → sz26,sizeOf28 → sz28,sizeOf4 → sz4,underlying26 → un26,underlying92 → un92,zeroValue26 → zv26,zeroValue28 → zv28,zeroValue4 → zv4,zeroValue92 → zv92
def RN (n d : Int) : RQ:=⟨decide (n < 0),digs n.natAbs,decide (d < 0),digs d.natAbs⟩
theorem RN_is (n d : Int) : (RN n d).is = decide (0 < d ∧ (Int.gcd n d : Int) = 1):=by
 simp only [RQ.is,RN,canon_digs,sg_of,Bool.true_and]
theorem RN_of {n d : Int} (hd : 0 < d) (hg : (Int.gcd n d : Int) = 1) : RQ.of (Rat.divInt n d) = RN n d:=by
 have h:=pN_of hd hg
 have h2 : Pure.agg (cR (RN n d)) = .agg (cR (RQ.of (Rat.divInt n d))):=h
 have e1 : (Rat.divInt n d).num = n:=by
  have h1 : sgcd n d = 1:=by rw [sgcd,if_neg (by omega)]; exact hg
  have:=ovr_num (n:=n) (d:=d) (by omega)
  rw [this,h1,Int.ediv_one]
 have e2 : ((Rat.divInt n d).den : Int) = d:=by
  have h1 : sgcd n d = 1:=by rw [sgcd,if_neg (by omega)]; exact hg
  have:=ovr_den (n:=n) (d:=d) (by omega)
  rw [this,h1,Int.ediv_one]
 rw [RQ.of,RN,e1,e2]
def pqL (bs : List UInt8) : Bool:=decide (parseE (ab bs) = 2) || (decide (cutN bs < bs.length) && decide (parseE (be bs) = 2))
def pqR (bs : List UInt8) : RQ:=RN (parseV (ab bs)) (if cutN bs < bs.length then parseV (be bs) else 1)
theorem itoa0 : Lib.itoa 0 = [48]:=by rw [Lib.itoa,if_neg (by decide)]; exact dec_small (by decide)
theorem itoa1 : Lib.itoa 1 = [49]:=by rw [Lib.itoa,if_neg (by decide)]; exact dec_small (by decide)
theorem parse48 : parseE [48] = 0 ∧ parseV [48] = 0:=itoa0 ▸ parse_itoa (a:=0) (by rw [nw_zero.2 rfl]; decide)
theorem parse49 : parseE [49] = 0 ∧ parseV [49] = 1:=itoa1 ▸ parse_itoa (a:=1) (by rw [nw_one]; decide)
theorem pq_pre {bs : List UInt8} (h : cutN bs < bs.length ∧ (be bs = [48] ∨ be bs = [49] ∨ pNeg (be bs) = true)) : pqE bs = 3:=by
 obtain ⟨hb,h⟩:=h
 rw [pqE]
 split
 ·rfl
 ·rw [if_neg (by omega),if_pos]
  rw [pqBad,decide_eq_true_eq]
  rcases h with h | h | h
  ·rw [h]; exact .inr (.inr (.inr parse48))
  ·rw [h]; exact .inr (.inr (.inl parse49.2))
  ·exact .inr (.inl h)
theorem pq_a {bs : List UInt8} (h : parseE (ab bs) = 3) : pqE bs = 3:=by rw [pqE,if_pos h]
theorem pq_b {bs : List UInt8} (hb : cutN bs < bs.length) (h : parseE (be bs) = 3) : pqE bs = 3:=by
 rw [pqE]
 split
 ·rfl
 ·rw [if_neg (by omega),if_pos]
  rw [pqBad,decide_eq_true_eq]
  exact .inl h
theorem pq_fin {bs : List UInt8} (ha : parseE (ab bs) ≠ 3) (hp : ¬ (cutN bs < bs.length ∧ (be bs = [48] ∨ be bs = [49] ∨ pNeg (be bs) = true))) (hbe : cutN bs < bs.length → parseE (be bs) ≠ 3) :
  (pqL bs = true ∧ pqE bs = 2) ∨ (pqL bs = false ∧ (pqR bs).is = true ∧ pqE bs = 0 ∧ pqV bs = pqR bs) ∨ (pqL bs = false ∧ (pqR bs).is = false ∧ pqE bs = 3):=by
 have hcl:=cutN_le bs
 have ca:=parseE_cases (ab bs)
 have cb:=parseE_cases (be bs)
 by_cases hb : cutN bs < bs.length
 ·have hne : ¬ cutN bs = bs.length:=by omega
  have hbe:=hbe hb
  have hng : pNeg (be bs) = false:=by
   cases e : pNeg (be bs) with
   | false=>rfl
   | true=>exact absurd ⟨hb,.inr (.inr e)⟩ hp
  have hv1 : parseV (be bs) ≠ 1:=fun e=>by
   have h0 : parseE (be bs) = 0:=by
    by_cases h0 : parseE (be bs) = 0
    ·exact h0
    ·rw [parseV,if_neg h0] at e; cases e
   have:=itoa_parse h0
   rw [e,itoa1] at this
   exact hp ⟨hb,.inr (.inl this.symm)⟩
  have hv0 : parseE (be bs) = 0 → parseV (be bs) ≠ 0:=fun h0 e=>by
   have:=itoa_parse h0
   rw [e,itoa0] at this
   exact hp ⟨hb,.inl this.symm⟩
  have hbad : pqBad bs = false:=by
   rw [pqBad]
   refine decide_eq_false ?_
   rintro (h | h | h | h)
   ·exact hbe h
   ·rw [hng] at h; cases h
   ·exact hv1 h
   ·exact hv0 h.1 h.2
  have hE : pqE bs = if parseE (ab bs) ≠ 0 ∨ parseE (be bs) ≠ 0 then 2 else if (Int.gcd (parseV (ab bs)) (parseV (be bs)) : Int) = 1 then 0 else 3:=by
   rw [pqE,if_neg ha,if_neg hne,hbad,if_neg (by decide)]
  by_cases hl : parseE (ab bs) ≠ 0 ∨ parseE (be bs) ≠ 0
  ·refine .inl ⟨?_,by rw [hE,if_pos hl]⟩
   rw [pqL,decide_eq_true hb,Bool.true_and,Bool.or_eq_true,decide_eq_true_eq,decide_eq_true_eq]
   omega
  ·rw [if_neg hl] at hE
   have e1 : parseE (ab bs) = 0:=by omega
   have e2 : parseE (be bs) = 0:=by omega
   have hL : pqL bs = false:=by rw [pqL,e1,e2]; simp
   have hd:=parse_pos hng (hv0 e2)
   have hR : pqR bs = RN (parseV (ab bs)) (parseV (be bs)):=by rw [pqR,if_pos hb]
   right
   by_cases hg : (Int.gcd (parseV (ab bs)) (parseV (be bs)) : Int) = 1
   ·rw [if_pos hg] at hE
    refine .inl ⟨hL,?_,hE,?_⟩
    ·rw [hR,RN_is]; exact decide_eq_true ⟨hd,hg⟩
    ·rw [pqV,if_pos hE,if_neg hne,RN_of hd hg,hR]
   ·rw [if_neg hg] at hE
    refine .inr ⟨hL,?_,hE⟩
    rw [hR,RN_is]; exact decide_eq_false (fun c=>hg c.2)
 ·have he : cutN bs = bs.length:=by omega
  have hE : pqE bs = parseE (ab bs):=by rw [pqE,if_neg ha,if_pos he]
  have hR : pqR bs = RN (parseV (ab bs)) 1:=by rw [pqR,if_neg hb]
  rcases ca with c | c | c
  ·right; left
   refine ⟨by rw [pqL,c,decide_eq_false hb]; rfl,?_,by rw [hE,c],?_⟩
   ·rw [hR,RN_is]; exact decide_eq_true ⟨by decide,by rw [Int.gcd_one]; rfl⟩
   ·rw [pqV,if_pos (by rw [hE,c]),if_pos he,hR]; rfl
  ·exact .inl ⟨by rw [pqL,c]; rfl,by rw [hE,c]⟩
  ·exact absurd c ha
@[reducible] def pqH (bs : List UInt8) : List (Nat × Blk):=[(1002,⟨26,4,.mix ((cR (pqV bs)).map .p)⟩),(1003,⟨28,1,.mix [.p (vZ (pqE bs))]⟩)]
theorem dpost_pan {bs : List UInt8} {e : Int} {S : St} {a b c d x : Pure} (he : pqE bs = e) (h0 : e ≠ 0) (h1 : S.slot 2 = some (.at_ 1002 0 4)) (h2 : S.slot 3 = some (.at_ 1003 0 1)) (h3 : S.blk 1002 = some ⟨26,4,.mix [.p a,.p b,.p c,.p d]⟩) (h4 : S.blk 1003 = some ⟨28,1,.mix [.p x]⟩) :
  DPost E 93 2 3 1002 1003 4 1 (pqH bs) (.panic (stopV e)) S:=by
 have hH : pqH bs = [(1002,⟨26,4,.mix ((cR R0).map .p)⟩),(1003,⟨28,1,.mix [.p (vZ e)]⟩)]:=by
  have : pqV bs = R0:=by rw [pqV,if_neg (by rw [he]; exact h0)]
  rw [pqH,this,he]
 exact ⟨h1,h2,_,_,_,_,.inr ⟨_,rfl,rfl⟩,⟨h3,h4,trivial⟩,rfl,rfl,hH ▸ dg_pan e a b c d x,rfl⟩
theorem dpost_ret {bs : List UInt8} {S : St} (h1 : S.slot 2 = some (.at_ 1002 0 4)) (h2 : S.slot 3 = some (.at_ 1003 0 1)) (h3 : S.blk 1002 = some ⟨26,4,.mix ((cR (pqV bs)).map .p)⟩) (h4 : S.blk 1003 = some ⟨28,1,.mix [.p (vZ (pqE bs))]⟩) :
  DPost E 93 2 3 1002 1003 4 1 (pqH bs) .ret S :=
 ⟨h1,h2,_,_,_,_,.inl ⟨.inr rfl,rfl⟩,⟨h3,h4,trivial⟩,rfl,rfl,dg_ret _ _,rfl⟩
theorem pb4 (p q r : Prop) : ¬ p ∨ (p ∧ q) ∨ (p ∧ ¬ q ∧ r) ∨ (p ∧ ¬ q ∧ ¬ r):=by
 by_cases p <;> by_cases q <;> by_cases r <;> simp [*]
theorem pqH_n {bs : List UInt8} (j : Nat) (h : (pqH bs).lookup j ≠ none) : j = 1002 ∨ j = 1003:=by
 by_cases e : j = 1002
 ·exact .inl e
 ·by_cases e2 : j = 1003
  ·exact .inr e2
  ·exact absurd (by simp [pqH,List.lookup_cons,show (j == 1002) = false by simpa using e,show (j == 1003) = false by simpa using e2]) h
theorem args2 {S : St} {o1 o2 : Operand} {y : Pure} (h : S.opd o1 = some (.p y)) : ∀ (i : Nat) (x : PV) (o : Operand),[PV.p y,PV.dead][i]? = some x → [o1,o2][i]? = some o → x = .dead ∨ ∃ y,x = .p y ∧ S.opd o = some (.p y)
 | 0,x,o,h1,h2=>by injection h1 with h1; injection h2 with h2; subst h1 h2; exact .inr ⟨y,rfl,h⟩
 | 1,x,o,h1,h2=>by injection h1 with h1; subst h1; exact .inl rfl
 | n + 2,x,o,h1,h2=>by simp at h1
theorem qparse_says (bs : List UInt8) (hl : bs.length < 100000) : Says E 50 [pS bs] (.tup [.agg (cR (pqV bs)),vZ (pqE bs)]):=by
 refine says_defer (H':=pqH bs) (xs:=[.agg (cR (pqV bs)),vZ (pqE bs)]) (args:=[pS bs]) (k2:=1002) (k3:=1003) (n2:=4) (n3:=1) (fun w h=>ng_le h) Tryz.func50 rfl Tryz.ntmps50 Tryz.results50 (by simp) zv26 (.cons rfl (.cons rfl (.cons rfl (.cons rfl .nil)))) rfl zv28 (.cons rfl .nil) rfl (by simp) (by simp) (by simp) (by decide) (by decide) (by decide) (by decide) cl93 rfl rfl pqH_n rfl rfl (.cons (.agg rfl rfl rfl ag26 sz26 (.cons (.cons (.cons (.cons .nil))))) (.cons (.one rfl rfl ag28) .nil)) fun F hG hX0 hnt P0 hro=>?_
 obtain ⟨L,hX,hN⟩:=pro hnt hX0 hG
 have hcl:=cutN_le bs
 have la : (ab bs).length ≤ bs.length:=by simp only [ab,List.length_take]; omega
 have lb : (be bs).length ≤ bs.length:=by simp only [be,List.length_drop]; omega
 have na:=nw_parse (ab bs)
 have nb:=nw_parse (be bs)
 refine exr (mV (L rfl) rfl (cK hG hX cl94 hN (scut_says bs (by omega)) (L rfl) t2 ?_))
 refine mV (L rfl) rfl (sw (c_ex rfl (L rfl)) t1 t0 (sw (c_ex rfl (L rfl)) t1 t0 (sw (c_ex rfl (L rfl)) t1 t0 (aV (L rfl) rfl (aV (L rfl) rfl (aV (L rfl) rfl (zn [(2,_),(3,_),(4,_),(5,_),(6,_)] [(1002,_),(1003,_)] t5 t2 (ex_seq ?_))))))))
 refine exm (sl:=[(27,vb (decide (cutN bs < bs.length ∧ (be bs = [48] ∨ be bs = [49] ∨ pNeg (be bs) = true))))]) (sl0:=[(2,_),(3,_),(4,_),(5,_),(6,_)]) (hb:=[]) (hb0:=[(1002,_),(1003,_)]) t5 t2 ?_ ?_
 ·rcases pb4 (cutN bs < bs.length) (be bs = [48]) (be bs = [49]) with hb | ⟨hb,h0⟩ | ⟨hb,h0,h1⟩ | ⟨hb,h0,h1⟩
  ·refine mV (L rfl) rfl (mV (L rfl) rfl (swn (g:=16) rfl (decide_eq_false hb) (L rfl) rfl (swn (g:=16) rfl (decide_eq_false hb) (L rfl) rfl (swn (g:=16) rfl (decide_eq_false hb) (L rfl) rfl (swu (g:=19) rfl (L rfl) rfl (swu (g:=19) rfl (L rfl) rfl (swn (g:=16) rfl (decide_eq_false hb) (L rfl) rfl (swn (g:=16) rfl (decide_eq_false hb) (L rfl) rfl (swu (g:=23) rfl (L rfl) rfl (swu (g:=23) rfl (L rfl) rfl (swn (g:=16) rfl (decide_eq_false hb) (L rfl) rfl ?_)))))))))))
   refine sw (c_pf (decide_eq_false hb) (L rfl)) t2 t0 ?_
   exact seq_nil ⟨⟨ob rfl (decide_eq_false (fun c=>hb c.1)).symm,rfl,rfl,rfl,rfl,rfl,trivial⟩,t2⟩
  ·refine mV (L rfl) rfl (mV (L rfl) rfl (gV (g:=16) rfl (decide_eq_true hb) (L rfl) rfl rfl (swg (g:=16) rfl (decide_eq_true hb) (c_se (L rfl)) rfl t2 t0 (gV (g:=16) rfl (decide_eq_true hb) (L rfl) rfl rfl (swn (g:=19) rfl (decide_eq_true h0) (L rfl) rfl (swn (g:=19) rfl (decide_eq_true h0) (L rfl) rfl (swg (g:=16) rfl (decide_eq_true hb) (c_pt (decide_eq_true h0) (L rfl)) rfl t2 t0 (gV (g:=16) rfl (decide_eq_true hb) (L rfl) rfl rfl (swn (g:=23) rfl rfl (L rfl) rfl (swn (g:=23) rfl rfl (L rfl) rfl (swg (g:=16) rfl (decide_eq_true hb) (c_pt rfl (L rfl)) rfl t2 t0 ?_)))))))))))
   refine sw (c_pt (decide_eq_true hb) (L rfl)) t2 t0 ?_
   exact seq_nil ⟨⟨ob rfl (decide_eq_true ⟨hb,.inl h0⟩).symm,rfl,rfl,rfl,rfl,rfl,trivial⟩,t2⟩
  ·refine mV (L rfl) rfl (mV (L rfl) rfl (gV (g:=16) rfl (decide_eq_true hb) (L rfl) rfl rfl (swg (g:=16) rfl (decide_eq_true hb) (c_se (L rfl)) rfl t2 t0 (gV (g:=16) rfl (decide_eq_true hb) (L rfl) rfl rfl (gV (g:=19) rfl (decide_eq_false h0) (L rfl) rfl rfl (swg (g:=19) rfl (decide_eq_false h0) (c_se (L rfl)) rfl t2 t0 (swg (g:=16) rfl (decide_eq_true hb) (c_pf (decide_eq_false h0) (L rfl)) rfl t2 t0 (gV (g:=16) rfl (decide_eq_true hb) (L rfl) rfl rfl (swn (g:=23) rfl (decide_eq_true h1) (L rfl) rfl (swn (g:=23) rfl (decide_eq_true h1) (L rfl) rfl (swg (g:=16) rfl (decide_eq_true hb) (c_pt (decide_eq_true h1) (L rfl)) rfl t2 t0 ?_)))))))))))
   refine sw (c_pt (decide_eq_true hb) (L rfl)) t2 t0 ?_
   exact seq_nil ⟨⟨ob rfl (decide_eq_true ⟨hb,.inr (.inl h1)⟩).symm,rfl,rfl,rfl,rfl,rfl,trivial⟩,t2⟩
  ·refine mV (L rfl) rfl (mV (L rfl) rfl (gV (g:=16) rfl (decide_eq_true hb) (L rfl) rfl rfl (swg (g:=16) rfl (decide_eq_true hb) (c_se (L rfl)) rfl t2 t0 (gV (g:=16) rfl (decide_eq_true hb) (L rfl) rfl rfl (gV (g:=19) rfl (decide_eq_false h0) (L rfl) rfl rfl (swg (g:=19) rfl (decide_eq_false h0) (c_se (L rfl)) rfl t2 t0 (swg (g:=16) rfl (decide_eq_true hb) (c_pf (decide_eq_false h0) (L rfl)) rfl t2 t0 (gV (g:=16) rfl (decide_eq_true hb) (L rfl) rfl rfl (gV (g:=23) rfl (decide_eq_false h1) (L rfl) rfl rfl (swg (g:=23) rfl (decide_eq_false h1) (c_c hG hX cl95 rfl hN (shp_says (be bs)) (L rfl)) rfl t2 t0 (swg (g:=16) rfl (decide_eq_true hb) (c_pf (decide_eq_false h1) (L rfl)) rfl t2 t0 ?_)))))))))))
   refine sw (c_pt (decide_eq_true hb) (L rfl)) t2 t0 ?_
   exact seq_nil ⟨⟨ob rfl (by rw [Bool.eq_iff_iff,decide_eq_true_iff]; exact ⟨fun c=>⟨hb,.inr (.inr c)⟩,fun c=>(c.2.resolve_left h0).resolve_left h1⟩),rfl,rfl,rfl,rfl,rfl,trivial⟩,t2⟩
 refine ex_if rfl (fun hp=>?_) (fun hp=>?_)
 ·refine exrX 2 (ch:=stopV 3) rfl rfl (nsw (c_bp (vs:=[_]) un92 zv92 (.cons rfl .nil) ((Places.cons sz28 Places.nil)).to rfl (.cons rfl (.atom rfl) rfl pu1 .nil) (.cons .nil) (L rfl)) t1 t0 (nsw (core_mkIface un92 (L rfl)) t1 t0 ?_))
  refine .nil ⟨opX_panic (stopR 3) rfl,?_⟩
  exact dpost_pan (pq_pre (dt hp)) (by decide) rfl rfl rfl rfl
 ·have hp:=df hp
  refine ex_skip (show Exec _ _ _ _ _ from ?_)
  refine exr (swb (c_al (k:=7) (n:=1) zv4 (.cons rfl .nil) rfl (P0 _ rfl) (L rfl)) t0 t0 ⟨rfl,rfl⟩ (sb (c_sm sz4 (by rfl) (.atom rfl) rfl pu1) t2 t1 ?_))
  refine zn [(2,_),(3,_),(4,_),(5,_),(6,_),(7,_)] [(7,_),(1002,_),(1003,_)] t6 t3 ?_
  by_cases ha : parseE (ab bs) = 3
  ·refine ex_seq (exrX 1 (ch:=stopV 3) rfl rfl (nsw (c_m (L rfl)) t1 t0 ?_))
   refine .nil ⟨opX_call hG hX cl96 hN (int_bad (ab bs) (by omega) ha) rfl (args2 rfl),?_⟩
   exact dpost_pan (pq_a ha) (by decide) rfl rfl rfl rfl
  ·refine exr (mV (L rfl) rfl (swB (c_cx hG hX [7] hN (int_ok false (ab bs) (by omega) ha) rfl (args_fn (ys:=[_,_]) cl96 rfl (by rfl)) (by rfl) (by rfl) (by rfl) (by rfl) (SameH.to (.cons rfl .nil)) (by rfl) (by rfl) (L rfl)) t2 t1 ?_))
   refine cK hG hX cl17 hN (qwhole_says (parseV (ab bs))) (L rfl) t1 (sb (c_sm sz26 (by rfl) pa4 rfl pu4) t2 t1 ?_)
   refine zn [(2,_),(3,_),(5,_),(6,_),(7,_)] [(7,_),(1002,_),(1003,_)] t5 t3 (ex_seq (exr (mV (L rfl) rfl (zn [(2,_),(3,_),(5,_),(7,_),(33,_)] [(7,_),(1002,_),(1003,_)] t5 t3 ?_))))
   by_cases hbe : cutN bs < bs.length ∧ parseE (be bs) = 3
   ·refine ex_if rfl (fun hb=>?_) (fun hb=>?_)
    ·refine exrX 1 (ch:=stopV 3) rfl rfl (nsw (c_m (L rfl)) t1 t0 ?_)
     refine .nil ⟨opX_call hG hX cl96 hN (int_bad (be bs) (by omega) hbe.2) rfl (args2 rfl),?_⟩
     exact dpost_pan (pq_b hbe.1 hbe.2) (by decide) rfl rfl rfl rfl
    ·exact absurd hbe.1 (df hb)
   ·refine ex_cut (sl:=[]) (sl0:=[(2,_),(3,_),(7,_)]) (hb:=[(7,bL (pqL bs)),(1002,⟨26,4,.mix ((cR (pqR bs)).map .p)⟩)]) (hb0:=[(1003,_)]) t3 t1 ?_ ?_
    ·refine ex_if rfl (fun hb=>?_) (fun hb=>?_)
     ·have hb:=dt hb
      refine exr0 (mV (L rfl) rfl (swB (c_cx hG hX [7] hN (int_ok (false || decide (parseE (ab bs) = 2)) (be bs) (by omega) (fun c=>hbe ⟨hb,c⟩)) rfl (args_fn (ys:=[_,_]) cl96 rfl (by rfl)) (by rfl) (by rfl) (by rfl) (by rfl) (SameH.to (.cons rfl .nil)) (by rfl) (by rfl) (L rfl)) t2 t1 ?_))
      refine sw (c_fa un26 rfl sz24 (by decide) (by exact rfl) (L rfl)) t1 t1 ?_
      refine sb (c_sm sz24 (by rfl) pa2 rfl (.skip (.skip pu2))) t2 t1 ?_
      refine seq_nil ?_
      exact ⟨⟨(by first | exact rfl | exact oi (by omega) rfl),(by first | exact rfl | exact oi (by omega) rfl),(by first | exact rfl | exact oi (by omega) rfl),trivial⟩,⟨(by rw [pqL,decide_eq_true hb,Bool.true_and]; rfl),(by rw [pqR,if_pos hb]; rfl),rfl,trivial⟩⟩
     ·have hb:=df hb
      refine ex_skip ?_
      exact ⟨⟨(by first | exact rfl | exact oi (by omega) rfl),(by first | exact rfl | exact oi (by omega) rfl),(by first | exact rfl | exact oi (by omega) rfl),trivial⟩,⟨(by rw [pqL,decide_eq_false hb,Bool.false_and,Bool.or_false]; rfl),(by rw [pqR,if_neg hb]; rfl),rfl,trivial⟩⟩
    ·rcases pq_fin ha hp (fun c e=>hbe ⟨c,e⟩) with ⟨e1,e2⟩ | e3
     ·rw [e1]
      refine ex_seq (ex_block (exr (sw (c_l1 ag4 (by rfl) (by rfl) (L rfl)) t1 t1 ?_)))
      refine aV (L rfl) rfl (zn [(2,_),(3,_),(37,_)] [(1002,_),(1003,_)] t3 t2 ?_)
      refine ex_if rfl (fun hq=>?_) (fun hq=>?_)
      ·refine exrX 2 (ch:=stopV 2) rfl rfl (nsw (c_bp (vs:=[_]) un92 zv92 (.cons rfl .nil) ((Places.cons sz28 Places.nil)).to rfl (.cons rfl (.atom rfl) rfl pu1 .nil) (.cons .nil) (L rfl)) t1 t0 (nsw (core_mkIface un92 (L rfl)) t1 t0 ?_))
       refine .nil ⟨opX_panic (stopR 2) rfl,?_⟩
       exact dpost_pan e2 (by decide) rfl rfl rfl rfl
      ·cases hq
     ·have e1 : pqL bs = false:=e3.elim And.left And.left
      rw [e1]
      refine ex_seq (ex_block (exr (sw (c_l1 ag4 (by rfl) (by rfl) (L rfl)) t1 t1 ?_)))
      refine aV (L rfl) rfl (zn [(2,_),(3,_),(37,_)] [(1002,_),(1003,_)] t3 t2 ?_)
      refine ex_if rfl (fun hq=>?_) (fun hq=>?_)
      ·cases hq
      ·refine exr (lp4 ag26 sz26 (L rfl) rfl rfl (cK hG hX cl19 hN (qis_says (r:=pqR bs) ⟨wd_digs _,wd_digs _⟩ (by show nw _ < _; omega) (by show nw _ < _; split <;> (try rw [nw_one]); all_goals omega)) (L rfl) t1 ?_))
       refine sw (c_no (L rfl)) t1 t0 (aV (L rfl) rfl (zn [(2,_),(3,_),(41,_)] [(1002,_),(1003,_)] t3 t2 ?_))
       rcases e3 with ⟨-,i1,i2,i3⟩ | ⟨-,i1,i2⟩
       ·rw [i1]
        refine ex_if rfl (fun hq=>?_) (fun hq=>?_)
        ·cases hq
        ·refine ex_skip (show Exec _ _ _ _ _ from ?_)
         refine exr (lp4 ag26 sz26 (L rfl) rfl rfl (sb (c_sm sz26 (by rfl) pa4 rfl pu4) t2 t1 ?_))
         refine sb (c_sm sz28 (by rfl) (.atom rfl) rfl pu1) t2 t1 ?_
         refine zn [(2,_),(3,_)] [(1002,_),(1003,_)] t2 t2 (ex_ret ?_)
         exact dpost_ret rfl rfl (by rw [i3]; rfl) (by rw [i2]; rfl)
       ·rw [i1]
        refine ex_if rfl (fun hq=>?_) (fun hq=>?_)
        ·refine exrX 2 (ch:=stopV 3) rfl rfl (nsw (c_bp (vs:=[_]) un92 zv92 (.cons rfl .nil) ((Places.cons sz28 Places.nil)).to rfl (.cons rfl (.atom rfl) rfl pu1 .nil) (.cons .nil) (L rfl)) t1 t0 (nsw (core_mkIface un92 (L rfl)) t1 t0 ?_))
         refine .nil ⟨opX_panic (stopR 3) rfl,?_⟩
         exact dpost_pan i2 (by decide) rfl rfl rfl rfl
        ·cases hq
end Go.Proofs.YtcifhkfpmhifaaaGreatDoor.N
set_option maxRecDepth 100000
set_option maxHeartbeats 4000000
namespace Go.Proofs.YtcifhkfpmhifaaaGreatDoor.N
open Go Go.Proofs.YtcifhkfpmhifaaaGreatDoor.SH Go.Proofs.YtcifhkfpmhifaaaGreatDoor.NumA
theorem cutN_none {bs : List UInt8} (h : ∀ c ∈ bs,c.toNat ≠ 47) : cutN bs = bs.length:=by
 induction bs with
 | nil=>rfl
 | cons c l ih =>
  rw [cutN,if_neg (h c (by simp)),ih (fun c hc=>h c (by simp [hc]))]; rfl
theorem cutN_app {xs l : List UInt8} (h : ∀ c ∈ xs,c.toNat ≠ 47) : cutN (xs ++ 47 :: l) = xs.length:=by
 induction xs with
 | nil=>rfl
 | cons c xs ih =>
  rw [List.cons_append,cutN,if_neg (h c (by simp)),ih (fun c hc=>h c (by simp [hc]))]; rfl
theorem itoa_no {n : Int} : ∀ c ∈ Lib.itoa n,c.toNat ≠ 47:=by
 have hd : ∀ u,∀ c ∈ Lib.decDigits u,c.toNat ≠ 47:=fun u c hc=>by
  obtain ⟨d,-⟩:=dec_digits u u (Nat.le_refl _)
  obtain ⟨i,hi,rfl⟩:=List.getElem_of_mem hc
  have:=d.get (i:=i) hi
  rw [List.getD_eq_getElem?_getD,List.getElem?_eq_getElem hi,Option.getD_some] at this
  omega
 rw [Lib.itoa]
 split
 ·intro c hc
  rcases List.mem_cons.1 hc with rfl | hc
  ·decide
  ·exact hd _ c hc
 ·exact fun c hc=>hd _ c hc
theorem itoa_neg {n : Int} : pNeg (Lib.itoa n) = decide (n < 0):=by
 have hp : ∀ u,0 < (Lib.decDigits u).length:=dec_pos
 rw [Lib.itoa]
 split
 ·rename_i h; rw [decide_eq_true h]; simp [pNeg]
 ·rename_i h
  rw [decide_eq_false h,pNeg]
  refine decide_eq_false fun c=>?_
  obtain ⟨d,-⟩:=dec_digits n.toNat n.toNat (Nat.le_refl _)
  have:=d.get (i:=0) (hp _)
  omega
theorem parse_print {a : Rat} (h1 : nw a.num ≤ 1000) (h2 : nw (a.den : Int) ≤ 1000) : pqE (printQ a) = 0 ∧ pqV (printQ a) = RQ.of a:=by
 obtain ⟨e1,v1⟩:=parse_itoa h1
 obtain ⟨e2,v2⟩:=parse_itoa h2
 have hp:=a.den_pos
 have hg : (Int.gcd a.num a.den : Int) = 1:=by
  have:=a.reduced
  unfold Nat.Coprime at this
  unfold Int.gcd
  exact_mod_cast this
 by_cases hd : (a.den : Int) = 1
 ·have hP : printQ a = Lib.itoa a.num:=by rw [printQ,if_pos hd]
  have hc:=cutN_none (itoa_no (n:=a.num))
  have hab : ab (Lib.itoa a.num) = Lib.itoa a.num:=by rw [ab,hc,List.take_length]
  have hE : pqE (Lib.itoa a.num) = 0:=by rw [pqE,hab,e1,if_neg (by decide),if_pos hc]
  rw [hP]
  refine ⟨hE,?_⟩
  rw [pqV,if_pos hE,if_pos hc,hab,v1]
  congr 1
  have:=Rat.mkRat_self a
  have hd' : a.den = 1:=by exact_mod_cast hd
  apply Rat.ext
  ·rw [Rat.num_intCast]
  ·rw [Rat.den_intCast,hd']
 ·have hP : printQ a = Lib.itoa a.num ++ 47 :: Lib.itoa a.den:=by rw [printQ,if_neg hd]
  have hc:=cutN_app (xs:=Lib.itoa a.num) (l:=Lib.itoa a.den) itoa_no
  have hne : ¬ cutN (Lib.itoa a.num ++ 47 :: Lib.itoa a.den) = (Lib.itoa a.num ++ 47 :: Lib.itoa a.den).length:=by rw [hc,List.length_append,List.length_cons]; omega
  have hab : ab (Lib.itoa a.num ++ 47 :: Lib.itoa a.den) = Lib.itoa a.num:=by rw [ab,hc,List.take_left]
  have hbe : be (Lib.itoa a.num ++ 47 :: Lib.itoa a.den) = Lib.itoa a.den:=by
   rw [be,hc,← List.drop_drop,List.drop_left]; rfl
  have hbad : pqBad (Lib.itoa a.num ++ 47 :: Lib.itoa a.den) = false:=by
   rw [pqBad,hbe,e2,v2,itoa_neg]
   refine decide_eq_false ?_
   rintro (h | h | h | ⟨-,h⟩)
   ·cases h
   ·exact absurd (of_decide_eq_true h) (by omega)
   ·exact hd h
   ·omega
  have hE : pqE (Lib.itoa a.num ++ 47 :: Lib.itoa a.den) = 0:=by
   rw [pqE,hab,e1,if_neg (by decide),if_neg hne,hbad,if_neg (by decide),hbe,e2,if_neg (by simp),v1,v2,if_pos hg]
  rw [hP]
  refine ⟨hE,?_⟩
  rw [pqV,if_pos hE,if_neg hne,hab,hbe,v1,v2,Rat.num_divInt_den]
end Go.Proofs.YtcifhkfpmhifaaaGreatDoor.N
