/- Part C of the proof: lemmas for the walks of the given functions. No statement of its own. -/
import Derived.Laws.IdiomStrings
import Derived.RangeFuncRecord
import Derived.RangeFuncIn
import Derived.RangeFuncLeaves
import Derived.Test.YtcifhkfpmhifaaaGreatDoorPB
set_option linter.unusedVariables false
set_option linter.unusedSimpArgs false
set_option linter.deprecated false
set_option maxRecDepth 100000
set_option maxHeartbeats 4000000
namespace Go.Proofs.YtcifhkfpmhifaaaGreatDoor.N
open Go Go.Proofs.YtcifhkfpmhifaaaGreatDoor.SH Go.Proofs.YtcifhkfpmhifaaaGreatDoor.NumA
open Go.Proofs.Tryz renaming isAgg68 → ag68,sizeOf68 → sz68,underlying22 → un22,underlying68 → un68,underlying78 → un78
theorem short_says (ws : List Int) (d : Int) (hl : ws.length < 10000000000000) (h : Wd ws) (hd : 0 < d ∧ d < 4294967296) : SaysX E 127 [.ref 1000 0 ws.length ws.length,.p (oZ d)] [(1000,⟨68,1,.pure (encW ws)⟩)] [(1000,⟨68,1,.pure (encW (digN ws.length (val ws / d)))⟩)] (oZ (val ws % d)):=by
 refine saysX_of (xs:=[oZ (val ws % d)]) Tryz.func127 rfl Tryz.ntmps127 Tryz.results127 (by simp) rfl (sub_of rfl) fun F hG hX hnt hdf P0 hXp=>?_
 have L:=lti hnt
 have hN:=ng_le hG
 refine exr (aV (L rfl) rfl (zn [(0,_),(1,_)] [(1000,_)] t2 t1 (exr (aV (L rfl) rfl (zn [(0,_),(1,_),(5,_)] [(1000,_)] t3 t1 (ex_seq (exr (mV (L rfl) rfl (sw (c_lr un22 (by exact (by simp)) (L rfl)) t1 t1 ?_)))))))))
 refine sw (c_su (L rfl) (w64 (by omega) (by omega))) t2 t0 ?_
 refine aV (L rfl) rfl (zn [(0,_),(1,_),(5,_),(6,_)] [(1000,_)] t4 t1 (ex_block ?_))
 refine exl (α:=(Nat × List Int × Int)) (fun x=>[(6,vi ((x.1:Int) - 1)),(5,vw x.2.2)]) (fun x=>[(1000,⟨68,1,.pure (encW (ws.take x.1 ++ x.2.1))⟩)]) (fun x=>ShortAt ws d x) (fun x=>x.1) ((ws.length,([] : List Int),(0 : Int))) (sl:=[(0,_),(1,_)]) (hb:=[]) ?_ ⟨(by first | exact rfl | exact oi (by omega) rfl),(by first | exact rfl | exact oi (by omega) rfl),rfl,rfl,trivial⟩ ⟨obl rfl (by simp),trivial⟩ ?_
 ·exact ShortAt.start ws d
 intro x hx
 obtain ⟨n,qs,r⟩:=x
 have hle:=hx.le
 have hq : qs.length = ws.length - n:=by have:=hx.q; simp only at this; rw [this,digN_length]
 have hr : 0 ≤ r ∧ r < d:=by have:=hx.r; simp only at this; rw [this]; exact ⟨Int.emod_nonneg _ (by omega),Int.emod_lt_of_pos _ hd.1⟩
 simp only at hle
 dsimp only
 refine ex_seq (exr (mV (L rfl) rfl (sw (c_ge (L rfl)) t2 t0 (zn [(0,_),(1,_),(5,_),(6,_),(11,_)] [(1000,_)] t5 t1 ?_))))
 refine ex_if rfl (fun he=>?_) (fun he=>?_)
 ·have he:=dt he
  obtain ⟨key,k1,k2⟩:=hx.next h hd.1 (by omega)
  have hw:=h.getD (n - 1)
  have hg : (ws.take n ++ qs).getD (n - 1) 0 = ws.getD (n - 1) 0:=getD_head (by omega) (by omega)
  refine ex_skip (show Exec _ _ _ _ _ from ?_)
  refine ex_seq (ex_block (exr (mV (L rfl) rfl (sw (c_sl (L rfl) (by decide) (shlE (c:=4294967296) (by rfl) (fu64 (by omega) (by omega)))) t2 t0 ?_))))
  refine mV (L rfl) rfl (mV (L rfl) rfl (sw (ixR0 un22 sz68 (by exact (by simp; omega)) (j:=n - 1) (by first | exact rfl | omega) (by omega) (L rfl)) t2 t1 ?_))
  refine sw (c_l1 ag68 (by exact (by simp; omega)) (getC (getW (ws:=ws.take n ++ qs) (i:=n - 1) (by simp; omega))) (L rfl)) t1 t1 ?_
  refine sw (c_cv un68 un78 (L rfl) (show _ = ws.getD (n - 1) 0 by rw [hg]; exact w64u (by omega) (by omega))) t1 t0 ?_
  refine sw (c_or (L rfl) (or64' (b:=r) 32 rfl hw.1 hw.2 hr.1 (by decide) (by omega) (by omega))) t2 t0 ?_
  refine aV (L rfl) rfl ?_
  refine seq_nil ⟨[(0,_),(1,_),(5,vw (r * 4294967296 + ws.getD (n - 1) 0)),(6,_)],[(1000,_)],⟨rfl,rfl,oi (by omega) rfl,rfl,trivial⟩,t1,?_⟩
  refine exr (mV (L rfl) rfl (mV (L rfl) rfl (mV (L rfl) rfl (mV (L rfl) rfl (sw (c_cv un68 un78 (L rfl) (fu64 (by omega) (by omega))) t1 t0 ?_)))))
  refine sw (c_q (L rfl) (by omega) (tdivE (by omega) (by omega))) t2 t0 ?_
  refine sw (c_cv un78 un68 (L rfl) (fu32 (by omega) (by omega))) t1 t0 ?_
  refine sw (ixR0 un22 sz68 (by exact (by simp; omega)) (j:=n - 1) (by first | exact rfl | omega) (by omega) (L rfl)) t2 t1 ?_
  refine sb (c_s1 sz68 (by exact (by simp; omega)) (.atom rfl) (by omega)) t2 t1 ?_
  refine zn [(0,_),(1,_),(5,_),(6,_)] [(1000,_)] t4 t1 (exr0 (mV (L rfl) rfl (mV (L rfl) rfl (sw (c_cv un68 un78 (L rfl) (fu64 (by omega) (by omega))) t1 t0 ?_))))
  refine sw (c_r (L rfl) (by omega) (tmodE (by omega) (by omega))) t2 t0 ?_
  refine aV (L rfl) rfl (seq_nil (exr0 (mV (L rfl) rfl (sw (c_su (L rfl) (w64 (by omega) (by omega))) t2 t0 ?_))))
  refine aV (L rfl) rfl (seq_nil ?_)
  exact ⟨(n - 1,(r * 4294967296 + ws.getD (n - 1) 0) / d :: qs,(r * 4294967296 + ws.getD (n - 1) 0) % d),key,(by simp only; omega),le_of ⟨(by first | exact rfl | exact oi (by omega) rfl),(by first | exact rfl | exact oi (by omega) rfl),rfl,rfl,trivial⟩ ⟨obl rfl (by rw [encW_set,set_last (by simp; omega),List.take_take,Nat.min_eq_left (by omega)]),trivial⟩⟩
 ·have he:=df he
  have hn : n = 0:=by omega
  subst hn
  have e1 : r = val ws % d:=by simpa using hx.r
  have e2 : qs = digN ws.length (val ws / d):=by simpa using hx.q
  refine ex_exit (show Exec _ _ _ _ _ from ?_)
  refine exr (mV (L rfl) rfl (sw (c_cv un78 un68 (L rfl) (fu32 (by omega) (by omega))) t1 t0 ?_))
  refine aV (L rfl) rfl (zn [(4,_)] [(1000,_)] t1 t1 (ex_ret ?_))
  refine ⟨.inr rfl,ResVs.cast (.cons (.tmp rfl) .nil) ?_,⟨obl rfl (by simp [e2]),trivial⟩⟩
  rw [e1]
end Go.Proofs.YtcifhkfpmhifaaaGreatDoor.N
set_option maxRecDepth 100000
set_option maxHeartbeats 4000000
namespace Go.Proofs.YtcifhkfpmhifaaaGreatDoor.N
open Go Go.Proofs.YtcifhkfpmhifaaaGreatDoor.SH Go.Proofs.YtcifhkfpmhifaaaGreatDoor.NumA
open Go.Proofs.Tryz renaming isAgg68 → ag68,sizeOf68 → sz68,typeInfo68 → ti68,underlying22 → un22,underlying68 → un68,underlying78 → un78
theorem shifted_says (ws : List Int) (k : Nat) (hl : ws.length < 9999999999999) (h : Wd ws) (hk : k < 32) : SaysO E 131 [pW ws,vZ k] 68 1 (ws.length + 1) (encW (digN (ws.length + 1) (val ws * 2 ^ k))):=by
 refine saysO_of (k:=11) (tot:=ws.length + 1) Tryz.func131 rfl Tryz.ntmps131 Tryz.results131 (by simp) fun F hG hX0 hnt hdf P0=>?_
 obtain ⟨L,hX,hN⟩:=pro hnt hX0 hG
 refine exr (aV (L rfl) rfl (zn [(0,_),(1,_)] [] t2 trivial (exr (mV (L rfl) rfl (sw (c_ln un22 (L rfl)) t1 t0 (sw (c_ad (L rfl) (w64 (by omega) (by omega))) t2 t0 ?_))))))
 refine swb (c_mk (k:=11) un22 ti68 rfl rfl rfl rfl (show _ = ((ws.length + 1 : Nat) : Int) by omega) (show _ = ((ws.length + 1 : Nat) : Int) by omega) (Nat.le_refl _) (by simp [Tryz.t68]; omega) (by omega) (P0 _ rfl) (L rfl)) t2 t0 ⟨rfl,rfl⟩ ?_
 refine aV (L rfl) rfl (zn [(0,_),(1,_),(5,_)] [(11,_)] t3 t1 (ex_seq (exr (mV (L rfl) rfl (sw (c_ln un22 (L rfl)) t1 t0 (mV (L rfl) rfl (zn [(1,_),(5,_),(12,_),(13,_),(14,_)] [(11,_)] t5 t1 (ex_block ?_))))))))
 refine exl (α:=(Nat × List Int × Int)) (fun x=>[(14,vi (x.1:Int))]) (fun x=>[(11,⟨68,1,.pure (encW (x.2.1 ++ x.2.2 :: List.replicate (ws.length - x.1) 0))⟩)]) (fun x=>ShiftAt ws k x) (fun x=>ws.length - x.1) (((0 : Nat),([] : List Int),(0 : Int))) (sl:=[(1,_),(5,_),(12,_),(13,_)]) (hb:=[]) ?_ ⟨(by first | exact rfl | exact oi (by omega) rfl),rfl,rfl,rfl,rfl,trivial⟩ ⟨obl rfl (by rw [encW_rep]; rfl),trivial⟩ ?_
 ·exact ShiftAt.zero ws k
 intro x hx
 obtain ⟨i,ys,c⟩:=x
 have hlen:=hx.len
 have hle:=hx.le
 have h0:=hx.h0
 have h1:=hx.h1
 simp only at hlen hle h0 h1
 dsimp only
 refine exr (sw (c_ls (L rfl)) t2 t0 (zn [(1,_),(5,_),(12,_),(13,_),(14,_),(15,_)] [(11,_)] t6 t1 (ex_seq ?_)))
 refine ex_if rfl (fun he=>?_) (fun he=>?_)
 ·have he:=dt he
  have hw:=h.getD i
  have key:=hx.next h (by omega)
  have kq0:=key.h0
  have kq1:=key.h1
  simp only at kq0 kq1
  have hp:=pow32 (Nat.le_of_lt hk)
  have sa:=shl_add (Nat.le_of_lt hk) (ws.getD i 0) h0 h1
  have hg : (ys ++ c :: List.replicate (ws.length - i) 0).getD i 0 = c:=by rw [List.getD_eq_getElem?_getD,List.getElem?_append_right (by omega),hlen,Nat.sub_self]; rfl
  refine ex_skip (show Exec _ _ _ _ _ from ?_)
  refine ex_seq (ex_block (exr (mV (L rfl) rfl (sw (ixJ un22 sz68 (j:=i) (by first | exact rfl | omega) (by omega) (by simp) (L rfl)) t2 t0 ?_))))
  refine sw (c_li ag68 (by first | exact getW (by omega) | rfl) (L rfl)) t1 t0 ?_
  refine aV (L rfl) rfl (aV (L rfl) rfl (zn [(1,_),(5,_),(6,_),(7,_),(12,_),(13,_),(14,_)] [(11,_)] t7 t1 (exd (by rfl) ?_)))
  refine mV (L rfl) rfl (mV (L rfl) rfl (sw (ixR0 un22 sz68 (by exact (by simp; omega)) (j:=i) (by first | exact rfl | omega) (by omega) (L rfl)) t2 t1 ?_))
  refine sw (c_l1 ag68 (by exact (by simp; omega)) (getC (getW (by simp; omega))) (L rfl)) t1 t1 ?_
  refine mV (L rfl) rfl (mV (L rfl) rfl (sw (c_sl (L rfl) (by omega) (shl32k (Nat.le_of_lt hk))) t2 t0 ?_))
  refine sw (c_or (L rfl) (show _ = (ws.getD i 0 * 2 ^ k + c) % 4294967296 by rw [hg,or32 (b:=ws.getD i 0 % 2 ^ (32 - k)) k rfl h0 h1 sa.2.2.1 (Nat.le_of_lt hk) sa.2.2.2 sa.2.1,sa.1])) t2 t0 ?_
  refine sw (ixR0 un22 sz68 (by exact (by simp; omega)) (j:=i) (by first | exact rfl | omega) (by omega) (L rfl)) t2 t1 ?_
  refine sb (c_s1 sz68 (by exact (by simp; omega)) (.atom rfl) (by omega)) t2 t1 ?_
  refine seq_nil ⟨aoks [⟨[5],[],[19],[]⟩,⟨[6],[],[20],[]⟩,⟨[19,20],[11],[21],[]⟩,⟨[21],[11],[22],[]⟩,⟨[7],[],[23],[]⟩,⟨[1],[],[24],[]⟩,⟨[23,24],[],[25],[]⟩,⟨[22,25],[],[26],[]⟩,⟨[19,20],[11],[27],[]⟩,⟨[27,26],[11],[],[11]⟩] (by rfl) (by rfl) (by decide),[(1,_),(5,_),(6,_),(7,_),(12,_),(13,_),(14,_)],[(11,_)],t7,t1,?_⟩
  refine exr0 (mV (L rfl) rfl (mV (L rfl) rfl (sw (c_ad (L rfl) (w64 (by omega) (by omega))) t2 t0 ?_)))
  refine mV (L rfl) rfl (sw (c_cv un68 un78 (L rfl) (fu64 (by omega) (by omega))) t1 t0 ?_)
  refine mV (L rfl) rfl (sw (c_su (L rfl) (w64 (by omega) (by omega))) t2 t0 ?_)
  refine sw (c_sr (L rfl) (by omega) (show _ = (ws.getD i 0 * 2 ^ k + c) / 4294967296 by rw [shl_div (Nat.le_of_lt hk) _ h0 h1]; exact shr64s hk)) t2 t0 ?_
  refine sw (c_cv un78 un68 (L rfl) (fu32 (by omega) (by omega))) t1 t0 ?_
  refine sw (ixR0 un22 sz68 (by exact (List.length_set.trans (by simp; omega))) (j:=i + 1) (by first | exact rfl | omega) (by omega) (L rfl)) t2 t1 ?_
  refine sb (c_s1 sz68 (by exact (List.length_set.trans (by simp; omega))) (.atom rfl) (by omega)) t2 t1 ?_
  refine seq_nil (exr0 (sw (c_ad (L rfl) (w64 (by omega) (by omega))) t2 t0 ?_))
  refine mV (L rfl) rfl (seq_nil ?_)
  exact ⟨(i + 1,ys ++ [(ws.getD i 0 * 2 ^ k + c) % 4294967296],(ws.getD i 0 * 2 ^ k + c) / 4294967296),key,(by simp only; omega),le_of ⟨(by first | exact rfl | exact oi (by omega) rfl),rfl,rfl,rfl,rfl,trivial⟩ ⟨obl rfl (by simp only; rw [encW_set,encW_set,shift_fill hlen (by omega)]),trivial⟩⟩
 ·have he:=df he
  have hi : i = ws.length:=by omega
  subst hi
  obtain ⟨e1,e2⟩:=hx.end_ (by omega)
  refine ex_exit (show Exec _ _ _ _ _ from ?_)
  refine exr (mV (L rfl) rfl (aV (L rfl) rfl (zn [(4,_)] [(11,_)] t1 t1 (ex_ret ?_))))
  refine ⟨.inr rfl,rfl,_,rfl,by simp; omega,?_,by simp [digN_length]⟩
  rw [← e1,Nat.sub_self]; exact List.take_of_length_le (by simp; omega)
end Go.Proofs.YtcifhkfpmhifaaaGreatDoor.N
set_option maxRecDepth 100000
set_option maxHeartbeats 4000000
namespace Go.Proofs.YtcifhkfpmhifaaaGreatDoor.N
open Go Go.Proofs.YtcifhkfpmhifaaaGreatDoor.SH Go.Proofs.YtcifhkfpmhifaaaGreatDoor.NumA
open Go.Proofs.Tryz renaming call118 → cl118,isAgg68 → ag68,sizeOf68 → sz68,typeInfo68 → ti68,underlying22 → un22,underlying68 → un68,underlying78 → un78
theorem pair_says (ws : List Int) (hl : ws.length < 10000000000000) (h : Wd ws) : Says E 107 [pW ws] (.tup [uZ (if ws.length ≤ 2 then val ws else 0),bZ (decide (ws.length ≤ 2))]):=by
 refine says_of (xs:=[uZ (if ws.length ≤ 2 then val ws else 0),bZ (decide (ws.length ≤ 2))]) Tryz.func107 rfl Tryz.ntmps107 Tryz.results107 (by simp) fun F hG hX0 hnt hdf P0=>?_
 obtain ⟨L,hX,hN⟩:=pro hnt hX0 hG
 have hw:=h.getD 0
 have hw1:=h.getD 1
 refine exr (aV (L rfl) rfl (aV (L rfl) rfl (zn [(0,_)] [] t1 trivial (ex_seq (exr (mV (L rfl) rfl (sw (c_ln un22 (L rfl)) t1 t0 (zn [(0,_),(5,_)] [] t2 trivial (ex_block (exr (sw (c_e (L rfl)) t2 t0 ?_)))))))))))
 refine aV (L rfl) rfl (zn [(0,_),(5,_),(6,_)] [] t3 trivial ?_)
 refine ex_if rfl (fun h0=>?_) (fun h0=>?_)
 ·have h0:=dt h0
  have e : ws = []:=List.eq_nil_of_length_eq_zero (by omega)
  refine exr (aV (L rfl) rfl (aV (L rfl) rfl (zn [(2,_),(3,_)] [] t2 trivial (ex_ret ?_))))
  refine ⟨.inr rfl,ResVs.cast (.cons (.tmp rfl) (.cons (.tmp rfl) .nil)) ?_⟩
  rw [e]; rfl
 ·have h0:=df h0
  refine exr (sw (c_e (L rfl)) t2 t0 (aV (L rfl) rfl (zn [(0,_),(5,_),(8,_)] [] t3 trivial ?_)))
  refine ex_if rfl (fun h1=>?_) (fun h1=>?_)
  ·have h1:=dt h1
   refine exr (mV (L rfl) rfl (sw (ixJ un22 sz68 (j:=0) rfl (by omega) (by simp) (L rfl)) t2 t0 ?_))
   refine sw (c_li ag68 (by first | exact getW (by omega) | rfl) (L rfl)) t1 t0 ?_
   refine sw (c_cv un68 un78 (L rfl) (fu64 (by omega) (by omega))) t1 t0 ?_
   refine aV (L rfl) rfl (aV (L rfl) rfl (zn [(2,_),(3,_)] [] t2 trivial (ex_ret ?_)))
   refine ⟨.inr rfl,ResVs.cast (.cons (.tmp rfl) (.cons (.tmp rfl) .nil)) ?_⟩
   rw [if_pos (by omega),decide_eq_true (by omega),val_one (by omega)]
  ·have h1:=df h1
   refine exr (sw (c_e (L rfl)) t2 t0 (aV (L rfl) rfl (zn [(0,_),(14,_)] [] t2 trivial ?_)))
   refine ex_if rfl (fun h2=>?_) (fun h2=>?_)
   ·have h2:=dt h2
    refine exd (by rfl) ?_
    refine mV (L rfl) rfl (sw (ixJ un22 sz68 (j:=1) rfl (by omega) (by simp) (L rfl)) t2 t0 ?_)
    refine sw (c_li ag68 (by first | exact getW (by omega) | rfl) (L rfl)) t1 t0 ?_
    refine sw (c_cv un68 un78 (L rfl) (fu64 (by omega) (by omega))) t1 t0 ?_
    refine sw (c_sl (L rfl) (by decide) (shlE (c:=4294967296) (by rfl) (fu64 (by omega) (by omega)))) t2 t0 ?_
    refine mV (L rfl) rfl (sw (ixJ un22 sz68 (j:=0) rfl (by omega) (by simp) (L rfl)) t2 t0 ?_)
    refine sw (c_li ag68 (by first | exact getW (by omega) | rfl) (L rfl)) t1 t0 ?_
    refine sw (c_cv un68 un78 (L rfl) (fu64 (by omega) (by omega))) t1 t0 ?_
    refine sw (c_or (L rfl) (or64' (b:=ws.getD 1 0) 32 rfl hw.1 hw.2 hw1.1 (by decide) (by omega) (by omega))) t2 t0 ?_
    refine aV (L rfl) rfl (aV (L rfl) rfl ?_)
    refine seq_nil ⟨aoks [⟨[0],[],[16],[]⟩,⟨[16],[],[17],[]⟩,⟨[17],[],[18],[]⟩,⟨[18],[],[19],[]⟩,⟨[19],[],[20],[]⟩,⟨[0],[],[21],[]⟩,⟨[21],[],[22],[]⟩,⟨[22],[],[23],[]⟩,⟨[23],[],[24],[]⟩,⟨[20,24],[],[25],[]⟩,⟨[25],[],[2],[]⟩,⟨[],[],[3],[]⟩] (by rfl) (by rfl) (by decide),[(2,_),(3,_)],[],t2,trivial,?_⟩
    refine ex_ret ?_
    refine ⟨.inr rfl,ResVs.cast (.cons (.tmp rfl) (.cons (.tmp rfl) .nil)) ?_⟩
    rw [if_pos (by omega),decide_eq_true (by omega),← two_words h (by omega)]; rfl
   ·have h2:=df h2
    refine ex_skip (show Exec _ _ _ _ _ from ?_)
    refine exr (aV (L rfl) rfl (aV (L rfl) rfl (zn [(2,_),(3,_)] [] t2 trivial (ex_ret ?_))))
    refine ⟨.inr rfl,ResVs.cast (.cons (.tmp rfl) (.cons (.tmp rfl) .nil)) ?_⟩
    rw [if_neg (by omega),decide_eq_false (by omega)]
theorem words_says (n : Int) (h0 : 0 ≤ n) (h1 : n < 18446744073709551616) : Says E 129 [uZ n] (pW (digN 2 n)):=by
 refine says_of (xs:=[pW (digN 2 n)]) Tryz.func129 rfl Tryz.ntmps129 Tryz.results129 (by simp) fun F hG hX0 hnt hdf P0=>?_
 obtain ⟨L,hX,hN⟩:=pro hnt hX0 hG
 refine exr (aV (L rfl) rfl (zn [(0,_)] [] t1 trivial (exr (mV (L rfl) rfl (sw (c_cv un78 un68 (L rfl) wu32) t1 t0 (mV (L rfl) rfl (sw (c_sr (L rfl) (by decide) (shrE (c:=4294967296) (by rfl) (by decide))) t2 t0 ?_)))))))
 refine sw (c_cv un78 un68 (L rfl) wu32) t1 t0 (sw (c_bI (vs:=[_,_]) un22 ti68 rfl rfl (by decide) (by decide) rfl (zs_made (.cons rfl .nil) rfl) rfl (.cons rfl (.atom rfl) rfl pu1 (.cons rfl (.atom rfl) rfl (.skip pu1) .nil)) (.cons (.cons .nil)) (L rfl)) t2 t0 ?_)
 refine aV (L rfl) rfl (zn [(2,_)] [] t1 trivial (ex_ret ?_))
 refine ⟨.inr rfl,ResVs.cast (.cons (.tmp rfl) .nil) ?_⟩
 simp [digN,encW]
theorem lz_says (x : Int) (h0 : 0 ≤ x) (h1 : x < 4294967296) : Says E 130 [oZ x] (vZ (32 - (bl x.toNat : Int))):=by
 refine says_of (xs:=[vZ (32 - (bl x.toNat : Int))]) Tryz.func130 rfl Tryz.ntmps130 Tryz.results130 (by simp) fun F hG hX0 hnt hdf P0=>?_
 obtain ⟨L,hX,hN⟩:=pro hnt hX0 hG
 have hb:=bl32 h1
 refine exr (aV (L rfl) rfl (zn [(0,_)] [] t1 trivial (exr (mV (L rfl) rfl (cK hG hX cl118 hN (len32_says x h0 h1) (L rfl) t1 (sw (c_su (L rfl) (w64 (by omega) (by omega))) t2 t0 ?_))))))
 refine aV (L rfl) rfl (zn [(2,_)] [] t1 trivial (ex_ret ?_))
 refine ⟨.inr rfl,ResVs.cast (.cons (.tmp rfl) .nil) ?_⟩
 rfl
end Go.Proofs.YtcifhkfpmhifaaaGreatDoor.N
set_option maxRecDepth 100000
set_option maxHeartbeats 4000000
namespace Go.Proofs.YtcifhkfpmhifaaaGreatDoor.N
open Go Go.Proofs.YtcifhkfpmhifaaaGreatDoor.SH Go.Proofs.YtcifhkfpmhifaaaGreatDoor.NumA
open Go.Proofs.Tryz renaming call120 → cl120,isAgg22 → ag22,isAgg24 → ag24,isAgg4 → ag4,isAgg68 → ag68,sizeOf22 → sz22,sizeOf24 → sz24,sizeOf4 → sz4,sizeOf68 → sz68,typeInfo68 → ti68,underlying22 → un22,underlying24 → un24,underlying4 → un4,underlying68 → un68,underlying78 → un78,zeroValue24 → zv24
theorem rbyWord_says (ws : List Int) (d : Int) (hl : ws.length < 9999999999999) (h : Wd ws) (hd : 0 < d ∧ d < 4294967296) : Says E 135 [pW ws,uZ d] (.tup [pW (digs (val ws / d).toNat),pW (digs (val ws % d).toNat)]):=by
 refine says_of (xs:=[pW (digs (val ws / d).toNat),pW (digs (val ws % d).toNat)]) Tryz.func135 rfl Tryz.ntmps135 Tryz.results135 (by simp) fun F hG hX0 hnt hdf P0=>?_
 obtain ⟨L,hX,hN⟩:=pro hnt hX0 hG
 have hv:=val_nonneg h
 refine exr (aV (L rfl) rfl (aV (L rfl) rfl (zn [(0,_),(1,_)] [] t2 trivial (exr (mV (L rfl) rfl (sw (c_ln un22 (L rfl)) t1 t0 (swb (c_mk (k:=11) un22 ti68 rfl rfl rfl rfl rfl rfl (Nat.le_refl _) (by simp [Tryz.t68]; omega) (by omega) (P0 _ rfl) (L rfl)) t2 t0 ⟨rfl,rfl⟩ ?_)))))))
 refine aV (L rfl) rfl (zn [(0,_),(1,_),(4,_)] [(11,_)] t3 t1 (exr (aV (L rfl) rfl (zn [(0,_),(1,_),(4,_),(6,_)] [(11,_)] t4 t1 (ex_seq (exr (mV (L rfl) rfl (sw (c_ln un22 (L rfl)) t1 t0 (sw (c_su (L rfl) (w64 (by omega) (by omega))) t2 t0 ?_)))))))))
 refine aV (L rfl) rfl (zn [(0,_),(1,_),(4,_),(6,_),(7,_)] [(11,_)] t5 t1 (ex_block ?_))
 refine exl (α:=(Nat × List Int × Int)) (fun x=>[(7,vi ((x.1:Int) - 1)),(6,vw x.2.2)]) (fun x=>[(11,⟨68,1,.pure (encW (List.replicate x.1 0 ++ x.2.1))⟩)]) (fun x=>ShortAt ws d x) (fun x=>x.1) ((ws.length,([] : List Int),(0 : Int))) (sl:=[(0,_),(1,_),(4,_)]) (hb:=[]) ?_ ⟨(by first | exact rfl | exact oi (by omega) rfl),(by first | exact rfl | exact oi (by omega) rfl),rfl,rfl,rfl,trivial⟩ ⟨obl rfl (by rw [encW_rep]; simp),trivial⟩ ?_
 ·exact ShortAt.start ws d
 intro x hx
 obtain ⟨n,qs,r⟩:=x
 have hle:=hx.le
 have hq : qs.length = ws.length - n:=by have:=hx.q; simp only at this; rw [this,digN_length]
 have hr : 0 ≤ r ∧ r < d:=by have:=hx.r; simp only at this; rw [this]; exact ⟨Int.emod_nonneg _ (by omega),Int.emod_lt_of_pos _ hd.1⟩
 simp only at hle
 dsimp only
 refine ex_seq (exr (mV (L rfl) rfl (sw (c_ge (L rfl)) t2 t0 (zn [(0,_),(1,_),(4,_),(6,_),(7,_),(16,_)] [(11,_)] t6 t1 ?_))))
 refine ex_if rfl (fun he=>?_) (fun he=>?_)
 ·have he:=dt he
  obtain ⟨key,k1,k2⟩:=hx.next h hd.1 (by omega)
  have hw:=h.getD (n - 1)
  refine ex_skip (show Exec _ _ _ _ _ from ?_)
  refine ex_seq (ex_block (exr (mV (L rfl) rfl (sw (c_sl (L rfl) (by decide) (shlE (c:=4294967296) (by rfl) (fu64 (by omega) (by omega)))) t2 t0 ?_))))
  refine mV (L rfl) rfl (mV (L rfl) rfl (sw (ixJ un22 sz68 (j:=n - 1) (by first | exact rfl | omega) (by omega) (by simp) (L rfl)) t2 t0 ?_))
  refine sw (c_li ag68 (by first | exact getW (by omega) | rfl) (L rfl)) t1 t0 ?_
  refine sw (c_cv un68 un78 (L rfl) (fu64 (by omega) (by omega))) t1 t0 ?_
  refine sw (c_or (L rfl) (or64' (b:=r) 32 rfl hw.1 hw.2 hr.1 (by decide) (by omega) (by omega))) t2 t0 ?_
  refine aV (L rfl) rfl ?_
  refine seq_nil ⟨[(0,_),(1,_),(4,_),(7,_),(8,vw (r * 4294967296 + ws.getD (n - 1) 0))],[(11,_)],⟨rfl,rfl,rfl,rfl,oi (by omega) rfl,trivial⟩,t1,?_⟩
  refine exr (mV (L rfl) rfl (mV (L rfl) rfl (mV (L rfl) rfl (mV (L rfl) rfl (sw (c_q (L rfl) (by omega) (tdivE (by omega) (by omega))) t2 t0 ?_)))))
  refine sw (c_cv un78 un68 (L rfl) (fu32 (by omega) (by omega))) t1 t0 ?_
  refine sw (ixR0 un22 sz68 (by exact (by simp; omega)) (j:=n - 1) (by first | exact rfl | omega) (by omega) (L rfl)) t2 t1 ?_
  refine sb (c_s1 sz68 (by exact (by simp; omega)) (.atom rfl) (by omega)) t2 t1 ?_
  refine zn [(0,_),(1,_),(4,_),(7,_),(8,_)] [(11,_)] t5 t1 (exr0 (mV (L rfl) rfl (mV (L rfl) rfl (sw (c_r (L rfl) (by omega) (tmodE (by omega) (by omega))) t2 t0 ?_))))
  refine aV (L rfl) rfl (seq_nil (exr0 (mV (L rfl) rfl (sw (c_su (L rfl) (w64 (by omega) (by omega))) t2 t0 ?_))))
  refine aV (L rfl) rfl (seq_nil ?_)
  exact ⟨(n - 1,(r * 4294967296 + ws.getD (n - 1) 0) / d :: qs,(r * 4294967296 + ws.getD (n - 1) 0) % d),key,(by simp only; omega),le_of ⟨(by first | exact rfl | exact oi (by omega) rfl),(by first | exact rfl | exact oi (by omega) rfl),rfl,rfl,rfl,trivial⟩ ⟨obl rfl (by rw [encW_set,set_last (by simp; omega)]; simp),trivial⟩⟩
 ·have he:=df he
  have hn : n = 0:=by omega
  subst hn
  have e1 : r = val ws % d:=by simpa using hx.r
  have e2 : qs = digN ws.length (val ws / d):=by simpa using hx.q
  have hql : qs.length = ws.length:=by omega
  refine ex_exit (show Exec _ _ _ _ _ from ?_)
  refine ex_cv [11] (sl:=[(4,_),(6,_)]) (hb:=[]) (own_none hX0) ⟨⟨_,rfl,(.ref rfl rfl (by exact (by simp; omega)) (by first | rfl | omega))⟩,⟨_,rfl,.same⟩,trivial⟩ t0 ?_
  rw [← hql]
  simp only [List.replicate_zero,List.nil_append]
  refine exr (mV (L rfl) rfl (cK hG hX cl120 hN (rtrim_says qs (by omega)) (L rfl) t1 ?_))
  refine mV (L rfl) rfl (sw (c_cv un78 un68 (L rfl) (fu32 (by omega) (by omega))) t1 t0 ?_)
  refine sw (c_bI (vs:=[_]) un22 ti68 rfl rfl (by decide) (by decide) rfl (zs_made (.cons rfl .nil) rfl) rfl (.cons rfl (.atom rfl) rfl pu1 .nil) (.cons .nil) (L rfl)) t1 t0 ?_
  refine cK hG hX cl120 hN (rtrim_says [r] (by simp)) (L rfl) t1 ?_
  refine aV (L rfl) rfl (aV (L rfl) rfl (zn [(4,_),(5,_)] [] t2 trivial (ex_ret ?_)))
  refine ⟨.inr rfl,ResVs.cast (.cons (.tmp rfl) (.cons (.tmp rfl) .nil)) ?_⟩
  have q1 : 0 ≤ val ws / d:=Int.ediv_nonneg hv (by omega)
  have q2 : val ws / d < 4294967296 ^ ws.length:=by
   have:=val_lt h
   have h3 : val ws / d ≤ val ws:=Int.ediv_le_self _ hv
   omega
  rw [trim_eq_digs (by rw [e2]; exact digN_wd _ _),trim_eq_digs (ws:=[r]) (by simp [Wd]; omega),e2,val_digN q1 q2,← e1]
  simp [val]
end Go.Proofs.YtcifhkfpmhifaaaGreatDoor.N
set_option maxRecDepth 100000
set_option maxHeartbeats 4000000
namespace Go.Proofs.YtcifhkfpmhifaaaGreatDoor.N
open Go Go.Proofs.YtcifhkfpmhifaaaGreatDoor.SH Go.Proofs.YtcifhkfpmhifaaaGreatDoor.NumA
open Go.Proofs.Tryz renaming call119 → cl119,call120 → cl120,typeInfo68 → ti68,underlying22 → un22,underlying68 → un68,underlying78 → un78
theorem runshift_says (ws : List Int) (s : Nat) (hl : ws.length < 1000000000000) (h : Wd ws) (hs : s ≤ 32) : Says E 137 [pW ws,vZ s] (pW (digs (val ws / 2 ^ s).toNat)):=by
 refine says_of (xs:=[pW (digs (val ws / 2 ^ s).toNat)]) Tryz.func137 rfl Tryz.ntmps137 Tryz.results137 (by simp) fun F hG hX0 hnt hdf P0=>?_
 obtain ⟨L,hX,hN⟩:=pro hnt hX0 hG
 have hv:=val_nonneg h
 obtain ⟨n,hn⟩ : ∃ n,n = ws.length:=⟨_,rfl⟩
 refine exr (aV (L rfl) rfl (zn [(0,_),(1,_)] [] t2 trivial (exr (aV (L rfl) rfl (zn [(0,_),(1,_),(5,_)] [] t3 trivial (ex_seq (exr (aV (L rfl) rfl (zn [(0,_),(1,_),(5,_),(6,_)] [] t4 trivial (ex_block ?_))))))))))
 refine exlp (α:=(Nat × List Int)) (fun x=>[(6,vi (x.1:Int)),(5,.ref 27 0 x.2.length x.2.length)]) (fun x=>[(27,⟨68,1,.pure (encW x.2)⟩)]) (fun x=>UnAt ws s x ∧ 0 < x.1) (fun x=>n - x.1) (n + 1) (sl:=[(0,_),(1,_)]) (hb:=[]) t2 t0 ?_ ?_
 ·refine ex_seq (exr (mV (L rfl) rfl (mV (L rfl) rfl (sw (c_ln un22 (L rfl)) t1 t0 (sw (c_ls (L rfl)) t2 t0 (zn [(0,_),(1,_),(5,_),(6,_),(10,_)] [] t5 trivial ?_))))))
  refine ex_if rfl (fun hd=>?_) (fun hd=>?_)
  ·have hd:=dt hd
   have hw:=h.getD 0
   have hw1:=h.getD 1
   have key:=(UnAt.zero ws s).next h hs (by omega)
   have hb:=shr_bd (s:=s) (a:=ws.getD 0 0 + ws.getD 1 0 * 4294967296) (by omega) (by omega)
   refine ex_skip (show Exec _ _ _ _ _ from ?_)
   refine ex_seq (ex_block (exr0 (mV (L rfl) rfl (mV (L rfl) rfl (mV (L rfl) rfl (cK hG hX cl119 hN (rword_says ws (by omega) h 0 (by omega)) (L rfl) t2 ?_))))))
   refine mV (L rfl) rfl (mV (L rfl) rfl (sw (c_ad (L rfl) (w64 (by omega) (by omega))) t2 t0 ?_))
   refine cK hG hX cl119 hN (rword_says ws (by omega) h 1 (by omega)) (L rfl) t2 ?_
   refine sw (c_sl (L rfl) (by decide) (shlE (c:=4294967296) (by rfl) (fu64 (by omega) (by omega)))) t2 t0 ?_
   refine sw (c_or (L rfl) (or64 (b:=ws.getD 1 0) 32 rfl hw.1 hw.2 hw1.1 (by decide) (by omega) (by omega))) t2 t0 ?_
   refine mV (L rfl) rfl (sw (c_sr (L rfl) (by omega) (shr64k (by omega))) t2 t0 ?_)
   refine sw (c_cv un78 un68 (L rfl) wu32) t1 t0 (sw (c_bI (vs:=[_]) un22 ti68 rfl rfl (by decide) (by decide) rfl (zs_made (.cons rfl .nil) rfl) rfl (.cons rfl (.atom rfl) rfl pu1 .nil) (.cons .nil) (L rfl)) t1 t0 ?_)
   refine swb (apN (k:=27) (sz:=1) un22 un22 ti68 rfl rfl rfl (by decide) (by simp) rfl (by first | (simp [Tryz.t68]; done) | (simp [Tryz.t68]; omega)) (by omega) (P0 _ rfl) (L rfl)) t2 t0 ⟨rfl,rfl⟩ ?_
   refine aV (L rfl) rfl (seq_nil (exr0 (mV (L rfl) rfl (sw (c_ad (L rfl) (w64 (by omega) (by omega))) t2 t0 ?_))))
   refine aV (L rfl) rfl (seq_nil ?_)
   exact ⟨(1,[(ws.getD 0 0 + ws.getD 1 0 * 4294967296) / 2 ^ s % 4294967296]),⟨key,Nat.one_pos⟩,(by simp only; omega),le_of ⟨(by first | exact rfl | exact oi (by omega) rfl),(by first | exact rfl | exact oi (by omega) rfl),rfl,rfl,trivial⟩ t1⟩
  ·have hd:=df hd
   have e1 : ws = []:=List.eq_nil_of_length_eq_zero (by omega)
   refine ex_exit (show Exec _ _ _ _ _ from ?_)
   refine ex_cv [] (sl:=[(5,_)]) (hb:=[]) (own_none hX0) ⟨⟨_,rfl,(.p .nil)⟩,trivial⟩ t0 (exr (mV (L rfl) rfl (cK hG hX cl120 hN (rtrim_says [] (by simp)) (L rfl) t1 ?_)))
   refine aV (L rfl) rfl (zn [(4,_)] [] t1 trivial (ex_ret ?_))
   refine ⟨.inr rfl,ResVs.cast (.cons (.tmp rfl) .nil) ?_⟩
   rw [e1]; simp [trim,trimN,val,digs_zero]
 ·intro x hx
  obtain ⟨i,ys⟩:=x
  obtain ⟨hx,hi0⟩:=hx
  have hlen:=hx.len
  have hle:=hx.le
  simp only at hlen hle hi0
  dsimp only
  refine ex_seq (exr (mV (L rfl) rfl (mV (L rfl) rfl (sw (c_ln un22 (L rfl)) t1 t0 (sw (c_ls (L rfl)) t2 t0 (zn [(0,_),(1,_),(5,_),(6,_),(10,_)] [(27,_)] t5 t1 ?_))))))
  refine ex_if rfl (fun hd=>?_) (fun hd=>?_)
  ·have hd:=dt hd
   have hw:=h.getD i
   have hw1:=h.getD (i + 1)
   have key:=hx.next h hs (by omega)
   have hb:=shr_bd (s:=s) (a:=ws.getD i 0 + ws.getD (i + 1) 0 * 4294967296) (by omega) (by omega)
   refine ex_skip (show Exec _ _ _ _ _ from ?_)
   refine ex_seq (ex_block (exr0 (mV (L rfl) rfl (mV (L rfl) rfl (mV (L rfl) rfl (cK hG hX cl119 hN (rword_says ws (by omega) h i (by omega)) (L rfl) t2 ?_))))))
   refine mV (L rfl) rfl (mV (L rfl) rfl (sw (c_ad (L rfl) (w64 (by omega) (by omega))) t2 t0 ?_))
   refine cK hG hX cl119 hN (rword_says ws (by omega) h (i + 1) (by omega)) (L rfl) t2 ?_
   refine sw (c_sl (L rfl) (by decide) (shlE (c:=4294967296) (by rfl) (fu64 (by omega) (by omega)))) t2 t0 ?_
   refine sw (c_or (L rfl) (or64 (b:=ws.getD (i + 1) 0) 32 rfl hw.1 hw.2 hw1.1 (by decide) (by omega) (by omega))) t2 t0 ?_
   refine mV (L rfl) rfl (sw (c_sr (L rfl) (by omega) (shr64k (by omega))) t2 t0 ?_)
   refine sw (c_cv un78 un68 (L rfl) wu32) t1 t0 (sw (c_bI (vs:=[_]) un22 ti68 rfl rfl (by decide) (by decide) rfl (zs_made (.cons rfl .nil) rfl) rfl (.cons rfl (.atom rfl) rfl pu1 .nil) (.cons .nil) (L rfl)) t1 t0 ?_)
   refine swb (apP (sz:=1) un22 un22 ti68 rfl rfl rfl (by decide) (by exact (by simp)) (by first | omega | rfl) (by simp) rfl rfl rfl (by first | (simp [Tryz.t68]; done) | (simp [Tryz.t68]; omega)) (by omega) (P0 _ rfl) (L rfl)) t2 t1 t0 ?_
   refine aV (L rfl) rfl (seq_nil (exr0 (mV (L rfl) rfl (sw (c_ad (L rfl) (w64 (by omega) (by omega))) t2 t0 ?_))))
   refine aV (L rfl) rfl (seq_nil ?_)
   exact ⟨(i + 1,ys ++ [(ws.getD i 0 + ws.getD (i + 1) 0 * 4294967296) / 2 ^ s % 4294967296]),⟨key,Nat.succ_pos _⟩,(by simp only; omega),le_of ⟨(by first | exact rfl | exact oi (by omega) rfl),ov rfl (by simp),rfl,rfl,trivial⟩ ⟨obl rfl (by rw [encW_app]; rfl),trivial⟩⟩
  ·have hd:=df hd
   have hi : i = ws.length:=by omega
   subst hi
   have e:=hx.end_
   refine ex_exit (show Exec _ _ _ _ _ from ?_)
   refine ex_cv [27] (sl:=[(5,_)]) (hb:=[]) (own_none hX0) ⟨⟨_,rfl,(.ref rfl rfl (by exact (by simp)) (by first | rfl | omega))⟩,trivial⟩ t0 ?_
   refine exr (mV (L rfl) rfl (cK hG hX cl120 hN (rtrim_says ys (by omega)) (L rfl) t1 ?_))
   refine aV (L rfl) rfl (zn [(4,_)] [] t1 trivial (ex_ret ?_))
   refine ⟨.inr rfl,ResVs.cast (.cons (.tmp rfl) .nil) ?_⟩
   rw [trim_eq_digs hx.wd]; simp only; rw [e]
end Go.Proofs.YtcifhkfpmhifaaaGreatDoor.N
set_option maxRecDepth 100000
set_option maxHeartbeats 4000000
namespace Go.Proofs.YtcifhkfpmhifaaaGreatDoor.N
open Go Go.Proofs.YtcifhkfpmhifaaaGreatDoor.SH Go.Proofs.YtcifhkfpmhifaaaGreatDoor.NumA
open Go.Proofs.Tryz renaming isAgg68 → ag68,sizeOf68 → sz68,underlying22 → un22
theorem rtrimR_says (ws : List Int) (hl : ws.length < 10000000000000) : SaysR E 120 [.ref 1000 0 ws.length ws.length] [(1000,⟨68,1,.pure (encW ws)⟩)] [(1000,⟨68,1,.pure (encW ws)⟩)] (.ref 1000 0 (trimN ws ws.length) ws.length):=by
 refine saysR_of Tryz.func120 rfl Tryz.ntmps120 Tryz.results120 (by simp) rfl (sub_of rfl) fun F hG hX hnt hdf P0 hXp=>?_
 have L:=lti hnt
 have hN:=ng_le hG
 refine exr (aV (L rfl) rfl (zn [(0,_)] [(1000,_)] t1 t1 (exr (mV (L rfl) rfl (sw (c_lr un22 (by exact (by simp)) (L rfl)) t1 t1 ?_)))))
 refine aV (L rfl) rfl (zn [(0,_),(3,_)] [(1000,_)] t2 t1 (ex_seq (ex_block ?_)))
 refine exl (α:=Nat) (fun n=>[(3,vi (n:Int))]) (fun n=>[]) (fun n=>n ≤ ws.length ∧ trimN ws n = trimN ws ws.length) (fun n=>n) (ws.length) (sl:=[(0,_)]) (hb:=[(1000,_)]) ?_ ⟨(by first | exact rfl | exact oi (by omega) rfl),rfl,trivial⟩ t1 ?_
 ·exact ⟨Nat.le_refl _,rfl⟩
 intro n hn
 refine ex_seq ?_
 refine exm (sl:=[(15,vb (decide (0 < n ∧ ws.getD (n - 1) 0 = 0)))]) (sl0:=[(0,_),(3,_)]) (hb:=[]) (hb0:=[(1000,_)]) t2 t1 ?_ ?_
 ·by_cases h : n = 0
  ·refine mV (L rfl) rfl (sw (c_gt (L rfl)) t2 t0 (mV (L rfl) rfl (swn (g:=8) rfl (by simp [h]) (L rfl) rfl ?_)))
   refine swn (g:=8) rfl (by simp [h]) (L rfl) rfl ?_
   refine swn (g:=8) rfl (by simp [h]) (L rfl) rfl ?_
   refine swn (g:=8) rfl (by simp [h]) (L rfl) rfl ?_
   refine swn (g:=8) rfl (by simp [h]) (L rfl) rfl ?_
   refine swn (g:=8) rfl (by simp [h]) (L rfl) rfl ?_
   refine sw (c_pf (by simp [h]) (L rfl)) t2 t0 ?_
   exact seq_nil ⟨⟨ob rfl (by simp [h]),rfl,rfl,trivial⟩,t1⟩
  ·refine mV (L rfl) rfl (sw (c_gt (L rfl)) t2 t0 (mV (L rfl) rfl (gV (g:=8) rfl (by simp; omega) (L rfl) rfl rfl ?_)))
   refine gV (g:=8) rfl (by simp; omega) (L rfl) rfl rfl ?_
   refine swg (g:=8) rfl (by simp; omega) (c_su (L rfl) (w64 (by omega) (by omega))) rfl t2 t0 ?_
   refine swg (g:=8) rfl (by simp; omega) (ixR0 un22 sz68 (by exact (by simp)) (j:=n - 1) (by first | exact rfl | omega) (by omega) (L rfl)) rfl t2 t1 ?_
   refine swg (g:=8) rfl (by simp; omega) (c_l1 ag68 (by exact (by simp)) (getC (by first | exact getW (by omega) | rfl)) (L rfl)) rfl t1 t1 ?_
   refine swg (g:=8) rfl (by simp; omega) (c_e (L rfl)) rfl t2 t0 ?_
   refine sw (c_pt (by simp; omega) (L rfl)) t2 t0 ?_
   exact seq_nil ⟨⟨ob rfl (by simp; omega),rfl,rfl,trivial⟩,t1⟩
 refine ex_if rfl (fun hc=>?_) (fun hc=>?_)
 ·have hc:=dt hc
  refine ex_skip (show Exec _ _ _ _ _ from ?_)
  refine ex_block (exr0 (mV (L rfl) rfl (sw (c_su (L rfl) (w64 (by omega) (by omega))) t2 t0 ?_)))
  refine aV (L rfl) rfl (seq_nil ?_)
  exact ⟨n - 1,⟨by omega,by rw [← hn.2]; conv=>rhs; rw [show n = (n - 1) + 1 by omega]; simp only [trimN,hc.2,if_true]⟩,by omega,le_of ⟨(by first | exact rfl | exact oi (by omega) rfl),rfl,trivial⟩ t1⟩
 ·have hc:=df hc
  have e : trimN ws ws.length = n:=by
   rw [← hn.2]
   cases n with
   | zero=>rfl
   | succ n=>simp only [trimN]; rw [if_neg]; intro h; exact hc ⟨by omega,by simpa using h⟩
  rw [e]
  refine ex_exit (show Exec _ _ _ _ _ from ?_)
  refine exr (mV (L rfl) rfl (mV (L rfl) rfl (sw (slR_hi un22 sz68 rfl (by exact (by simp)) (h:=n) (by first | exact rfl | omega) (by omega) (L rfl)) t2 t1 ?_)))
  refine aV (L rfl) rfl (zn [(2,_)] [(1000,_)] t1 t1 (ex_ret ?_))
  refine ⟨.inr rfl,rfl,t1⟩
end Go.Proofs.YtcifhkfpmhifaaaGreatDoor.N
set_option maxRecDepth 100000
set_option maxHeartbeats 4000000
namespace Go.Proofs.YtcifhkfpmhifaaaGreatDoor.N
open Go Go.Proofs.YtcifhkfpmhifaaaGreatDoor.SH Go.Proofs.YtcifhkfpmhifaaaGreatDoor.NumA
open Go.Proofs.Tryz renaming call120 → cl120,isAgg68 → ag68,sizeOf68 → sz68,typeInfo68 → ti68,underlying22 → un22,underlying68 → un68,underlying78 → un78
theorem rshifted_says (ws : List Int) (k : Nat) (hl : ws.length < 1000000000000) (h : Wd ws) (hk : k < 1000000000000) : SaysO E 136 [pW ws,vZ k] 68 1 (digs (val ws * 2 ^ k).toNat).length (encW (digs (val ws * 2 ^ k).toNat)):=by
 refine saysO_of (k:=14) (tot:=k / 32 + ws.length + 1) Tryz.func136 rfl Tryz.ntmps136 Tryz.results136 (by simp) fun F hG hX0 hnt hdf P0=>?_
 obtain ⟨L,hX,hN⟩:=pro hnt hX0 hG
 obtain ⟨q,hq⟩ : ∃ q,q = k / 32:=⟨_,rfl⟩
 obtain ⟨s,hs⟩ : ∃ s,s = k % 32:=⟨_,rfl⟩
 have hs32 : s < 32:=by omega
 rw [← hq]
 refine exr (aV (L rfl) rfl (zn [(0,_),(1,_)] [] t2 trivial (exr (mV (L rfl) rfl (sw (c_q (L rfl) (by decide) (tdiv64 (show _ = (q : Int) by omega))) t2 t0 ?_)))))
 refine mV (L rfl) rfl (sw (c_ln un22 (L rfl)) t1 t0 (sw (c_ad (L rfl) (w64 (by omega) (by omega))) t2 t0 ?_))
 refine sw (c_ad (L rfl) (w64 (by omega) (by omega))) t2 t0 ?_
 refine swb (c_mk (k:=14) un22 ti68 rfl rfl rfl rfl (show _ = ((q + ws.length + 1 : Nat) : Int) by omega) (show _ = ((q + ws.length + 1 : Nat) : Int) by omega) (Nat.le_refl _) (by simp [Tryz.t68]; omega) (by omega) (P0 _ rfl) (L rfl)) t2 t0 ⟨rfl,rfl⟩ ?_
 refine aV (L rfl) rfl (zn [(0,_),(1,_),(5,_)] [(14,_)] t3 t1 (ex_seq (exr (aV (L rfl) rfl (zn [(0,_),(1,_),(5,_),(6,_)] [(14,_)] t4 t1 (ex_block ?_))))))
 refine exl (α:=(Nat × List Int × Int)) (fun x=>[(6,vi (x.1:Int))]) (fun x=>[(14,⟨68,1,.pure (encW (List.replicate q 0 ++ (x.2.1 ++ x.2.2 :: List.replicate (ws.length - x.1) 0)))⟩)]) (fun x=>ShiftAt ws s x) (fun x=>ws.length - x.1) (((0 : Nat),([] : List Int),(0 : Int))) (sl:=[(0,_),(1,_),(5,_)]) (hb:=[]) ?_ ⟨(by first | exact rfl | exact oi (by omega) rfl),rfl,rfl,rfl,trivial⟩ ⟨obl rfl (by rw [encW_rep,shift_start]),trivial⟩ ?_
 ·exact ShiftAt.zero ws s
 intro x hx
 obtain ⟨i,ys,c⟩:=x
 have hlen:=hx.len
 have hle:=hx.le
 have h0:=hx.h0
 have h1:=hx.h1
 simp only at hlen hle h0 h1
 dsimp only
 refine ex_seq (exr (mV (L rfl) rfl (mV (L rfl) rfl (sw (c_ln un22 (L rfl)) t1 t0 (sw (c_ls (L rfl)) t2 t0 (zn [(0,_),(1,_),(5,_),(6,_),(18,_)] [(14,_)] t5 t1 ?_))))))
 refine ex_if rfl (fun he=>?_) (fun he=>?_)
 ·have he:=dt he
  have hw:=h.getD i
  have key:=hx.next h (by omega)
  have kq0:=key.h0
  have kq1:=key.h1
  simp only at kq0 kq1
  have hp:=pow32 (Nat.le_of_lt hs32)
  have sa:=shl_add (Nat.le_of_lt hs32) (ws.getD i 0) h0 h1
  have sbd:=shl_bd hs32 hw
  have sd : ws.getD i 0 * 2 ^ s / 4294967296 = (ws.getD i 0 * 2 ^ s + c) / 4294967296:=by
   rw [shl_div (Nat.le_of_lt hs32) _ h0 h1]
   have:=shl_div (Nat.le_of_lt hs32) (ws.getD i 0) (c:=0) (Int.le_refl _) (by omega)
   simpa using this
  have hg : (List.replicate q 0 ++ (ys ++ c :: List.replicate (ws.length - i) 0)).getD (i + q) 0 = c:=shift_get hlen
  refine ex_skip (show Exec _ _ _ _ _ from ?_)
  refine ex_seq (ex_block (exr (mV (L rfl) rfl (mV (L rfl) rfl (sw (ixJ un22 sz68 (j:=i) (by first | exact rfl | omega) (by omega) (by simp) (L rfl)) t2 t0 ?_)))))
  refine sw (c_li ag68 (by first | exact getW (by omega) | rfl) (L rfl)) t1 t0 ?_
  refine sw (c_cv un68 un78 (L rfl) (fu64 (by omega) (by omega))) t1 t0 ?_
  refine mV (L rfl) rfl (sw (c_r (L rfl) (by decide) (show _ = (s : Int) by rw [Int.tmod_eq_emod_of_nonneg (by omega)]; omega)) t2 t0 ?_)
  refine sw (c_sl (L rfl) (by omega) (shl64k (by omega) sbd)) t2 t0 ?_
  refine aV (L rfl) rfl (zn [(0,_),(1,_),(5,_),(6,_),(7,_)] [(14,_)] t5 t1 (exr (mV (L rfl) rfl (mV (L rfl) rfl (mV (L rfl) rfl (sw (c_q (L rfl) (by decide) (tdiv64 (show _ = (q : Int) by omega))) t2 t0 ?_))))))
  refine sw (c_ad (L rfl) (w64 (by omega) (by omega))) t2 t0 ?_
  refine mV (L rfl) rfl (mV (L rfl) rfl (mV (L rfl) rfl (sw (c_q (L rfl) (by decide) (tdiv64 (show _ = (q : Int) by omega))) t2 t0 ?_)))
  refine sw (c_ad (L rfl) (w64 (by omega) (by omega))) t2 t0 ?_
  refine sw (ixR0 un22 sz68 (by exact (by simp; omega)) (j:=i + q) (by first | exact rfl | omega) (by omega) (L rfl)) t2 t1 ?_
  refine sw (c_l1 ag68 (by exact (by simp; omega)) (getC (getW (by simp; omega))) (L rfl)) t1 t1 ?_
  refine mV (L rfl) rfl (sw (c_cv un78 un68 (L rfl) wu32) t1 t0 (sw (c_or (L rfl) (show _ = (ws.getD i 0 * 2 ^ s + c) % 4294967296 by rw [hg,or32 (b:=ws.getD i 0 % 2 ^ (32 - s)) s (shl_mod (Nat.le_of_lt hs32) _) h0 h1 sa.2.2.1 (Nat.le_of_lt hs32) sa.2.2.2 sa.2.1,sa.1])) t2 t0 ?_))
  refine sw (ixR0 un22 sz68 (by exact (by simp; omega)) (j:=i + q) (by first | exact rfl | omega) (by omega) (L rfl)) t2 t1 ?_
  refine sb (c_s1 sz68 (by exact (by simp; omega)) (.atom rfl) (by omega)) t2 t1 ?_
  refine zn [(0,_),(1,_),(5,_),(6,_),(7,_)] [(14,_)] t5 t1 (exr0 (mV (L rfl) rfl (mV (L rfl) rfl (mV (L rfl) rfl (sw (c_q (L rfl) (by decide) (tdiv64 (show _ = (q : Int) by omega))) t2 t0 ?_)))))
  refine sw (c_ad (L rfl) (w64 (by omega) (by omega))) t2 t0 ?_
  refine sw (c_ad (L rfl) (w64 (by omega) (by omega))) t2 t0 ?_
  refine mV (L rfl) rfl (sw (c_sr (L rfl) (by decide) (shrE (c:=4294967296) (by rfl) (by decide))) t2 t0 ?_)
  refine sw (c_cv un78 un68 (L rfl) (show _ = (ws.getD i 0 * 2 ^ s + c) / 4294967296 by rw [sd]; exact fu32 (by omega) (by omega))) t1 t0 ?_
  refine sw (ixR0 un22 sz68 (by exact (List.length_set.trans (by simp; omega))) (j:=i + q + 1) (by first | exact rfl | omega) (by omega) (L rfl)) t2 t1 ?_
  refine sb (c_s1 sz68 (by exact (List.length_set.trans (by simp; omega))) (.atom rfl) (by omega)) t2 t1 ?_
  refine seq_nil (exr0 (mV (L rfl) rfl (sw (c_ad (L rfl) (w64 (by omega) (by omega))) t2 t0 ?_)))
  refine aV (L rfl) rfl (seq_nil ?_)
  exact ⟨(i + 1,ys ++ [(ws.getD i 0 * 2 ^ s + c) % 4294967296],(ws.getD i 0 * 2 ^ s + c) / 4294967296),key,(by simp only; omega),le_of ⟨(by first | exact rfl | exact oi (by omega) rfl),rfl,rfl,rfl,trivial⟩ ⟨obl rfl (by simp only; rw [encW_set,encW_set,shift_fill2 hlen (by omega)]),trivial⟩⟩
 ·have he:=df he
  have hi : i = ws.length:=by omega
  subst hi
  obtain ⟨X,hX1⟩ : ∃ X,X = List.replicate q 0 ++ (ys ++ [c]):=⟨_,rfl⟩
  have hXl : X.length = q + ws.length + 1:=by rw [hX1]; simp; omega
  have hXt:=shift_end hx (by omega) hX1 (show k = 32 * q + s by omega)
  rw [Nat.sub_self,List.replicate_zero,← hX1,← hXl,hXt.2]
  refine ex_exit (show Exec _ _ _ _ _ from ?_)
  refine exr (mV (L rfl) rfl (swB (c_cr hG hX [14] hN (rtrimR_says X (by omega)) rfl rfl (args_fn (ys:=[_]) cl120 rfl (by rfl)) (by rfl) (by rfl) (by rfl) (by rfl) (SameH.to (.cons rfl .nil)) (by rfl) (by rfl) (L rfl)) t1 t1 ?_))
  refine aV (L rfl) rfl (zn [(4,_)] [(14,_)] t1 t1 (ex_ret ?_))
  refine ⟨.inr rfl,rfl,_,rfl,by simp,?_,by rw [encW_length,hXt.2]; simp⟩
  rw [Nat.mul_one,encW_take,← hXt.1,trim]
end Go.Proofs.YtcifhkfpmhifaaaGreatDoor.N
namespace Go.Proofs.YtcifhkfpmhifaaaGreatDoor.NumA
theorem guess_down {U u2 u3 d1 d2 d3 P R D q r Q : Int} (hR : R = (U * 4294967296 + u2) * P + u3) (hD : D = (d1 * 4294967296 + d2) * P + d3) (hP : 0 < P) (hu3 : 0 ≤ u3 ∧ u3 < P) (hd3 : 0 ≤ d3) (hq0 : 0 ≤ q) (hqr : q * d1 + r = U) (hQ : Q * D ≤ R) (hQB : Q < 4294967296) (hDpos : 0 < D) (hbig : 4294967296 ≤ q ∨ r * 4294967296 + u2 < q * d2) : Q ≤ q - 1:=by
  rcases hbig with h | h
  · omega
  · by_cases e : Q ≤ q - 1
    · exact e
    · have h1 : q * D ≤ Q * D:=Int.mul_le_mul_of_nonneg_right (by omega) (Int.le_of_lt hDpos)
      have h2 : (U * 4294967296 + u2 + 1) * P ≤ (q * (d1 * 4294967296 + d2)) * P:=Int.mul_le_mul_of_nonneg_right (by rw [← hqr]; grind) (Int.le_of_lt hP)
      have h3 : q * D = q * (d1 * 4294967296 + d2) * P + q * d3:=by rw [hD]; grind
      have h4 : 0 ≤ q * d3:=Int.mul_nonneg hq0 hd3
      have h5 : (U * 4294967296 + u2 + 1) * P = (U * 4294967296 + u2) * P + P:=by grind
      omega
end Go.Proofs.YtcifhkfpmhifaaaGreatDoor.NumA
namespace Go.Proofs.YtcifhkfpmhifaaaGreatDoor.NumA
theorem guess_end {U u2 u3 d1 d2 d3 P R D q r : Int} (hR : R = (U * 4294967296 + u2) * P + u3) (hD : D = (d1 * 4294967296 + d2) * P + d3) (hP : 0 < P) (hu2 : 0 ≤ u2) (hu3 : 0 ≤ u3) (hd1 : 1 ≤ d1) (hd2 : 0 ≤ d2 ∧ d2 < 4294967296) (hd3 : 0 ≤ d3 ∧ d3 < P) (hq0 : 0 ≤ q) (hqB : q < 4294967296) (hqr : q * d1 + r = U) (hend : 4294967296 ≤ r ∨ q * d2 ≤ r * 4294967296 + u2) : (q - 1) * D ≤ R:=by
  have h3 : q * D = q * (d1 * 4294967296 + d2) * P + q * d3:=by rw [hD]; grind
  have h4 : q * d3 ≤ q * P:=Int.mul_le_mul_of_nonneg_left (by omega) hq0
  have h5 : q * P ≤ 4294967296 * P:=Int.mul_le_mul_of_nonneg_right (by omega) (Int.le_of_lt hP)
  have h6 : 1 * (4294967296 * P) ≤ d1 * (4294967296 * P):=Int.mul_le_mul_of_nonneg_right hd1 (by omega)
  have h7 : 0 ≤ d2 * P:=Int.mul_nonneg hd2.1 (Int.le_of_lt hP)
  have h8 : D = d1 * (4294967296 * P) + d2 * P + d3:=by rw [hD]; grind
  have h9 : q * (d1 * 4294967296 + d2) ≤ U * 4294967296 + u2:=by
    rcases hend with h | h
    · have h10 : q * d2 ≤ q * 4294967296:=Int.mul_le_mul_of_nonneg_left (by omega) hq0
      have h11 : q * (d1 * 4294967296 + d2) = (U - r) * 4294967296 + q * d2:=by rw [← hqr]; grind
      have h12 : (U - r) * 4294967296 = U * 4294967296 - r * 4294967296:=by grind
      omega
    · have h11 : q * (d1 * 4294967296 + d2) = (U - r) * 4294967296 + q * d2:=by rw [← hqr]; grind
      have h12 : (U - r) * 4294967296 = U * 4294967296 - r * 4294967296:=by grind
      omega
  have h13 : q * (d1 * 4294967296 + d2) * P ≤ (U * 4294967296 + u2) * P:=Int.mul_le_mul_of_nonneg_right h9 (Int.le_of_lt hP)
  have h14 : (q - 1) * D = q * D - D:=by grind
  omega
end Go.Proofs.YtcifhkfpmhifaaaGreatDoor.NumA
namespace Go.Proofs.YtcifhkfpmhifaaaGreatDoor.NumA
def gL (u2 d1 d2 : Int) : Nat → Int → Int → Int
  | 0,q,_=>q
  | n + 1,q,r=>if 4294967296 ≤ q ∨ r * 4294967296 + u2 < q * d2 then (if 4294967296 ≤ r + d1 then q - 1 else gL u2 d1 d2 n (q - 1) (r + d1)) else q
def guessW (u0 u1 u2 d1 d2 : Int) : Int:=gL u2 d1 d2 2 ((u0 * 4294967296 + u1) / d1) ((u0 * 4294967296 + u1) % d1)
theorem gL_ok {U u2 u3 d1 d2 d3 P R D Q : Int} (hR : R = (U * 4294967296 + u2) * P + u3) (hD : D = (d1 * 4294967296 + d2) * P + d3) (hP : 0 < P) (hu2 : 0 ≤ u2) (hu3 : 0 ≤ u3 ∧ u3 < P) (hd1 : 1 ≤ d1) (hd2 : 0 ≤ d2 ∧ d2 < 4294967296) (hd3 : 0 ≤ d3 ∧ d3 < P) (hU : U ≤ d1 * 4294967296 + 4294967295) (hQ0 : 0 ≤ Q) (hQ : Q * D ≤ R) (hQB : Q < 4294967296) (hDpos : 0 < D) :
    ∀ (n : Nat) (q r : Int),0 ≤ q → q * d1 + r = U → 0 ≤ r → r < 4294967296 → 4294967296 ≤ r + n * d1 → Q ≤ q → Q ≤ gL u2 d1 d2 n q r ∧ gL u2 d1 d2 n q r < 4294967296 ∧ (gL u2 d1 d2 n q r - 1) * D ≤ R:=by
  intro n
  induction n with
  | zero=>intro q r _ _ _ h1 h2; omega
  | succ n ih =>
    intro q r hq0 hqr hr0 hr1 hn hQq
    rw [gL]
    split
    · rename_i hbad
      have hdn:=guess_down hR hD hP hu3 hd3.1 hq0 hqr hQ hQB hDpos hbad
      have hqr' : (q - 1) * d1 + (r + d1) = U:=by rw [← hqr]; grind
      split
      · rename_i hb
        have hqB : q - 1 < 4294967296:=by
          by_cases e : q - 1 < 4294967296
          · exact e
          · have h1 : 4294967297 * d1 ≤ q * d1:=Int.mul_le_mul_of_nonneg_right (by omega) (by omega)
            omega
        exact ⟨hdn,hqB,guess_end hR hD hP hu2 hu3.1 hd1 hd2 hd3 (by omega) hqB hqr' (.inl hb)⟩
      · rename_i hb
        refine ih (q - 1) (r + d1) (by omega) hqr' (by omega) (by omega) ?_ hdn
        have : ((n + 1 : Nat) : Int) * d1 = n * d1 + d1:=by rw [Int.natCast_succ,Int.add_mul,Int.one_mul]
        omega
    · rename_i hg
      exact ⟨hQq,by omega,guess_end hR hD hP hu2 hu3.1 hd1 hd2 hd3 hq0 (by omega) hqr (.inr (by omega))⟩
structure TakeAt (win vs : List Int) (q : Int) (x : Nat × List Int × Int × Int) : Prop where
  le : x.1 ≤ win.length
  len : x.2.1.length = x.1
  wd : Wd x.2.1
  c0 : 0 ≤ x.2.2.1
  c1 : x.2.2.1 < 4294967296
  b : x.2.2.2 = 0 ∨ x.2.2.2 = 1
  eq : val x.2.1 + q * val (vs.take x.1) = val (win.take x.1) + 4294967296 ^ x.1 * (x.2.2.1 + x.2.2.2)
  cb : 4294967296 ^ x.1 * x.2.2.1 ≤ q * val (vs.take x.1)
theorem TakeAt.zero (win vs : List Int) (q : Int) : TakeAt win vs q (0,[],0,0):=⟨Nat.zero_le _,rfl,Wd.nil,Int.le_refl _,(by decide),.inl rfl,by simp [val],by simp [val]⟩
theorem take_bd {q w c : Int} (hq : 0 ≤ q ∧ q < 4294967296) (hw : 0 ≤ w ∧ w < 4294967296) (hc : 0 ≤ c ∧ c < 4294967296) : 0 ≤ q * w + c ∧ q * w + c ≤ 18446744069414584320:=by
  have:=mul_bd hq hw
  omega
theorem TakeAt.next {win vs : List Int} {q : Int} (h2 : Wd vs) (hq : 0 ≤ q ∧ q < 4294967296) {j : Nat} {ys : List Int} {c b : Int} (ha : TakeAt win vs q (j, ys, c, b)) (hj : j < win.length) {p d b' : Int} (hp : p = q * vs.getD j 0 + c) (hd : d = (win.getD j 0 - p % 4294967296 - b) % 4294967296) (hb' : b' = if win.getD j 0 < p % 4294967296 + b then 1 else 0) (hu : 0 ≤ win.getD j 0 ∧ win.getD j 0 < 4294967296) :
    TakeAt win vs q (j + 1,ys ++ [d],p / 4294967296,b'):=by
  obtain ⟨h1,hl,hw,c0,c1,hb,heq,hcb⟩:=ha
  simp only at h1 hl hw c0 c1 hb heq hcb
  have hv:=h2.getD j
  have hbd:=take_bd hq hv ⟨c0,c1⟩
  rw [← hp] at hbd
  have hd2 : d = win.getD j 0 - p % 4294967296 - b + 4294967296 * b':=by rw [hd,hb']; split <;> omega
  have hP : (0 : Int) < 4294967296 ^ j:=Int.pow_pos (by decide)
  refine ⟨hj,by simp [hl],hw.snoc (by omega) (by omega),by simp only; omega,by simp only; omega,?_,?_,?_⟩
  · simp only; rw [hb']; split <;> simp
  · simp only
    have hpp : p = p % 4294967296 + 4294967296 * (p / 4294967296):=by omega
    rw [val_snoc,hl,val_take_succ' j,val_take_succ' j,Int.pow_succ,hd2]
    generalize p / 4294967296 = ph at *
    generalize p % 4294967296 = pl at *
    generalize val (vs.take j) = A at *
    generalize val (win.take j) = B at *
    generalize win.getD j 0 = u at *
    generalize vs.getD j 0 = w at *
    have hc2 : c = pl + 4294967296 * ph - q * w:=by omega
    subst hc2
    grind
  · simp only
    rw [val_take_succ' j,Int.pow_succ]
    have h5 : 4294967296 ^ j * (4294967296 * (p / 4294967296)) ≤ 4294967296 ^ j * p:=Int.mul_le_mul_of_nonneg_left (by omega) (Int.le_of_lt hP)
    have h6 : 4294967296 ^ j * p = q * (4294967296 ^ j * vs.getD j 0) + 4294967296 ^ j * c:=by rw [hp]; grind
    have h7 : (4294967296 : Int) ^ j * 4294967296 * (p / 4294967296) = 4294967296 ^ j * (4294967296 * (p / 4294967296)):=by grind
    have h8 : q * (val (vs.take j) + 4294967296 ^ j * vs.getD j 0) = q * val (vs.take j) + q * (4294967296 ^ j * vs.getD j 0):=by grind
    omega
theorem TakeAt.end_ {win vs ys : List Int} {q c b : Int} (h : Wd win) (hl : vs.length < win.length) (h2 : Wd vs) (hq : 0 ≤ q ∧ q < 4294967296) (ha : TakeAt win vs q (win.length,ys,c,b)) : c = 0 ∧ val ys = val win - q * val vs + 4294967296 ^ win.length * b ∧ (b = 0 ↔ q * val vs ≤ val win):=by
  obtain ⟨h1,hlen,hw,c0,c1,hb,heq,hcb⟩:=ha
  simp only at h1 hlen hw c0 c1 hb heq hcb
  rw [List.take_of_length_le (by omega)] at heq hcb
  rw [List.take_length] at heq
  have hP : (0 : Int) < 4294967296 ^ win.length:=Int.pow_pos (by decide)
  have hvl:=val_lt h2
  have hvn:=val_nonneg h2
  have hD : q * val vs < 4294967296 ^ win.length:=by
    have e : (4294967296 : Int) ^ win.length = 4294967296 * 4294967296 ^ (win.length - 1):=by
      rw [show win.length = (win.length - 1) + 1 by omega,Int.pow_succ,Nat.add_sub_cancel,Int.mul_comm]
    have h3 : (4294967296 : Int) ^ vs.length ≤ 4294967296 ^ (win.length - 1):=by
      have h2 : ((4294967296 ^ vs.length : Nat) : Int) ≤ ((4294967296 ^ (win.length - 1) : Nat) : Int):=Int.ofNat_le.2 (Nat.pow_le_pow_right (by decide) (show vs.length ≤ win.length - 1 by omega))
      rw [Int.natCast_pow,Int.natCast_pow] at h2
      exact h2
    have h4 : q * val vs ≤ 4294967295 * val vs:=Int.mul_le_mul_of_nonneg_right (by omega) hvn
    omega
  have hc : c = 0:=by
    by_cases e : c = 0
    · exact e
    · have : (4294967296 : Int) ^ win.length * 1 ≤ 4294967296 ^ win.length * c:=Int.mul_le_mul_of_nonneg_left (by omega) (Int.le_of_lt hP)
      omega
  subst hc
  rw [Int.zero_add] at heq
  have hy:=val_nonneg hw
  have hy2:=val_lt hw
  have hwv:=val_lt h
  have hwn:=val_nonneg h
  rw [hlen] at hy2
  refine ⟨rfl,by omega,?_⟩
  rcases hb with hb | hb
  · subst hb; rw [Int.mul_zero] at heq; exact ⟨fun _=>by omega,fun _=>rfl⟩
  · subst hb; rw [Int.mul_one] at heq; exact ⟨fun h=>by omega,fun h=>by omega⟩
structure BackAt (win vs : List Int) (x : Nat × List Int × Int) : Prop where
  le : x.1 ≤ win.length
  len : x.2.1.length = x.1
  wd : Wd x.2.1
  c : x.2.2 = 0 ∨ x.2.2 = 1
  eq : val x.2.1 + 4294967296 ^ x.1 * x.2.2 = val (win.take x.1) + val (vs.take x.1)
theorem BackAt.zero (win vs : List Int) : BackAt win vs (0,[],0):=⟨Nat.zero_le _,rfl,Wd.nil,.inl rfl,by simp [val]⟩
theorem BackAt.next {win vs : List Int} (h : Wd win) (h2 : Wd vs) {j : Nat} {ys : List Int} {c : Int} (ha : BackAt win vs (j, ys, c)) (hj : j < win.length) {s : Int} (hs : s = win.getD j 0 + vs.getD j 0 + c) :
    BackAt win vs (j + 1,ys ++ [s % 4294967296],s / 4294967296):=by
  obtain ⟨h1,hl,hw,hc,heq⟩:=ha
  simp only at h1 hl hw hc heq
  have hu:=h.getD j
  have hv:=h2.getD j
  refine ⟨hj,by simp [hl],hw.snoc (by omega) (by omega),by simp only; omega,?_⟩
  simp only
  rw [val_snoc,hl,val_take_succ' j,val_take_succ' j,Int.pow_succ]
  have hpp : s = s % 4294967296 + 4294967296 * (s / 4294967296):=by omega
  generalize s / 4294967296 = ph at *
  generalize s % 4294967296 = pl at *
  generalize val (vs.take j) = A at *
  generalize val (win.take j) = B at *
  generalize win.getD j 0 = u at *
  generalize vs.getD j 0 = w at *
  have hc2 : c = pl + 4294967296 * ph - u - w:=by omega
  subst hc2
  grind
end Go.Proofs.YtcifhkfpmhifaaaGreatDoor.NumA
namespace Go.Proofs.YtcifhkfpmhifaaaGreatDoor.NumA
theorem Bpos (n : Nat) : (0 : Int) < 4294967296 ^ n:=Int.pow_pos (by decide)
theorem powle {m n : Nat} (h : m ≤ n) : (4294967296 : Int) ^ m ≤ 4294967296 ^ n:=by
  have h2 : ((4294967296 ^ m : Nat) : Int) ≤ ((4294967296 ^ n : Nat) : Int):=Int.ofNat_le.2 (Nat.pow_le_pow_right (by decide) h)
  rw [Int.natCast_pow,Int.natCast_pow] at h2
  exact h2
theorem two32 (n : Nat) : (2 : Int) ^ (32 * n) = 4294967296 ^ n:=by rw [Int.pow_mul]; rfl
theorem top2 {vs : List Int} {n : Nat} (hl : vs.length = n + 2) : val vs = (vs.getD (n + 1) 0 * 4294967296 + vs.getD n 0) * 4294967296 ^ n + val (vs.take n):=by
  have h1:=val_take_succ' (ws:=vs) (n + 1)
  have h2:=val_take_succ' (ws:=vs) n
  rw [List.take_of_length_le (by omega)] at h1
  rw [h1,h2,Int.pow_succ]; grind
theorem top3 {win : List Int} {n : Nat} (hl : win.length = n + 3) : val win = ((win.getD (n + 2) 0 * 4294967296 + win.getD (n + 1) 0) * 4294967296 + win.getD n 0) * 4294967296 ^ n + val (win.take n):=by
  have h1:=val_take_succ' (ws:=win) (n + 2)
  have h2:=val_take_succ' (ws:=win) (n + 1)
  have h3:=val_take_succ' (ws:=win) n
  rw [List.take_of_length_le (by omega)] at h1
  rw [h1,h2,h3,Int.pow_succ,Int.pow_succ]; grind
theorem take_lt {ws : List Int} (h : Wd ws) {n : Nat} (hn : n ≤ ws.length) : 0 ≤ val (ws.take n) ∧ val (ws.take n) < 4294967296 ^ n:=by
  have h1:=val_nonneg (h.take n)
  have h2:=val_lt (h.take n)
  rw [List.length_take,Nat.min_eq_left hn] at h2
  exact ⟨h1,h2⟩
theorem guess_first {win vs : List Int} {n : Nat} (h : Wd win) (h2 : Wd vs) (hl : win.length = n + 3) (hl2 : vs.length = n + 2) (hd1 : 2147483648 ≤ vs.getD (n + 1) 0) (hlt : val win < 4294967296 * val vs) :
    0 < val vs ∧ 0 ≤ val win / val vs ∧ val win / val vs * val vs ≤ val win ∧ val win / val vs < 4294967296 ∧ win.getD (n + 2) 0 * 4294967296 + win.getD (n + 1) 0 ≤ vs.getD (n + 1) 0 * 4294967296 + 4294967295 ∧ val win / val vs ≤ (win.getD (n + 2) 0 * 4294967296 + win.getD (n + 1) 0) / vs.getD (n + 1) 0:=by
  have e1:=top3 hl
  have e2:=top2 hl2
  have t1:=take_lt h (n:=n) (by omega)
  have t2:=take_lt h2 (n:=n) (by omega)
  have w2:=h.getD n
  have w3:=h.getD (n + 1)
  have w4:=h.getD (n + 2)
  have v1:=h2.getD (n + 1)
  have v2:=h2.getD n
  have hP:=Bpos n
  have hU0 : 0 ≤ win.getD (n + 2) 0 * 4294967296 + win.getD (n + 1) 0:=by omega
  generalize val (win.take n) = u3 at *
  generalize val (vs.take n) = d3 at *
  generalize win.getD (n + 2) 0 * 4294967296 + win.getD (n + 1) 0 = U at *
  generalize vs.getD (n + 1) 0 = d1 at *
  generalize vs.getD n 0 = d2 at *
  generalize win.getD n 0 = u2 at *
  generalize (4294967296 : Int) ^ n = P at *
  generalize val win = R at *
  generalize val vs = D at *
  have hDpos : 0 < D:=by
    have : 1 * P ≤ (d1 * 4294967296 + d2) * P:=Int.mul_le_mul_of_nonneg_right (by omega) (by omega)
    omega
  have hR0 : 0 ≤ R:=by
    have:=Int.mul_nonneg (show 0 ≤ U * 4294967296 + u2 by omega) (Int.le_of_lt hP); omega
  have hQ0 : 0 ≤ R / D:=Int.ediv_nonneg hR0 (by omega)
  have hQD : R / D * D ≤ R:=Int.ediv_mul_le R (by omega)
  have hQB : R / D < 4294967296:=Int.ediv_lt_of_lt_mul hDpos hlt
  refine ⟨hDpos,hQ0,hQD,hQB,?_,?_⟩
  · by_cases e : U ≤ d1 * 4294967296 + 4294967295
    · exact e
    · have g1 : ((d1 * 4294967296 + 4294967296) * 4294967296 + u2) * P ≤ (U * 4294967296 + u2) * P:=Int.mul_le_mul_of_nonneg_right (by omega) (by omega)
      have g2 : (d1 * 4294967296 + d2 + 1) * P ≤ (d1 * 4294967296 + 4294967296) * P:=Int.mul_le_mul_of_nonneg_right (by omega) (by omega)
      have g3 : ((d1 * 4294967296 + 4294967296) * 4294967296 + u2) * P = 4294967296 * ((d1 * 4294967296 + 4294967296) * P) + u2 * P:=by grind
      have g4 : 0 ≤ u2 * P:=Int.mul_nonneg (by omega) (by omega)
      have g5 : (d1 * 4294967296 + d2 + 1) * P = (d1 * 4294967296 + d2) * P + P:=by grind
      omega
  · generalize R / D = Q at *
    have hq : Q * d1 ≤ U:=by
      by_cases e : Q * d1 ≤ U
      · exact e
      · have g1 : ((U + 1) * 4294967296) * P ≤ (Q * d1 * 4294967296) * P:=Int.mul_le_mul_of_nonneg_right (by omega) (by omega)
        have g2 : (Q * d1 * 4294967296) * P + Q * (d2 * P + d3) = Q * D:=by rw [e2]; grind
        have g3 : 0 ≤ Q * (d2 * P + d3):=Int.mul_nonneg hQ0 (by have:=Int.mul_nonneg (show 0 ≤ d2 by omega) (Int.le_of_lt hP); omega)
        have g4 : (u2 + 1) * P ≤ 4294967296 * P:=Int.mul_le_mul_of_nonneg_right (by omega) (by omega)
        have g5 : (U * 4294967296 + u2) * P = U * 4294967296 * P + u2 * P:=by grind
        have g6 : ((U + 1) * 4294967296) * P = U * 4294967296 * P + 4294967296 * P:=by grind
        have g7 : (u2 + 1) * P = u2 * P + P:=by grind
        omega
    exact (Int.le_ediv_iff_mul_le (by omega)).2 hq
theorem guess_ok {win vs : List Int} {n : Nat} (h : Wd win) (h2 : Wd vs) (hl : win.length = n + 3) (hl2 : vs.length = n + 2) (hd1 : 2147483648 ≤ vs.getD (n + 1) 0) (hlt : val win < 4294967296 * val vs) {q : Int} (hq : q = guessW (win.getD (n + 2) 0) (win.getD (n + 1) 0) (win.getD n 0) (vs.getD (n + 1) 0) (vs.getD n 0)) :
    val win / val vs ≤ q ∧ q < 4294967296 ∧ (q - 1) * val vs ≤ val win:=by
  obtain ⟨hDpos,hQ0,hQD,hQB,hU,hQq⟩:=guess_first h h2 hl hl2 hd1 hlt
  have t1:=take_lt h (n:=n) (by omega)
  have t2:=take_lt h2 (n:=n) (by omega)
  have w2:=h.getD n
  have w3:=h.getD (n + 1)
  have w4:=h.getD (n + 2)
  have v1:=h2.getD (n + 1)
  have v2:=h2.getD n
  subst hq
  unfold guessW
  have hU0 : 0 ≤ win.getD (n + 2) 0 * 4294967296 + win.getD (n + 1) 0:=by omega
  refine gL_ok (top3 hl) (top2 hl2) (Bpos n) w2.1 t1 (by omega) v2 t2 hU hQ0 hQD hQB hDpos 2 _ _ ?_ ?_ ?_ ?_ ?_ hQq
  · exact Int.ediv_nonneg hU0 (by omega)
  · rw [Int.mul_comm]; exact Int.mul_ediv_add_emod _ _
  · exact Int.emod_nonneg _ (by omega)
  · have:=Int.emod_lt_of_pos (win.getD (n + 2) 0 * 4294967296 + win.getD (n + 1) 0) (show 0 < vs.getD (n + 1) 0 by omega); omega
  · have:=Int.emod_nonneg (win.getD (n + 2) 0 * 4294967296 + win.getD (n + 1) 0) (show vs.getD (n + 1) 0 ≠ 0 by omega); omega
structure GuessAt (U u2 d1 d2 G : Int) (x : Nat × Int × Int) : Prop where
  n : 1 ≤ x.1
  q0 : 0 ≤ x.2.1
  qr : x.2.1 * d1 + x.2.2 = U
  r : 0 ≤ x.2.2 ∧ x.2.2 < 4294967296
  f : 4294967296 ≤ x.2.2 + x.1 * d1
  g : gL u2 d1 d2 x.1 x.2.1 x.2.2 = G
theorem GuessAt.start {u0 u1 u2 d1 d2 : Int} (h0 : 0 ≤ u0 * 4294967296 + u1) (hd : 2147483648 ≤ d1 ∧ d1 < 4294967296) : GuessAt (u0 * 4294967296 + u1) u2 d1 d2 (guessW u0 u1 u2 d1 d2) (2,(u0 * 4294967296 + u1) / d1,(u0 * 4294967296 + u1) % d1):=by
  have h1:=Int.emod_nonneg (u0 * 4294967296 + u1) (show d1 ≠ 0 by omega)
  have h2:=Int.emod_lt_of_pos (u0 * 4294967296 + u1) (show 0 < d1 by omega)
  exact ⟨by show 1 ≤ 2; decide,Int.ediv_nonneg h0 (by omega),by simp only; rw [Int.mul_comm]; exact Int.mul_ediv_add_emod _ _,⟨h1,by simp only; omega⟩,by simp only; omega,rfl⟩
theorem GuessAt.qb {U u2 d1 d2 G q r : Int} {n : Nat} (ha : GuessAt U u2 d1 d2 G (n,q,r)) (hd : 2147483648 ≤ d1) : q ≤ U:=by
  have h1:=ha.qr
  have h2:=ha.r.1
  have h3:=ha.q0
  simp only at h1 h2 h3
  have : q * 1 ≤ q * d1:=Int.mul_le_mul_of_nonneg_left (by omega) h3
  omega
theorem GuessAt.bad {U u2 d1 d2 G q r : Int} {n : Nat} (ha : GuessAt U u2 d1 d2 G (n,q,r)) (hb : 4294967296 ≤ q ∨ r * 4294967296 + u2 < q * d2) (hu2 : 0 ≤ u2) (hd : 0 ≤ d1) : 1 ≤ q ∧ (4294967296 ≤ r + d1 → q - 1 = G) ∧ (r + d1 < 4294967296 → GuessAt U u2 d1 d2 G (n - 1,q - 1,r + d1)):=by
  obtain ⟨h1,h2,h3,h4,h5,h6⟩:=ha
  simp only at h1 h2 h3 h4 h5 h6
  have hq : 1 ≤ q:=by
    rcases hb with e | e
    · omega
    · by_cases c : q = 0
      · rw [c,Int.zero_mul] at e; omega
      · omega
  obtain ⟨m,rfl⟩ : ∃ m,n = m + 1:=⟨n - 1,by omega⟩
  rw [gL,if_pos hb] at h6
  have e1 : ((m + 1 : Nat) : Int) * d1 = m * d1 + d1:=by rw [Int.natCast_succ,Int.add_mul,Int.one_mul]
  refine ⟨hq,fun h=>by rw [if_pos h] at h6; exact h6,fun h=>?_⟩
  rw [if_neg (by omega)] at h6
  have hm : 1 ≤ m:=by
    by_cases c : m = 0
    · subst c; simp at h5; omega
    · omega
  exact ⟨by simpa using hm,by simp only; omega,by simp only; rw [← h3]; grind,by simp only; omega,by simp only [Nat.add_sub_cancel]; omega,by simpa using h6⟩
theorem GuessAt.good {U u2 d1 d2 G q r : Int} {n : Nat} (ha : GuessAt U u2 d1 d2 G (n,q,r)) (hb : ¬ (4294967296 ≤ q ∨ r * 4294967296 + u2 < q * d2)) : q = G:=by
  obtain ⟨h1,h2,h3,h4,h5,h6⟩:=ha
  simp only at h1 h6
  obtain ⟨m,rfl⟩ : ∃ m,n = m + 1:=⟨n - 1,by omega⟩
  rwa [gL,if_neg hb] at h6
structure PartAt (W : List Int) (n : Nat) (D : Int) (x : Nat × Int × List Int) : Prop where
  le : x.1 + n ≤ W.length
  r : 0 ≤ x.2.1 ∧ x.2.1 < D
  wd : Wd x.2.2
  len : x.2.2.length + x.1 + n = W.length
  eq : val x.2.2 * D + x.2.1 = val (W.drop x.1)
theorem PartAt.start {W : List Int} {n : Nat} {D : Int} (h : Wd W) (hn : n ≤ W.length) (hlt : val (W.drop (W.length - n)) < D) : PartAt W n D (W.length - n,val (W.drop (W.length - n)),[]) :=
  ⟨by simp only; omega,⟨val_nonneg (h.drop _),hlt⟩,Wd.nil,by simp only [List.length_nil]; omega,by simp [val]⟩
def restAt (W : List Int) (n : Nat) (i : Nat) (R : Int) : List Int:=W.take i ++ (digN n R ++ List.replicate (W.length - n - i) 0)
theorem restAt_length {W : List Int} {n i : Nat} {R : Int} (h : i + n ≤ W.length) : (restAt W n i R).length = W.length:=by simp [restAt,digN_length]; omega
theorem restAt_wd {W : List Int} {n i : Nat} {R : Int} (h : Wd W) : Wd (restAt W n i R):=(h.take i).append ((digN_wd _ _).append (Wd.rep _))
theorem restAt_start {W : List Int} {n : Nat} (h : Wd W) (hn : n ≤ W.length) : restAt W n (W.length - n) (val (W.drop (W.length - n))) = W:=by
  have e : digN n (val (W.drop (W.length - n))) = W.drop (W.length - n):=by
    have:=digN_val (h.drop (W.length - n))
    rwa [List.length_drop,show W.length - (W.length - n) = n by omega] at this
  rw [restAt,e,Nat.sub_self,List.replicate_zero,List.append_nil,List.take_append_drop]
theorem restAt_win {W : List Int} {n i : Nat} {R : Int} (hi : i < W.length) : restAt W n (i + 1) R = W.take i ++ ((W.getD i 0 :: digN n R) ++ List.replicate (W.length - n - (i + 1)) 0):=by
  rw [restAt,List.take_succ_eq_append_getElem hi,List.append_assoc,List.singleton_append,List.cons_append]
  simp [List.getD_eq_getElem?_getD,hi]
theorem digN_top {n : Nat} {m : Int} (h0 : 0 ≤ m) (h1 : m < 4294967296 ^ n) : digN (n + 1) m = digN n m ++ [0]:=by
  have hw : Wd (digN n m ++ [0]):=(digN_wd n m).snoc (by decide) (by decide)
  have hv : val (digN n m ++ [0]) = m:=by rw [val_snoc,val_digN h0 h1]; simp
  have:=digN_val hw
  rw [hv] at this
  simpa [digN_length] using this
theorem restAt_next {W : List Int} {n i : Nat} {R : Int} (h0 : 0 ≤ R) (h1 : R < 4294967296 ^ n) (hi : i + 1 + n ≤ W.length) : W.take i ++ (digN (n + 1) R ++ List.replicate (W.length - n - (i + 1)) 0) = restAt W n i R:=by
  rw [restAt,digN_top h0 h1,List.append_assoc,show W.length - n - i = (W.length - n - (i + 1)) + 1 by omega,List.replicate_succ,List.singleton_append]
theorem PartAt.win {W : List Int} {n : Nat} {D R : Int} {i : Nat} {qs : List Int} (h : Wd W) (hD : D < 4294967296 ^ n) (ha : PartAt W n D (i + 1,R,qs)) : Wd (W.getD i 0 :: digN n R) ∧ (W.getD i 0 :: digN n R).length = n + 1 ∧ val (W.getD i 0 :: digN n R) = W.getD i 0 + 4294967296 * R ∧ val (W.getD i 0 :: digN n R) < 4294967296 * D:=by
  have hr:=ha.r
  simp only at hr
  have hw:=h.getD i
  have e : val (W.getD i 0 :: digN n R) = W.getD i 0 + 4294967296 * R:=by rw [val,val_digN hr.1 (by omega)]
  exact ⟨Wd.cons.2 ⟨hw,digN_wd _ _⟩,by simp [digN_length],e,by omega⟩
theorem PartAt.next {W : List Int} {n : Nat} {D R : Int} {i : Nat} {qs : List Int} (h : Wd W) (hDpos : 0 < D) (ha : PartAt W n D (i + 1,R,qs)) {V : Int} (hV : V = W.getD i 0 + 4294967296 * R) : PartAt W n D (i,V % D,V / D :: qs):=by
  obtain ⟨hle,hr,hw,hlen,heq⟩:=ha
  simp only at hle hr hw hlen heq
  have hwi:=h.getD i
  have h1:=Int.ediv_nonneg (a:=V) (b:=D) (by omega) (by omega)
  have h2 : V / D < 4294967296:=Int.ediv_lt_of_lt_mul hDpos (by omega)
  refine ⟨by simp only; omega,⟨Int.emod_nonneg _ (by omega),Int.emod_lt_of_pos _ hDpos⟩,Wd.cons.2 ⟨⟨h1,h2⟩,hw⟩,by simp only [List.length_cons]; omega,?_⟩
  simp only
  rw [val,drop_val W i,← heq]
  have h3:=Int.mul_ediv_add_emod V D
  generalize V / D = Q at *
  generalize V % D = r at *
  rw [hV] at h3
  generalize W.getD i 0 = w at *
  have : w = D * Q + r - 4294967296 * R:=by omega
  subst this
  grind
theorem part_end {A b R : Int} {qs : List Int} {k : Nat} (hb : 0 < b) (heq : val qs * (b * 2 ^ k) + R = A * 2 ^ k) (hr : 0 ≤ R ∧ R < b * 2 ^ k) : val qs = A / b ∧ R / 2 ^ k = A % b:=by
  have hp : (0 : Int) < 2 ^ k:=Int.pow_pos (by decide)
  have e : R = 2 ^ k * (A - val qs * b):=by
    have : R = A * 2 ^ k - val qs * (b * 2 ^ k):=by omega
    rw [this]; grind
  have e2 : R / 2 ^ k = A - val qs * b:=by rw [e,Int.mul_ediv_cancel_left _ (by omega)]
  have h0 : 0 ≤ A - val qs * b:=by rw [← e2]; exact Int.ediv_nonneg hr.1 (by omega)
  have h1 : A - val qs * b < b:=by
    by_cases c : A - val qs * b < b
    · exact c
    · have:=Int.mul_le_mul_of_nonneg_left (show b ≤ A - val qs * b by omega) (Int.le_of_lt hp)
      rw [← e,Int.mul_comm] at this; omega
  have hu:=(Int.ediv_emod_unique (a:=A) (b:=b) (r:=A - val qs * b) (q:=val qs) hb).2 ⟨by rw [Int.mul_comm b]; omega,h0,h1⟩
  exact ⟨hu.1.symm,by rw [e2]; exact hu.2.symm⟩
theorem drop_bd {W : List Int} (h : Wd W) {i : Nat} (hi : i ≤ W.length) : 4294967296 ^ i * val (W.drop i) ≤ val W:=by
  have h1:=val_drop W i
  have h2:=val_nonneg (h.take i)
  rw [Nat.min_eq_left hi] at h1
  omega
theorem norm_bd {ws : List Int} (h : Wd ws) (ht : Tr ws) (hn : ws ≠ []) {k : Nat} (hk : k + bl (ws.getD (ws.length - 1) 0).toNat = 32) : 2147483648 * 4294967296 ^ (ws.length - 1) ≤ val ws * 2 ^ k ∧ val ws * 2 ^ k < 4294967296 ^ ws.length ∧ k < 32:=by
  have hb:=bl_val h ht hn
  have hlen : 0 < ws.length:=List.length_pos_iff.2 hn
  have hv:=val_nonneg h
  have htop : ws.getD (ws.length - 1) 0 ≠ 0:=by
    rcases ht with e | e
    · omega
    · exact e
  have hw:=h.getD (ws.length - 1)
  have h1 : 1 ≤ bl (ws.getD (ws.length - 1) 0).toNat:=by
    by_cases e : 1 ≤ bl (ws.getD (ws.length - 1) 0).toNat
    · exact e
    · have:=(bl_spec (n:=(ws.getD (ws.length - 1) 0).toNat) (k:=0)).1 (by omega)
      rw [Nat.pow_zero] at this; omega
  have hbl : bl (val ws).toNat = 32 * (ws.length - 1) + bl (ws.getD (ws.length - 1) 0).toNat:=by omega
  generalize bl (ws.getD (ws.length - 1) 0).toNat = t at *
  have hlo : 2 ^ (32 * (ws.length - 1) + t - 1) ≤ (val ws).toNat:=by
    by_cases e : 2 ^ (32 * (ws.length - 1) + t - 1) ≤ (val ws).toNat
    · exact e
    · have:=(bl_spec (n:=(val ws).toNat) (k:=32 * (ws.length - 1) + t - 1)).2 (by omega)
      omega
  have hhi:=(bl_spec (n:=(val ws).toNat) (k:=32 * (ws.length - 1) + t)).1 (by omega)
  have hlo2 : (2 : Int) ^ (32 * (ws.length - 1) + t - 1) ≤ val ws:=by
    have : ((2 ^ (32 * (ws.length - 1) + t - 1) : Nat) : Int) ≤ ((val ws).toNat : Int):=Int.ofNat_le.2 hlo
    rw [Int.natCast_pow,Int.toNat_of_nonneg hv] at this; exact this
  have hhi2 : val ws < (2 : Int) ^ (32 * (ws.length - 1) + t):=by
    have : ((val ws).toNat : Int) < ((2 ^ (32 * (ws.length - 1) + t) : Nat) : Int):=Int.ofNat_lt.2 hhi
    rw [Int.natCast_pow,Int.toNat_of_nonneg hv] at this; exact this
  have hp : (0 : Int) < 2 ^ k:=Int.pow_pos (by decide)
  refine ⟨?_,?_,by omega⟩
  · have:=Int.mul_le_mul_of_nonneg_right hlo2 (Int.le_of_lt hp)
    rw [← Int.pow_add,show 32 * (ws.length - 1) + t - 1 + k = 31 + 32 * (ws.length - 1) by omega,Int.pow_add,two32] at this
    exact this
  · have:=Int.mul_lt_mul_of_pos_right hhi2 hp
    rw [← Int.pow_add,show 32 * (ws.length - 1) + t + k = 32 * ws.length by omega,two32] at this
    exact this
theorem top_bit {vs : List Int} (h : Wd vs) {n : Nat} (hl : vs.length = n + 1) (hv : 2147483648 * 4294967296 ^ n ≤ val vs) : 2147483648 ≤ vs.getD n 0:=by
  have h1:=val_take_succ' (ws:=vs) n
  rw [List.take_of_length_le (by omega)] at h1
  have h2:=take_lt h (n:=n) (by omega)
  by_cases e : 2147483648 ≤ vs.getD n 0
  · exact e
  · have h3 : 4294967296 ^ n * (vs.getD n 0 + 1) ≤ 4294967296 ^ n * 2147483648:=Int.mul_le_mul_of_nonneg_left (by omega) (Int.le_of_lt (Bpos n))
    have h4 : (4294967296 : Int) ^ n * (vs.getD n 0 + 1) = 4294967296 ^ n * vs.getD n 0 + 4294967296 ^ n:=by grind
    omega
end Go.Proofs.YtcifhkfpmhifaaaGreatDoor.NumA
namespace Go.Proofs.YtcifhkfpmhifaaaGreatDoor.NumA
theorem div_pos {m : Bool} {A B : Int} (hA : 0 ≤ A) (hB : 0 < B) : (sg m A / B = if m = true ∧ A % B ≠ 0 then -(A / B + 1) else sg m (A / B)) ∧ (sg m A % B = if m = true ∧ A % B ≠ 0 then B - A % B else A % B):=by
  have h1:=Int.mul_ediv_add_emod A B
  have h2:=Int.emod_nonneg A (show B ≠ 0 by omega)
  have h3:=Int.emod_lt_of_pos A hB
  cases m with
  | false=>simp [sg]
  | true =>
    generalize A / B = Q at *
    generalize A % B = R at *
    by_cases e : R = 0
    · subst e
      have:=(Int.ediv_emod_unique (a:=-A) (b:=B) (r:=0) (q:=-Q) hB).2 ⟨by rw [Int.mul_neg]; omega,by omega,by omega⟩
      simp [sg,this]
    · have e2 : B * -(Q + 1) = -(B * Q) - B:=by grind
      have:=(Int.ediv_emod_unique (a:=-A) (b:=B) (r:=B - R) (q:=-(Q + 1)) hB).2 ⟨by omega,by omega,by omega⟩
      simp [sg,this,e]
theorem div_sg {m n : Bool} {A B : Int} (hA : 0 ≤ A) (hB : 0 < B) : (sg m A / sg n B = if m = true ∧ A % B ≠ 0 then sg (m != n) (A / B + 1) else sg (m != n) (A / B)) ∧ (sg m A % sg n B = if m = true ∧ A % B ≠ 0 then B - A % B else A % B):=by
  have h:=div_pos (m:=m) hA hB
  cases n with
  | false =>
    simp only [Bool.bne_false]
    refine ⟨?_,by simpa [sg] using h.2⟩
    have h1:=h.1
    rw [show sg false B = B by simp [sg],h1]
    split
    · rename_i e; simp [sg,e.1]
    · rfl
  | true =>
    have e1 : sg true B = -B:=by simp [sg]
    rw [e1,Int.ediv_neg,Int.emod_neg,h.1,h.2]
    refine ⟨?_,rfl⟩
    split
    · rename_i e; simp [sg,e.1]
    · cases m <;> simp [sg]
theorem gcd_step (x y : Nat) : Nat.gcd x y = Nat.gcd y (x % y):=by
  rw [Nat.gcd_comm x y,Nat.gcd_rec y x,Nat.gcd_comm]
end Go.Proofs.YtcifhkfpmhifaaaGreatDoor.NumA
set_option maxRecDepth 100000
set_option maxHeartbeats 4000000
namespace Go.Proofs.YtcifhkfpmhifaaaGreatDoor.N
open Go Go.Proofs.YtcifhkfpmhifaaaGreatDoor.SH Go.Proofs.YtcifhkfpmhifaaaGreatDoor.NumA
open Go.Proofs.Tryz renaming isAgg68 → ag68,sizeOf68 → sz68,underlying121 → un121,underlying68 → un68,underlying78 → un78
theorem guess_says (u0 u1 u2 d1 d2 : Int) (h0 : 0 ≤ u0 ∧ u0 < 4294967296) (h1 : 0 ≤ u1 ∧ u1 < 4294967296) (h2 : 0 ≤ u2 ∧ u2 < 4294967296) (hd1 : 2147483648 ≤ d1 ∧ d1 < 4294967296) (hd2 : 0 ≤ d2 ∧ d2 < 4294967296) : Says E 132 [.agg [oZ u0,oZ u1,oZ u2],oZ d1,oZ d2] (uZ (guessW u0 u1 u2 d1 d2)):=by
 refine says_of (xs:=[uZ (guessW u0 u1 u2 d1 d2)]) Tryz.func132 rfl Tryz.ntmps132 Tryz.results132 (by simp) fun F hG hX0 hnt hdf P0=>?_
 obtain ⟨L,hX,hN⟩:=pro hnt hX0 hG
 have hU0 : 0 ≤ u0 * 4294967296 + u1:=by omega
 have hqb : (u0 * 4294967296 + u1) / d1 < 18446744073709551616:=by have:=Int.ediv_le_self d1 hU0; omega
 refine exr (swb (c_bx (k:=3) (n:=3) pa3 rfl rfl (P0 _ rfl) (L rfl)) t1 t0 ⟨rfl,rfl⟩ (aV (L rfl) rfl (zn [(1,_),(2,_),(3,_)] [(3,_)] t3 t1 (exr (sw (core_indexAddrA un121 sz68 (by rfl) (by decide) (by omega) (L rfl)) t2 t1 ?_)))))
 refine sw (c_l1 ag68 (by rfl) (by rfl) (L rfl)) t1 t1 ?_
 refine sw (c_cv un68 un78 (L rfl) (fu64 (by omega) (by omega))) t1 t0 ?_
 refine sw (c_sl (L rfl) (by decide) (shlE (c:=4294967296) (by rfl) (fu64 (by omega) (by omega)))) t2 t0 ?_
 refine sw (core_indexAddrA un121 sz68 (by rfl) (by decide) (by omega) (L rfl)) t2 t1 ?_
 refine sw (c_l1 ag68 (by rfl) (by rfl) (L rfl)) t1 t1 ?_
 refine sw (c_cv un68 un78 (L rfl) (fu64 (by omega) (by omega))) t1 t0 ?_
 refine sw (c_or (L rfl) (or64' (b:=u0) 32 rfl h1.1 h1.2 h0.1 (by decide) (by omega) (by omega))) t2 t0 ?_
 refine aV (L rfl) rfl ?_
 refine seq_nil ⟨[(1,_),(2,_),(3,_),(7,vw (u0 * 4294967296 + u1))],[(3,_)],⟨rfl,rfl,rfl,oi (by omega) rfl,trivial⟩,t1,?_⟩
 refine exd (by rfl) ?_
 refine mV (L rfl) rfl (mV (L rfl) rfl (sw (c_cv un68 un78 (L rfl) (fu64 (by omega) (by omega))) t1 t0 ?_))
 refine sw (c_q (L rfl) (by omega) (tdivE hU0 (by omega) hqb)) t2 t0 ?_
 refine mV (L rfl) rfl (mV (L rfl) rfl (sw (c_cv un68 un78 (L rfl) (fu64 (by omega) (by omega))) t1 t0 ?_))
 refine sw (c_r (L rfl) (by omega) (tmodE hU0 (by omega))) t2 t0 ?_
 refine aV (L rfl) rfl (aV (L rfl) rfl ?_)
 refine seq_nil ⟨aoks [⟨[7],[],[18],[]⟩,⟨[1],[],[19],[]⟩,⟨[19],[],[20],[]⟩,⟨[18,20],[],[21],[]⟩,⟨[7],[],[22],[]⟩,⟨[1],[],[23],[]⟩,⟨[23],[],[24],[]⟩,⟨[22,24],[],[25],[]⟩,⟨[21],[],[8],[]⟩,⟨[25],[],[9],[]⟩] (by rfl) (by rfl) (by decide),[(1,_),(2,_),(3,_),(8,_),(9,_)],[(3,_)],t5,t1,?_⟩
 refine ex_seq (ex_block ?_)
 refine exl (α:=(Nat × Int × Int)) (fun x=>[(8,vw x.2.1),(9,vw x.2.2)]) (fun x=>[]) (fun x=>GuessAt (u0 * 4294967296 + u1) u2 d1 d2 (guessW u0 u1 u2 d1 d2) x) (fun x=>x.1) ((2,(u0 * 4294967296 + u1) / d1,(u0 * 4294967296 + u1) % d1)) (sl:=[(1,_),(2,_),(3,_)]) (hb:=[(3,_)]) ?_ ⟨(by first | exact rfl | exact oi (by omega) rfl),(by first | exact rfl | exact oi (by omega) rfl),rfl,rfl,rfl,trivial⟩ t1 ?_
 ·exact GuessAt.start hU0 hd1
 intro x hx
 obtain ⟨n,q,r⟩:=x
 have hn:=hx.n
 have hq0:=hx.q0
 have hr:=hx.r
 have hqU:=hx.qb hd1.1
 simp only at hn hq0 hr
 dsimp only
 refine ex_seq ?_
 refine exm (sl:=[(40,vb (decide (4294967296 ≤ q ∨ r * 4294967296 + u2 < q * d2)))]) (sl0:=[(1,_),(2,_),(3,_),(8,_),(9,_)]) (hb:=[]) (hb0:=[(3,_)]) t5 t1 ?_ ?_
 ·by_cases hq : 4294967296 ≤ q
  ·refine mV (L rfl) rfl (sw (c_ge (L rfl)) t2 t0 (mV (L rfl) rfl (swn (g:=28) rfl (decide_eq_true hq) (L rfl) rfl (swn (g:=28) rfl (decide_eq_true hq) (L rfl) rfl (swn (g:=28) rfl (decide_eq_true hq) (L rfl) rfl (swn (g:=28) rfl (decide_eq_true hq) (L rfl) rfl (swn (g:=28) rfl (decide_eq_true hq) (L rfl) rfl (swn (g:=28) rfl (decide_eq_true hq) (L rfl) rfl (swn (g:=28) rfl (decide_eq_true hq) (L rfl) rfl (swn (g:=28) rfl (decide_eq_true hq) (L rfl) rfl (swn (g:=28) rfl (decide_eq_true hq) (L rfl) rfl ?_)))))))))))
   refine swn (g:=28) rfl (decide_eq_true hq) (L rfl) rfl (swn (g:=28) rfl (decide_eq_true hq) (L rfl) rfl (sw (c_pt (decide_eq_true hq) (L rfl)) t2 t0 ?_))
   exact seq_nil ⟨⟨ob rfl (by simp [hq]),rfl,rfl,rfl,rfl,rfl,trivial⟩,t1⟩
  ·refine mV (L rfl) rfl (sw (c_ge (L rfl)) t2 t0 (mV (L rfl) rfl (gV (g:=28) rfl (decide_eq_false hq) (L rfl) rfl rfl (gV (g:=28) rfl (decide_eq_false hq) (L rfl) rfl rfl (swg (g:=28) rfl (decide_eq_false hq) (c_cv un68 un78 (L rfl) (fu64 (by omega) (by omega))) rfl t1 t0 ?_)))))
   refine swg (g:=28) rfl (decide_eq_false hq) (c_mu (L rfl) (fu64 (mul_bd ⟨hq0,by omega⟩ hd2).1 (by have:=mul_bd (x:=q) ⟨hq0,by omega⟩ hd2; omega))) rfl t2 t0 ?_
   refine gV (g:=28) rfl (decide_eq_false hq) (L rfl) rfl rfl (swg (g:=28) rfl (decide_eq_false hq) (c_sl (L rfl) (by decide) (shlE (c:=4294967296) (by rfl) (fu64 (by omega) (by omega)))) rfl t2 t0 ?_)
   refine swg (g:=28) rfl (decide_eq_false hq) (core_indexAddrA un121 sz68 (by rfl) (by decide) (by omega) (L rfl)) rfl t2 t1 ?_
   refine swg (g:=28) rfl (decide_eq_false hq) (c_l1 ag68 (by rfl) (by rfl) (L rfl)) rfl t1 t1 ?_
   refine swg (g:=28) rfl (decide_eq_false hq) (c_cv un68 un78 (L rfl) (fu64 (by omega) (by omega))) rfl t1 t0 ?_
   refine swg (g:=28) rfl (decide_eq_false hq) (c_or (L rfl) (or64' (b:=r) 32 rfl h2.1 h2.2 hr.1 (by decide) (by omega) (by omega))) rfl t2 t0 ?_
   refine swg (g:=28) rfl (decide_eq_false hq) (c_gt (L rfl)) rfl t2 t0 (sw (c_pf (decide_eq_false hq) (L rfl)) t2 t0 ?_)
   exact seq_nil ⟨⟨ob rfl (dec_eq (by omega)),rfl,rfl,rfl,rfl,rfl,trivial⟩,t1⟩
 refine ex_if rfl (fun hb=>?_) (fun hb=>?_)
 ·have hb:=dt hb
  obtain ⟨b1,b2,b3⟩:=hx.bad hb h2.1 (by omega)
  refine ex_skip (show Exec _ _ _ _ _ from ?_)
  refine ex_block (exr (mV (L rfl) rfl (sw (c_su (L rfl) (fu64 (by omega) (by omega))) t2 t0 ?_)))
  refine aV (L rfl) rfl (zn [(1,_),(2,_),(3,_),(8,_),(9,_)] [(3,_)] t5 t1 (exr (mV (L rfl) rfl (mV (L rfl) rfl (sw (c_cv un68 un78 (L rfl) (fu64 (by omega) (by omega))) t1 t0 ?_)))))
  refine sw (c_ad (L rfl) (fu64 (by omega) (by omega))) t2 t0 ?_
  refine aV (L rfl) rfl (zn [(1,_),(2,_),(3,_),(8,_),(9,_)] [(3,_)] t5 t1 (exr (mV (L rfl) rfl (sw (c_ge (L rfl)) t2 t0 (zn [(1,_),(2,_),(3,_),(8,_),(9,_),(48,_)] [(3,_)] t6 t1 ?_)))))
  refine ex_if rfl (fun hc=>?_) (fun hc=>?_)
  ·have hc:=dt hc
   refine ex_exit (show Exec _ _ _ _ _ from ?_)
   refine exr (mV (L rfl) rfl (aV (L rfl) rfl (zn [(6,_)] [] t1 trivial (ex_ret ?_))))
   refine ⟨.inr rfl,ResVs.cast (.cons (.tmp rfl) .nil) ?_⟩
   rw [b2 (by omega)]
  ·have hc:=df hc
   refine ex_skip ?_
   exact ⟨(n - 1,q - 1,r + d1),b3 (by omega),(by simp only; omega),le_of ⟨(by first | exact rfl | exact oi (by omega) rfl),(by first | exact rfl | exact oi (by omega) rfl),rfl,rfl,rfl,trivial⟩ t1⟩
 ·have hb:=df hb
  refine ex_exit (show Exec _ _ _ _ _ from ?_)
  refine exr (mV (L rfl) rfl (aV (L rfl) rfl (zn [(6,_)] [] t1 trivial (ex_ret ?_))))
  refine ⟨.inr rfl,ResVs.cast (.cons (.tmp rfl) .nil) ?_⟩
  rw [hx.good hb]
end Go.Proofs.YtcifhkfpmhifaaaGreatDoor.N
namespace Go.Proofs.YtcifhkfpmhifaaaGreatDoor.NumA
theorem mid_get {xs ys win zs : List Int} {j : Nat} (hl : ys.length = j) (hj : j < win.length) : (xs ++ ((ys ++ win.drop j) ++ zs)).getD (xs.length + j) 0 = win.getD j 0:=by
  rw [drop_getD hj,List.getD_eq_getElem?_getD,List.getElem?_append_right (by omega),Nat.add_sub_cancel_left,List.getElem?_append_left (by simp; omega),List.getElem?_append_right (by omega),hl,Nat.sub_self]
  rfl
theorem mid_set {xs ys win zs : List Int} {j : Nat} (hl : ys.length = j) (hj : j < win.length) (d : Int) : (xs ++ ((ys ++ win.drop j) ++ zs)).set (xs.length + j) d = xs ++ (((ys ++ [d]) ++ win.drop (j + 1)) ++ zs):=by
  rw [List.set_append_right _ _ (by omega),Nat.add_sub_cancel_left,List.set_append_left _ _ (by simp; omega),List.set_append_right _ _ (by omega),hl,Nat.sub_self,drop_getD hj,List.set_cons_zero]
  simp
theorem take_fin {win vs ys : List Int} {q c : Int} (h : Wd win) (hl : vs.length < win.length) (h2 : Wd vs) (hq : 0 ≤ q ∧ q < 4294967296) (ha : TakeAt win vs q (win.length,ys,c,0)) : q * val vs ≤ val win ∧ ys = digN win.length (val win - q * val vs):=by
  obtain ⟨-,h4,h5⟩:=ha.end_ h hl h2 hq
  have hlen:=ha.len
  simp only at hlen
  rw [Int.mul_zero,Int.add_zero] at h4
  refine ⟨h5.1 rfl,?_⟩
  rw [← h4,← hlen]; exact (digN_val ha.wd).symm
theorem back_fin {win vs w1 ys : List Int} {q e : Int} (hlw : vs.length ≤ win.length) (h2 : Wd vs) (hw1 : val w1 = val win - q * val vs + 4294967296 ^ win.length * 1) (hl1 : w1.length = win.length) (ha : BackAt w1 vs (win.length,ys,e)) (hq1 : (q - 1) * val vs ≤ val win) : ys = digN win.length (val win - (q - 1) * val vs) ∧ e = 1:=by
  have heq:=ha.eq
  have hlen:=ha.len
  have hy:=ha.wd
  have hc:=ha.c
  simp only at heq hlen hy hc
  rw [List.take_of_length_le (show w1.length ≤ win.length by omega),List.take_of_length_le hlw,hw1] at heq
  have hv:=val_lt h2
  have hp:=powle hlw
  have hy0:=val_nonneg hy
  have hy1:=val_lt hy
  rw [hlen] at hy1
  rw [Int.sub_mul,Int.one_mul] at hq1 ⊢
  have he : e = 1:=by
    rcases hc with e0 | e1
    · rw [e0,Int.mul_zero] at heq; omega
    · exact e1
  rw [he] at heq
  refine ⟨?_,he⟩
  have : val ys = val win - (q * val vs - val vs):=by omega
  rw [← this,← hlen]; exact (digN_val hy).symm
theorem back_more {win vs w1 ys : List Int} {q e : Int} (hlw : vs.length ≤ win.length) (h2 : Wd vs) (hw1 : val w1 = val win - q * val vs + 4294967296 ^ win.length * 1) (hl1 : w1.length = win.length) (h1 : Wd w1) (hw : Wd win) (ha : BackAt w1 vs (win.length,ys,e)) (hnot : ¬ q * val vs ≤ val win) : val ys = val win - (q - 1) * val vs + 4294967296 ^ win.length * (1 - e) ∧ (1 - e = 0 ↔ (q - 1) * val vs ≤ val win):=by
  have heq:=ha.eq
  have hlen:=ha.len
  have hy:=ha.wd
  have hc:=ha.c
  simp only at heq hlen hy hc
  rw [List.take_of_length_le (show w1.length ≤ win.length by omega),List.take_of_length_le hlw,hw1] at heq
  have hv:=val_lt h2
  have hp:=powle hlw
  have hy0:=val_nonneg hy
  have hy1:=val_lt hy
  rw [hlen] at hy1
  rw [Int.sub_mul,Int.one_mul,Int.mul_sub]
  refine ⟨by omega,?_⟩
  rcases hc with e0 | e1
  · rw [e0,Int.mul_zero] at heq; rw [e0]; omega
  · rw [e1] at heq ⊢; omega
end Go.Proofs.YtcifhkfpmhifaaaGreatDoor.NumA
set_option maxRecDepth 100000
set_option maxHeartbeats 4000000
namespace Go.Proofs.YtcifhkfpmhifaaaGreatDoor.N
open Go Go.Proofs.YtcifhkfpmhifaaaGreatDoor.SH Go.Proofs.YtcifhkfpmhifaaaGreatDoor.NumA
open Go.Proofs.Tryz renaming call145 → cl145,isAgg68 → ag68,sizeOf68 → sz68,underlying22 → un22,underlying68 → un68,underlying78 → un78
theorem getM {xs ys win zs : List Int} {j : Nat} (hl : ys.length = j) (hj : j < win.length) : (encW (xs ++ ((ys ++ win.drop j) ++ zs)))[xs.length + j]? = some (.a (.int .u32 (win.getD j 0))):=by
 rw [getW (by simp; omega),mid_get hl hj]
theorem take_says (xs win zs vs : List Int) (q : Int) (N : Nat) (hNN : xs.length + (win.length + zs.length) = N) (hN2 : N < 10000000000000) (h : Wd win) (hlw : win.length = vs.length + 1) (h2 : Wd vs) (hq : 0 ≤ q ∧ q < 4294967296) (hq1 : (q - 1) * val vs ≤ val win) : SaysX E 133 [.ref 1000 0 N N,.p (pW vs),.p (vZ xs.length),.p (uZ q)] [(1000,⟨68,1,.pure (encW (xs ++ (win ++ zs)))⟩)] [(1000,⟨68,1,.pure (encW (xs ++ (digN win.length (val win - (if q * val vs ≤ val win then q else q - 1) * val vs) ++ zs)))⟩)] (bZ (decide (q * val vs ≤ val win))):=by
 refine saysX_of (xs:=[bZ (decide (q * val vs ≤ val win))]) Tryz.func133 rfl Tryz.ntmps133 Tryz.results133 (by simp) rfl (sub_of rfl) fun F hG hX hnt hdf P0 hXp=>?_
 have L:=lti hnt
 have hN:=ng_le hG
 refine exr (aV (L rfl) rfl (zn [(0,_),(1,_),(2,_),(3,_)] [(1000,_)] t4 t1 (exr (aV (L rfl) rfl (aV (L rfl) rfl (zn [(0,_),(1,_),(2,_),(3,_),(9,_),(10,_)] [(1000,_)] t6 t1 (ex_seq (exr (mV (L rfl) rfl (sw (c_ln un22 (L rfl)) t1 t0 (mV (L rfl) rfl ?_)))))))))))
 refine zn [(0,_),(1,_),(2,_),(3,_),(9,_),(10,_),(20,_),(21,_),(22,_)] [(1000,_)] t9 t1 (ex_block ?_)
 refine exl (α:=(Nat × List Int × Int × Int)) (fun x=>[(22,vi (x.1:Int)),(9,vw x.2.2.2),(10,vw x.2.2.1)]) (fun x=>[(1000,⟨68,1,.pure (encW (xs ++ ((x.2.1 ++ win.drop x.1) ++ zs)))⟩)]) (fun x=>TakeAt win vs q x ∧ x.1 ≤ vs.length) (fun x=>vs.length - x.1) (((0 : Nat),([] : List Int),(0 : Int),(0 : Int))) (sl:=[(0,_),(1,_),(2,_),(3,_),(20,_),(21,_)]) (hb:=[]) ?_ ⟨(by first | exact rfl | exact oi (by omega) rfl),(by first | exact rfl | exact oi (by omega) rfl),(by first | exact rfl | exact oi (by omega) rfl),rfl,rfl,rfl,rfl,rfl,rfl,trivial⟩ ⟨obl rfl (by simp),trivial⟩ ?_
 ·exact ⟨TakeAt.zero win vs q,Nat.zero_le _⟩
 intro x hx
 obtain ⟨j,ys,c,b⟩:=x
 obtain ⟨hx,hjl⟩:=hx
 have hlen:=hx.len
 have c0:=hx.c0
 have c1:=hx.c1
 have hb:=hx.b
 simp only at hlen hjl c0 c1 hb
 dsimp only
 have hu:=h.getD j
 refine exr (sw (c_ls (L rfl)) t2 t0 (zn [(0,_),(1,_),(2,_),(3,_),(9,_),(10,_),(20,_),(21,_),(22,_),(23,_)] [(1000,_)] t10 t1 (ex_seq ?_)))
 refine ex_if rfl (fun he=>?_) (fun he=>?_)
 ·have he:=dt he
  have hw:=h2.getD j
  have tb:=take_bd hq hw ⟨c0,c1⟩
  have mb:=mul_bd hq hw
  have key:=hx.next h2 hq (by omega) (p:=q * vs.getD j 0 + c) rfl rfl rfl hu
  refine ex_skip (show Exec _ _ _ _ _ from ?_)
  refine ex_seq (ex_block (exr (mV (L rfl) rfl (sw (ixJ un22 sz68 (j:=j) (by first | exact rfl | omega) (by omega) (by simp) (L rfl)) t2 t0 ?_))))
  refine sw (c_li ag68 (by first | exact getW (by omega) | rfl) (L rfl)) t1 t0 ?_
  refine aV (L rfl) rfl (aV (L rfl) rfl (zn [(0,_),(1,_),(2,_),(3,_),(9,_),(10,_),(11,_),(12,_),(20,_),(21,_),(22,_)] [(1000,_)] t11 t1 (exr (mV (L rfl) rfl (mV (L rfl) rfl (sw (c_cv un68 un78 (L rfl) (fu64 (by omega) (by omega))) t1 t0 ?_))))))
  refine sw (c_mu (L rfl) (fu64 (by omega) (by omega))) t2 t0 ?_
  refine mV (L rfl) rfl (sw (c_ad (L rfl) (fu64 (by omega) (by omega))) t2 t0 ?_)
  refine aV (L rfl) rfl (zn [(0,_),(1,_),(2,_),(3,_),(9,_),(11,_),(13,_),(20,_),(21,_),(22,_)] [(1000,_)] t10 t1 (exr (mV (L rfl) rfl (sw (c_sr (L rfl) (by decide) (shrE (c:=4294967296) (by rfl) (by decide))) t2 t0 ?_))))
  refine aV (L rfl) rfl (zn [(0,_),(1,_),(2,_),(3,_),(9,_),(10,_),(11,_),(13,_),(20,_),(21,_),(22,_)] [(1000,_)] t11 t1 (exr (mV (L rfl) rfl (mV (L rfl) rfl (mV (L rfl) rfl (sw (c_ad (L rfl) (w64 (by omega) (by omega))) t2 t0 ?_))))))
  refine sw (ixR0 un22 sz68 (by exact (by simp; omega)) (j:=xs.length + j) (by first | exact rfl | omega) (by omega) (L rfl)) t2 t1 ?_
  refine sw (c_l1 ag68 (by exact (by simp; omega)) (getC (getM hlen (by omega))) (L rfl)) t1 t1 ?_
  refine sw (c_cv un68 un78 (L rfl) (fu64 (by omega) (by omega))) t1 t0 ?_
  refine mV (L rfl) rfl (sw (c_an (L rfl) (and32 (by omega) (by omega))) t2 t0 ?_)
  refine mV (L rfl) rfl (sw (core_sub64 s64 (by omega) (by omega) (by omega) rfl rfl (L rfl)) t3 t0 ?_)
  refine mV (L rfl) rfl (sw (c_ex rfl (L rfl)) t1 t0 (sw (c_ex rfl (L rfl)) t1 t0 (aV (L rfl) rfl (aV (L rfl) rfl (zn [(0,_),(1,_),(2,_),(3,_),(10,_),(11,_),(14,_),(15,_),(20,_),(21,_),(22,_)] [(1000,_)] t11 t1 (exr (mV (L rfl) rfl (mV (L rfl) rfl (mV (L rfl) rfl (sw (c_ad (L rfl) (w64 (by omega) (by omega))) t2 t0 ?_))))))))))
  refine mV (L rfl) rfl (sw (c_cv un78 un68 (L rfl) (show _ = (win.getD j 0 - (q * vs.getD j 0 + c) % 4294967296 - b) % 4294967296 by rw [wu32]; omega)) t1 t0 ?_)
  refine sw (ixR0 un22 sz68 (by exact (by simp; omega)) (j:=xs.length + j) (by first | exact rfl | omega) (by omega) (L rfl)) t2 t1 ?_
  refine sb (c_s1 sz68 (by exact (by simp; omega)) (.atom rfl) (by omega)) t2 t1 ?_
  refine zn [(0,_),(1,_),(2,_),(3,_),(10,_),(15,_),(20,_),(21,_),(22,_)] [(1000,_)] t9 t1 (exr0 (mV (L rfl) rfl (aV (L rfl) rfl (seq_nil (exr0 (sw (c_ad (L rfl) (w64 (by omega) (by omega))) t2 t0 ?_))))))
  refine mV (L rfl) rfl (seq_nil ?_)
  exact ⟨(j + 1,ys ++ [(win.getD j 0 - (q * vs.getD j 0 + c) % 4294967296 - b) % 4294967296],(q * vs.getD j 0 + c) / 4294967296,if win.getD j 0 < (q * vs.getD j 0 + c) % 4294967296 + b then 1 else 0),⟨key,by simp only; omega⟩,(by simp only; omega),le_of ⟨(by first | exact rfl | exact oi (by omega) rfl),(by first | exact rfl | exact oi (by omega) rfl),(by first | exact rfl | exact oi (by omega) rfl),rfl,rfl,rfl,rfl,rfl,rfl,trivial⟩ ⟨obl rfl (by rw [encW_set,mid_set hlen (by omega)]),trivial⟩⟩
 ·have he:=df he
  have hj : j = vs.length:=by omega
  subst hj
  have ec : c % 4294967296 = c:=Int.emod_eq_of_lt c0 c1
  have key:=hx.next h2 hq (by omega) (p:=c) (d:=(win.getD vs.length 0 - c - b) % 4294967296) (b':=if win.getD vs.length 0 < c + b then 1 else 0) (by rw [getD_out (Nat.le_refl _)]; simp) (by rw [ec]) (by rw [ec]) hu
  rw [← hlw] at key
  have hw1:=key.wd
  have hl1:=key.len
  have hb1:=key.b
  simp only at hw1 hl1 hb1
  obtain ⟨w1,hw1e⟩ : ∃ w1,w1 = ys ++ [(win.getD vs.length 0 - c - b) % 4294967296]:=⟨_,rfl⟩
  obtain ⟨b1,hb1e⟩ : ∃ b1 : Int,b1 = if win.getD vs.length 0 < c + b then 1 else 0:=⟨_,rfl⟩
  rw [← hw1e,← hb1e] at key
  rw [← hw1e] at hw1 hl1
  rw [← hb1e] at hb1
  obtain ⟨-,hk2,hk3⟩:=key.end_ h (by omega) h2 hq
  have hmid:=mid_set (xs:=xs) (zs:=zs) hlen (show vs.length < win.length by omega) ((win.getD vs.length 0 - c - b) % 4294967296)
  rw [← hw1e,List.drop_of_length_le (show win.length ≤ vs.length + 1 by omega),List.append_nil] at hmid
  refine ex_exit (show Exec _ _ _ _ _ from ?_)
  refine exr (mV (L rfl) rfl (mV (L rfl) rfl (mV (L rfl) rfl (sw (c_ln un22 (L rfl)) t1 t0 (sw (c_ad (L rfl) (w64 (by omega) (by omega))) t2 t0 ?_)))))
  refine sw (ixR0 un22 sz68 (by exact (by simp; omega)) (j:=xs.length + vs.length) (by first | exact rfl | omega) (by omega) (L rfl)) t2 t1 ?_
  refine sw (c_l1 ag68 (by exact (by simp; omega)) (getC (getM hlen (by omega))) (L rfl)) t1 t1 ?_
  refine sw (c_cv un68 un78 (L rfl) (fu64 (by omega) (by omega))) t1 t0 ?_
  refine mV (L rfl) rfl (mV (L rfl) rfl (sw (core_sub64 s64 (by omega) (by omega) (by omega) rfl rfl (L rfl)) t3 t0 ?_))
  refine mV (L rfl) rfl (sw (c_ex rfl (L rfl)) t1 t0 (sw (c_ex rfl (L rfl)) t1 t0 (aV (L rfl) rfl (aV (L rfl) rfl (zn [(0,_),(1,_),(2,_),(9,_),(16,_)] [(1000,_)] t5 t1 ?_)))))
  rw [← hb1e]
  refine exr (mV (L rfl) rfl (mV (L rfl) rfl (mV (L rfl) rfl (sw (c_ln un22 (L rfl)) t1 t0 (sw (c_ad (L rfl) (w64 (by omega) (by omega))) t2 t0 ?_)))))
  refine mV (L rfl) rfl (sw (c_cv un78 un68 (L rfl) (show _ = (win.getD vs.length 0 - c - b) % 4294967296 by rw [wu32]; omega)) t1 t0 ?_)
  refine sw (ixR0 un22 sz68 (by exact (by simp; omega)) (j:=xs.length + vs.length) (by first | exact rfl | omega) (by omega) (L rfl)) t2 t1 ?_
  refine sb (c_s1 sz68 (by exact (by simp; omega)) (.atom rfl) (by omega)) t2 t1 ?_
  refine zn [(0,_),(1,_),(2,_),(9,_)] [(1000,_)] t4 t1 ?_
  rw [encW_set,hmid]
  refine ex_seq (exr (mV (L rfl) rfl (sw (c_e (L rfl)) t2 t0 (zn [(0,_),(1,_),(2,_),(81,_)] [(1000,_)] t4 t1 ?_))))
  refine ex_if rfl (fun hz=>?_) (fun hz=>?_)
  ·have hz:=dt hz
   rw [hz] at key
   have hf:=take_fin h (by omega) h2 hq key
   refine exr (aV (L rfl) rfl (zn [(8,_)] [(1000,_)] t1 t1 (ex_ret ?_)))
   refine ⟨.inr rfl,ResVs.cast (.cons (.tmp rfl) .nil) ?_,⟨obl rfl (by rw [if_pos hf.1,hf.2]),trivial⟩⟩
   rw [decide_eq_true hf.1]
  ·have hz:=df hz
   have hb11 : b1 = 1:=by omega
   have hnot : ¬ q * val vs ≤ val win:=fun hh=>hz (hk3.2 hh)
   rw [hb11] at hk2
   refine ex_skip (show Exec _ _ _ _ _ from ?_)
   refine exr (aV (L rfl) rfl (zn [(0,_),(1,_),(2,_),(17,_)] [(1000,_)] t4 t1 (ex_seq (exr (mV (L rfl) rfl (sw (c_ln un22 (L rfl)) t1 t0 (mV (L rfl) rfl (zn [(0,_),(1,_),(2,_),(17,_),(82,_),(83,_),(84,_)] [(1000,_)] t7 t1 (ex_block ?_)))))))))
   refine exl (α:=(Nat × List Int × Int)) (fun y=>[(84,vi (y.1:Int)),(17,vu y.2.2)]) (fun y=>[(1000,⟨68,1,.pure (encW (xs ++ ((y.2.1 ++ w1.drop y.1) ++ zs)))⟩)]) (fun y=>BackAt w1 vs y ∧ y.1 ≤ vs.length) (fun y=>vs.length - y.1) (((0 : Nat),([] : List Int),(0 : Int))) (sl:=[(0,_),(1,_),(2,_),(82,_),(83,_)]) (hb:=[]) ?_ ⟨(by first | exact rfl | exact oi (by omega) rfl),(by first | exact rfl | exact oi (by omega) rfl),rfl,rfl,rfl,rfl,rfl,trivial⟩ ⟨obl rfl (by simp),trivial⟩ ?_
   ·exact ⟨BackAt.zero w1 vs,Nat.zero_le _⟩
   intro y hy
   obtain ⟨k,zs2,e⟩:=y
   obtain ⟨hy,hkl⟩:=hy
   have hlen2:=hy.len
   have hec:=hy.c
   simp only at hlen2 hec hkl
   dsimp only
   have hu1:=hw1.getD k
   refine exr (sw (c_ls (L rfl)) t2 t0 (zn [(0,_),(1,_),(2,_),(17,_),(82,_),(83,_),(84,_),(85,_)] [(1000,_)] t8 t1 (ex_seq ?_)))
   refine ex_if rfl (fun hf=>?_) (fun hf=>?_)
   ·have hf:=dt hf
    have hw:=h2.getD k
    refine ex_skip (show Exec _ _ _ _ _ from ?_)
    refine ex_seq (ex_block (exr (mV (L rfl) rfl (sw (ixJ un22 sz68 (j:=k) (by first | exact rfl | omega) (by omega) (by simp) (L rfl)) t2 t0 ?_))))
    refine sw (c_li ag68 (by first | exact getW (by omega) | rfl) (L rfl)) t1 t0 ?_
    refine aV (L rfl) rfl (aV (L rfl) rfl (zn [(0,_),(1,_),(2,_),(17,_),(18,_),(19,_),(82,_),(83,_),(84,_)] [(1000,_)] t9 t1 (exr0 (mV (L rfl) rfl (mV (L rfl) rfl (mV (L rfl) rfl (sw (c_ad (L rfl) (w64 (by omega) (by omega))) t2 t0 ?_)))))))
    refine mV (L rfl) rfl (mV (L rfl) rfl (mV (L rfl) rfl (sw (c_ad (L rfl) (w64 (by omega) (by omega))) t2 t0 ?_)))
    refine sw (ixR0 un22 sz68 (by exact (by simp; omega)) (j:=xs.length + k) (by first | exact rfl | omega) (by omega) (L rfl)) t2 t1 ?_
    refine sw (c_l1 ag68 (by exact (by simp; omega)) (getC (getM hlen2 (by omega))) (L rfl)) t1 t1 ?_
    refine mV (L rfl) rfl (mV (L rfl) rfl (cK hG hX cl145 hN (add32_says (w1.getD k 0) (vs.getD k 0) e hu1 hw (by omega)) (L rfl) t3 ?_))
    refine mV (L rfl) rfl (sw (c_ex rfl (L rfl)) t1 t0 (sw (c_ex rfl (L rfl)) t1 t0 (sw (ixR0 un22 sz68 (by exact (by simp; omega)) (j:=xs.length + k) (by first | exact rfl | omega) (by omega) (L rfl)) t2 t1 ?_)))
    refine sb (c_s1 sz68 (by exact (by simp; omega)) (.atom rfl) (by omega)) t2 t1 ?_
    refine aV (L rfl) rfl (seq_nil (exr0 (sw (c_ad (L rfl) (w64 (by omega) (by omega))) t2 t0 ?_)))
    refine mV (L rfl) rfl (seq_nil ?_)
    exact ⟨(k + 1,zs2 ++ [(w1.getD k 0 + vs.getD k 0 + e) % 4294967296],(w1.getD k 0 + vs.getD k 0 + e) / 4294967296),⟨hy.next hw1 h2 (by omega) rfl,by simp only; omega⟩,(by simp only; omega),le_of ⟨(by first | exact rfl | exact oi (by omega) rfl),(by first | exact rfl | exact oi (by omega) rfl),rfl,rfl,rfl,rfl,rfl,trivial⟩ ⟨obl rfl (by rw [encW_set,mid_set hlen2 (by omega)]),trivial⟩⟩
   ·have hf:=df hf
    have hk : k = vs.length:=by omega
    subst hk
    have key2:=hy.next hw1 h2 (by omega) (s:=w1.getD vs.length 0 + e) (by rw [getD_out (Nat.le_refl vs.length)]; omega)
    rw [← hlw] at key2
    have hfin:=back_fin (by omega) h2 hk2 hl1 key2 hq1
    have hmid2:=mid_set (xs:=xs) (zs:=zs) hlen2 (show vs.length < w1.length by omega) ((w1.getD vs.length 0 + e) % 4294967296)
    rw [List.drop_of_length_le (show w1.length ≤ vs.length + 1 by omega),List.append_nil,hfin.1] at hmid2
    refine ex_exit (show Exec _ _ _ _ _ from ?_)
    refine exr (mV (L rfl) rfl (mV (L rfl) rfl (mV (L rfl) rfl (sw (c_ln un22 (L rfl)) t1 t0 (sw (c_ad (L rfl) (w64 (by omega) (by omega))) t2 t0 ?_)))))
    refine sw (ixR0 un22 sz68 (by exact (by simp; omega)) (j:=xs.length + vs.length) (by first | exact rfl | omega) (by omega) (L rfl)) t2 t1 ?_
    refine sw (c_l1 ag68 (by exact (by simp; omega)) (getC (getM hlen2 (by omega))) (L rfl)) t1 t1 ?_
    refine mV (L rfl) rfl (sw (c_ad (L rfl) wu32) t2 t0 (sw (ixR0 un22 sz68 (by exact (by simp; omega)) (j:=xs.length + vs.length) (by first | exact rfl | omega) (by omega) (L rfl)) t2 t1 ?_))
    refine sb (c_s1 sz68 (by exact (by simp; omega)) (.atom rfl) (by omega)) t2 t1 ?_
    refine zn [] [(1000,_)] trivial t1 ?_
    rw [encW_set,hmid2]
    refine exr (aV (L rfl) rfl (zn [(8,_)] [(1000,_)] t1 t1 (ex_ret ?_)))
    refine ⟨.inr rfl,ResVs.cast (.cons (.tmp rfl) .nil) ?_,⟨obl rfl (by rw [if_neg hnot]),trivial⟩⟩
    rw [decide_eq_false hnot]
end Go.Proofs.YtcifhkfpmhifaaaGreatDoor.N
namespace Go.Proofs.YtcifhkfpmhifaaaGreatDoor.NumA
def partQ (ws vs : List Int) : List Int:=if cmpI (val ws) (val vs) < 0 then [] else if ws.length ≤ 2 then digN 2 (val ws / val vs) else if vs.length = 1 then digN ws.length (val ws / val vs) else digN (ws.length - vs.length + 1) (val ws / val vs)
def partR (ws vs : List Int) : List Int:=if cmpI (val ws) (val vs) < 0 then ws else if ws.length ≤ 2 then digN 2 (val ws % val vs) else if vs.length = 1 then [val ws % val vs] else digN vs.length (val ws % val vs)
theorem cmpI_neg {a b : Int} : cmpI a b < 0 ↔ a < b:=by unfold cmpI; split <;> (try split) <;> omega
theorem Bsucc (n : Nat) : (4294967296 : Int) ^ (n + 1) = 4294967296 ^ n * 4294967296:=Int.pow_succ _ _
theorem shifted_lt {ws : List Int} (h : Wd ws) {k : Nat} (hk : k ≤ 32) : 0 ≤ val ws * 2 ^ k ∧ val ws * 2 ^ k < 4294967296 ^ (ws.length + 1):=by
  have h1:=val_lt h
  have h0:=val_nonneg h
  have hp : (0 : Int) < 2 ^ k:=Int.pow_pos (by decide)
  have h2 : val ws * 2 ^ k < 4294967296 ^ ws.length * 2 ^ k:=Int.mul_lt_mul_of_pos_right h1 hp
  have h3 : (4294967296 : Int) ^ ws.length * 2 ^ k ≤ 4294967296 ^ ws.length * 4294967296:=Int.mul_le_mul_of_nonneg_left (pow32 hk) (Int.le_of_lt (Bpos _))
  rw [Bsucc]
  exact ⟨Int.mul_nonneg h0 (Int.le_of_lt hp),by omega⟩
theorem part_start {ws vs : List Int} {m k : Nat} (h : Wd ws) (h2 : Wd vs) (ht2 : Tr vs) (hm : vs.length = m + 2) (hk : k + bl (vs.getD (vs.length - 1) 0).toNat = 32) (hle : vs.length ≤ ws.length) :
    k < 32 ∧ 0 < val vs ∧ 0 < val vs * 2 ^ k ∧ val vs * 2 ^ k < 4294967296 ^ (m + 2) ∧ val (digN (m + 2) (val vs * 2 ^ k)) = val vs * 2 ^ k ∧ (digN (m + 3) (val vs * 2 ^ k)).take (m + 2) = digN (m + 2) (val vs * 2 ^ k) ∧ 2147483648 ≤ (digN (m + 2) (val vs * 2 ^ k)).getD (m + 1) 0 ∧ val (digN (ws.length + 1) (val ws * 2 ^ k)) = val ws * 2 ^ k ∧
    PartAt (digN (ws.length + 1) (val ws * 2 ^ k)) (m + 2) (val vs * 2 ^ k) (ws.length + 1 - (m + 2),val ((digN (ws.length + 1) (val ws * 2 ^ k)).drop (ws.length + 1 - (m + 2))),[]):=by
  have hn : vs ≠ []:=by intro e; rw [e] at hm; simp at hm
  obtain ⟨n1,n2,n3⟩:=norm_bd h2 ht2 hn hk
  have hw:=shifted_lt h (Nat.le_of_lt n3)
  have hp : (0 : Int) < 2 ^ k:=Int.pow_pos (by decide)
  have hB:=Bpos (vs.length - 1)
  have hDpos : 0 < val vs * 2 ^ k:=by omega
  have hv : 0 < val vs:=by
    by_cases e : 0 < val vs
    · exact e
    · have:=val_nonneg h2
      rw [show val vs = 0 by omega,Int.zero_mul] at hDpos; omega
  rw [hm] at n2
  rw [hm,show m + 2 - 1 = m + 1 by omega] at n1
  have e1:=val_digN (n:=m + 2) (Int.le_of_lt hDpos) n2
  have e2:=val_digN hw.1 hw.2
  have e3 : (digN (m + 3) (val vs * 2 ^ k)).take (m + 2) = digN (m + 2) (val vs * 2 ^ k):=by
    rw [digN_top (Int.le_of_lt hDpos) n2,List.take_append_of_le_length (by rw [digN_length]; exact Nat.le_refl _),List.take_of_length_le (by rw [digN_length]; exact Nat.le_refl _)]
  have e4:=top_bit (digN_wd (m + 2) (val vs * 2 ^ k)) (n:=m + 1) (by rw [digN_length]) (by rw [e1]; exact n1)
  refine ⟨n3,hv,hDpos,n2,e1,e3,e4,e2,?_⟩
  have hWd:=digN_wd (ws.length + 1) (val ws * 2 ^ k)
  have hWl:=digN_length (ws.length + 1) (val ws * 2 ^ k)
  generalize digN (ws.length + 1) (val ws * 2 ^ k) = W at *
  have hd:=drop_bd hWd (i:=W.length - (m + 2)) (by omega)
  rw [← hWl]
  refine PartAt.start hWd (by omega) ?_
  generalize val (List.drop (W.length - (m + 2)) W) = x at *
  by_cases c : x < val vs * 2 ^ k
  · exact c
  · have g1 : 4294967296 ^ (W.length - (m + 2)) * (2147483648 * 4294967296 ^ (m + 1)) ≤ 4294967296 ^ (W.length - (m + 2)) * x:=Int.mul_le_mul_of_nonneg_left (by omega) (Int.le_of_lt (Bpos _))
    have g2 : (4294967296 : Int) ^ (W.length - (m + 2)) * (2147483648 * 4294967296 ^ (m + 1)) = 2147483648 * 4294967296 ^ ws.length:=by
      rw [show (4294967296 : Int) ^ (W.length - (m + 2)) * (2147483648 * 4294967296 ^ (m + 1)) = 2147483648 * (4294967296 ^ (W.length - (m + 2)) * 4294967296 ^ (m + 1)) by grind,← Int.pow_add,show W.length - (m + 2) + (m + 1) = ws.length by omega]
    have g3:=Int.mul_lt_mul_of_pos_right (val_lt h) hp
    have g4 : (2 : Int) ^ k ≤ 2147483648:=by
      have h2 : ((2 ^ k : Nat) : Int) ≤ ((2 ^ 31 : Nat) : Int):=Int.ofNat_le.2 (Nat.pow_le_pow_right (by decide) (by omega))
      rw [Int.natCast_pow] at h2
      exact h2
    have g5 : (4294967296 : Int) ^ ws.length * 2 ^ k ≤ 4294967296 ^ ws.length * 2147483648:=Int.mul_le_mul_of_nonneg_left g4 (Int.le_of_lt (Bpos _))
    omega
theorem take_result {V D q : Int} (hD : 0 < D) (h1 : V / D ≤ q) (h2 : (q - 1) * D ≤ V) : (if q * D ≤ V then q else q - 1) = V / D ∧ V - V / D * D = V % D:=by
  have h3:=Int.mul_ediv_add_emod V D
  rw [Int.mul_comm] at h3
  refine ⟨?_,by omega⟩
  split
  · rename_i e
    have:=(Int.le_ediv_iff_mul_le hD).2 e
    omega
  · rename_i e
    have h4:=(Int.le_ediv_iff_mul_le hD).2 h2
    have h5 : V / D ≠ q:=fun hq=>e (by rw [← hq]; have:=Int.emod_nonneg V (show D ≠ 0 by omega); omega)
    omega
theorem part_mid {xs win zs : List Int} {i j : Nat} (hx : xs.length = i) (hj : j < win.length) : (xs ++ (win ++ zs)).getD (i + j) 0 = win.getD j 0:=by
  have:=mid_get (xs:=xs) (zs:=zs) (ys:=[]) (j:=j) (win:=win.drop 0)
  subst hx
  rw [List.getD_eq_getElem?_getD,List.getElem?_append_right (by omega),Nat.add_sub_cancel_left,List.getElem?_append_left hj,← List.getD_eq_getElem?_getD]
theorem q_set {i : Nat} {qs : List Int} (w : Int) : (List.replicate (i + 1) 0 ++ qs).set i w = List.replicate i 0 ++ w :: qs:=by
  rw [List.replicate_succ',List.append_assoc,List.set_append_right _ _ (by simp),List.length_replicate,Nat.sub_self,List.singleton_append,List.set_cons_zero]
theorem part_spec {ws vs : List Int} (h : Wd ws) (h2 : Wd vs) (ht : Tr ws) (ht2 : Tr vs) (hv : 0 < val vs) : Wd (partQ ws vs) ∧ Wd (partR ws vs) ∧ val (partQ ws vs) = val ws / val vs ∧ val (partR ws vs) = val ws % val vs ∧ (partQ ws vs).length ≤ ws.length + 2 ∧ (partR ws vs).length ≤ ws.length + 2:=by
  have a0:=val_nonneg h
  have q0:=Int.ediv_nonneg a0 (Int.le_of_lt hv)
  have q1:=Int.ediv_le_self (val vs) a0
  have r0:=Int.emod_nonneg (val ws) (show val vs ≠ 0 by omega)
  have r1:=Int.emod_lt_of_pos (val ws) hv
  unfold partQ partR
  split
  · rename_i e
    rw [cmpI_neg] at e
    exact ⟨Wd.nil,h,by rw [Int.ediv_eq_zero_of_lt a0 e]; rfl,by rw [Int.emod_eq_of_lt a0 e],by simp,by omega⟩
  · rename_i e
    rw [cmpI_neg] at e
    split
    · rename_i hl
      have:=small2 h hl
      refine ⟨digN_wd _ _,digN_wd _ _,val_digN q0 (by simp; omega),val_digN r0 (by simp; omega),by simp [digN_length],by simp [digN_length]⟩
    · split
      · rename_i hl
        have hb:=val_lt1 h2 (by omega)
        refine ⟨digN_wd _ _,Wd.cons.2 ⟨⟨r0,by omega⟩,Wd.nil⟩,val_digN q0 (by have:=val_lt h; omega),by simp [val],by simp [digN_length],by simp⟩
      · have hlen:=len_le h h2 ht2 (by omega)
        refine ⟨digN_wd _ _,digN_wd _ _,val_digN q0 ?_,val_digN r0 (by have:=val_lt h2; omega),by rw [digN_length]; omega,by rw [digN_length]; omega⟩
        have hn : vs ≠ []:=by intro c; rw [c] at hv; simp [val] at hv
        have hl2 : 0 < vs.length:=List.length_pos_iff.2 hn
        have hbig : 4294967296 ^ (vs.length - 1) ≤ val vs:=by
          have e1:=val_take_succ' (ws:=vs) (vs.length - 1)
          rw [show vs.length - 1 + 1 = vs.length by omega,List.take_length] at e1
          have e2:=val_nonneg (h2.take (vs.length - 1))
          have e3:=h2.getD (vs.length - 1)
          have e4 : vs.getD (vs.length - 1) 0 ≠ 0:=by
            rcases ht2 with c | c
            · omega
            · exact c
          have e5 : (4294967296 : Int) ^ (vs.length - 1) * 1 ≤ 4294967296 ^ (vs.length - 1) * vs.getD (vs.length - 1) 0:=Int.mul_le_mul_of_nonneg_left (by omega) (Int.le_of_lt (Bpos _))
          omega
        refine Int.ediv_lt_of_lt_mul hv ?_
        have e6 : (4294967296 : Int) ^ (ws.length - vs.length + 1) * 4294967296 ^ (vs.length - 1) ≤ 4294967296 ^ (ws.length - vs.length + 1) * val vs:=Int.mul_le_mul_of_nonneg_left hbig (Int.le_of_lt (Bpos _))
        rw [← Int.pow_add,show ws.length - vs.length + 1 + (vs.length - 1) = ws.length by omega] at e6
        have:=val_lt h
        omega
end Go.Proofs.YtcifhkfpmhifaaaGreatDoor.NumA
namespace Go.Proofs.YtcifhkfpmhifaaaGreatDoor.NumA
theorem tail_get {ys L : List Int} {j i : Nat} (hl : ys.length = j) : (ys ++ L.drop j).getD (j + i) 0 = L.getD (j + i) 0:=by
  rw [List.getD_eq_getElem?_getD,List.getElem?_append_right (by omega),hl,Nat.add_sub_cancel_left,List.getElem?_drop,List.getD_eq_getElem?_getD]
theorem tail_set {ys L : List Int} {j : Nat} (hl : ys.length = j) (hj : j < L.length) (d : Int) : (ys ++ L.drop j).set j d = (ys ++ [d]) ++ L.drop (j + 1):=by
  rw [List.set_append_right _ _ (by omega),hl,Nat.sub_self,drop_getD hj,List.set_cons_zero]
  simp
theorem rest_zero {W : List Int} {n : Nat} {R : Int} : restAt W n 0 R = digN n R ++ List.replicate (W.length - n) 0:=by simp [restAt]
theorem un_end {L ys : List Int} {n s k : Nat} {R : Int} (hL : L = digN n R ++ List.replicate s 0) (h0 : 0 ≤ R) (h1 : R < 4294967296 ^ n) (ha : UnAt L k (n,ys)) : ys = digN n (R / 2 ^ k):=by
  have heq:=ha.eq
  have hlen:=ha.len
  simp only at heq hlen
  have e1 : L.drop n = List.replicate s 0:=by
    rw [hL,List.drop_append_of_le_length (by rw [digN_length]; exact Nat.le_refl _),List.drop_of_length_le (by rw [digN_length]; exact Nat.le_refl _),List.nil_append]
  have e2 : val L = R:=by rw [hL,val_append,val_rep,Int.mul_zero,val_digN h0 h1,Int.add_zero]
  rw [e1,e2,val_rep,Int.zero_ediv,Int.mul_zero,Int.add_zero] at heq
  rw [← heq,← hlen]; exact (digN_val ha.wd).symm
end Go.Proofs.YtcifhkfpmhifaaaGreatDoor.NumA
set_option maxRecDepth 100000
set_option maxHeartbeats 4000000
namespace Go.Proofs.YtcifhkfpmhifaaaGreatDoor.N
open Go Go.Proofs.YtcifhkfpmhifaaaGreatDoor.SH Go.Proofs.YtcifhkfpmhifaaaGreatDoor.NumA
open Go.Proofs.Tryz renaming call105 → cl105,call107 → cl107,call127 → cl127,call129 → cl129,call130 → cl130,call131 → cl131,call132 → cl132,call133 → cl133,isAgg68 → ag68,sizeOf68 → sz68,typeInfo68 → ti68,underlying121 → un121,underlying22 → un22,underlying68 → un68,underlying78 → un78,zeroValue121 → zv121
theorem getP {xs win zs : List Int} {i j : Nat} (hx : xs.length = i) (hj : j < win.length) : (encW (xs ++ (win ++ zs)))[i + j]? = some (.a (.int .u32 (win.getD j 0))):=by
 rw [getW (by simp; omega),part_mid hx hj]
theorem getU {ys L : List Int} {j i p q : Nat} (hl : ys.length = j) (hp : p = q) (hq : q = j + i) (hj : q < L.length) : (encW (ys ++ L.drop j))[p]? = some (.a (.int .u32 (L.getD q 0))):=by
 subst hp hq
 rw [getW (by simp; omega),tail_get hl]
theorem parted_says (ws vs : List Int) (hl : ws.length < 4000000000000) (hl2 : vs.length < 4000000000000) (h : Wd ws) (h2 : Wd vs) (ht : Tr ws) (ht2 : Tr vs) (hv : 0 < val vs) : Says E 108 [pW ws,pW vs] (.tup [pW (partQ ws vs),pW (partR ws vs)]):=by
 refine says_of (xs:=[pW (partQ ws vs),pW (partR ws vs)]) Tryz.func108 rfl Tryz.ntmps108 Tryz.results108 (by simp) fun F hG hX0 hnt hdf P0=>?_
 obtain ⟨L,hX,hN⟩:=pro hnt hX0 hG
 have a0:=val_nonneg h
 have q0:=Int.ediv_nonneg a0 (Int.le_of_lt hv)
 have q1:=Int.ediv_le_self (val vs) a0
 have r0:=Int.emod_nonneg (val ws) (show val vs ≠ 0 by omega)
 have r1:=Int.emod_lt_of_pos (val ws) hv
 refine exr (aV (L rfl) rfl (aV (L rfl) rfl (zn [(0,_),(1,_)] [] t2 trivial (ex_seq (exr (mV (L rfl) rfl (mV (L rfl) rfl (cK hG hX cl105 hN (compared_says ws vs (by omega) (by omega) h h2 ht ht2) (L rfl) t2 ?_))))))))
 refine sw (c_ls (L rfl)) t2 t0 (zn [(0,_),(1,_),(20,_)] [] t3 trivial ?_)
 refine ex_if rfl (fun hc=>?_) (fun hc=>?_)
 ·have hc:=dt hc
  refine exr (mV (L rfl) rfl (aV (L rfl) rfl (aV (L rfl) rfl (zn [(4,_),(5,_)] [] t2 trivial (ex_cv [] (sl:=[(4,_),(5,_)]) (hb:=[]) (own_none hX0) ⟨⟨_,rfl,(.p .nil)⟩,⟨_,rfl,.same⟩,trivial⟩ t0 (ex_ret ?_))))))
  refine ⟨.inr rfl,ResVs.cast (.cons (.tmp rfl) (.cons (.tmp rfl) .nil)) ?_⟩
  simp only [partQ,partR,if_pos hc]; rfl
 ·have hc:=df hc
  have hge : val vs ≤ val ws:=by rw [cmpI_neg] at hc; omega
  have hlen:=len_le h h2 ht2 hge
  refine ex_skip (show Exec _ _ _ _ _ from ?_)
  refine ex_seq (exr (mV (L rfl) rfl (cK hG hX cl107 hN (pair_says ws (by omega) h) (L rfl) t1 ?_)))
  refine mV (L rfl) rfl (sw (c_ex rfl (L rfl)) t1 t0 (sw (c_ex rfl (L rfl)) t1 t0 (aV (L rfl) rfl (aV (L rfl) rfl (zn [(0,_),(1,_),(6,_),(7,_)] [] t4 trivial (exr (mV (L rfl) rfl (zn [(0,_),(1,_),(6,_),(27,_)] [] t4 trivial ?_))))))))
  refine ex_if rfl (fun hp=>?_) (fun hp=>?_)
  ·have hp:=dt hp
   have s1:=small2 h hp
   have s2:=small2 h2 (by omega)
   rw [if_pos hp]
   refine exr (mV (L rfl) rfl (cK hG hX cl107 hN (pair_says vs (by omega) h2) (L rfl) t1 ?_))
   refine mV (L rfl) rfl (sw (c_ex rfl (L rfl)) t1 t0 (sw (c_ex rfl (L rfl)) t1 t0 (aV (L rfl) rfl (aV (L rfl) rfl (zn [(6,_),(8,_)] [] t2 trivial ?_)))))
   rw [if_pos (show vs.length ≤ 2 by omega)]
   refine exd (by rfl) ?_
   refine mV (L rfl) rfl (mV (L rfl) rfl (sw (c_q (L rfl) (by omega) (tdivE a0 (by omega))) t2 t0 ?_))
   refine cK hG hX cl129 hN (words_says (val ws / val vs) q0 (by omega)) (L rfl) t1 ?_
   refine mV (L rfl) rfl (mV (L rfl) rfl (sw (c_r (L rfl) (by omega) (tmodE a0 (by omega))) t2 t0 ?_))
   refine cK hG hX cl129 hN (words_says (val ws % val vs) r0 (by omega)) (L rfl) t1 ?_
   refine aV (L rfl) rfl (aV (L rfl) rfl ?_)
   refine seq_nil ⟨aoks [⟨[6],[],[33],[]⟩,⟨[8],[],[34],[]⟩,⟨[33,34],[],[35],[]⟩,⟨[35],[],[36],[]⟩,⟨[6],[],[37],[]⟩,⟨[8],[],[38],[]⟩,⟨[37,38],[],[39],[]⟩,⟨[39],[],[40],[]⟩,⟨[36],[],[4],[]⟩,⟨[40],[],[5],[]⟩] (by rfl) (by rfl) (by decide),[(4,_),(5,_)],[],t2,trivial,?_⟩
   refine ex_ret ?_
   refine ⟨.inr rfl,ResVs.cast (.cons (.tmp rfl) (.cons (.tmp rfl) .nil)) ?_⟩
   simp only [partQ,partR,if_neg hc,if_pos hp]
  ·have hp:=df hp
   refine ex_skip (show Exec _ _ _ _ _ from ?_)
   refine ex_seq (exr (mV (L rfl) rfl (sw (c_ln un22 (L rfl)) t1 t0 (sw (c_e (L rfl)) t2 t0 (zn [(0,_),(1,_),(43,_)] [] t3 trivial ?_)))))
   refine ex_if rfl (fun h1=>?_) (fun h1=>?_)
   ·have h1:=dt h1
    have hl1 : vs.length = 1:=by omega
    have hv1:=val_one hl1
    have hvb:=val_lt1 h2 (by omega)
    refine exr (mV (L rfl) rfl (sw (c_ln un22 (L rfl)) t1 t0 (swb (c_mk (k:=46) un22 ti68 rfl rfl rfl rfl rfl rfl (Nat.le_refl _) (by simp [Tryz.t68]; omega) (by omega) (P0 _ rfl) (L rfl)) t2 t0 ⟨rfl,rfl⟩ ?_)))
    refine aV (L rfl) rfl (zn [(0,_),(1,_),(4,_)] [(46,_)] t3 t1 (exr (mV (L rfl) rfl (mV (L rfl) rfl (swb (c_cp un22 ti68 (by exact List.length_replicate) rfl (by simp) (L rfl)) t2 t1 t0 ?_)))))
    refine seq_nil ⟨[(1,_),(4,_)],[(46,⟨68,1,.pure (encW ws)⟩)],t2,⟨obl rfl (by rw [List.take_of_length_le (by simp),List.drop_of_length_le (by simp),List.append_nil]),trivial⟩,?_⟩
    refine exr (mV (L rfl) rfl (mV (L rfl) rfl (mV (L rfl) rfl (sw (ixJ un22 sz68 (j:=0) rfl (by omega) (by simp) (L rfl)) t2 t0 ?_))))
    refine sw (c_li ag68 (by first | exact getW (by omega) | rfl) (L rfl)) t1 t0 ?_
    refine swB (c_cx hG hX [46] hN (short_says ws (vs.getD 0 0) (by omega) h (by omega)) rfl (args_fn (ys:=[_,_]) cl127 rfl (by rfl)) (by rfl) (by rfl) (by rfl) (by rfl) (SameH.to (.cons (len_pure (by simp [digN_length])) .nil)) (by rfl) (by rfl) (L rfl)) t2 t1 ?_
    refine sw (c_bI (vs:=[_]) un22 ti68 rfl rfl (by decide) (by decide) rfl (zs_made (.cons rfl .nil) rfl) rfl (.cons rfl (.atom rfl) rfl pu1 .nil) (.cons .nil) (L rfl)) t1 t0 ?_
    refine aV (L rfl) rfl (aV (L rfl) rfl (zn [(4,_),(5,_)] [(46,_)] t2 t1 (ex_cv [46] (sl:=[(4,_),(5,_)]) (hb:=[]) (own_none hX0) ⟨⟨_,rfl,(.ref rfl rfl (by exact (by simp [digN_length])) (by first | rfl | omega))⟩,⟨_,rfl,.same⟩,trivial⟩ t0 ?_)))
    refine ex_ret ?_
    refine ⟨.inr rfl,ResVs.cast (.cons (.tmp rfl) (.cons (.tmp rfl) .nil)) ?_⟩
    simp only [partQ,partR,if_neg hc,if_neg hp,if_pos hl1]; rw [hv1]; simp [digN_length,encW]
   ·have h1:=df h1
    have htw:=h2.getD (vs.length - 1)
    have hbl:=bl32 htw.2
    have hvn : vs.length ≠ 0:=by
     intro e
     rw [List.eq_nil_of_length_eq_zero e] at hv; simp [val] at hv
    obtain ⟨m,hm⟩ : ∃ m,vs.length = m + 2:=⟨vs.length - 2,by omega⟩
    refine ex_skip (show Exec _ _ _ _ _ from ?_)
    refine exr (mV (L rfl) rfl (mV (L rfl) rfl (sw (c_ln un22 (L rfl)) t1 t0 (sw (c_su (L rfl) (w64 (by omega) (by omega))) t2 t0 ?_))))
    refine sw (ixJ un22 sz68 (j:=vs.length - 1) (by first | exact rfl | omega) (by omega) (by simp) (L rfl)) t2 t0 ?_
    refine sw (c_li ag68 (by first | exact getW (by omega) | rfl) (L rfl)) t1 t0 ?_
    refine cK hG hX cl130 hN (lz_says (vs.getD (vs.length - 1) 0) htw.1 htw.2) (L rfl) t1 (aV (L rfl) rfl (zn [(0,_),(1,_),(10,_)] [] t3 trivial ?_))
    obtain ⟨k,hk⟩ : ∃ k : Nat,k + bl (vs.getD (vs.length - 1) 0).toNat = 32:=⟨32 - bl (vs.getD (vs.length - 1) 0).toNat,by omega⟩
    have ek : (32 - (bl (vs.getD (vs.length - 1) 0).toNat : Int)) = (k : Int):=by omega
    rw [ek]
    obtain ⟨k32,-,hDpos,hDlt,hDv,htake,htop,hWv,hstart⟩:=part_start h h2 ht2 hm hk hlen
    refine exd (by rfl) ?_
    refine mV (L rfl) rfl (mV (L rfl) rfl (swb (c_co (k:=66) hG hX cl131 rfl hN (shifted_says ws k (by omega) h k32) (P0 _ rfl) (L rfl)) t2 t0 ⟨rfl,rfl⟩ ?_))
    refine mV (L rfl) rfl (mV (L rfl) rfl (swb (c_co (k:=69) hG hX cl131 rfl hN (shifted_says vs k (by omega) h2 k32) (P0 _ rfl) (L rfl)) t2 t0 ⟨rfl,rfl⟩ ?_))
    refine mV (L rfl) rfl (sw (c_ln un22 (L rfl)) t1 t0 (sw (slR_hi un22 sz68 rfl (by exact (by first | (simp [digN_length]; done) | (simp; omega))) (by first | exact rfl | exact ixn (by omega)) (by omega) (L rfl)) t2 t1 ?_))
    refine aV (L rfl) rfl (aV (L rfl) rfl ?_)
    refine seq_nil ⟨aok rfl rfl,[(0,_),(1,_),(10,_),(11,_),(12,_)],[(66,_),(69,_)],t5,t2,?_⟩
    refine ex_cv [69] (sl:=[(0,_),(1,_),(10,_),(11,_),(12,_)]) (hb:=[(66,_)]) (own_none hX0) ⟨⟨_,rfl,.same⟩,⟨_,rfl,.same⟩,⟨_,rfl,.same⟩,⟨_,rfl,.same⟩,⟨_,rfl,(.refo rfl rfl (by exact (by first | (simp [digN_length]; done) | (simp; omega))) rfl)⟩,trivial⟩ ⟨⟨rfl,_,rfl,.same⟩,trivial⟩ ?_
    rw [show vs.length + 1 = m + 3 by omega]
    obtain ⟨W,hW⟩ : ∃ W,W = digN (ws.length + 1) (val ws * 2 ^ k):=⟨_,rfl⟩
    obtain ⟨Dv,hDe⟩ : ∃ Dv,Dv = digN (m + 2) (val vs * 2 ^ k):=⟨_,rfl⟩
    have hWl : W.length = ws.length + 1:=by rw [hW,digN_length]
    have hWd : Wd W:=by rw [hW]; exact digN_wd _ _
    have hDl : Dv.length = m + 2:=by rw [hDe,digN_length]
    have hDwd : Wd Dv:=by rw [hDe]; exact digN_wd _ _
    have e12 : Pure.sl vs.length (List.take (vs.length * 1) (List.drop 0 (encW (digN (m + 3) (val vs * 2 ^ k))))) = pW Dv:=by
     rw [List.drop_zero,Nat.mul_one,encW_take,hm,htake,← hDe,pW,hDl]
    rw [e12,← hW,Nat.mul_one (ws.length + 1)]
    rw [← hW] at hstart hWv
    rw [← hDe] at hDv htop
    rw [← hDv] at hstart hDpos hDlt
    refine exr (mV (L rfl) rfl (sw (c_ln un22 (L rfl)) t1 t0 (aV (L rfl) rfl (zn [(0,_),(10,_),(11,_),(12,_),(13,_)] [(66,_)] t5 t1 (exr (mV (L rfl) rfl (sw (c_ln un22 (L rfl)) t1 t0 (mV (L rfl) rfl (sw (c_su (L rfl) (w64 (by omega) (by omega))) t2 t0 ?_)))))))))
    refine sw (c_ad (L rfl) (w64 (by omega) (by omega))) t2 t0 ?_
    refine swb (c_mk (k:=80) un22 ti68 rfl rfl rfl rfl (show _ = ((ws.length - vs.length + 1 : Nat) : Int) by omega) (show _ = ((ws.length - vs.length + 1 : Nat) : Int) by omega) (Nat.le_refl _) (by simp [Tryz.t68]; omega) (by omega) (P0 _ rfl) (L rfl)) t2 t0 ⟨rfl,rfl⟩ ?_
    refine aV (L rfl) rfl (zn [(0,_),(4,_),(10,_),(11,_),(12,_),(13,_)] [(66,_),(80,_)] t6 t2 (ex_seq (exr (mV (L rfl) rfl (sw (c_ln un22 (L rfl)) t1 t0 (mV (L rfl) rfl (sw (c_su (L rfl) (w64 (by omega) (by omega))) t2 t0 ?_)))))))
    refine aV (L rfl) rfl (zn [(4,_),(10,_),(11,_),(12,_),(13,_),(14,_)] [(66,_),(80,_)] t6 t2 (ex_block ?_))
    refine exl (α:=(Nat × Int × List Int)) (fun x=>[(14,vi ((x.1:Int) - 1))]) (fun x=>[(66,⟨68,1,.pure (encW (restAt W (m + 2) x.1 x.2.1))⟩),(80,⟨68,1,.pure (encW (List.replicate x.1 0 ++ x.2.2))⟩)]) (fun x=>PartAt W (m + 2) (val Dv) x) (fun x=>x.1) ((ws.length + 1 - (m + 2),val (W.drop (ws.length + 1 - (m + 2))),([] : List Int))) (sl:=[(4,_),(10,_),(11,_),(12,_),(13,_)]) (hb:=[]) ?_ ⟨oi (by omega) rfl,rfl,rfl,rfl,rfl,rfl,trivial⟩ ⟨obl rfl (by rw [← hWl,restAt_start hWd (by omega)]),obl rfl (by rw [encW_rep,List.append_nil,show ws.length - vs.length + 1 = ws.length + 1 - (m + 2) by omega]),trivial⟩ ?_
    ·exact hstart
    intro x hx
    obtain ⟨r,R,qs⟩:=x
    have hle:=hx.le
    have hr:=hx.r
    have hlq:=hx.len
    simp only at hle hr hlq
    dsimp only
    refine ex_seq (exr (mV (L rfl) rfl (sw (c_ge (L rfl)) t2 t0 (zn [(4,_),(10,_),(11,_),(12,_),(13,_),(14,_),(86,_)] [(66,_),(80,_)] t7 t2 ?_))))
    refine ex_if rfl (fun he=>?_) (fun he=>?_)
    ·have he:=dt he
     obtain ⟨i,rfl⟩ : ∃ i,r = i + 1:=⟨r - 1,by omega⟩
     have ei : (((i + 1 : Nat) : Int) - 1) = (i : Int):=by omega
     rw [ei]
     obtain ⟨w1,w2,w3,w4⟩:=hx.win hWd hDlt
     obtain ⟨win,hwin⟩ : ∃ win,win = W.getD i 0 :: digN (m + 2) R:=⟨_,rfl⟩
     rw [← hwin] at w1 w2 w3 w4
     obtain ⟨zs,hzs⟩ : ∃ zs : List Int,zs = List.replicate (W.length - (m + 2) - (i + 1)) 0:=⟨_,rfl⟩
     have hzl : zs.length = W.length - (m + 2) - (i + 1):=by rw [hzs,List.length_replicate]
     rw [restAt_win (by omega),← hwin,← hzs]
     have hti : (W.take i).length = i:=by simp; omega
     obtain ⟨q,hq⟩ : ∃ q,q = guessW (win.getD (m + 2) 0) (win.getD (m + 1) 0) (win.getD m 0) (Dv.getD (m + 1) 0) (Dv.getD m 0):=⟨_,rfl⟩
     obtain ⟨g1,g2,g3⟩:=guess_ok w1 hDwd (n:=m) w2 hDl htop w4 hq
     have gv0:=val_nonneg w1
     have gq0:=Int.ediv_nonneg gv0 (Int.le_of_lt hDpos)
     have gqB : val win / val Dv < 4294967296:=Int.ediv_lt_of_lt_mul hDpos w4
     have key:=hx.next hWd hDpos w3
     refine ex_skip (show Exec _ _ _ _ _ from ?_)
     refine ex_seq (ex_block (exd (by rfl) ?_))
     refine mV (L rfl) rfl (mV (L rfl) rfl (mV (L rfl) rfl (sw (c_ad (L rfl) (w64 (by omega) (by omega))) t2 t0 ?_)))
     refine sw (ixR0 un22 sz68 (by exact (by simp [restAt_length hle,hWl] <;> omega)) (j:=i + (m + 2)) (by first | exact rfl | omega) (by omega) (L rfl)) t2 t1 ?_
     refine sw (c_l1 ag68 (by exact (by simp [restAt_length hle,hWl] <;> omega)) (getC (getP hti (by omega))) (L rfl)) t1 t1 ?_
     refine mV (L rfl) rfl (mV (L rfl) rfl (mV (L rfl) rfl (sw (c_ad (L rfl) (w64 (by omega) (by omega))) t2 t0 ?_)))
     refine sw (c_su (L rfl) (w64 (by omega) (by omega))) t2 t0 ?_
     refine sw (ixR0 un22 sz68 (by exact (by simp [restAt_length hle,hWl] <;> omega)) (j:=i + (m + 1)) (by first | exact rfl | omega) (by omega) (L rfl)) t2 t1 ?_
     refine sw (c_l1 ag68 (by exact (by simp [restAt_length hle,hWl] <;> omega)) (getC (getP hti (by omega))) (L rfl)) t1 t1 ?_
     refine mV (L rfl) rfl (mV (L rfl) rfl (mV (L rfl) rfl (sw (c_ad (L rfl) (w64 (by omega) (by omega))) t2 t0 ?_)))
     refine sw (c_su (L rfl) (w64 (by omega) (by omega))) t2 t0 ?_
     refine sw (ixR0 un22 sz68 (by exact (by simp [restAt_length hle,hWl] <;> omega)) (j:=i + m) (by first | exact rfl | omega) (by omega) (L rfl)) t2 t1 ?_
     refine sw (c_l1 ag68 (by exact (by simp [restAt_length hle,hWl] <;> omega)) (getC (getP hti (by omega))) (L rfl)) t1 t1 ?_
     refine sw (core_buildArr (vs:=[_,_,_]) un121 zv121 (.cons rfl (.cons rfl (.cons rfl .nil))) sz68 rfl (.cons rfl (.atom rfl) rfl pu1 (.cons rfl (.atom rfl) rfl (.skip pu1) (.cons rfl (.atom rfl) rfl (.skip (.skip pu1)) .nil))) (.cons (.cons (.cons .nil))) (L rfl)) t3 t0 (mV (L rfl) rfl (mV (L rfl) rfl (sw (c_su (L rfl) (w64 (by omega) (by omega))) t2 t0 ?_)))
     refine sw (ixJ un22 sz68 (j:=m + 1) (by first | exact rfl | omega) (by omega) (by simp) (L rfl)) t2 t0 ?_
     refine sw (c_li ag68 (by first | exact getW (by omega) | rfl) (L rfl)) t1 t0 ?_
     refine mV (L rfl) rfl (mV (L rfl) rfl (sw (c_su (L rfl) (w64 (by omega) (by omega))) t2 t0 ?_))
     refine sw (ixJ un22 sz68 (j:=m) (by first | exact rfl | omega) (by omega) (by simp) (L rfl)) t2 t0 ?_
     refine sw (c_li ag68 (by first | exact getW (by omega) | rfl) (L rfl)) t1 t0 ?_
     refine cK hG hX cl132 hN (guess_says (win.getD (m + 2) 0) (win.getD (m + 1) 0) (win.getD m 0) (Dv.getD (m + 1) 0) (Dv.getD m 0) (w1.getD _) (w1.getD _) (w1.getD _) ⟨htop,(hDwd.getD _).2⟩ (hDwd.getD _)) (L rfl) t3 (aV (L rfl) rfl ?_)
     refine seq_nil ⟨aoks [⟨[11],[],[89],[]⟩,⟨[14],[],[90],[]⟩,⟨[13],[],[91],[]⟩,⟨[90,91],[],[92],[]⟩,⟨[89,92],[66],[93],[]⟩,⟨[93],[66],[94],[]⟩,⟨[11],[],[95],[]⟩,⟨[14],[],[96],[]⟩,⟨[13],[],[97],[]⟩,⟨[96,97],[],[98],[]⟩,⟨[98],[],[99],[]⟩,⟨[95,99],[66],[100],[]⟩,⟨[100],[66],[101],[]⟩,⟨[11],[],[102],[]⟩,⟨[14],[],[103],[]⟩,⟨[13],[],[104],[]⟩,⟨[103,104],[],[105],[]⟩,⟨[105],[],[106],[]⟩,⟨[102,106],[66],[107],[]⟩,⟨[107],[66],[108],[]⟩,⟨[94,101,108],[],[109],[]⟩,⟨[12],[],[110],[]⟩,⟨[13],[],[111],[]⟩,⟨[111],[],[112],[]⟩,⟨[110,112],[],[113],[]⟩,⟨[113],[],[114],[]⟩,⟨[12],[],[115],[]⟩,⟨[13],[],[116],[]⟩,⟨[116],[],[117],[]⟩,⟨[115,117],[],[118],[]⟩,⟨[118],[],[119],[]⟩,⟨[109,114,119],[],[120],[]⟩,⟨[120],[],[15],[]⟩] (by rfl) (by rfl) (by decide),[(4,_),(10,_),(11,_),(12,_),(13,_),(14,_),(15,_)],[(66,_),(80,_)],t7,t2,?_⟩
     rw [← hq]
     have tk:=take_says (W.take i) win zs Dv q (ws.length + 1) (by omega) (by omega) w1 (by omega) hDwd ⟨by omega,g2⟩ g3
     have tr:=take_result hDpos g1 g3
     have hrest : W.take i ++ (digN win.length (val win % val Dv) ++ zs) = restAt W (m + 2) i (val win % val Dv):=by
      rw [w2,hzs,restAt_next (Int.emod_nonneg _ (by omega)) (by have:=Int.emod_lt_of_pos (val win) hDpos; omega) (by omega)]
     rw [hti,tr.1,tr.2,hrest] at tk
     refine ex_seq (exr (mV (L rfl) rfl (mV (L rfl) rfl (mV (L rfl) rfl (mV (L rfl) rfl (swB (c_cx hG hX [66] hN tk rfl (args_fn (ys:=[_,_,_,_]) cl133 rfl (by rfl)) (by rfl) (by rfl) (by rfl) (by rfl) (SameH.to (.cons (len_pure (by rw [encW_length,encW_length,restAt_length (by omega)]; simp; omega)) .nil)) (by rfl) (by rfl) (L rfl)) t4 t1 ?_))))))
     refine sw (c_no (L rfl)) t1 t0 (zn [(4,_),(10,_),(11,_),(12,_),(13,_),(14,_),(15,_),(126,_)] [(66,_),(80,_)] t8 t2 ?_)
     refine ex_if rfl (fun hb=>?_) (fun hb=>?_)
     ·have hb:=ndt hb
      have e : q - 1 = val win / val Dv:=by rw [← tr.1,if_neg hb]
      refine exr0 (mV (L rfl) rfl (sw (c_su (L rfl) (fu64 (by omega) (by omega))) t2 t0 ?_))
      refine aV (L rfl) rfl (seq_nil ?_)
      rw [e]
      refine exr0 (mV (L rfl) rfl (mV (L rfl) rfl (mV (L rfl) rfl (sw (c_cv un78 un68 (L rfl) (fu32 (by omega) (by omega))) t1 t0 ?_))))
      refine sw (ixR0 un22 sz68 (by exact (by simp; omega)) (j:=i) (by first | exact rfl | omega) (by omega) (L rfl)) t2 t1 ?_
      refine sb (c_s1 sz68 (by exact (by simp; omega)) (.atom rfl) (by omega)) t2 t1 ?_
      refine seq_nil (exr0 (mV (L rfl) rfl (sw (c_su (L rfl) (w64 (by omega) (by omega))) t2 t0 ?_)))
      refine aV (L rfl) rfl (seq_nil ?_)
      exact ⟨(i,val win % val Dv,val win / val Dv :: qs),key,(by simp only; omega),le_of ⟨(by first | exact rfl | exact oi (by omega) rfl),rfl,rfl,rfl,rfl,rfl,trivial⟩ ⟨rfl,obl rfl (by rw [encW_set,q_set]),trivial⟩⟩
     ·have hb:=ndf hb
      have e : q = val win / val Dv:=by rw [← tr.1,if_pos hb]
      rw [e]
      refine ex_skip (show Exec _ _ _ _ _ from ?_)
      refine exr0 (mV (L rfl) rfl (mV (L rfl) rfl (mV (L rfl) rfl (sw (c_cv un78 un68 (L rfl) (fu32 (by omega) (by omega))) t1 t0 ?_))))
      refine sw (ixR0 un22 sz68 (by exact (by simp; omega)) (j:=i) (by first | exact rfl | omega) (by omega) (L rfl)) t2 t1 ?_
      refine sb (c_s1 sz68 (by exact (by simp; omega)) (.atom rfl) (by omega)) t2 t1 ?_
      refine seq_nil (exr0 (mV (L rfl) rfl (sw (c_su (L rfl) (w64 (by omega) (by omega))) t2 t0 ?_)))
      refine aV (L rfl) rfl (seq_nil ?_)
      exact ⟨(i,val win % val Dv,val win / val Dv :: qs),key,(by simp only; omega),le_of ⟨(by first | exact rfl | exact oi (by omega) rfl),rfl,rfl,rfl,rfl,rfl,trivial⟩ ⟨rfl,obl rfl (by rw [encW_set,q_set]),trivial⟩⟩
    ·have he:=df he
     have hr0 : r = 0:=by omega
     subst hr0
     have heq:=hx.eq
     have hqw:=hx.wd
     simp only [List.drop_zero] at heq hqw
     rw [hDv,hWv] at heq
     rw [hDv] at hr
     obtain ⟨pe1,pe2⟩:=part_end hv heq hr
     have hqs : qs = digN (ws.length - vs.length + 1) (val ws / val vs):=by
      rw [← pe1,show ws.length - vs.length + 1 = qs.length by omega]; exact (digN_val hqw).symm
     obtain ⟨X,hL⟩ : ∃ X,X = restAt W (m + 2) 0 R:=⟨_,rfl⟩
     have hLl : X.length = ws.length + 1:=by rw [hL,restAt_length (by omega),hWl]
     have hLw : Wd X:=by rw [hL]; exact restAt_wd hWd
     have hL2:=hL
     rw [rest_zero] at hL2
     rw [← hL]
     refine ex_exit (show Exec _ _ _ _ _ from ?_)
     refine exr (mV (L rfl) rfl (mV (L rfl) rfl (sw (slR_hi un22 sz68 rfl (by exact (by simp [restAt_length hle,hWl] <;> omega)) (h:=vs.length) (by first | exact rfl | omega) (by omega) (L rfl)) t2 t1 ?_)))
     refine aV (L rfl) rfl (zn [(4,_),(5,_),(10,_),(11,_)] [(66,_),(80,_)] t4 t2 (ex_seq (exr (mV (L rfl) rfl (sw (c_lr un22 (by exact (by simp [restAt_length hle,hWl] <;> omega)) (L rfl)) t1 t1 ?_)))))
     refine mV (L rfl) rfl (zn [(4,_),(5,_),(10,_),(11,_),(138,_),(139,_)] [(66,_),(80,_)] t6 t2 (ex_block ?_))
     refine exl (α:=(Nat × List Int)) (fun y=>[(139,vi (y.1:Int))]) (fun y=>[(66,⟨68,1,.pure (encW (y.2 ++ X.drop y.1))⟩)]) (fun y=>UnAt X k y ∧ y.1 ≤ m + 2) (fun y=>m + 2 - y.1) (((0 : Nat),([] : List Int))) (sl:=[(4,_),(5,_),(10,_),(11,_),(138,_)]) (hb:=[(80,_)]) ?_ ⟨(by first | exact rfl | exact oi (by omega) rfl),rfl,rfl,rfl,rfl,rfl,trivial⟩ ⟨obl rfl (by simp),rfl,trivial⟩ ?_
     ·exact ⟨UnAt.zero X k,Nat.zero_le _⟩
     intro y hy
     obtain ⟨j,ys⟩:=y
     obtain ⟨hy,hjl⟩:=hy
     have hyl:=hy.len
     simp only at hyl hjl
     dsimp only
     refine exr (sw (c_ls (L rfl)) t2 t0 (zn [(4,_),(5,_),(10,_),(11,_),(138,_),(139,_),(140,_)] [(66,_),(80,_)] t7 t2 (ex_seq ?_)))
     refine ex_if rfl (fun hf=>?_) (fun hf=>?_)
     ·have hf:=dt hf
      have u0:=hLw.getD j
      have u1:=hLw.getD (j + 1)
      have ub:=shr_bd (s:=k) (show 0 ≤ X.getD j 0 + X.getD (j + 1) 0 * 4294967296 by omega) (by omega)
      refine ex_skip (show Exec _ _ _ _ _ from ?_)
      refine ex_seq (ex_block (exr (mV (L rfl) rfl (aV (L rfl) rfl (zn [(4,_),(5,_),(10,_),(11,_),(16,_),(138,_),(139,_)] [(66,_),(80,_)] t7 t2 (exd0 (by rfl) ?_))))))
      refine mV (L rfl) rfl (mV (L rfl) rfl (mV (L rfl) rfl (mV (L rfl) rfl (sw (c_ad (L rfl) (w64 (by omega) (by omega))) t2 t0 ?_))))
      refine sw (ixR0 un22 sz68 (by exact (by simp; omega)) (j:=j + 1) (by first | exact rfl | omega) (by omega) (L rfl)) t2 t1 ?_
      refine sw (c_l1 ag68 (by exact (by simp; omega)) (getC (getU (L:=X) (p:=j + 1) (q:=j + 1) (i:=1) hyl rfl rfl (by omega))) (L rfl)) t1 t1 ?_
      refine sw (c_cv un68 un78 (L rfl) (fu64 (by omega) (by omega))) t1 t0 ?_
      refine sw (c_sl (L rfl) (by decide) (shlE (c:=4294967296) (by rfl) (fu64 (by omega) (by omega)))) t2 t0 ?_
      refine mV (L rfl) rfl (mV (L rfl) rfl (sw (ixR un22 sz68 (by exact (by simp; omega)) (j:=j) (by first | exact rfl | omega) (by omega) (L rfl)) t2 t1 ?_))
      refine sw (c_l1 ag68 (by exact (by simp; omega)) (getC (getU (L:=X) (p:=0 + j) (q:=j) (i:=0) hyl (by omega) rfl (by omega))) (L rfl)) t1 t1 ?_
      refine sw (c_cv un68 un78 (L rfl) (fu64 (by omega) (by omega))) t1 t0 ?_
      refine sw (c_or (L rfl) (Eq.trans (or64' (b:=X.getD (j + 1) 0) 32 rfl u0.1 u0.2 u1.1 (by decide) (by omega) (by omega)) (show _ = X.getD j 0 + X.getD (j + 1) 0 * 4294967296 by omega))) t2 t0 ?_
      refine mV (L rfl) rfl (sw (c_sr (L rfl) (by omega) (shr64k (by omega))) t2 t0 ?_)
      refine sw (c_cv un78 un68 (L rfl) wu32) t1 t0 (sw (ixR un22 sz68 (by exact (by simp; omega)) (j:=j) (by first | exact rfl | omega) (by omega) (L rfl)) t2 t1 ?_)
      refine sb (c_s1 sz68 (by exact (by simp; omega)) (.atom rfl) (by omega)) t2 t1 ?_
      refine seq_nil ⟨aoks [⟨[5],[],[142],[]⟩,⟨[16],[],[143],[]⟩,⟨[11],[],[144],[]⟩,⟨[16],[],[145],[]⟩,⟨[145],[],[146],[]⟩,⟨[144,146],[66],[147],[]⟩,⟨[147],[66],[148],[]⟩,⟨[148],[],[149],[]⟩,⟨[149],[],[150],[]⟩,⟨[5],[],[151],[]⟩,⟨[16],[],[152],[]⟩,⟨[151,152],[66],[153],[]⟩,⟨[153],[66],[154],[]⟩,⟨[154],[],[155],[]⟩,⟨[150,155],[],[156],[]⟩,⟨[10],[],[157],[]⟩,⟨[156,157],[],[158],[]⟩,⟨[158],[],[159],[]⟩,⟨[142,143],[66],[160],[]⟩,⟨[160,159],[66],[],[66]⟩] (by rfl) (by rfl) (by decide),?_⟩
      refine exr0 (sw (c_ad (L rfl) (w64 (by omega) (by omega))) t2 t0 ?_)
      refine mV (L rfl) rfl (seq_nil ?_)
      exact ⟨(j + 1,ys ++ [(X.getD j 0 + X.getD (j + 1) 0 * 4294967296) / 2 ^ k % 4294967296]),⟨hy.next hLw (by omega) (by omega),by simp only; omega⟩,(by simp only; omega),le_of ⟨(by first | exact rfl | exact oi (by omega) rfl),rfl,rfl,rfl,rfl,rfl,trivial⟩ ⟨obl rfl (by rw [encW_set,Nat.zero_add,tail_set hyl (by omega)]),rfl,trivial⟩⟩
     ·have hf:=df hf
      have hj : j = m + 2:=by omega
      subst hj
      have hys:=un_end hL2 hr.1 (by rw [← hDv] at hr; omega) hy
      rw [pe2] at hys
      refine ex_exit (show Exec _ _ _ _ _ from ?_)
      refine exr (mV (L rfl) rfl (mV (L rfl) rfl (aV (L rfl) rfl (aV (L rfl) rfl (zn [(4,_),(5,_)] [(66,_),(80,_)] t2 t2 (ex_cv [66,80] (sl:=[(4,_),(5,_)]) (hb:=[]) (own_none hX0) ⟨⟨_,rfl,(.ref rfl rfl (by exact (by simp; omega)) (by first | rfl | omega))⟩,⟨_,rfl,(.refo rfl rfl (by exact (by simp; omega)) rfl)⟩,trivial⟩ t0 ?_))))))
      refine ex_ret ?_
      refine ⟨.inr rfl,ResVs.cast (.cons (.tmp rfl) (.cons (.tmp rfl) .nil)) ?_⟩
      simp only [partQ,partR,if_neg hc,if_neg hp,if_neg (show ¬ vs.length = 1 by omega)]; rw [← hqs,Nat.mul_one,List.drop_zero,encW_take,List.take_append_of_le_length (by omega),List.take_of_length_le (by omega),hys,hm]; simp [digN_length]; omega
end Go.Proofs.YtcifhkfpmhifaaaGreatDoor.N
namespace Go.Proofs.YtcifhkfpmhifaaaGreatDoor.NumA
def nw (a : Int) : Nat:=(digs a.natAbs).length
theorem nw_le {a : Int} {k : Nat} (h : (a.natAbs : Int) < 4294967296 ^ k) : nw a ≤ k:=by
  have : a.natAbs = ((a.natAbs : Int)).toNat:=by simp
  unfold nw; rw [this]
  exact dlen (by omega) h
theorem nw_lt {a : Int} : (a.natAbs : Int) < 4294967296 ^ nw a:=by
  have h:=val_lt (wd_digs a.natAbs)
  rwa [val_digs] at h
theorem nw_mono {a b : Int} (h : a.natAbs ≤ b.natAbs) : nw a ≤ nw b:=nw_le (by have:=nw_lt (a:=b); omega)
theorem nw_val {m : Bool} {ws : List Int} (h : Wd ws) : nw (sg m (val ws)) ≤ ws.length:=nw_le (by have:=val_lt h; have:=val_nonneg h; cases m <;> simp [sg] <;> omega)
theorem nw_mul (a b : Int) : nw (a * b) ≤ nw a + nw b:=by
  apply nw_le
  rw [Int.natAbs_mul,Int.natCast_mul,Int.pow_add]
  have h1:=nw_lt (a:=a)
  have h2:=nw_lt (a:=b)
  have h3 : (a.natAbs : Int) * b.natAbs ≤ a.natAbs * 4294967296 ^ nw b:=Int.mul_le_mul_of_nonneg_left (Int.le_of_lt h2) (by omega)
  have h4 : (a.natAbs : Int) * 4294967296 ^ nw b < 4294967296 ^ nw a * 4294967296 ^ nw b:=Int.mul_lt_mul_of_pos_right h1 (Bpos _)
  omega
theorem nw_add (a b : Int) : nw (a + b) ≤ max (nw a) (nw b) + 1:=by
  apply nw_le
  have h1:=nw_lt (a:=a)
  have h2:=nw_lt (a:=b)
  have h3:=powle (Nat.le_max_left (nw a) (nw b))
  have h4:=powle (Nat.le_max_right (nw a) (nw b))
  rw [Bsucc]
  generalize (4294967296 : Int) ^ max (nw a) (nw b) = M at *
  omega
theorem nw_zero {a : Int} : nw a = 0 ↔ a = 0:=by
  unfold nw
  rw [List.length_eq_zero_iff,digs_nil]; omega
theorem nw_neg (a : Int) : nw (-a) = nw a:=by unfold nw; rw [Int.natAbs_neg]
theorem val_digs_sg {m : Bool} {x : Int} (h : 0 ≤ x) : val (digs (sg m x).natAbs) = x:=by rw [val_digs]; cases m <;> simp [sg] <;> omega
theorem digs_len_zero {n : Nat} : (digs n).length = 0 ↔ n = 0:=by rw [List.length_eq_zero_iff,digs_nil]
theorem sg_abs {m : Bool} {x : Int} (h : 0 ≤ x) : ((sg m x).natAbs : Int) = x:=by cases m <;> simp [sg] <;> omega
theorem val_pos {ws : List Int} (h : Wd ws) (ht : Tr ws) (hl : ws.length ≠ 0) : 0 < val ws:=by
  have h1:=val_nonneg h
  by_cases e : val ws = 0
  · have:=val_eq_zero h ht e
    rw [this] at hl; simp at hl
  · omega
def dQ (m n : Bool) (ws vs : List Int) : Int:=if canon m ws = true ∧ canon n vs = true then sg m (val ws) / sg n (val vs) else 0
def dR (m n : Bool) (ws vs : List Int) : Int:=if canon m ws = true ∧ canon n vs = true ∧ vs.length ≠ 0 then sg m (val ws) % sg n (val vs) else 0
def dE (m n : Bool) (ws vs : List Int) : Int:=if canon m ws = true ∧ canon n vs = true then (if vs.length = 0 then 5 else 0) else 3
end Go.Proofs.YtcifhkfpmhifaaaGreatDoor.NumA
set_option maxRecDepth 100000
set_option maxHeartbeats 4000000
namespace Go.Proofs.YtcifhkfpmhifaaaGreatDoor.N
open Go Go.Proofs.YtcifhkfpmhifaaaGreatDoor.SH Go.Proofs.YtcifhkfpmhifaaaGreatDoor.NumA
open Go.Proofs.Tryz renaming call104 → cl104,call106 → cl106,call108 → cl108,call109 → cl109,call116 → cl116,call134 → cl134,isAgg22 → ag22,isAgg24 → ag24,isAgg4 → ag4,sizeOf22 → sz22,sizeOf24 → sz24,sizeOf4 → sz4,typeInfo24 → ti24,typeInfo68 → ti68,underlying22 → un22,underlying24 → un24,underlying4 → un4,underlying48 → un48,zeroValue24 → zv24
theorem div_says (m n : Bool) (ws vs : List Int) (hl : ws.length < 999999999999) (hl2 : vs.length < 999999999999) (h : Wd ws) (h2 : Wd vs) : Says E 112 [pI m ws,pI n vs] (.tup [pZ (dQ m n ws vs),pZ (dR m n ws vs),vZ (dE m n ws vs)]):=by
 refine says_of (xs:=[pZ (dQ m n ws vs),pZ (dR m n ws vs),vZ (dE m n ws vs)]) Tryz.func112 rfl Tryz.ntmps112 Tryz.results112 (by simp) fun F hG hX0 hnt hdf P0=>?_
 obtain ⟨L,hX,hN⟩:=pro hnt hX0 hG
 refine exr (swb (c_bx (k:=2) (n:=2) pa2 rfl rfl (P0 _ rfl) (L rfl)) t1 t0 ⟨rfl,rfl⟩ (swb (c_bx (k:=3) (n:=2) pa2 rfl rfl (P0 _ rfl) (L rfl)) t1 t0 ⟨rfl,rfl⟩ (swb (c_al (k:=4) (n:=2) zv24 (.cons rfl (.cons rfl .nil)) rfl (P0 _ rfl) (L rfl)) t0 t0 ⟨rfl,rfl⟩ (swb (c_al (k:=5) (n:=2) zv24 (.cons rfl (.cons rfl .nil)) rfl (P0 _ rfl) (L rfl)) t0 t0 ⟨rfl,rfl⟩ (aV (L rfl) rfl (zn [(2,_),(3,_),(4,_),(5,_)] [(2,_),(3,_),(4,_),(5,_)] t4 t4 (ex_seq (exr (lp2 ag24 sz24 (L rfl) rfl rfl (lp2 ag24 sz24 (L rfl) rfl rfl (sw (c_bI (vs:=[_,_]) un48 ti24 rfl rfl (by decide) (by decide) rfl (zs_made (.cons rfl (.cons rfl .nil)) rfl) rfl (.cons rfl pa2 rfl pu2 (.cons rfl pa2 rfl (.skip (.skip pu2)) .nil)) (.cons (.cons (.cons (.cons .nil)))) (L rfl)) t2 t0 ?_)))))))))))
 refine cK hG hX cl104 hN (all_says [(m,ws),(n,vs)] (by simp) (by simp; omega)) (L rfl) t1 ?_
 refine sw (c_no (L rfl)) t1 t0 (zn [(2,_),(3,_),(4,_),(5,_),(13,_)] [(2,_),(3,_),(4,_),(5,_)] t5 t4 ?_)
 refine ex_if rfl (fun hc=>?_) (fun hc=>?_)
 ·have hc : ¬ (canon m ws = true ∧ canon n vs = true):=by rintro ⟨h1,h2⟩; simp [h1,h2] at hc
  refine exr (sw (c_pc (c_bp (vs:=[]) un24 zv24 (.cons rfl (.cons rfl .nil)) ((Places.cons sz4 (Places.cons sz22 Places.nil))).to rfl .nil (.cons (.cons .nil)) (L rfl)) (.agg (.cons .same (.cons .nil .nil)))) t0 t0 (sw (c_pc (c_bp (vs:=[]) un24 zv24 (.cons rfl (.cons rfl .nil)) ((Places.cons sz4 (Places.cons sz22 Places.nil))).to rfl .nil (.cons (.cons .nil)) (L rfl)) (.agg (.cons .same (.cons .nil .nil)))) t0 t0 (sb (c_sm sz24 (by rfl) pa2 rfl pu2) t2 t1 ?_)))
  refine sb (c_sm sz24 (by rfl) pa2 rfl pu2) t2 t1 ?_
  refine aV (L rfl) rfl (zn [(4,_),(5,_),(6,_)] [(4,_),(5,_)] t3 t2 (ex_ret ?_))
  refine ⟨.inr rfl,ResVs.cast (.cons (.agg rfl rfl rfl ag24 sz24 (.cons (.cons .nil))) (.cons (.agg rfl rfl rfl ag24 sz24 (.cons (.cons .nil))) (.cons (.tmp rfl) .nil))) ?_⟩
  rw [dQ,dR,dE,if_neg hc,if_neg (fun hh=>hc ⟨hh.1,hh.2.1⟩),if_neg hc,pZ_zero]; rfl
 ·have hc : canon m ws = true ∧ canon n vs = true:=by simpa using hc
  have ht:=(canon_tr hc.1).1
  have ht2:=(canon_tr hc.2).1
  refine ex_skip (show Exec _ _ _ _ _ from ?_)
  refine ex_seq (exr (sw (c_fa un24 rfl sz22 (by decide) (by exact rfl) (L rfl)) t1 t1 ?_))
  refine sw (c_l1 ag22 (by rfl) (by rfl) (L rfl)) t1 t1 ?_
  refine sw (c_ln un22 (L rfl)) t1 t0 (sw (c_e (L rfl)) t2 t0 (zn [(2,_),(3,_),(4,_),(5,_),(19,_)] [(2,_),(3,_),(4,_),(5,_)] t5 t4 ?_))
  refine ex_if rfl (fun hz=>?_) (fun hz=>?_)
  ·have hz:=dt hz
   have e : vs = []:=List.eq_nil_of_length_eq_zero (by omega)
   subst e
   have e0 : sg n (val []) = 0:=by cases n <;> rfl
   refine exr (sw (c_pc (c_bp (vs:=[]) un24 zv24 (.cons rfl (.cons rfl .nil)) ((Places.cons sz4 (Places.cons sz22 Places.nil))).to rfl .nil (.cons (.cons .nil)) (L rfl)) (.agg (.cons .same (.cons .nil .nil)))) t0 t0 (sw (c_pc (c_bp (vs:=[]) un24 zv24 (.cons rfl (.cons rfl .nil)) ((Places.cons sz4 (Places.cons sz22 Places.nil))).to rfl .nil (.cons (.cons .nil)) (L rfl)) (.agg (.cons .same (.cons .nil .nil)))) t0 t0 (sb (c_sm sz24 (by rfl) pa2 rfl pu2) t2 t1 ?_)))
   refine sb (c_sm sz24 (by rfl) pa2 rfl pu2) t2 t1 ?_
   refine aV (L rfl) rfl (zn [(4,_),(5,_),(6,_)] [(4,_),(5,_)] t3 t2 (ex_ret ?_))
   refine ⟨.inr rfl,ResVs.cast (.cons (.agg rfl rfl rfl ag24 sz24 (.cons (.cons .nil))) (.cons (.agg rfl rfl rfl ag24 sz24 (.cons (.cons .nil))) (.cons (.tmp rfl) .nil))) ?_⟩
   rw [dQ,dR,dE,if_pos hc,if_neg (fun hh=>hh.2.2 rfl),if_pos hc,if_pos (show ([] : List Int).length = 0 from rfl),e0,Int.ediv_zero,pZ_zero]; rfl
  ·have hz:=df hz
   have hv:=val_pos h2 ht2 (by omega)
   have a0:=val_nonneg h
   have ps:=part_spec h h2 ht ht2 hv
   have r0:=Int.emod_nonneg (val ws) (show val vs ≠ 0 by omega)
   have q0:=Int.ediv_nonneg a0 (Int.le_of_lt hv)
   have r1:=Int.emod_lt_of_pos (val ws) hv
   have q1:=Int.ediv_le_self (val vs) a0
   have dsg:=div_sg (m:=m) (n:=n) a0 hv
   have hQ : dQ m n ws vs = sg m (val ws) / sg n (val vs):=by rw [dQ,if_pos hc]
   have hR : dR m n ws vs = sg m (val ws) % sg n (val vs):=by rw [dR,if_pos ⟨hc.1,hc.2,by omega⟩]
   have hE : dE m n ws vs = 0:=by rw [dE,if_pos hc,if_neg (by omega)]
   rw [hQ,hR,hE,dsg.1,dsg.2]
   refine ex_skip (show Exec _ _ _ _ _ from ?_)
   refine exr (sw (c_fa un24 rfl sz22 (by decide) (by exact rfl) (L rfl)) t1 t1 ?_)
   refine sw (c_l1 ag22 (by rfl) (by rfl) (L rfl)) t1 t1 ?_
   refine sw (c_fa un24 rfl sz22 (by decide) (by exact rfl) (L rfl)) t1 t1 ?_
   refine sw (c_l1 ag22 (by rfl) (by rfl) (L rfl)) t1 t1 ?_
   refine cK hG hX cl108 hN (parted_says ws vs (by omega) (by omega) h h2 ht ht2 hv) (L rfl) t2 ?_
   refine mV (L rfl) rfl (sw (c_ex rfl (L rfl)) t1 t0 (sw (c_ex rfl (L rfl)) t1 t0 (aV (L rfl) rfl (aV (L rfl) rfl (zn [(2,_),(3,_),(4,_),(5,_),(7,_),(8,_)] [(2,_),(3,_),(4,_),(5,_)] t6 t4 (exr (sw (c_fa un24 rfl sz4 (by decide) (by exact rfl) (L rfl)) t1 t1 ?_)))))))
   refine sw (c_l1 ag4 (by rfl) (by rfl) (L rfl)) t1 t1 ?_
   refine sw (c_fa un24 rfl sz4 (by decide) (by exact rfl) (L rfl)) t1 t1 ?_
   refine sw (c_l1 ag4 (by rfl) (by rfl) (L rfl)) t1 t1 ?_
   refine sw (c_bn un4 (L rfl)) t2 t0 (mV (L rfl) rfl (cK hG hX cl109 hN (made_says (m != n) (partQ ws vs) (by omega) ps.1) (L rfl) t2 ?_))
   refine mV (L rfl) rfl (cK hG hX cl109 hN (made_says false (partR ws vs) (by omega) ps.2.1) (L rfl) t2 ?_)
   refine sb (c_sm sz24 (by rfl) pa2 rfl pu2) t2 t1 ?_
   refine sb (c_sm sz24 (by rfl) pa2 rfl pu2) t2 t1 ?_
   refine zn [(2,_),(3,_),(4,_),(5,_)] [(2,_),(3,_),(4,_),(5,_)] t4 t4 ?_
   rw [ps.2.2.1,ps.2.2.2.1]
   refine ex_seq ?_
   refine exm (sl:=[(47,vb (decide (¬ (m = true ∧ val ws % val vs ≠ 0))))]) (sl0:=[(2,_),(3,_),(4,_),(5,_)]) (hb:=[]) (hb0:=[(2,_),(3,_),(4,_),(5,_)]) t4 t4 ?_ ?_
   ·by_cases hm : m = true
    ·refine sw (c_fa un24 rfl sz4 (by decide) (by exact rfl) (L rfl)) t1 t1 ?_
     refine sw (c_l1 ag4 (by rfl) (by rfl) (L rfl)) t1 t1 ?_
     refine sw (c_no (L rfl)) t1 t0 (mV (L rfl) rfl (swg (g:=42) rfl (by simp [hm]) (c_fa un24 rfl sz22 (by decide) (by exact rfl) (L rfl)) rfl t1 t1 ?_))
     refine swg (g:=42) rfl (by simp [hm]) (c_l1 ag22 (by rfl) (by rfl) (L rfl)) rfl t1 t1 ?_
     refine swg (g:=42) rfl (by simp [hm]) (c_ln un22 (L rfl)) rfl t1 t0 ?_
     refine swg (g:=42) rfl (by simp [hm]) (c_e (L rfl)) rfl t2 t0 ?_
     refine sw (c_pf (by simp [hm]) (L rfl)) t2 t0 ?_
     exact seq_nil ⟨⟨ob rfl (dec_eq (by simp only [hm,true_and,Decidable.not_not,ne_eq]; have:=digs_len_zero (n:=(sg false (val ws % val vs)).natAbs); have:=sg_abs (m:=false) r0; omega)),rfl,rfl,rfl,rfl,trivial⟩,t4⟩
    ·refine sw (c_fa un24 rfl sz4 (by decide) (by exact rfl) (L rfl)) t1 t1 ?_
     refine sw (c_l1 ag4 (by rfl) (by rfl) (L rfl)) t1 t1 ?_
     refine sw (c_no (L rfl)) t1 t0 (mV (L rfl) rfl (swn (g:=42) rfl (by simp [hm]) (L rfl) rfl ?_))
     refine swn (g:=42) rfl (by simp [hm]) (L rfl) rfl ?_
     refine swn (g:=42) rfl (by simp [hm]) (L rfl) rfl ?_
     refine swn (g:=42) rfl (by simp [hm]) (L rfl) rfl ?_
     refine sw (c_pt (by simp [hm]) (L rfl)) t2 t0 ?_
     exact seq_nil ⟨⟨ob rfl (by simp [hm]),rfl,rfl,rfl,rfl,trivial⟩,t4⟩
   refine ex_if rfl (fun hd=>?_) (fun hd=>?_)
   ·have hd:=dt hd
    rw [if_neg hd,if_neg hd]
    refine exd (by rfl) ?_
    refine lp2 ag24 sz24 (L rfl) rfl rfl (lp2 ag24 sz24 (L rfl) rfl rfl (sb (c_sm sz24 (by rfl) pa2 rfl pu2) t2 t1 ?_))
    refine sb (c_sm sz24 (by rfl) pa2 rfl pu2) t2 t1 ?_
    refine aV (L rfl) rfl ?_
    refine seq_nil ⟨aoks [⟨[4],[4],[48],[]⟩,⟨[5],[5],[49],[]⟩,⟨[4,48],[4],[],[4]⟩,⟨[5,49],[5],[],[5]⟩,⟨[],[],[6],[]⟩] (by rfl) (by rfl) (by decide),[(4,_),(5,_),(6,_)],[(4,_),(5,_)],t3,t2,?_⟩
    refine ex_ret ?_
    refine ⟨.inr rfl,ResVs.cast (.cons (.agg rfl rfl rfl ag24 sz24 (.cons (.cons .nil))) (.cons (.agg rfl rfl rfl ag24 sz24 (.cons (.cons .nil))) (.cons (.tmp rfl) .nil))) ?_⟩
    rfl
   ·have hd:=Decidable.not_not.1 (df hd)
    rw [if_pos hd,if_pos hd]
    have hql : (digs (sg (m != n) (val ws / val vs)).natAbs).length < 9999999999999:=by
     have:=nw_val (m:=m != n) ps.1
     rw [ps.2.2.1] at this
     unfold nw at this; omega
    have hrl : (digs (sg false (val ws % val vs)).natAbs).length < 9999999999999:=by
     have:=nw_val (m:=false) ps.2.1
     rw [ps.2.2.2.1] at this
     unfold nw at this; omega
    have hbl : (digs ((sg n (val vs)).natAbs : Int).natAbs).length < 9999999999999:=by
     have:=nw_val (m:=n) h2
     unfold nw at this
     rw [show ((sg n (val vs)).natAbs : Int).natAbs = (sg n (val vs)).natAbs by simp]; omega
    refine ex_skip (show Exec _ _ _ _ _ from ?_)
    refine exr (sw (c_fa un24 rfl sz22 (by decide) (by exact rfl) (L rfl)) t1 t1 ?_)
    refine sw (c_l1 ag22 (by rfl) (by rfl) (L rfl)) t1 t1 ?_
    refine sw (c_fa un24 rfl sz4 (by decide) (by exact rfl) (L rfl)) t1 t1 ?_
    refine sw (c_l1 ag4 (by rfl) (by rfl) (L rfl)) t1 t1 ?_
    refine sw (c_fa un24 rfl sz4 (by decide) (by exact rfl) (L rfl)) t1 t1 ?_
    refine sw (c_l1 ag4 (by rfl) (by rfl) (L rfl)) t1 t1 ?_
    refine sw (c_bn un4 (L rfl)) t2 t0 (sw (c_bI (vs:=[_]) un22 ti68 rfl rfl (by decide) (by decide) rfl (zs_made (.cons rfl .nil) rfl) rfl (.cons rfl (.atom rfl) rfl pu1 .nil) (.cons .nil) (L rfl)) t1 t0 ?_)
    refine sw (c_fa un24 rfl sz4 (by decide) (by exact rfl) (L rfl)) t1 t1 ?_
    refine sw (c_l1 ag4 (by rfl) (by rfl) (L rfl)) t1 t1 ?_
    refine sw (c_fa un24 rfl sz4 (by decide) (by exact rfl) (L rfl)) t1 t1 ?_
    refine sw (c_l1 ag4 (by rfl) (by rfl) (L rfl)) t1 t1 ?_
    refine sw (c_bn un4 (L rfl)) t2 t0 (cK hG hX cl116 hN (signed_says (digs (sg (m != n) (val ws / val vs)).natAbs) [1] (m != n) (m != n) hql (by simp) (wd_digs _) (by simp [Wd]) (digs_tr _) (by simp [Tr])) (L rfl) t4 ?_)
    refine sb (c_sm sz24 (by rfl) pa2 rfl pu2) t2 t1 ?_
    refine zn [(3,_),(4,_),(5,_)] [(3,_),(4,_),(5,_)] t3 t3 ?_
    rw [val_digs_sg q0]
    refine exd (by rfl) ?_
    refine lp2 ag24 sz24 (L rfl) rfl rfl (lp2 ag24 sz24 (L rfl) rfl rfl (cK hG hX cl106 hN (abs_says n vs (by omega) h2) (L rfl) t1 ?_))
    refine lp2 ag24 sz24 (L rfl) rfl rfl (cK hG hX cl134 hN (sub_says (decide ((if canon n vs = true then ((sg n (val vs)).natAbs : Int) else 0) < 0)) (decide (sg false (val ws % val vs) < 0)) (digs (if canon n vs = true then ((sg n (val vs)).natAbs : Int) else 0).natAbs) (digs (sg false (val ws % val vs)).natAbs) (by rw [if_pos hc.2]; exact hbl) hrl (wd_digs _) (wd_digs _)) (L rfl) t2 ?_)
    refine sb (c_sm sz24 (by rfl) pa2 rfl pu2) t2 t1 ?_
    refine sb (c_sm sz24 (by rfl) pa2 rfl pu2) t2 t1 ?_
    refine aV (L rfl) rfl ?_
    refine seq_nil ⟨aoks [⟨[4],[4],[64],[]⟩,⟨[3],[3],[65],[]⟩,⟨[65],[],[66],[]⟩,⟨[5],[5],[67],[]⟩,⟨[66,67],[],[68],[]⟩,⟨[4,64],[4],[],[4]⟩,⟨[5,68],[5],[],[5]⟩,⟨[],[],[6],[]⟩] (by rfl) (by rfl) (by decide),[(4,_),(5,_),(6,_)],[(4,_),(5,_)],t3,t2,?_⟩
    refine ex_ret ?_
    refine ⟨.inr rfl,ResVs.cast (.cons (.agg rfl rfl rfl ag24 sz24 (.cons (.cons .nil))) (.cons (.agg rfl rfl rfl ag24 sz24 (.cons (.cons .nil))) (.cons (.tmp rfl) .nil))) ?_⟩
    rw [if_pos ⟨canon_digs _,canon_digs _⟩,sg_digs,sg_digs,if_pos hc.2,sg_abs (Int.le_of_lt hv),← sg_add]; simp [val,sg]
end Go.Proofs.YtcifhkfpmhifaaaGreatDoor.N
set_option maxRecDepth 100000
set_option maxHeartbeats 4000000
namespace Go.Proofs.YtcifhkfpmhifaaaGreatDoor.N
open Go Go.Proofs.YtcifhkfpmhifaaaGreatDoor.SH Go.Proofs.YtcifhkfpmhifaaaGreatDoor.NumA
open Go.Proofs.Tryz renaming call102 → cl102,call104 → cl104,call106 → cl106,call107 → cl107,call108 → cl108,call109 → cl109,isAgg22 → ag22,isAgg24 → ag24,sizeOf22 → sz22,sizeOf24 → sz24,sizeOf4 → sz4,typeInfo24 → ti24,underlying22 → un22,underlying24 → un24,underlying48 → un48,zeroValue24 → zv24
@[reducible] def bI (a : Int) : Blk:=⟨24,2,.mix [.p (.a (.bool (decide (a < 0)))),.p (.sl (digs a.natAbs).length (encW (digs a.natAbs)))]⟩
theorem addZ (a b : Int) (ha : nw a < 999999999999) (hb : nw b < 999999999999) : Says E 76 [pZ a,pZ b] (pZ (a + b)):=by
 have:=add_says (decide (a < 0)) (decide (b < 0)) (digs a.natAbs) (digs b.natAbs) (by unfold nw at ha; omega) (by unfold nw at hb; omega) (wd_digs _) (wd_digs _)
 rwa [if_pos ⟨canon_digs a,canon_digs b⟩,sg_digs,sg_digs] at this
theorem mulZ (a b : Int) (ha : nw a < 999999999999) (hb : nw b < 999999999999) : Says E 70 [pZ a,pZ b] (pZ (a * b)):=by
 have:=mul_says (decide (a < 0)) (decide (b < 0)) (digs a.natAbs) (digs b.natAbs) (by unfold nw at ha; omega) (by unfold nw at hb; omega) (wd_digs _) (wd_digs _)
 rwa [if_pos ⟨canon_digs a,canon_digs b⟩,sg_digs,sg_digs] at this
theorem divZ (a b : Int) (ha : nw a < 999999999999) (hb : nw b < 999999999999) (h0 : b ≠ 0) : Says E 112 [pZ a,pZ b] (.tup [pZ (a / b),pZ (a % b),vZ 0]):=by
 have:=div_says (decide (a < 0)) (decide (b < 0)) (digs a.natAbs) (digs b.natAbs) ha hb (wd_digs _) (wd_digs _)
 have hl : (digs b.natAbs).length ≠ 0:=by rw [Ne,digs_len_zero]; omega
 rwa [dQ,dR,dE,if_pos ⟨canon_digs a,canon_digs b⟩,if_pos ⟨canon_digs a,canon_digs b,hl⟩,if_pos ⟨canon_digs a,canon_digs b⟩,if_neg hl,sg_digs,sg_digs] at this
theorem negZ (a : Int) (ha : nw a < 999999999999) : Says E 72 [pZ a] (pZ (-a)):=by
 have:=neg_says (decide (a < 0)) (digs a.natAbs) (by unfold nw at ha; omega) (wd_digs _)
 rwa [if_pos (canon_digs a),sg_digs] at this
theorem signZ (a : Int) (ha : nw a < 999999999999) : Says E 60 [pZ a] (vZ a.sign):=by
 have:=sign_says (decide (a < 0)) (digs a.natAbs) (by unfold nw at ha; omega) (wd_digs _)
 rwa [if_pos (canon_digs a),sg_digs] at this
theorem cmpZ (a b : Int) (ha : nw a < 999999999999) (hb : nw b < 999999999999) : Says E 65 [pZ a,pZ b] (vZ (cmpI a b)):=by
 have:=cmp_says (decide (a < 0)) (decide (b < 0)) (digs a.natAbs) (digs b.natAbs) (by unfold nw at ha; omega) (by unfold nw at hb; omega) (wd_digs _) (wd_digs _)
 rwa [if_pos ⟨canon_digs a,canon_digs b⟩,sg_digs,sg_digs] at this
theorem isZ (a : Int) (ha : nw a < 999999999999) : Says E 59 [pZ a] (bZ true):=by
 have:=is_says (decide (a < 0)) (digs a.natAbs) (by unfold nw at ha; omega)
 rwa [canon_digs a] at this
theorem bitsZ (a : Int) (ha : nw a < 999999999999) : Says E 79 [pZ a] (vZ (bl a.natAbs : Nat)):=by
 have:=bits_says (decide (a < 0)) (digs a.natAbs) (by unfold nw at ha; omega) (wd_digs _)
 rwa [if_pos (canon_digs a),val_digs,Int.toNat_natCast] at this
theorem parted_r (x y : Nat) (hy : 0 < y) : val (partR (digs x) (digs y)) = ((x % y : Nat) : Int):=by
 have:=(part_spec (wd_digs x) (wd_digs y) (digs_tr x) (digs_tr y) (by rw [val_digs]; omega)).2.2.2.1
 rw [this,val_digs,val_digs]; rfl
theorem gcd_says (m n : Bool) (ws vs : List Int) (hl : ws.length < 99999999999) (hl2 : vs.length < 99999999999) (h : Wd ws) (h2 : Wd vs) : Says E 66 [pI m ws,pI n vs] (pZ (if canon m ws = true ∧ canon n vs = true then (Int.gcd (sg m (val ws)) (sg n (val vs)) : Int) else 0)):=by
 refine says_of (xs:=[pZ (if canon m ws = true ∧ canon n vs = true then (Int.gcd (sg m (val ws)) (sg n (val vs)) : Int) else 0)]) Tryz.func66 rfl Tryz.ntmps66 Tryz.results66 (by simp) fun F hG hX0 hnt hdf P0=>?_
 obtain ⟨L,hX,hN⟩:=pro hnt hX0 hG
 refine exr (swb (c_bx (k:=2) (n:=2) pa2 rfl rfl (P0 _ rfl) (L rfl)) t1 t0 ⟨rfl,rfl⟩ (swb (c_bx (k:=3) (n:=2) pa2 rfl rfl (P0 _ rfl) (L rfl)) t1 t0 ⟨rfl,rfl⟩ (swb (c_al (k:=4) (n:=2) zv24 (.cons rfl (.cons rfl .nil)) rfl (P0 _ rfl) (L rfl)) t0 t0 ⟨rfl,rfl⟩ (zn [(2,_),(3,_),(4,_)] [(2,_),(3,_),(4,_)] t3 t3 (ex_seq (exr (lp2 ag24 sz24 (L rfl) rfl rfl (lp2 ag24 sz24 (L rfl) rfl rfl (sw (c_bI (vs:=[_,_]) un48 ti24 rfl rfl (by decide) (by decide) rfl (zs_made (.cons rfl (.cons rfl .nil)) rfl) rfl (.cons rfl pa2 rfl pu2 (.cons rfl pa2 rfl (.skip (.skip pu2)) .nil)) (.cons (.cons (.cons (.cons .nil)))) (L rfl)) t2 t0 ?_)))))))))
 refine cK hG hX cl104 hN (all_says [(m,ws),(n,vs)] (by simp) (by simp; omega)) (L rfl) t1 ?_
 refine sw (c_no (L rfl)) t1 t0 (zn [(2,_),(3,_),(4,_),(17,_)] [(2,_),(3,_),(4,_)] t4 t3 ?_)
 refine ex_if rfl (fun hc=>?_) (fun hc=>?_)
 ·have hc : ¬ (canon m ws = true ∧ canon n vs = true):=by rintro ⟨h1,h2⟩; simp [h1,h2] at hc
  refine exr (sw (c_pc (c_bp (vs:=[]) un24 zv24 (.cons rfl (.cons rfl .nil)) ((Places.cons sz4 (Places.cons sz22 Places.nil))).to rfl .nil (.cons (.cons .nil)) (L rfl)) (.agg (.cons .same (.cons .nil .nil)))) t0 t0 (sb (c_sm sz24 (by rfl) pa2 rfl pu2) t2 t1 ?_))
  refine zn [(4,_)] [(4,_)] t1 t1 (ex_ret ?_)
  refine ⟨.inr rfl,ResVs.cast (.cons (.agg rfl rfl rfl ag24 sz24 (.cons (.cons .nil))) .nil) ?_⟩
  rw [if_neg hc,pZ_zero]; rfl
 ·have hc : canon m ws = true ∧ canon n vs = true:=by simpa using hc
  have ab:=abs_says m ws (by omega) h
  have ab2:=abs_says n vs (by omega) h2
  rw [if_pos hc.1] at ab
  rw [if_pos hc.2] at ab2
  have na:=nw_val (m:=m) h
  have nb:=nw_val (m:=n) h2
  rw [if_pos hc]
  obtain ⟨A,hA⟩ : ∃ A,A = sg m (val ws):=⟨_,rfl⟩
  obtain ⟨B,hB⟩ : ∃ B,B = sg n (val vs):=⟨_,rfl⟩
  rw [← hA] at ab na ⊢
  rw [← hB] at ab2 nb ⊢
  refine ex_skip (show Exec _ _ _ _ _ from ?_)
  refine exd (by rfl) ?_
  refine lp2 ag24 sz24 (L rfl) rfl rfl (cK hG hX cl106 hN ab (L rfl) t1 (lp2 ag24 sz24 (L rfl) rfl rfl (cK hG hX cl106 hN ab2 (L rfl) t1 (swb (c_al (k:=5) (n:=2) zv24 (.cons rfl (.cons rfl .nil)) rfl (P0 _ rfl) (L rfl)) t0 t0 ⟨rfl,rfl⟩ (swb (c_al (k:=6) (n:=2) zv24 (.cons rfl (.cons rfl .nil)) rfl (P0 _ rfl) (L rfl)) t0 t0 ⟨rfl,rfl⟩ (sb (c_sm sz24 (by rfl) pa2 rfl pu2) t2 t1 ?_))))))
  refine sb (c_sm sz24 (by rfl) pa2 rfl pu2) t2 t1 ?_
  refine seq_nil ⟨aok rfl rfl,[(4,_),(5,_),(6,_)],[(4,_),(5,_),(6,_)],t3,t3,?_⟩
  refine ex_seq (ex_block ?_)
  refine exl (α:=(Nat × Nat)) (fun x=>[]) (fun x=>[(5,bI (x.1:Int)),(6,bI (x.2:Int))]) (fun x=>Nat.gcd x.1 x.2 = Int.gcd A B ∧ x.1 ≤ max A.natAbs B.natAbs ∧ x.2 ≤ max A.natAbs B.natAbs) (fun x=>x.2) ((A.natAbs,B.natAbs)) (sl:=[(4,_),(5,_),(6,_)]) (hb:=[(4,_)]) ?_ t3 t3 ?_
  ·exact ⟨rfl,Nat.le_max_left _ _,Nat.le_max_right _ _⟩
  intro x hx
  obtain ⟨x,y⟩:=x
  obtain ⟨hg,hx,hy⟩:=hx
  simp only at hg hx hy
  dsimp only
  have hnx : nw (x : Int) < 99999999999:=by
   rcases (show x ≤ A.natAbs ∨ x ≤ B.natAbs by omega) with c | c
   ·have:=nw_mono (a:=(x : Int)) (b:=A) (by simpa using c); omega
   ·have:=nw_mono (a:=(x : Int)) (b:=B) (by simpa using c); omega
  have hny : nw (y : Int) < 99999999999:=by
   rcases (show y ≤ A.natAbs ∨ y ≤ B.natAbs by omega) with c | c
   ·have:=nw_mono (a:=(y : Int)) (b:=A) (by simpa using c); omega
   ·have:=nw_mono (a:=(y : Int)) (b:=B) (by simpa using c); omega
  have hdx:=wd_digs (x : Int).natAbs
  have hdy:=wd_digs (y : Int).natAbs
  unfold nw at hnx hny
  refine ex_seq (exr (sw (c_fa un24 rfl sz22 (by decide) (by exact rfl) (L rfl)) t1 t1 ?_))
  refine sw (c_l1 ag22 (by rfl) (by rfl) (L rfl)) t1 t1 ?_
  refine sw (c_ln un22 (L rfl)) t1 t0 (sw (c_gt (L rfl)) t2 t0 (zn [(4,_),(5,_),(6,_),(26,_)] [(4,_),(5,_),(6,_)] t4 t3 ?_))
  refine ex_if rfl (fun he=>?_) (fun he=>?_)
  ·have he:=dt he
   have hyp : 0 < y:=by
    by_cases c : y = 0
    ·subst c; simp [digs_zero] at he
    ·omega
   refine ex_skip (show Exec _ _ _ _ _ from ?_)
   refine ex_block (exr (sw (c_fa un24 rfl sz22 (by decide) (by exact rfl) (L rfl)) t1 t1 ?_))
   refine sw (c_l1 ag22 (by rfl) (by rfl) (L rfl)) t1 t1 ?_
   refine cK hG hX cl107 hN (pair_says (digs (x : Int).natAbs) (by omega) hdx) (L rfl) t1 ?_
   refine mV (L rfl) rfl (sw (c_ex rfl (L rfl)) t1 t0 (sw (c_ex rfl (L rfl)) t1 t0 (aV (L rfl) rfl (aV (L rfl) rfl (zn [(4,_),(5,_),(6,_),(7,_),(8,_)] [(4,_),(5,_),(6,_)] t5 t3 (exr (sw (c_fa un24 rfl sz22 (by decide) (by exact rfl) (L rfl)) t1 t1 ?_)))))))
   refine sw (c_l1 ag22 (by rfl) (by rfl) (L rfl)) t1 t1 ?_
   refine cK hG hX cl107 hN (pair_says (digs (y : Int).natAbs) (by omega) hdy) (L rfl) t1 ?_
   refine mV (L rfl) rfl (sw (c_ex rfl (L rfl)) t1 t0 (sw (c_ex rfl (L rfl)) t1 t0 (aV (L rfl) rfl (aV (L rfl) rfl (zn [(4,_),(5,_),(6,_),(7,_),(8,_),(9,_),(10,_)] [(4,_),(5,_),(6,_)] t7 t3 (ex_seq ?_))))))
   refine exm (sl:=[(42,vb (decide ((digs (x : Int).natAbs).length ≤ 2 ∧ (digs (y : Int).natAbs).length ≤ 2)))]) (sl0:=[(4,_),(5,_),(6,_),(7,_),(9,_)]) (hb:=[]) (hb0:=[(4,_),(5,_),(6,_)]) t5 t3 ?_ ?_
   ·by_cases hs : (digs (x : Int).natAbs).length ≤ 2
    ·refine mV (L rfl) rfl (mV (L rfl) rfl (gV (g:=40) rfl (decide_eq_true hs) (L rfl) rfl rfl (sw (c_pt (decide_eq_true hs) (L rfl)) t2 t0 ?_)))
     exact seq_nil ⟨⟨ob rfl (dec_eq ⟨fun c=>⟨hs,c⟩,fun c=>c.2⟩),rfl,rfl,rfl,rfl,rfl,trivial⟩,t3⟩
    ·refine mV (L rfl) rfl (mV (L rfl) rfl (swn (g:=40) rfl (decide_eq_false hs) (L rfl) rfl (sw (c_pf (decide_eq_false hs) (L rfl)) t2 t0 ?_)))
     exact seq_nil ⟨⟨ob rfl (decide_eq_false (fun c=>hs c.1)).symm,rfl,rfl,rfl,rfl,rfl,trivial⟩,t3⟩
   refine ex_if rfl (fun hs=>?_) (fun hs=>?_)
   ·have hs:=dt hs
    rw [if_pos hs.1,if_pos hs.2,val_digs,val_digs]
    have sx:=small2 hdx hs.1
    have sy:=small2 hdy hs.2
    rw [val_digs] at sx sy
    refine ex_seq (ex_block ?_)
    refine exl (α:=(Nat × Nat)) (fun z=>[(7,vw (z.1:Int)),(9,vw (z.2:Int))]) (fun z=>[]) (fun z=>Nat.gcd z.1 z.2 = Int.gcd A B ∧ z.1 < 18446744073709551616 ∧ z.2 < 18446744073709551616) (fun z=>z.2) ((x,y)) (sl:=[(4,_)]) (hb:=[(4,_)]) ?_ ⟨(by first | exact rfl | exact oi (by omega) rfl),(by first | exact rfl | exact oi (by omega) rfl),rfl,trivial⟩ t1 ?_
    ·exact ⟨hg,by simp only; omega,by simp only; omega⟩
    intro z hz
    obtain ⟨u,v⟩:=z
    obtain ⟨hg2,hu,hv⟩:=hz
    simp only at hg2 hu hv
    dsimp only
    refine ex_seq (exr (mV (L rfl) rfl (sw (c_gt (L rfl)) t2 t0 (zn [(4,_),(7,_),(9,_),(44,_)] [(4,_)] t4 t1 ?_))))
    refine ex_if rfl (fun hf=>?_) (fun hf=>?_)
    ·have hf:=dt hf
     have hlt:=Nat.mod_lt u (show 0 < v by omega)
     refine ex_skip (show Exec _ _ _ _ _ from ?_)
     refine ex_block (exd0 (by rfl) ?_)
     refine mV (L rfl) rfl (mV (L rfl) rfl (mV (L rfl) rfl (sw (c_r (L rfl) (by omega) (show _ = ((u % v : Nat) : Int) by rw [tmodE (by omega) (by omega)]; rfl)) t2 t0 ?_)))
     refine aV (L rfl) rfl (aV (L rfl) rfl ?_)
     refine seq_nil ⟨aoks [⟨[9],[],[45],[]⟩,⟨[7],[],[46],[]⟩,⟨[9],[],[47],[]⟩,⟨[46,47],[],[48],[]⟩,⟨[45],[],[7],[]⟩,⟨[48],[],[9],[]⟩] (by rfl) (by rfl) (by decide),?_⟩
     exact ⟨(v,u % v),⟨by rw [← gcd_step]; exact hg2,hv,by simp only; omega⟩,(by simp only; omega),le_of ⟨(by first | exact rfl | exact oi (by omega) rfl),(by first | exact rfl | exact oi (by omega) rfl),rfl,trivial⟩ t1⟩
    ·have hf:=df hf
     have hv0 : v = 0:=by omega
     subst hv0
     rw [Nat.gcd_zero_right] at hg2
     subst hg2
     refine ex_exit (show Exec _ _ _ _ _ from ?_)
     refine exr (mV (L rfl) rfl (cK hG hX cl102 hN (natural_says false (Int.gcd A B : Nat) (by omega) (by omega)) (L rfl) t2 ?_))
     refine sb (c_sm sz24 (by rfl) pa2 rfl pu2) t2 t1 ?_
     refine zn [(4,_)] [(4,_)] t1 t1 (ex_ret ?_)
     refine ⟨.inr rfl,ResVs.cast (.cons (.agg rfl rfl rfl ag24 sz24 (.cons (.cons .nil))) .nil) ?_⟩
     rfl
   ·have hs:=df hs
    have ps:=part_spec hdx hdy (digs_tr _) (digs_tr _) (by rw [val_digs]; omega)
    refine ex_skip (show Exec _ _ _ _ _ from ?_)
    refine exr (sw (c_fa un24 rfl sz22 (by decide) (by exact rfl) (L rfl)) t1 t1 ?_)
    refine sw (c_l1 ag22 (by rfl) (by rfl) (L rfl)) t1 t1 ?_
    refine sw (c_fa un24 rfl sz22 (by decide) (by exact rfl) (L rfl)) t1 t1 ?_
    refine sw (c_l1 ag22 (by rfl) (by rfl) (L rfl)) t1 t1 ?_
    refine cK hG hX cl108 hN (parted_says (digs (x : Int).natAbs) (digs (y : Int).natAbs) (by omega) (by omega) hdx hdy (digs_tr _) (digs_tr _) (by rw [val_digs]; omega)) (L rfl) t2 ?_
    refine mV (L rfl) rfl (sw (c_ex rfl (L rfl)) t1 t0 (sw (c_ex rfl (L rfl)) t1 t0 (aV (L rfl) rfl (aV (L rfl) rfl (zn [(4,_),(5,_),(6,_),(12,_)] [(4,_),(5,_),(6,_)] t4 t3 ?_)))))
    have pr : sg false (val (partR (digs (x : Int).natAbs) (digs (y : Int).natAbs))) = ((x % y : Nat) : Int):=parted_r x y hyp
    have md:=made_says false (partR (digs (x : Int).natAbs) (digs (y : Int).natAbs)) (by omega) ps.2.1
    rw [pr] at md
    have hml:=Nat.mod_lt x hyp
    refine exd0 (by rfl) ?_
    refine lp2 ag24 sz24 (L rfl) rfl rfl (mV (L rfl) rfl (cK hG hX cl109 hN md (L rfl) t2 (sb (c_sm sz24 (by rfl) pa2 rfl pu2) t2 t1 ?_)))
    refine sb (c_sm sz24 (by rfl) pa2 rfl pu2) t2 t1 ?_
    refine seq_nil ⟨aoks [⟨[6],[6],[59],[]⟩,⟨[12],[],[60],[]⟩,⟨[60],[],[61],[]⟩,⟨[5,59],[5],[],[5]⟩,⟨[6,61],[6],[],[6]⟩] (by rfl) (by rfl) (by decide),?_⟩
    exact ⟨(y,x % y),⟨by rw [← gcd_step]; exact hg,hy,by simp only; omega⟩,(by simp only; omega),le_of t3 t3⟩
  ·have he:=df he
   have hy0 : y = 0:=by
    have : (digs (y : Int).natAbs).length = 0:=by omega
    rw [digs_len_zero] at this; omega
   subst hy0
   rw [Nat.gcd_zero_right] at hg
   subst hg
   refine ex_exit (show Exec _ _ _ _ _ from ?_)
   refine exr (lp2 ag24 sz24 (L rfl) rfl rfl (sb (c_sm sz24 (by rfl) pa2 rfl pu2) t2 t1 ?_))
   refine zn [(4,_)] [(4,_)] t1 t1 (ex_ret ?_)
   refine ⟨.inr rfl,ResVs.cast (.cons (.agg rfl rfl rfl ag24 sz24 (.cons (.cons .nil))) .nil) ?_⟩
   rfl
theorem gcdZ (a b : Int) (ha : nw a < 99999999999) (hb : nw b < 99999999999) : Says E 66 [pZ a,pZ b] (pZ (Int.gcd a b : Int)):=by
 have:=gcd_says (decide (a < 0)) (decide (b < 0)) (digs a.natAbs) (digs b.natAbs) ha hb (wd_digs _) (wd_digs _)
 rwa [if_pos ⟨canon_digs a,canon_digs b⟩,sg_digs,sg_digs] at this
end Go.Proofs.YtcifhkfpmhifaaaGreatDoor.N
namespace Go.Proofs.YtcifhkfpmhifaaaGreatDoor.NumA
theorem rdiv_start {ws vs : List Int} {m k : Nat} (h : Wd ws) (h2 : Wd vs) (ht2 : Tr vs) (hm : vs.length = m + 2) (hk : k + bl (vs.getD (vs.length - 1) 0).toNat = 32) (hle : val vs ≤ val ws) {W Dv : List Int} (hW : W = digs (val ws * 2 ^ k).toNat ++ [0, 0]) (hD : Dv = digs (val vs * 2 ^ k).toNat) :
    k < 32 ∧ 0 < val vs ∧ 0 < val Dv ∧ val Dv < 4294967296 ^ (m + 2) ∧ val Dv = val vs * 2 ^ k ∧ Dv.length = m + 2 ∧ 2147483648 ≤ Dv.getD (m + 1) 0 ∧ val W = val ws * 2 ^ k ∧ Wd W ∧ Wd Dv ∧ m + 2 ≤ W.length ∧ W.length ≤ ws.length + 3 ∧
    PartAt W (m + 2) (val Dv) (W.length - (m + 2),val (W.drop (W.length - (m + 2))),[]):=by
  have hlen:=len_le h h2 ht2 hle
  obtain ⟨p1,p2,p3,p4,p5,p6,p7,p8,-⟩:=part_start h h2 ht2 hm hk hlen
  have hn : vs ≠ []:=by intro e; rw [e] at hm; simp at hm
  obtain ⟨n1,n2,n3⟩:=norm_bd h2 ht2 hn hk
  have hp : (0 : Int) < 2 ^ k:=Int.pow_pos (by decide)
  have eD : Dv = digN (m + 2) (val vs * 2 ^ k):=by
    rw [hD,← p5]
    have:=digs_val (digN_wd (m + 2) (val vs * 2 ^ k)) (.inr (by rw [digN_length,show m + 2 - 1 = m + 1 by omega]; omega))
    rw [this,p5]
  have vD : val Dv = val vs * 2 ^ k:=by rw [eD,p5]
  have sw:=shifted_lt h (Nat.le_of_lt n3)
  have vd : val (digs (val ws * 2 ^ k).toNat) = val ws * 2 ^ k:=by rw [val_digs]; omega
  have vW : val W = val ws * 2 ^ k:=by rw [hW,val_append,vd]; simp [val]
  have wD:=wd_digs (val ws * 2 ^ k).toNat
  have wW : Wd W:=by
    rw [hW]; refine wD.append fun w hw=>?_
    simp only [List.mem_cons,List.not_mem_nil,or_false,or_self] at hw; subst hw; decide
  have hl0 : m + 2 ≤ (digs (val ws * 2 ^ k).toNat).length:=by
    have h3 : val vs * 2 ^ k ≤ val ws * 2 ^ k:=Int.mul_le_mul_of_nonneg_right hle (Int.le_of_lt hp)
    rw [hm,show m + 2 - 1 = m + 1 by omega] at n1
    have h4:=val_lt wD
    rw [vd] at h4
    by_cases c : m + 2 ≤ (digs (val ws * 2 ^ k).toNat).length
    · exact c
    · have h5:=powle (show (digs (val ws * 2 ^ k).toNat).length ≤ m + 1 by omega)
      have:=Bpos (m + 1)
      omega
  have hl1 : (digs (val ws * 2 ^ k).toNat).length ≤ ws.length + 1:=dlen sw.1 sw.2
  have hWl : W.length = (digs (val ws * 2 ^ k).toNat).length + 2:=by rw [hW]; simp
  refine ⟨n3,p2,by omega,by omega,vD,by rw [eD,digN_length],by rw [eD]; exact p7,vW,wW,by rw [hD]; exact wd_digs _,by omega,by omega,?_⟩
  refine PartAt.start wW (by omega) ?_
  have e1 : W.drop (W.length - (m + 2)) = (digs (val ws * 2 ^ k).toNat).drop ((digs (val ws * 2 ^ k).toNat).length - m) ++ [0,0]:=by
    rw [hWl,hW,List.drop_append_of_le_length (by omega)]
    congr 2; omega
  rw [e1,val_append]
  have h6:=val_lt (wD.drop ((digs (val ws * 2 ^ k).toNat).length - m))
  rw [List.length_drop] at h6
  have h7:=powle (show (digs (val ws * 2 ^ k).toNat).length - ((digs (val ws * 2 ^ k).toNat).length - m) ≤ m + 1 by omega)
  rw [hm,show m + 2 - 1 = m + 1 by omega] at n1
  have:=Bpos (m + 1)
  have e2 : val [0,0] = 0:=by simp [val]
  rw [e2,Int.mul_zero]
  omega
structure LowerAt (win vs : List Int) (x : Int × List Int × Int) : Prop where
  q : val win / val vs ≤ x.1 ∧ x.1 < 4294967296
  len : x.2.1.length = win.length
  wd : Wd x.2.1
  b : x.2.2 = 0 ∨ x.2.2 = 1
  eq : val x.2.1 = val win - x.1 * val vs + 4294967296 ^ win.length * x.2.2
  iff : x.2.2 = 0 ↔ x.1 * val vs ≤ val win
theorem LowerAt.start {win vs ys : List Int} {q c b : Int} (h : Wd win) (hl : vs.length < win.length) (h2 : Wd vs) (hq : 0 ≤ q ∧ q < 4294967296) (hQ : val win / val vs ≤ q) (ha : TakeAt win vs q (win.length,ys,c,b)) : LowerAt win vs (q,ys,b):=by
  have h1:=ha.end_ h hl h2 hq
  exact ⟨⟨hQ,hq.2⟩,ha.len,ha.wd,ha.b,h1.2.1,h1.2.2⟩
theorem LowerAt.more {win vs w1 ys : List Int} {q e : Int} (hw : Wd win) (hl : vs.length ≤ win.length) (h2 : Wd vs) (hD : 0 < val vs) (ha : LowerAt win vs (q,w1,1)) (hb : BackAt w1 vs (win.length,ys,e)) : LowerAt win vs (q - 1,ys,1 - e) ∧ 0 < q:=by
  have hnot : ¬ q * val vs ≤ val win:=fun c=>by have:=ha.iff.2 c; simp only at this; omega
  have hq:=ha.q
  simp only at hq
  have hlt : val win / val vs < q:=by
    by_cases c : val win / val vs < q
    · exact c
    · have e : val win / val vs = q:=by omega
      exact absurd (by rw [← e]; exact Int.ediv_mul_le _ (by omega)) hnot
  have h0:=Int.ediv_nonneg (val_nonneg hw) (Int.le_of_lt hD)
  have:=back_more hl h2 ha.eq ha.len ha.wd hw hb hnot
  have hc:=hb.c
  simp only at hc
  refine ⟨⟨by simp only; omega,hb.len,hb.wd,by simp only; omega,this.1,this.2⟩,by omega⟩
theorem LowerAt.pos {win vs w1 : List Int} {q : Int} (hw : Wd win) (hD : 0 < val vs) (ha : LowerAt win vs (q,w1,1)) : 0 < q:=by
  have hnot : ¬ q * val vs ≤ val win:=fun c=>by have:=ha.iff.2 c; simp only at this; omega
  have hq:=ha.q
  simp only at hq
  have h0:=Int.ediv_nonneg (val_nonneg hw) (Int.le_of_lt hD)
  by_cases c : 0 < q
  · exact c
  · have e : q = 0:=by omega
    rw [e,Int.zero_mul] at hnot
    exact absurd (val_nonneg hw) hnot
theorem LowerAt.done {win vs w1 : List Int} {q : Int} (hw : Wd win) (hD : 0 < val vs) (ha : LowerAt win vs (q,w1,0)) : q = val win / val vs ∧ w1 = digN win.length (val win % val vs):=by
  have hle:=ha.iff.1 rfl
  have hq:=ha.q
  have he:=ha.eq
  have hlen:=ha.len
  simp only at hle hq he hlen
  have h1:=(Int.le_ediv_iff_mul_le hD).2 hle
  have e1 : q = val win / val vs:=by omega
  refine ⟨e1,?_⟩
  have e2 : val w1 = val win % val vs:=by
    rw [he,e1,Int.mul_zero,Int.add_zero]
    have:=Int.mul_ediv_add_emod (val win) (val vs)
    rw [Int.mul_comm] at this; omega
  rw [← e2,← hlen]; exact (digN_val ha.wd).symm
end Go.Proofs.YtcifhkfpmhifaaaGreatDoor.NumA
namespace Go.Proofs.YtcifhkfpmhifaaaGreatDoor.SH
open Go Go.RowKit
section
variable {P : Program} {F : Fr} {d : Nat} {T : TypeId} {pos : String} {aft : Array Edge} {g : Option (Nat × Bool)} {t : TypeId}
theorem core_freshD {o : Oper} {A : Ann} {v : PV} (hd : o.dst = some d) (hlt : d < F.nt) (hws : A.ws = [(d, v)]) (hwb : A.wb = [])
    (hrun : ∀ ρ S a w,SatR F ρ S a w → A.holds S → ∃ c T fr u,(execOp a.eval o).run P w = .ok (.value u) (w.drew.alloc (.cells c T fr)) ∧ ∀ ok H β,(∀ b,okI F S.blk ρ b → ok b) → ok w.heap.size → (∀ b,b < w.heap.size → H b = hp w b) → H w.heap.size = some (.cells c T fr) → RelV β ρ ok H v u) : CoreOk P F o A:=by
  intro S a w ⟨ρ,h⟩ hA Q K hK
  obtain ⟨c,T,fr,u,hu,hr⟩:=hrun ρ S a w h hA
  unfold Oper.wp
  rw [hu]
  simp only [Oper.upon,hd]
  refine hK _ _ ⟨ρ,?_⟩
  have hh : (w.drew.alloc (.cells c T fr)).heap = w.heap.push (.cells c T fr):=World.alloc_heap w.drew _
  have hpp:=hp_push (w:=w) (w':=w.drew.alloc (.cells c T fr)) hh
  have hne : ∀ k,S.blk k ≠ none → ρ k < w.heap.size:=fun k hk=>by
    cases hB : S.blk k with
    | none=>exact absurd hB hk
    | some B=>obtain ⟨c,e1,_⟩:=h.blks k B hB; exact World.size_lt e1
  have hhp : ∀ b,b < w.heap.size → hp (w.drew.alloc (.cells c T fr)) b = hp w b:=fun b hb=>by rw [hpp,if_neg (by omega)]
  have hsame : SatR F ρ S a (w.drew.alloc (.cells c T fr)):=by
    refine h.upd (Kp:=fun _=>True) (frame_push h.frame hh rfl rfl rfl) h.nt rfl
      (fun b hb hne'=>⟨hb,?_⟩) (fun k _ B hB=>⟨B,hB,rfl,Nat.le_refl _,fun _=>⟨rfl,fun c T fr hc=>⟨c,T,fr,?_,rfl⟩⟩⟩) h.inj (fun j _ _ _ hj=>⟨hj,rfl,fun c T hc=>⟨c,T,by rw [hhp _ (World.size_lt hc)]; exact hc,rfl⟩⟩) (fun t v ht=>.inl ⟨ht,rfl,fun _ _=>trivial⟩)
      (fun k B hB=>.inl ⟨hB,rfl,hhp _ (hne k (by simp [hB])),fun _ _ _ _ _=>trivial⟩)
    · cases e : hp w b with
      | none=>exact absurd e hne'
      | some o=>rw [hhp b (World.size_lt e),e]
    · rw [hhp _ (World.size_lt hc)]; exact hc
  have e : S.app A = ⟨(d,v) :: S.sl,S.hb⟩:=by simp [St.app,hws,hwb]
  rw [e]
  refine satR_put hsame hlt (hr _ _ _ (fun b hb=>hb) ⟨.inr h.frame.size,fun k hk=>by have:=hne k hk; omega⟩ hhp (by rw [hpp,if_pos rfl]))
theorem c_s2 {src dst e : TypeId} {x : Operand} {s : ByteArray} {n : Nat} {xs : List Pure} (hs : P.underlying src = some .string) (hd : P.underlying dst = some (.slice e)) (he : P.underlying e = some (.int .u8)) (hn : s.size = n) (hx : s.data.toList.map (fun b => Pure.a (.int .u8 b.toNat)) = xs) (hlt : d < F.nt) :
    CoreOk P F ⟨some d,.convert src dst x,T,pos,aft,g⟩ { rs:=[(x,.p (.a (.string s)))],ws:=[(d,.p (.sl n xs))] } :=
  core_freshD rfl hlt rfl rfl fun ρ S a w h hA=>by
    have hxe:=atom_eval h (v:=.string s) (hA.rs (x,_) (by simp))
    have hrun:=run_bytes_of_string (P:=P) w src dst e s hs hd he
    subst hn
    refine ⟨bytesRow s (grownCap w s.size 0 e),e,((bytesRow s (grownCap w s.size 0 e)).size,(bytesRow s (grownCap w s.size 0 e)).size + 1),.slice (some ⟨w.heap.size,0,none⟩) s.size (grownCap w s.size 0 e),by simp only [execOp,hxe,Sem.run_bind,hrun,Result.andThen_ok,Sem.run_pure],fun ok H β hok hnew hold hH=>?_⟩
    simp only [RelV,Rel]
    refine ⟨some ⟨w.heap.size,0,none⟩,grownCap w s.size 0 e,rfl,by unfold grownCap Question.cut; exact Nat.le_add_right _ _,?_⟩
    refine RelS.of hnew (RelAt.of fun i y hy=>?_)
    subst hx
    rw [List.getElem?_map] at hy
    cases hb : s.data.toList[i]? with
    | none=>rw [hb] at hy; cases hy
    | some b =>
      rw [hb] at hy
      simp only [Option.map_some,Option.some.injEq] at hy
      subst hy
      refine ⟨.int .u8 b.toNat,?_,rfl,by simp [Rel]⟩
      rw [cellAt_of hH,Nat.zero_add]
      have hi:=(List.getElem?_eq_some_iff.1 hb).1
      simp only [bytesRow]
      rw [Array.getElem?_append_left (by simpa using hi)]
      rw [Array.getElem?_map]
      have : s.data[i]? = some b:=by simpa using hb
      rw [this]; rfl
end
end Go.Proofs.YtcifhkfpmhifaaaGreatDoor.SH
namespace Go.Proofs.YtcifhkfpmhifaaaGreatDoor.SH
open Go Go.RowKit
def SaysC (E : Env) (f : FuncId) (args : List Pure) (gf : FuncId) (T : TypeId) (x : Pure) : Prop :=
  ∀ (ok : Nat → Prop) (w : World) (vals : List Value),E.G w → RelL ok (hp w) args vals →
    Calls E.P f vals.toArray w fun e w'=>∃ (b : Nat) (c : Array Value),e = .returned (.func (.func gf) #[] #[.pointer (some ⟨b,0,none⟩)]) ∧ w.heap.size ≤ b ∧ hp w' b = some (.cells c T (0,0)) ∧ 1 ≤ c.size ∧
      (∀ (i : Nat) (y : PV),(Cells.mix [.p x]).get i = some y → ∃ u : Value,c[i]? = some u ∧ u.oneCell' = true ∧ ∃ z,y = .p z ∧ Rel (fun a=>(ok a ∨ w.heap.size ≤ a) ∧ a ≠ b) (hp w') z u) ∧ Below w.heap.size w w'
theorem saysC_of {E : Env} {f : FuncId} {fn : Func} {c : Code} {args : List Pure} {x : Pure} {t k gf m : Nat} {T : TypeId} (hf : E.P.funcs[f]? = some fn) (hb : fn.body = some c) (hn : fn.ntmps = m) (hr : fn.results = #[.tmp t]) (hle : args.length ≤ m)
    (h : ∀ F : Fr,E.G F.w0 → (∀ b,¬ F.X b) → F.nt = m → F.df = [] → (∀ k,Nat.blt k 1000 = true → F.pin k = none) → Exec E.P F c ⟨argSlots 0 args,[]⟩ (fun e S=>(e = .normal ∨ e = .ret) ∧ S.slot t = some (.clo (.func gf) [] [.at_ k 0 1]) ∧ S.blk k = some ⟨T,1,.mix [.p x]⟩)) : SaysC E f args gf T x:=by
  intro ok w vals hG hrel
  have hvl:=hrel.length
  let F : Fr:=⟨w,ok,fun _=>False,m,[],fun _=>none,none,fun _ _=>False,fun k=>Nat.blt k 1000⟩
  have hS : Sat F ⟨argSlots 0 args,[]⟩ { tmps:=vals.toArray ++ Array.replicate (fn.ntmps - vals.toArray.size) undef,defers:=[] } w:=by
    refine ⟨fun _=>0,⟨fun t v ht=>?_,fun k B hB=>by simp [St.blk] at hB,fun k k' hk=>by simp [St.blk] at hk,⟨rfl,rfl,rfl,Nat.le_refl _,fun _ _ _=>rfl⟩,?_,Marks.nil rfl,fun j b n hj=>by cases hj⟩⟩
    · obtain ⟨j,x,rfl,hx,rfl⟩:=argSlots_get ht
      obtain ⟨u,hu,hru⟩:=hrel.get hx
      refine ⟨u,?_,?_⟩
      · rw [Nat.zero_add,Array.getElem?_append_left (by have:=(List.getElem?_eq_some_iff.1 hu).1; simpa using this)]
        simpa using hu
      · simp only [RelV]
        exact Rel.mono (fun b hb _=>⟨⟨.inl hb,fun k hk=>by simp [St.blk] at hk⟩,rfl⟩) _ _ hru
    · simp [F,hn]; omega
  refine calls_exec hf hb rfl rfl (fun _ _ h=>h) hS (h F hG (fun _ h=>h) rfl rfl (fun _ _=>rfl)) fun e S' hq=>⟨hq.1,fun ρ tmps w' hS'=>?_⟩
  obtain ⟨-,hs,hB⟩:=hq
  obtain ⟨c',g1,g2,g3,g4⟩:=hS'.blks k _ hB
  have hbn : F.w0.heap.size ≤ ρ k:=by
    rcases g2 with g2 | g2
    · exact g2.1.elim
    · exact g2
  obtain ⟨u0,hu0,hr0⟩:=hS'.slots t _ hs
  simp only [RelV,RelVL] at hr0
  obtain ⟨fs,cs,h3,rfl,v1,r1,rfl,h4,rfl⟩:=hr0
  rw [(h4 _ hB).2 rfl] at h3
  have hv : (results fn tmps).run E.P w' = .ok (.func (.func gf) #[] #[.pointer (some ⟨ρ k,0,none⟩)]) w':=by
    have e : results fn tmps = (do let vs ← [ResultVar.tmp t].toArray.mapM (resRun tmps); pure (if h : vs.size = 1 then vs[0] else .tuple vs)):=by
      unfold results
      rw [hr]
      rfl
    have hm : ([ResultVar.tmp t].toArray.mapM (resRun tmps)).run E.P w' = .ok #[.func (.func gf) #[] #[.pointer (some ⟨ρ k,0,none⟩)]] w':=by
      rw [List.mapM_toArray]
      simp [List.mapM_cons,resRun,Array.getD_eq_getD_getElem?,hu0,h3]
    rw [e]
    simp only [Sem.run_bind,hm,Result.andThen_ok,Sem.run_pure]
    rfl
  have hfin : ∃ (b : Nat) (c : Array Value), Ending.returned (.func (.func gf) #[] #[.pointer (some ⟨ρ k, 0, none⟩)]) = .returned (.func (.func gf) #[] #[.pointer (some ⟨b, 0, none⟩)]) ∧ w.heap.size ≤ b ∧ hp w' b = some (.cells c T (0, 0)) ∧ 1 ≤ c.size ∧
      (∀ (i : Nat) (y : PV),(Cells.mix [.p x]).get i = some y → ∃ u : Value,c[i]? = some u ∧ u.oneCell' = true ∧ ∃ z,y = .p z ∧ Rel (fun a=>(ok a ∨ w.heap.size ≤ a) ∧ a ≠ b) (hp w') z u) ∧ Below w.heap.size w w':=by
    refine ⟨ρ k,c',rfl,hbn,g1,g3,fun i y hy=>?_,⟨hS'.frame.os,hS'.frame.tape,hS'.frame.output,hS'.frame.size,fun k hk=>hS'.frame.block k hk (fun h=>h)⟩⟩
    obtain ⟨u,hu,ho,hru⟩:=g4 i y hy
    cases i with
    | zero =>
      obtain rfl : y = .p x:=by simpa [Cells.get] using hy.symm
      simp only [RelV] at hru
      exact ⟨u,hu,ho,x,rfl,Rel.mono (fun b hb _=>⟨⟨hb.1,hb.2 k (by simp [hB])⟩,rfl⟩) _ _ hru⟩
    | succ i=>simp [Cells.get] at hy
  exact ⟨_,hv,hfin⟩
theorem core_callC {E : Env} {F : Fr} (hG : E.G F.w0) (hX : ∀ b, F.X b → E.ng ≤ b) {d k : Nat} {f : FuncId} {os : List Operand} {xs : List Pure} {x : Pure} {gf : FuncId} {T' : TypeId} {ts : Array TypeId} {T : TypeId} {pos : String} {aft : Array Edge} {g : Option (Nat × Bool)}
    (hcall : ∀ args w,(callFunc f args).run E.P w = .ok (.enter f args) w) (hlen : os.length = xs.length) (hng : E.ng ≤ F.w0.heap.size) (hs : SaysC E f xs gf T' x) (hpk : F.pin k = none) (hlt : d < F.nt) :
    CoreOk E.P F ⟨some d,.call ⟨.value (.func f),os.toArray,ts⟩,T,pos,aft,g⟩ ⟨os.zip (xs.map .p),[],some k,[(d,.clo (.func gf) [] [.at_ k 0 1])],[(k,⟨T',1,.mix [.p x]⟩)]⟩:=by
  intro S a w ⟨ρ,h⟩ hA Q K hK
  obtain ⟨hk,hf⟩:=hA.fresh k rfl
  have hrun : (execOp a.eval ⟨some d,.call ⟨.value (.func f),os.toArray,ts⟩,T,pos,aft,g⟩).run E.P w = .ok (.enter f (os.map a.eval).toArray) w:=by
    simp [execOp,resolve,Act.eval,Deferred.ofValue,invoke,hcall]
  unfold Oper.wp
  rw [hrun]
  simp only [Oper.upon]
  have hrel : RelL (okI F S.blk ρ) (hp w) xs (os.map a.eval):=RelL.of (by simp [hlen]) fun i x hx=>by
    have hlt : i < os.length:=by rw [hlen]; exact (List.getElem?_eq_some_iff.1 hx).1
    have hm : (os[i],PV.p x) ∈ os.zip (xs.map .p):=by
      rw [List.mem_iff_getElem?]
      exact ⟨i,by rw [List.getElem?_zip_eq_some]; simp [hx,hlt]⟩
    have:=opd_rel h (hA.rs _ hm)
    exact ⟨a.eval os[i],by simp [hlt],by simpa [RelV] using this⟩
  have hGw : E.G w:=E.stab F.w0 w hG fun b hb=>h.frame.block b (by omega) (fun hx=>by have:=hX b hx; omega)
  refine Calls.mono (hs (okI F S.blk ρ) w _ hGw hrel) fun e w' ⟨b,c,he,hbn,hH,hsz,hcs,hbl⟩=>?_
  subst he
  refine hK _ _ ?_
  let ρ' : Nat → Nat:=fun j=>if j = k then b else ρ j
  let S' : St:=⟨(d,.clo (.func gf) [] [.at_ k 0 1]) :: S.sl,(k,⟨T',1,.mix [.p x]⟩) :: S.hb⟩
  show Sat F S' _ w'
  have hbk : ∀ j,S'.blk j = if j = k then some ⟨T',1,.mix [.p x]⟩ else S.blk j:=fun j=>by
    simp only [S',St.blk,List.lookup_cons]
    by_cases e : j = k
    · simp [e]
    · rw [show (j == k) = false by simpa using e]; simp [e]
  have hlt' : ∀ j,S.blk j ≠ none → ρ j < w.heap.size:=fun j hj=>by
    cases hB : S.blk j with
    | none=>exact absurd hB hj
    | some B'=>obtain ⟨c',e1,_⟩:=h.blks j B' hB; exact World.size_lt e1
  have hhp : ∀ b,b < w.heap.size → hp w' b = hp w b:=fun b hb=>hbl.block b hb
  have hc : Carry (okI F S.blk ρ) (okI F S'.blk ρ') (hp w) (hp w'):=fun b' hb hne=>by
    have hbs : b' < w.heap.size:=by
      cases e : hp w b' with
      | none=>exact absurd e hne
      | some o=>exact World.size_lt e
    refine ⟨⟨hb.1,fun j hj=>?_⟩,hhp _ hbs⟩
    simp only [ρ']
    split
    · omega
    · rename_i e
      rw [hbk,if_neg e] at hj
      exact hb.2 j hj
  have hkp : Keep (fun j=>j ≠ k) S.blk S'.blk ρ ρ' (hp w) (hp w'):=fun j hj B' hB'=>by
    rw [hbk,if_neg hj] at hB'
    exact ⟨B',hB',rfl,Nat.le_refl _,fun _=>⟨if_neg hj,fun c T fr hc'=>⟨c,T,fr,by rw [hhp _ (World.size_lt hc')]; exact hc',rfl⟩⟩⟩
  refine ⟨ρ',h.upd (Kp:=fun j=>j ≠ k) ⟨hbl.os.trans h.frame.os,hbl.tape.trans h.frame.tape,hbl.output.trans h.frame.output,Nat.le_trans h.frame.size hbl.size,fun b hb hx=>(hbl.block b (Nat.lt_of_lt_of_le hb h.frame.size)).trans (h.frame.block b hb hx)⟩ (by simp [Act.put,h.nt]) rfl hc hkp (fun j j' hj hj' he=>?_) (fun j b' m hj hS=>?_) (fun t v ht=>?_) (fun j B hB=>?_)⟩
  · simp only [ρ'] at he
    rw [hbk] at hj hj'
    by_cases e1 : j = k <;> by_cases e2 : j' = k
    · rw [e1,e2]
    · rw [if_pos e1,if_neg e2] at he
      rw [if_neg e2] at hj'
      have:=hlt' j' hj'; omega
    · rw [if_neg e1,if_pos e2] at he
      rw [if_neg e1] at hj
      have:=hlt' j hj; omega
    · rw [if_neg e1,if_neg e2] at he
      rw [if_neg e1] at hj
      rw [if_neg e2] at hj'
      exact h.inj j j' hj hj' he
  · have hjk : j ≠ k:=fun e=>by subst e; rw [hpk] at hj; cases hj
    rw [hbk,if_neg hjk] at hS
    exact ⟨hS,if_neg hjk,fun c T hc'=>⟨c,T,by rw [hhp _ (World.size_lt hc')]; exact hc',rfl⟩⟩
  · rw [put_get (by rw [h.nt]; exact hlt)]
    simp only [S',St.slot,List.lookup_cons] at ht
    by_cases ed : t = d
    · subst ed
      simp only [BEq.rfl,Option.some.injEq] at ht
      subst ht
      refine .inr ⟨_,by simp; rfl,?_⟩
      simp only [RelV,RelVL]
      refine ⟨[],[.pointer (some ⟨b,0,none⟩)],rfl,rfl,_,[],rfl,?_,rfl⟩
      intro B hB
      rw [hbk,if_pos rfl] at hB
      injection hB with hB; subst hB
      exact ⟨Nat.le_refl _,fun _=>by simp [ρ']⟩
    · rw [show (t == d) = false by simpa using ed] at ht
      refine .inl ⟨ht,by rw [if_neg ed],fun j hj e=>?_⟩
      subst e
      have:=St.free_slot hf ht
      rw [hj] at this; cases this
  · rw [hbk] at hB
    by_cases e : j = k
    · subst e
      rw [if_pos rfl] at hB
      injection hB with hB
      subst hB
      refine .inr ⟨c,by simp only [ρ',if_pos]; exact hH,.inr (by simp only [ρ',if_pos]; exact Nat.le_trans h.frame.size hbn),by simp only [Cells.len,List.length_singleton]; exact hsz,fun i y hy=>?_⟩
      obtain ⟨u,hu,ho,z,rfl,hr⟩:=hcs i y hy
      refine ⟨u,hu,ho,?_⟩
      simp only [RelV]
      refine Rel.mono (fun b' hb' _=>⟨?_,rfl⟩) _ _ hr
      have hne : ∀ q,S'.blk q ≠ none → (q = j ∨ S.blk q ≠ none ∧ q ≠ j):=fun q hq=>by
        rw [hbk] at hq
        by_cases e : q = j
        · exact .inl e
        · rw [if_neg e] at hq; exact .inr ⟨hq,e⟩
      rcases hb'.1 with h1 | h1
      · refine ⟨h1.1,fun q hq=>?_⟩
        rcases hne q hq with rfl | ⟨h3,h4⟩
        · simp only [ρ',if_pos]; exact hb'.2
        · simp only [ρ']; rw [if_neg h4]; exact h1.2 q h3
      · refine ⟨.inr (Nat.le_trans h.frame.size h1),fun q hq=>?_⟩
        rcases hne q hq with rfl | ⟨h3,h4⟩
        · simp only [ρ',if_pos]; exact hb'.2
        · simp only [ρ']; rw [if_neg h4]; have:=hlt' q h3; omega
    · rw [if_neg e] at hB
      refine .inl ⟨hB,if_neg e,hhp _ (hlt' j (by simp [hB])),fun i x hx q hq e2=>?_⟩
      subst e2
      have:=St.free_blk hf hB hx
      rw [hq] at this; cases this
end Go.Proofs.YtcifhkfpmhifaaaGreatDoor.SH
namespace Go.Proofs.YtcifhkfpmhifaaaGreatDoor.SH
open Go Go.RowKit
section
variable {P : Program} {F : Fr} {d : Nat} {T : TypeId} {pos : String} {aft : Array Edge} {g : Option (Nat × Bool)} {t tx : TypeId}
def encU (bs : List UInt8) : List Pure:=bs.map fun b=>.a (.int .u8 b.toNat)
@[simp] theorem encU_length (bs : List UInt8) : (encU bs).length = bs.length:=by simp [encU]
theorem c_b2 {src dst e : TypeId} {x : Operand} {k n sz : Nat} {l : List UInt8} {xs : List Pure} {s : ByteArray} (hs : P.underlying src = some (.slice e)) (he : P.underlying e = some (.int .u8)) (hd : P.underlying dst = some .string) (hsz : sz = 1) (hn : l.length = n) (hx : xs = encU l) (hs' : s = ⟨l.toArray⟩) (hlt : d < F.nt) :
    CoreOk P F ⟨some d,.convert src dst x,T,pos,aft,g⟩ { rs:=[(x,.ref k 0 n n)],rb:=[(k,⟨e,sz,.pure xs⟩)],ws:=[(d,.p (.a (.string s)))] } :=
  core_val rfl hlt rfl rfl fun ρ S a w h hA=>by
    subst hx hs' hn hsz
    have hB:=hA.rb (k,⟨e,1,.pure (encU l)⟩) (by simp)
    obtain ⟨cap,c,hev,hc,hH,_⟩:=ref_eval h (hA.rs (x,.ref k 0 l.length l.length) (by simp)) hB (by simp [Cells.len])
    refine ⟨.string ⟨l.toArray⟩,?_,by simp [RelV,Rel]⟩
    have hrun:=run_convert_bytes_back (P:=P) w src dst e ⟨ρ k,0,none⟩ cap l hs he hd fun j hj=>by
      obtain ⟨c0,e1,e2,e3,e4⟩:=h.blks k _ hB
      rw [hH] at e1
      injection e1 with e1
      injection e1 with e1
      subst e1
      obtain ⟨u,hu,_,hr⟩:=e4 j (.p (.a (.int .u8 (l[j].toNat : Int)))) (by simp [Cells.get,encU,hj])
      have ea : (⟨ρ k,0,none⟩ : Addr).add j = ⟨ρ k,j,none⟩:=by unfold Addr.add; split <;> simp_all
      rw [ea,cell_hp,cellAt_of hH,hu]
      simp only [RelV,Rel] at hr
      rw [hr]
    simp only [execOp,hev,Sem.run_bind,hrun,Result.andThen_ok,Sem.run_pure]
theorem apPS {x y : Operand} {k n m tot q r : Nat} {e : TypeId} {ie : TypeInfo} {z : Value} {xs zs : List Pure} {s : ByteArray} (hu : P.underlying t = some (.slice e)) (hux : P.underlying tx = some .string) (hi : ∀ w, (typeInfo e).run P w = .ok ie w) (hz : ie.zero = some z) (hsz : ie.size = 1)
    (hzl : z.cells.size = 1) (hl : xs.length = tot) (hn : n = tot) (hm : s.size = m) (he : xs ++ encU s.data.toList = zs) (hq : n + m = q) (hr : tot + m = r) (hby : 2 * q * ie.bytes ≤ 281474976710656) (h63 : q ≤ 9223372036854775807) (hpk : F.pin k = none) (hlt : d < F.nt) :
    CoreOk P F ⟨some d,.call ⟨.builtin .append,#[x,y],#[t,tx]⟩,T,pos,aft,g⟩ ⟨[(x,.ref k 0 n tot),(y,.p (.a (.string s)))],[(k,⟨e,1,.pure xs⟩)],none,[(d,.ref k 0 q r)],[(k,⟨e,1,.pure zs⟩)]⟩:=by
  subst he hq hr hm
  have hd : s.data.toList.length = s.size:=rfl
  exact core_app hu hi hz hsz hzl (by decide) hl (by omega) (srcS hux rfl) (by simp [hd]) .data (by simp) hby h63 hpk hlt
variable {x y : Operand} {xT yT : TypeId} {s u : ByteArray}
theorem beq_dec (a b : List UInt8) : (a == b) = decide (a = b):=by
  by_cases h : a = b
  · subst h; simp
  · rw [decide_eq_false h]; simpa using h
theorem c_se (hlt : d < F.nt) : CoreOk P F ⟨some d,.binOp .eql xT x y yT,T,pos,aft,g⟩ { rs:=[(x,.p (.a (.string s))),(y,.p (.a (.string u)))],ws:=[(d,.p (.a (.bool (decide (s.data.toList = u.data.toList)))))] } :=
  core_atom2 hlt fun e w h1 h2=>by simp only [execOp,h1,h2,binOp,eqGuard,Op.stringOp,ByteArray.toList_eq,beq_dec]; simp
theorem c_sa {r : ByteArray} (hlt : d < F.nt) (hsz : s.size + u.size ≤ 9223372036854775807) (hr : s ++ u = r) : CoreOk P F ⟨some d,.binOp .add xT x y yT,T,pos,aft,g⟩ { rs:=[(x,.p (.a (.string s))),(y,.p (.a (.string u)))],ws:=[(d,.p (.a (.string r)))] } :=
  core_atom2 hlt fun e w h1 h2=>by subst hr; simp [execOp,h1,h2,binOp,eqGuard,run_string_add_sum w s u hsz]
end
end Go.Proofs.YtcifhkfpmhifaaaGreatDoor.SH
namespace Go.Proofs.YtcifhkfpmhifaaaGreatDoor.SH
open Go Go.RowKit
theorem SaysO.data {E : Env} {f : FuncId} {args xs : List Pure} {T : TypeId} {sz n : Nat} (h : SaysO E f args T sz n xs) : Says E f args (.sl n xs):=by
  intro ok w vals hG hrel
  refine (h ok w vals hG hrel).mono ?_
  rintro e w' ⟨b,cap,c,rfl,hn,hb,hH,hc,hl,hx,hbel⟩
  refine ⟨_,rfl,?_,hbel⟩
  simp only [Rel]
  refine ⟨some ⟨b,0,none⟩,cap,rfl,hn,RelS.of (.inr hb) (RelAt.of fun i y hy=>?_)⟩
  obtain ⟨u,h1,h2,h3⟩:=hx i y hy
  refine ⟨u,by rw [cellAt_of hH,Nat.zero_add]; exact h1,h2,?_⟩
  exact Rel.mono (fun a ha hne=>⟨ha.1,rfl⟩) y u h3
end Go.Proofs.YtcifhkfpmhifaaaGreatDoor.SH
set_option maxRecDepth 100000
set_option maxHeartbeats 4000000
namespace Go.Proofs.YtcifhkfpmhifaaaGreatDoor.N
open Go Go.Proofs.YtcifhkfpmhifaaaGreatDoor.SH Go.Proofs.YtcifhkfpmhifaaaGreatDoor.NumA
open Go.Proofs.Tryz renaming call117 → cl117,call119 → cl119,call120 → cl120,call135 → cl135,call136 → cl136,call137 → cl137,call92 → cl92,isAgg68 → ag68,sizeOf68 → sz68,typeInfo68 → ti68,underlying22 → un22,underlying68 → un68,underlying78 → un78
theorem getM2 {xs ys win zs : List Int} {i j : Nat} (hx : xs.length = i) (hl : ys.length = j) (hj : j < win.length) : (encW (xs ++ ((ys ++ win.drop j) ++ zs)))[i + j]? = some (.a (.int .u32 (win.getD j 0))):=by
 subst hx; exact getM hl hj
theorem mid_set2 {xs ys win zs : List Int} {i j : Nat} (hx : xs.length = i) (hl : ys.length = j) (hj : j < win.length) {d : Int} : (xs ++ ((ys ++ win.drop j) ++ zs)).set (i + j) d = xs ++ (((ys ++ [d]) ++ win.drop (j + 1)) ++ zs):=by
 subst hx; exact mid_set hl hj d
theorem rdivW_says (ws vs : List Int) (hl : ws.length < 900000000000) (hl2 : vs.length < 900000000000) (h : Wd ws) (h2 : Wd vs) (ht : Tr ws) (ht2 : Tr vs) (hv : 0 < val vs) : Says E 113 [pW ws,pW vs] (.tup [pW (digs (val ws / val vs).toNat),pW (digs (val ws % val vs).toNat)]):=by
 refine says_of (xs:=[pW (digs (val ws / val vs).toNat),pW (digs (val ws % val vs).toNat)]) Tryz.func113 rfl Tryz.ntmps113 Tryz.results113 (by simp) fun F hG hX0 hnt hdf P0=>?_
 obtain ⟨L,hX,hN⟩:=pro hnt hX0 hG
 have a0:=val_nonneg h
 have q0:=Int.ediv_nonneg a0 (Int.le_of_lt hv)
 have r0:=Int.emod_nonneg (val ws) (show val vs ≠ 0 by omega)
 have r1:=Int.emod_lt_of_pos (val ws) hv
 refine exr (aV (L rfl) rfl (aV (L rfl) rfl (zn [(0,_),(1,_)] [] t2 trivial (ex_seq (exr (mV (L rfl) rfl (mV (L rfl) rfl (cK hG hX cl92 hN (rcmp_says ws vs (by omega) (by omega) h h2 ht ht2) (L rfl) t2 ?_))))))))
 refine sw (c_ls (L rfl)) t2 t0 (zn [(0,_),(1,_),(22,_)] [] t3 trivial ?_)
 refine ex_if rfl (fun hc=>?_) (fun hc=>?_)
 ·have hc:=dt hc
  rw [cmpI_neg] at hc
  refine exr (mV (L rfl) rfl (aV (L rfl) rfl (aV (L rfl) rfl (zn [(4,_),(5,_)] [] t2 trivial (ex_cv [] (sl:=[(4,_),(5,_)]) (hb:=[]) (own_none hX0) ⟨⟨_,rfl,(.p .nil)⟩,⟨_,rfl,.same⟩,trivial⟩ t0 (ex_ret ?_))))))
  refine ⟨.inr rfl,ResVs.cast (.cons (.tmp rfl) (.cons (.tmp rfl) .nil)) ?_⟩
  rw [Int.ediv_eq_zero_of_lt a0 hc,Int.emod_eq_of_lt a0 hc,digs_val h ht]; simp [digs_zero,encW]
 ·have hc:=df hc
  have hge : val vs ≤ val ws:=by rw [cmpI_neg] at hc; omega
  have hlen:=len_le h h2 ht2 hge
  refine ex_skip (show Exec _ _ _ _ _ from ?_)
  refine ex_seq (exr (mV (L rfl) rfl (sw (c_ln un22 (L rfl)) t1 t0 (sw (c_e (L rfl)) t2 t0 (zn [(0,_),(1,_),(26,_)] [] t3 trivial ?_)))))
  refine ex_if rfl (fun h1=>?_) (fun h1=>?_)
  ·have h1:=dt h1
   have hl1 : vs.length = 1:=by omega
   have hv1:=val_one hl1
   have hvb:=val_lt1 h2 (by omega)
   have a1:=rbyWord_says ws (vs.getD 0 0) (by omega) h (by omega)
   rw [hv1] at a1
   refine exr (mV (L rfl) rfl (mV (L rfl) rfl (sw (ixJ un22 sz68 (j:=0) rfl (by omega) (by simp) (L rfl)) t2 t0 ?_)))
   refine sw (c_li ag68 (by first | exact getW (by omega) | rfl) (L rfl)) t1 t0 ?_
   refine sw (c_cv un68 un78 (L rfl) (show _ = val vs by rw [hv1]; exact w64u (by omega) (by omega))) t1 t0 ?_
   refine cK hG hX cl135 hN a1 (L rfl) t2 (sw (c_ex rfl (L rfl)) t1 t0 (sw (c_ex rfl (L rfl)) t1 t0 (aV (L rfl) rfl (aV (L rfl) rfl (zn [(4,_),(5,_)] [] t2 trivial (ex_ret ?_))))))
   refine ⟨.inr rfl,ResVs.cast (.cons (.tmp rfl) (.cons (.tmp rfl) .nil)) ?_⟩
   rfl
  ·have h1:=df h1
   have hvn : vs.length ≠ 0:=by
    intro e
    rw [List.eq_nil_of_length_eq_zero e] at hv; simp [val] at hv
   obtain ⟨m,hm⟩ : ∃ m,vs.length = m + 2:=⟨vs.length - 2,by omega⟩
   have htw:=h2.getD (vs.length - 1)
   have hbl:=bl32 htw.2
   obtain ⟨k,hk⟩ : ∃ k : Nat,k + bl (vs.getD (vs.length - 1) 0).toNat = 32:=⟨32 - bl (vs.getD (vs.length - 1) 0).toNat,by omega⟩
   have hbv:=bl_val h2 ht2 (fun e=>by rw [e] at hm; simp at hm)
   obtain ⟨W,hW⟩ : ∃ W,W = digs (val ws * 2 ^ k).toNat ++ [0,0]:=⟨_,rfl⟩
   obtain ⟨Dv,hDe⟩ : ∃ Dv,Dv = digs (val vs * 2 ^ k).toNat:=⟨_,rfl⟩
   obtain ⟨k32,-,hDpos,hDlt,hDv,hDl,htop,hWv,hWd,hDwd,hWl,hWl2,hstart⟩:=rdiv_start h h2 ht2 hm hk hge hW hDe
   have hlW : (digs (val ws * 2 ^ k).toNat).length + 2 = W.length:=by rw [hW]; simp
   refine ex_skip (show Exec _ _ _ _ _ from ?_)
   refine exr (mV (L rfl) rfl (sw (c_ln un22 (L rfl)) t1 t0 (sw (c_mu (L rfl) (w64 (by omega) (by omega))) t2 t0 ?_)))
   refine mV (L rfl) rfl (cK hG hX cl117 hN (rbitsOf_says vs (by omega) h2 ht2) (L rfl) t1 ?_)
   refine sw (c_su (L rfl) (show _ = (k : Int) by rw [hbv,show (32 * (vs.length : Int) - (32 * ((vs.length : Int) - 1) + (bl (vs.getD (vs.length - 1) 0).toNat : Int))) = (k : Int) by omega]; exact w64 (by omega) (by omega))) t2 t0 ?_
   refine aV (L rfl) rfl (zn [(0,_),(1,_),(6,_)] [] t3 trivial (exr (mV (L rfl) rfl (mV (L rfl) rfl (cK hG hX cl136 hN (rshifted_says vs k (by omega) h2 (by omega)).data (L rfl) t2 ?_)))))
   refine aV (L rfl) rfl (zn [(0,_),(6,_),(7,_)] [] t3 trivial ?_)
   rw [← hDe]
   refine exr (mV (L rfl) rfl (mV (L rfl) rfl (swb (c_co (k:=46) hG hX cl136 rfl hN (rshifted_says ws k (by omega) h (by omega)) (P0 _ rfl) (L rfl)) t2 t0 ⟨rfl,rfl⟩ ?_)))
   refine sw (c_bI (vs:=[_,_]) un22 ti68 rfl rfl (by decide) (by decide) rfl (zs_made (.cons rfl .nil) rfl) rfl (.cons rfl (.atom rfl) rfl pu1 (.cons rfl (.atom rfl) rfl (.skip pu1) .nil)) (.cons (.cons .nil)) (L rfl)) t2 t0 ?_
   refine swb (apP (sz:=1) un22 un22 ti68 rfl rfl rfl (by decide) (by exact (by simp)) (by first | omega | rfl) (by simp) rfl rfl rfl (by first | (simp [Tryz.t68]; done) | (simp [Tryz.t68]; omega)) (by omega) (P0 _ rfl) (L rfl)) t2 t1 t0 ?_
   refine aV (L rfl) rfl (zn [(5,_),(6,_),(7,_)] [(46,_)] t3 t1 ?_)
   rw [show encW (digs (val ws * 2 ^ k).toNat) ++ [Pure.a (Value.int IntKind.u32 0),Pure.a (Value.int IntKind.u32 0)] = encW W by rw [hW]; simp [encW]]
   rw [show (digs (val ws * 2 ^ k).toNat).length * 1 + 2 * 1 = W.length by omega,hlW]
   refine exr (mV (L rfl) rfl (sw (c_ln un22 (L rfl)) t1 t0 (aV (L rfl) rfl (zn [(5,_),(6,_),(7,_),(8,_)] [(46,_)] t4 t1 (exr (mV (L rfl) rfl (sw (c_lr un22 (by exact (by simp)) (L rfl)) t1 t1 ?_)))))))
   refine mV (L rfl) rfl (sw (c_su (L rfl) (w64 (by omega) (by omega))) t2 t0 ?_)
   refine swb (c_mk (k:=55) un22 ti68 rfl rfl rfl rfl (show _ = ((W.length - (m + 2) : Nat) : Int) by omega) (show _ = ((W.length - (m + 2) : Nat) : Int) by omega) (Nat.le_refl _) (by simp [Tryz.t68]; omega) (by omega) (P0 _ rfl) (L rfl)) t2 t0 ⟨rfl,rfl⟩ ?_
   refine aV (L rfl) rfl (zn [(4,_),(5,_),(6,_),(7,_),(8,_)] [(46,_),(55,_)] t5 t2 (ex_seq (exr (mV (L rfl) rfl (sw (c_lr un22 (by exact (by simp)) (L rfl)) t1 t1 ?_)))))
   refine mV (L rfl) rfl (sw (c_su (L rfl) (w64 (by omega) (by omega))) t2 t0 ?_)
   refine sw (c_su (L rfl) (w64 (by omega) (by omega))) t2 t0 ?_
   refine aV (L rfl) rfl (zn [(4,_),(5,_),(6,_),(7,_),(8,_),(9,_)] [(46,_),(55,_)] t6 t2 (ex_block ?_))
   refine exl (α:=(Nat × Int × List Int)) (fun x=>[(9,vi ((x.1:Int) - 1))]) (fun x=>[(46,⟨68,1,.pure (encW (restAt W (m + 2) x.1 x.2.1))⟩),(55,⟨68,1,.pure (encW (List.replicate x.1 0 ++ x.2.2))⟩)]) (fun x=>PartAt W (m + 2) (val Dv) x) (fun x=>x.1) ((W.length - (m + 2),val (W.drop (W.length - (m + 2))),([] : List Int))) (sl:=[(4,_),(5,_),(6,_),(7,_),(8,_)]) (hb:=[]) ?_ ⟨oi (by omega) rfl,rfl,rfl,rfl,rfl,rfl,trivial⟩ ⟨obl rfl (by rw [restAt_start hWd (by omega)]),obl rfl (by rw [encW_rep,List.append_nil]),trivial⟩ ?_
   ·exact hstart
   intro x hx
   obtain ⟨r,R,qs⟩:=x
   have hle:=hx.le
   have hr:=hx.r
   have hlq:=hx.len
   simp only at hle hr hlq
   dsimp only
   refine ex_seq (exr (mV (L rfl) rfl (sw (c_ge (L rfl)) t2 t0 (zn [(4,_),(5,_),(6,_),(7,_),(8,_),(9,_),(62,_)] [(46,_),(55,_)] t7 t2 ?_))))
   refine ex_if rfl (fun he=>?_) (fun he=>?_)
   ·have he:=dt he
    obtain ⟨i,rfl⟩ : ∃ i,r = i + 1:=⟨r - 1,by omega⟩
    have ei : (((i + 1 : Nat) : Int) - 1) = (i : Int):=by omega
    rw [ei]
    obtain ⟨w1,w2,w3,w4⟩:=hx.win hWd hDlt
    obtain ⟨win,hwin⟩ : ∃ win,win = W.getD i 0 :: digN (m + 2) R:=⟨_,rfl⟩
    rw [← hwin] at w1 w2 w3 w4
    obtain ⟨zs,hzs⟩ : ∃ zs : List Int,zs = List.replicate (W.length - (m + 2) - (i + 1)) 0:=⟨_,rfl⟩
    have hzl : zs.length = W.length - (m + 2) - (i + 1):=by rw [hzs,List.length_replicate]
    rw [restAt_win (by omega),← hwin,← hzs]
    obtain ⟨xs,hxs⟩ : ∃ xs,xs = W.take i:=⟨_,rfl⟩
    have hti : xs.length = i:=by rw [hxs]; simp; omega
    rw [← hxs]
    obtain ⟨-,g1,g2,g3,g4,g5⟩:=guess_first w1 hDwd (n:=m) w2 hDl htop w4
    have hu0:=w1.getD (m + 2)
    have hu1:=w1.getD (m + 1)
    have hd1:=hDwd.getD (m + 1)
    have key:=hx.next hWd hDpos w3
    obtain ⟨U,hU⟩ : ∃ U,U = win.getD (m + 2) 0 * 4294967296 + win.getD (m + 1) 0:=⟨_,rfl⟩
    rw [← hU] at g4 g5
    have hUq0 : 0 ≤ U / Dv.getD (m + 1) 0:=Int.ediv_nonneg (by omega) (by omega)
    have hUq1 : U / Dv.getD (m + 1) 0 ≤ U:=Int.ediv_le_self _ (by omega)
    refine ex_skip (show Exec _ _ _ _ _ from ?_)
    refine ex_seq (ex_block (exd (by rfl) ?_))
    refine mV (L rfl) rfl (mV (L rfl) rfl (mV (L rfl) rfl (sw (c_ad (L rfl) (w64 (by omega) (by omega))) t2 t0 ?_)))
    refine sw (ixR0 un22 sz68 (by exact (by simp [restAt_length hle] <;> omega)) (j:=i + (m + 2)) (by first | exact rfl | omega) (by omega) (L rfl)) t2 t1 ?_
    refine sw (c_l1 ag68 (by exact (by simp [restAt_length hle] <;> omega)) (getC (getP hti (by omega))) (L rfl)) t1 t1 ?_
    refine sw (c_cv un68 un78 (L rfl) (fu64 (by omega) (by omega))) t1 t0 ?_
    refine sw (c_sl (L rfl) (by decide) (shlE (c:=4294967296) (by rfl) (fu64 (by omega) (by omega)))) t2 t0 ?_
    refine mV (L rfl) rfl (mV (L rfl) rfl (mV (L rfl) rfl (sw (c_ad (L rfl) (w64 (by omega) (by omega))) t2 t0 ?_)))
    refine sw (c_su (L rfl) (w64 (by omega) (by omega))) t2 t0 ?_
    refine sw (ixR0 un22 sz68 (by exact (by simp [restAt_length hle] <;> omega)) (j:=i + (m + 1)) (by first | exact rfl | omega) (by omega) (L rfl)) t2 t1 ?_
    refine sw (c_l1 ag68 (by exact (by simp [restAt_length hle] <;> omega)) (getC (getP hti (by omega))) (L rfl)) t1 t1 ?_
    refine sw (c_cv un68 un78 (L rfl) (fu64 (by omega) (by omega))) t1 t0 ?_
    refine sw (c_or (L rfl) (or64' (b:=win.getD (m + 2) 0) 32 rfl hu1.1 hu1.2 hu0.1 (by decide) (by omega) (by omega))) t2 t0 ?_
    refine aV (L rfl) rfl ?_
    refine seq_nil ⟨aoks [⟨[5],[],[65],[]⟩,⟨[9],[],[66],[]⟩,⟨[8],[],[67],[]⟩,⟨[66,67],[],[68],[]⟩,⟨[65,68],[46],[69],[]⟩,⟨[69],[46],[70],[]⟩,⟨[70],[],[71],[]⟩,⟨[71],[],[72],[]⟩,⟨[5],[],[73],[]⟩,⟨[9],[],[74],[]⟩,⟨[8],[],[75],[]⟩,⟨[74,75],[],[76],[]⟩,⟨[76],[],[77],[]⟩,⟨[73,77],[46],[78],[]⟩,⟨[78],[46],[79],[]⟩,⟨[79],[],[80],[]⟩,⟨[72,80],[],[81],[]⟩,⟨[81],[],[10],[]⟩] (by rfl) (by rfl) (by decide),[(4,_),(5,_),(6,_),(7,_),(8,_),(9,_),(10,vw U)],[(46,_),(55,_)],⟨rfl,rfl,rfl,rfl,rfl,rfl,oi (by omega) rfl,trivial⟩,t2,?_⟩
    refine exr (mV (L rfl) rfl (mV (L rfl) rfl (mV (L rfl) rfl (sw (c_su (L rfl) (w64 (by omega) (by omega))) t2 t0 ?_))))
    refine sw (ixJ un22 sz68 (j:=m + 1) (by first | exact rfl | omega) (by omega) (by simp) (L rfl)) t2 t0 ?_
    refine sw (c_li ag68 (by first | exact getW (by omega) | rfl) (L rfl)) t1 t0 ?_
    refine sw (c_cv un68 un78 (L rfl) (fu64 (by omega) (by omega))) t1 t0 ?_
    refine sw (c_q (L rfl) (by omega) (tdivE (by omega) (by omega))) t2 t0 ?_
    refine aV (L rfl) rfl (zn [(4,_),(5,_),(6,_),(7,_),(8,_),(9,_),(11,_)] [(46,_),(55,_)] t7 t2 (ex_seq (exr (mV (L rfl) rfl (sw (c_gt (L rfl)) t2 t0 (zn [(4,_),(5,_),(6,_),(7,_),(8,_),(9,_),(11,_),(91,_)] [(46,_),(55,_)] t8 t2 ?_))))))
    obtain ⟨q,hq⟩ : ∃ q,q = if 4294967295 < U / Dv.getD (m + 1) 0 then 4294967295 else U / Dv.getD (m + 1) 0:=⟨_,rfl⟩
    have hqb : val win / val Dv ≤ q ∧ 0 ≤ q ∧ q < 4294967296:=by rw [hq]; split <;> omega
    refine ex_cut (sl:=[(11,vw q)]) (sl0:=[(4,_),(5,_),(6,_),(7,_),(8,_),(9,_)]) (hb:=[]) (hb0:=[(46,_),(55,_)]) t6 t2 ?_ ?_
    ·refine ex_if rfl (fun hg=>?_) (fun hg=>?_)
     ·have hg:=dt hg
      refine exr0 (aV (L rfl) rfl (seq_nil ?_))
      exact ⟨⟨oi (by rw [hq,if_pos hg]) rfl,(by first | exact rfl | exact oi (by omega) rfl),(by first | exact rfl | exact oi (by omega) rfl),(by first | exact rfl | exact oi (by omega) rfl),(by first | exact rfl | exact oi (by omega) rfl),(by first | exact rfl | exact oi (by omega) rfl),(by first | exact rfl | exact oi (by omega) rfl),trivial⟩,t2⟩
     ·have hg:=df hg
      refine ex_skip ?_
      exact ⟨⟨oi (by rw [hq,if_neg hg]) rfl,(by first | exact rfl | exact oi (by omega) rfl),(by first | exact rfl | exact oi (by omega) rfl),(by first | exact rfl | exact oi (by omega) rfl),(by first | exact rfl | exact oi (by omega) rfl),(by first | exact rfl | exact oi (by omega) rfl),(by first | exact rfl | exact oi (by omega) rfl),trivial⟩,t2⟩
    ·refine exr (aV (L rfl) rfl (aV (L rfl) rfl (zn [(4,_),(5,_),(6,_),(7,_),(8,_),(9,_),(11,_),(12,_),(13,_)] [(46,_),(55,_)] t9 t2 (ex_seq (exr (aV (L rfl) rfl (zn [(4,_),(5,_),(6,_),(7,_),(8,_),(9,_),(11,_),(12,_),(13,_),(14,_)] [(46,_),(55,_)] t10 t2 (ex_block ?_))))))))
     refine exl (α:=(Nat × List Int × Int × Int)) (fun y=>[(14,vi (y.1:Int)),(12,vw y.2.2.1),(13,vw y.2.2.2)]) (fun y=>[(46,⟨68,1,.pure (encW (xs ++ ((y.2.1 ++ win.drop y.1) ++ zs)))⟩)]) (fun y=>TakeAt win Dv q y) (fun y=>win.length - y.1) (((0 : Nat),([] : List Int),(0 : Int),(0 : Int))) (sl:=[(4,_),(5,_),(6,_),(7,_),(8,_),(9,_),(11,_)]) (hb:=[(55,_)]) ?_ ⟨(by first | exact rfl | exact oi (by omega) rfl),(by first | exact rfl | exact oi (by omega) rfl),(by first | exact rfl | exact oi (by omega) rfl),rfl,rfl,rfl,rfl,rfl,rfl,rfl,trivial⟩ ⟨obl rfl (by simp),rfl,trivial⟩ ?_
     ·exact TakeAt.zero win Dv q
     intro y hy
     obtain ⟨j,ys,c,b⟩:=y
     have hylen:=hy.len
     have hyle:=hy.le
     have c0:=hy.c0
     have c1:=hy.c1
     have hb:=hy.b
     simp only at hylen hyle c0 c1 hb
     dsimp only
     have hu:=w1.getD j
     have hwd:=hDwd.getD j
     refine ex_seq (exr (mV (L rfl) rfl (mV (L rfl) rfl (sw (c_le (L rfl)) t2 t0 (zn [(4,_),(5,_),(6,_),(7,_),(8,_),(9,_),(11,_),(12,_),(13,_),(14,_),(94,_)] [(46,_),(55,_)] t11 t2 ?_)))))
     refine ex_if rfl (fun hf=>?_) (fun hf=>?_)
     ·have hf:=dt hf
      have tb:=take_bd ⟨hqb.2.1,hqb.2.2⟩ hwd ⟨c0,c1⟩
      have mb:=mul_bd ⟨hqb.2.1,hqb.2.2⟩ hwd
      rw [Int.mul_comm] at mb
      obtain ⟨p,hp⟩ : ∃ p,p = q * Dv.getD j 0 + c:=⟨_,rfl⟩
      have hp2 : Dv.getD j 0 * q + c = p:=by rw [hp,Int.mul_comm]
      rw [← hp] at tb
      have key2:=hy.next hDwd ⟨hqb.2.1,hqb.2.2⟩ (by omega) hp rfl rfl hu
      refine ex_skip (show Exec _ _ _ _ _ from ?_)
      refine ex_seq (ex_block (exr (mV (L rfl) rfl (mV (L rfl) rfl (cK hG hX cl119 hN (rword_says Dv (by omega) hDwd j (by omega)) (L rfl) t2 ?_)))))
      refine mV (L rfl) rfl (sw (c_mu (L rfl) (fu64 (by omega) (by omega))) t2 t0 ?_)
      refine mV (L rfl) rfl (sw (c_ad (L rfl) (fu64 (by omega) (by omega))) t2 t0 ?_)
      refine aV (L rfl) rfl ?_
      refine seq_nil ⟨[(4,_),(5,_),(6,_),(7,_),(8,_),(9,_),(11,_),(13,_),(14,_),(15,vw p)],[(46,_),(55,_)],⟨rfl,rfl,rfl,rfl,rfl,rfl,rfl,rfl,rfl,oi hp2 rfl,trivial⟩,t2,?_⟩
      refine exr (mV (L rfl) rfl (sw (c_sr (L rfl) (by decide) (shrE (c:=4294967296) (by rfl) (by decide))) t2 t0 ?_))
      refine aV (L rfl) rfl (zn [(4,_),(5,_),(6,_),(7,_),(8,_),(9,_),(11,_),(12,_),(13,_),(14,_),(15,_)] [(46,_),(55,_)] t11 t2 (exr (mV (L rfl) rfl (mV (L rfl) rfl (mV (L rfl) rfl (sw (c_ad (L rfl) (w64 (by omega) (by omega))) t2 t0 ?_))))))
      refine sw (ixR0 un22 sz68 (by exact (by simp; omega)) (j:=i + j) (by first | exact rfl | omega) (by omega) (L rfl)) t2 t1 ?_
      refine sw (c_l1 ag68 (by exact (by simp; omega)) (getC (getM2 hti hylen (by omega))) (L rfl)) t1 t1 ?_
      refine sw (c_cv un68 un78 (L rfl) (fu64 (by omega) (by omega))) t1 t0 ?_
      refine sw (c_ad (L rfl) (fu64 (by omega) (by omega))) t2 t0 ?_
      refine mV (L rfl) rfl (sw (c_an (L rfl) (and32 (by omega) (by omega))) t2 t0 ?_)
      refine sw (c_su (L rfl) (fu64 (by omega) (by omega))) t2 t0 ?_
      refine mV (L rfl) rfl (sw (c_su (L rfl) (fu64 (by omega) (by omega))) t2 t0 ?_)
      refine aV (L rfl) rfl (zn [(4,_),(5,_),(6,_),(7,_),(8,_),(9,_),(11,_),(12,_),(14,_),(16,_)] [(46,_),(55,_)] t10 t2 (exr (mV (L rfl) rfl (mV (L rfl) rfl (mV (L rfl) rfl (sw (c_ad (L rfl) (w64 (by omega) (by omega))) t2 t0 ?_))))))
      refine mV (L rfl) rfl (sw (c_cv un78 un68 (L rfl) (show _ = (win.getD j 0 - p % 4294967296 - b) % 4294967296 by rw [wu32]; omega)) t1 t0 ?_)
      refine sw (ixR0 un22 sz68 (by exact (by simp; omega)) (j:=i + j) (by first | exact rfl | omega) (by omega) (L rfl)) t2 t1 ?_
      refine sb (c_s1 sz68 (by exact (by simp; omega)) (.atom rfl) (by omega)) t2 t1 ?_
      refine zn [(4,_),(5,_),(6,_),(7,_),(8,_),(9,_),(11,_),(12,_),(14,_),(16,_)] [(46,_),(55,_)] t10 t2 (exr0 (mV (L rfl) rfl (sw (c_sr (L rfl) (by decide) (shrE (c:=4294967296) (by rfl) (by decide))) t2 t0 ?_)))
      refine sw (c_su (L rfl) wu64) t2 t0 (aV (L rfl) rfl (seq_nil (exr0 (mV (L rfl) rfl (sw (c_ad (L rfl) (w64 (by omega) (by omega))) t2 t0 ?_)))))
      refine aV (L rfl) rfl (seq_nil ?_)
      exact ⟨(j + 1,ys ++ [(win.getD j 0 - p % 4294967296 - b) % 4294967296],p / 4294967296,if win.getD j 0 < p % 4294967296 + b then 1 else 0),key2,(by simp only; omega),le_of ⟨(by first | exact rfl | exact oi (by omega) rfl),(by first | exact rfl | exact oi (by omega) rfl),oi (by simp only; split <;> omega) rfl,rfl,rfl,rfl,rfl,rfl,rfl,rfl,trivial⟩ ⟨obl rfl (by rw [encW_set,mid_set2 hti hylen (by omega)]),rfl,trivial⟩⟩
     ·have hf:=df hf
      have hj : j = win.length:=by omega
      subst hj
      have hst:=LowerAt.start w1 (by omega) hDwd ⟨hqb.2.1,hqb.2.2⟩ hqb.1 hy
      have el : ys ++ win.drop win.length = ys:=by simp
      refine ex_exit (show Exec _ _ _ _ _ from ?_)
      refine ex_seq (ex_block ?_)
      refine exl (α:=(Int × List Int × Int)) (fun z=>[(11,vw z.1),(13,vw z.2.2)]) (fun z=>[(46,⟨68,1,.pure (encW (xs ++ (z.2.1 ++ zs)))⟩)]) (fun z=>LowerAt win Dv z) (fun z=>z.1.toNat) ((q,ys,b)) (sl:=[(4,_),(5,_),(6,_),(7,_),(8,_),(9,_)]) (hb:=[(55,_)]) ?_ ⟨(by first | exact rfl | exact oi (by omega) rfl),(by first | exact rfl | exact oi (by omega) rfl),rfl,rfl,rfl,rfl,rfl,rfl,trivial⟩ ⟨obl rfl (by rw [el]),rfl,trivial⟩ ?_
      ·exact hst
      intro z hz
      obtain ⟨q,v1,b⟩:=z
      have zlen:=hz.len
      have zwd:=hz.wd
      have zb:=hz.b
      have zq:=hz.q
      simp only at zlen zwd zb zq
      dsimp only
      refine ex_seq (exr (mV (L rfl) rfl (sw (c_gt (L rfl)) t2 t0 (zn [(4,_),(5,_),(6,_),(7,_),(8,_),(9,_),(11,_),(13,_),(130,_)] [(46,_),(55,_)] t9 t2 ?_))))
      refine ex_if rfl (fun hg=>?_) (fun hg=>?_)
      ·have hg:=dt hg
       have hb1 : b = 1:=by omega
       subst hb1
       have hqp:=hz.pos w1 hDpos
       refine ex_skip (show Exec _ _ _ _ _ from ?_)
       refine ex_block (exr (mV (L rfl) rfl (sw (c_su (L rfl) (fu64 (by omega) (by omega))) t2 t0 ?_)))
       refine aV (L rfl) rfl (zn [(4,_),(5,_),(6,_),(7,_),(8,_),(9,_),(11,_),(13,_)] [(46,_),(55,_)] t8 t2 (exr (aV (L rfl) rfl (zn [(4,_),(5,_),(6,_),(7,_),(8,_),(9,_),(11,_),(12,_),(13,_)] [(46,_),(55,_)] t9 t2 (ex_seq (exr (aV (L rfl) rfl (zn [(4,_),(5,_),(6,_),(7,_),(8,_),(9,_),(11,_),(12,_),(13,_),(17,_)] [(46,_),(55,_)] t10 t2 (ex_block ?_)))))))))
       refine exl (α:=(Nat × List Int × Int)) (fun y=>[(17,vi (y.1:Int)),(12,vw y.2.2)]) (fun y=>[(46,⟨68,1,.pure (encW (xs ++ ((y.2.1 ++ v1.drop y.1) ++ zs)))⟩)]) (fun y=>BackAt v1 Dv y) (fun y=>win.length - y.1) (((0 : Nat),([] : List Int),(0 : Int))) (sl:=[(4,_),(5,_),(6,_),(7,_),(8,_),(9,_),(11,_),(13,_)]) (hb:=[(55,_)]) ?_ ⟨(by first | exact rfl | exact oi (by omega) rfl),(by first | exact rfl | exact oi (by omega) rfl),rfl,rfl,rfl,rfl,rfl,rfl,rfl,rfl,trivial⟩ ⟨obl rfl (by simp),rfl,trivial⟩ ?_
       ·exact BackAt.zero v1 Dv
       intro y hy
       obtain ⟨j,us,e⟩:=y
       have hylen:=hy.len
       have hyle:=hy.le
       have hc:=hy.c
       simp only at hylen hyle hc
       dsimp only
       have hu:=zwd.getD j
       have hwd:=hDwd.getD j
       refine ex_seq (exr (mV (L rfl) rfl (mV (L rfl) rfl (sw (c_le (L rfl)) t2 t0 (zn [(4,_),(5,_),(6,_),(7,_),(8,_),(9,_),(11,_),(12,_),(13,_),(17,_),(135,_)] [(46,_),(55,_)] t11 t2 ?_)))))
       refine ex_if rfl (fun hf=>?_) (fun hf=>?_)
       ·have hf:=dt hf
        have key2:=hy.next zwd hDwd (by omega) rfl
        refine ex_skip (show Exec _ _ _ _ _ from ?_)
        refine ex_seq (ex_block (exd (by rfl) ?_))
        refine mV (L rfl) rfl (mV (L rfl) rfl (mV (L rfl) rfl (sw (c_ad (L rfl) (w64 (by omega) (by omega))) t2 t0 ?_)))
        refine sw (ixR0 un22 sz68 (by exact (by simp; omega)) (j:=i + j) (by first | exact rfl | omega) (by omega) (L rfl)) t2 t1 ?_
        refine sw (c_l1 ag68 (by exact (by simp; omega)) (getC (getM2 hti hylen (by omega))) (L rfl)) t1 t1 ?_
        refine sw (c_cv un68 un78 (L rfl) (fu64 (by omega) (by omega))) t1 t0 ?_
        refine mV (L rfl) rfl (mV (L rfl) rfl (cK hG hX cl119 hN (rword_says Dv (by omega) hDwd j (by omega)) (L rfl) t2 ?_))
        refine sw (c_ad (L rfl) (fu64 (by omega) (by omega))) t2 t0 ?_
        refine mV (L rfl) rfl (sw (c_ad (L rfl) (fu64 (by omega) (by omega))) t2 t0 ?_)
        refine aV (L rfl) rfl ?_
        refine seq_nil ⟨aoks [⟨[5],[],[138],[]⟩,⟨[9],[],[139],[]⟩,⟨[17],[],[140],[]⟩,⟨[139,140],[],[141],[]⟩,⟨[138,141],[46],[142],[]⟩,⟨[142],[46],[143],[]⟩,⟨[143],[],[144],[]⟩,⟨[7],[],[145],[]⟩,⟨[17],[],[146],[]⟩,⟨[145,146],[],[147],[]⟩,⟨[144,147],[],[148],[]⟩,⟨[12],[],[149],[]⟩,⟨[148,149],[],[150],[]⟩,⟨[150],[],[18],[]⟩] (by rfl) (by rfl) (by decide),[(4,_),(5,_),(6,_),(7,_),(8,_),(9,_),(11,_),(13,_),(17,_),(18,_)],[(46,_),(55,_)],t10,t2,?_⟩
        refine exr (mV (L rfl) rfl (mV (L rfl) rfl (mV (L rfl) rfl (sw (c_ad (L rfl) (w64 (by omega) (by omega))) t2 t0 ?_))))
        refine mV (L rfl) rfl (sw (c_cv un78 un68 (L rfl) wu32) t1 t0 (sw (ixR0 un22 sz68 (by exact (by simp; omega)) (j:=i + j) (by first | exact rfl | omega) (by omega) (L rfl)) t2 t1 ?_))
        refine sb (c_s1 sz68 (by exact (by simp; omega)) (.atom rfl) (by omega)) t2 t1 ?_
        refine zn [(4,_),(5,_),(6,_),(7,_),(8,_),(9,_),(11,_),(13,_),(17,_),(18,_)] [(46,_),(55,_)] t10 t2 (exr0 (mV (L rfl) rfl (sw (c_sr (L rfl) (by decide) (shrE (c:=4294967296) (by rfl) (by decide))) t2 t0 ?_)))
        refine aV (L rfl) rfl (seq_nil (exr0 (mV (L rfl) rfl (sw (c_ad (L rfl) (w64 (by omega) (by omega))) t2 t0 ?_))))
        refine aV (L rfl) rfl (seq_nil ?_)
        exact ⟨(j + 1,us ++ [(v1.getD j 0 + Dv.getD j 0 + e) % 4294967296],(v1.getD j 0 + Dv.getD j 0 + e) / 4294967296),key2,(by simp only; omega),le_of ⟨(by first | exact rfl | exact oi (by omega) rfl),(by first | exact rfl | exact oi (by omega) rfl),rfl,rfl,rfl,rfl,rfl,rfl,rfl,rfl,trivial⟩ ⟨obl rfl (by rw [encW_set,mid_set2 hti hylen (by omega)]),rfl,trivial⟩⟩
       ·have hf:=df hf
        have hj : j = win.length:=by omega
        subst hj
        obtain ⟨lm,-⟩:=hz.more w1 (by omega) hDwd hDpos hy
        have el : us ++ v1.drop win.length = us:=by rw [← zlen]; simp
        refine ex_exit (show Exec _ _ _ _ _ from ?_)
        refine exr0 (mV (L rfl) rfl (mV (L rfl) rfl (sw (c_su (L rfl) (fu64 (by omega) (by omega))) t2 t0 ?_)))
        refine aV (L rfl) rfl (seq_nil ?_)
        exact ⟨(q - 1,us,1 - e),lm,(by simp only; omega),le_of ⟨(by first | exact rfl | exact oi (by omega) rfl),(by first | exact rfl | exact oi (by omega) rfl),rfl,rfl,rfl,rfl,rfl,rfl,trivial⟩ ⟨obl rfl (by rw [el]),rfl,trivial⟩⟩
      ·have hg:=df hg
       have hb0 : b = 0:=by omega
       subst hb0
       obtain ⟨d1,d2⟩:=hz.done w1 hDpos
       have hrest : xs ++ (digN win.length (val win % val Dv) ++ zs) = restAt W (m + 2) i (val win % val Dv):=by
        rw [w2,hzs,hxs,restAt_next (Int.emod_nonneg _ (by omega)) (by have:=Int.emod_lt_of_pos (val win) hDpos; omega) (by omega)]
       rw [d2,hrest,d1]
       refine ex_exit (show Exec _ _ _ _ _ from ?_)
       refine exr0 (mV (L rfl) rfl (mV (L rfl) rfl (mV (L rfl) rfl (sw (c_cv un78 un68 (L rfl) (fu32 (by omega) (by omega))) t1 t0 ?_))))
       refine sw (ixR0 un22 sz68 (by exact (by simp; omega)) (j:=i) (by first | exact rfl | omega) (by omega) (L rfl)) t2 t1 ?_
       refine sb (c_s1 sz68 (by exact (by simp; omega)) (.atom rfl) (by omega)) t2 t1 ?_
       refine seq_nil (exr0 (mV (L rfl) rfl (sw (c_su (L rfl) (w64 (by omega) (by omega))) t2 t0 ?_)))
       refine aV (L rfl) rfl (seq_nil ?_)
       exact ⟨(i,val win % val Dv,val win / val Dv :: qs),key,(by simp only; omega),le_of ⟨(by first | exact rfl | exact oi (by omega) rfl),rfl,rfl,rfl,rfl,rfl,trivial⟩ ⟨rfl,obl rfl (by rw [encW_set,q_set]),trivial⟩⟩
   ·have he:=df he
    have hr0 : r = 0:=by omega
    subst hr0
    have heq:=hx.eq
    have hqw:=hx.wd
    simp only [List.drop_zero] at heq hqw
    rw [hDv,hWv] at heq
    rw [hDv] at hr
    obtain ⟨pe1,pe2⟩:=part_end hv heq hr
    obtain ⟨X,hXe⟩ : ∃ X,X = restAt W (m + 2) 0 R:=⟨_,rfl⟩
    have hXl : X.length = W.length:=by rw [hXe,restAt_length (by omega)]
    have hXw : Wd X:=by rw [hXe]; exact restAt_wd hWd
    have hXv : val X = R:=by
     rw [hXe,rest_zero,val_append,val_rep,Int.mul_zero,Int.add_zero,val_digN hr.1 (by rw [hDv] at hDlt; omega)]
    rw [← hXe]
    simp only [List.replicate_zero,List.nil_append]
    refine ex_exit (show Exec _ _ _ _ _ from ?_)
    refine ex_cv [46,55] (sl:=[(4,_),(5,_),(6,_)]) (hb:=[]) (own_none hX0) ⟨⟨_,rfl,(.ref rfl rfl (by exact (by simp; omega)) (by first | rfl | omega))⟩,⟨_,rfl,(.ref rfl rfl (by exact (by simp [restAt_length hle] <;> omega)) (by first | rfl | omega))⟩,⟨_,rfl,.same⟩,trivial⟩ t0 ?_
    have a1 : Says E 120 [.sl (W.length - (m + 2)) (encW qs)] (pW (digs (val ws / val vs).toNat)):=by
     have:=rtrim_says qs (by omega)
     rw [trim_eq_digs hqw,pe1] at this
     rw [show W.length - (m + 2) = qs.length by omega]; exact this
    have a2 : Says E 120 [.sl W.length (encW X)] (pW (digs R.toNat)):=by
     have:=rtrim_says X (by omega)
     rw [trim_eq_digs hXw,hXv] at this
     rw [← hXl]; exact this
    have dl : (digs R.toNat).length ≤ m + 2:=dlen hr.1 (by rw [hDv] at hDlt; omega)
    have a3:=runshift_says (digs R.toNat) k (by omega) (wd_digs _) (by omega)
    rw [val_digs,show ((R.toNat : Nat) : Int) = R by omega,pe2] at a3
    refine exr (mV (L rfl) rfl (cK hG hX cl120 hN a1 (L rfl) t1 (mV (L rfl) rfl (cK hG hX cl120 hN a2 (L rfl) t1 (mV (L rfl) rfl (cK hG hX cl137 hN a3 (L rfl) t2 (aV (L rfl) rfl (aV (L rfl) rfl (zn [(4,_),(5,_)] [] t2 trivial (ex_ret ?_))))))))))
    refine ⟨.inr rfl,ResVs.cast (.cons (.tmp rfl) (.cons (.tmp rfl) .nil)) ?_⟩
    rfl
end Go.Proofs.YtcifhkfpmhifaaaGreatDoor.N
set_option maxRecDepth 100000
set_option maxHeartbeats 4000000
namespace Go.Proofs.YtcifhkfpmhifaaaGreatDoor.N
open Go Go.Proofs.YtcifhkfpmhifaaaGreatDoor.SH Go.Proofs.YtcifhkfpmhifaaaGreatDoor.NumA
open Go.Proofs.Tryz renaming call113 → cl113,call114 → cl114,call115 → cl115,call15 → cl15,call45 → cl45,call84 → cl84,call86 → cl86,isAgg22 → ag22,isAgg24 → ag24,isAgg4 → ag4,sizeOf22 → sz22,sizeOf24 → sz24,sizeOf4 → sz4,typeInfo68 → ti68,underlying22 → un22,underlying24 → un24,underlying4 → un4,zeroValue24 → zv24
theorem emod_small' {b c : Int} (h0 : 0 ≤ c) (h1 : c < b.natAbs) : c % b = c:=by
 by_cases hb : 0 < b
 ·exact Int.emod_eq_of_lt h0 (by omega)
 ·obtain ⟨d,rfl⟩ : ∃ d,b = -d:=⟨-b,by omega⟩
  rw [Int.emod_neg]; exact Int.emod_eq_of_lt h0 (by omega)
theorem div_back' {a b c : Int} (hb : b ≠ 0) (h0 : 0 ≤ c) (h1 : c < b.natAbs) : (a * b + c) / b = a ∧ (a * b + c) % b = c:=by
 have e1 : (a * b + c) % b = c:=by
  rw [Int.add_comm,Int.add_mul_emod_self_right]; exact emod_small' h0 h1
 refine ⟨?_,e1⟩
 have:=Int.mul_ediv_add_emod (a * b + c) b
 rw [e1] at this
 have e2 : b * ((a * b + c) / b) = b * a:=by rw [Int.mul_comm b a]; omega
 exact Int.eq_of_mul_eq_mul_left hb e2
theorem put_right {x y : Int} (hy : y ≠ 0) : (0 ≤ x.tmod y → x.tdiv y = x / y ∧ x.tmod y = x % y) ∧ (x.tmod y < 0 → x.tmod y + (if y < 0 - y then 0 - y else y) = x % y ∧ (x - x % y).tdiv y = x / y) ∧ -(y.natAbs : Int) < x.tmod y ∧ x.tmod y < y.natAbs ∧ (x.tdiv y).natAbs ≤ x.natAbs ∧ (x / y).natAbs ≤ x.natAbs + 1:=by
 have h1:=Int.mul_tdiv_add_tmod x y
 have h2 : (x.tmod y).natAbs < y.natAbs:=by
  rw [Int.natAbs_tmod]; exact Nat.mod_lt _ (by omega)
 have h3:=Int.natAbs_tdiv_le_natAbs x y
 have hmax : (if y < 0 - y then 0 - y else y) = (y.natAbs : Int):=by split <;> omega
 have key1 : 0 ≤ x.tmod y → x.tdiv y = x / y ∧ x.tmod y = x % y:=fun h=>by
  obtain ⟨e1,e2⟩:=div_back' (a:=x.tdiv y) (b:=y) (c:=x.tmod y) hy h (by omega)
  rw [show x.tdiv y * y + x.tmod y = x by rw [Int.mul_comm]; exact h1] at e1 e2
  exact ⟨e1.symm,e2.symm⟩
 have key2 : x.tmod y < 0 → ∃ a : Int,a.natAbs ≤ x.natAbs + 1 ∧ x = a * y + (x.tmod y + y.natAbs):=fun h=>by
  rcases (show y < 0 ∨ 0 < y by omega) with c | c
  ·refine ⟨x.tdiv y + 1,by omega,?_⟩
   have e : (y.natAbs : Int) = -y:=by omega
   have e2 : (x.tdiv y + 1) * y = y * x.tdiv y + y:=by grind
   rw [e,e2]; omega
  ·refine ⟨x.tdiv y - 1,by omega,?_⟩
   have e : (y.natAbs : Int) = y:=by omega
   have e2 : (x.tdiv y - 1) * y = y * x.tdiv y - y:=by grind
   rw [e,e2]; omega
 refine ⟨key1,fun h=>?_,by omega,by omega,h3,?_⟩
 ·obtain ⟨a,-,ha⟩:=key2 h
  clear key1 key2
  obtain ⟨e1,e2⟩:=div_back' (a:=a) (b:=y) (c:=x.tmod y + y.natAbs) hy (by omega) (by omega)
  rw [← ha] at e1 e2
  refine ⟨by rw [hmax,e2],?_⟩
  rw [e2,e1,show x - (x.tmod y + (y.natAbs : Int)) = a * y from Int.sub_eq_iff_eq_add.2 ha,Int.mul_tdiv_cancel _ hy]
 ·by_cases h : 0 ≤ x.tmod y
  ·rw [← (key1 h).1]; exact Nat.le_succ_of_le h3
  ·obtain ⟨a,hal,ha⟩:=key2 (Int.not_le.1 h)
   clear key1 key2
   obtain ⟨e1,-⟩:=div_back' (a:=a) (b:=y) (c:=x.tmod y + y.natAbs) hy (by omega) (by omega)
   rw [← ha] at e1
   rw [e1]; exact hal
theorem rdiv_says (m n : Bool) (ws vs : List Int) (hl : ws.length < 99999999999) (hl2 : vs.length < 99999999999) (h : Wd ws) (h2 : Wd vs) : Says E 75 [pI m ws,pI n vs] (.tup [pZ (dQ m n ws vs),pZ (dR m n ws vs),vZ (dE m n ws vs)]):=by
 refine says_of (xs:=[pZ (dQ m n ws vs),pZ (dR m n ws vs),vZ (dE m n ws vs)]) Tryz.func75 rfl Tryz.ntmps75 Tryz.results75 (by simp) fun F hG hX0 hnt hdf P0=>?_
 obtain ⟨L,hX,hN⟩:=pro hnt hX0 hG
 refine exr (swb (c_bx (k:=2) (n:=2) pa2 rfl rfl (P0 _ rfl) (L rfl)) t1 t0 ⟨rfl,rfl⟩ (swb (c_bx (k:=3) (n:=2) pa2 rfl rfl (P0 _ rfl) (L rfl)) t1 t0 ⟨rfl,rfl⟩ (swb (c_al (k:=4) (n:=2) zv24 (.cons rfl (.cons rfl .nil)) rfl (P0 _ rfl) (L rfl)) t0 t0 ⟨rfl,rfl⟩ (swb (c_al (k:=5) (n:=2) zv24 (.cons rfl (.cons rfl .nil)) rfl (P0 _ rfl) (L rfl)) t0 t0 ⟨rfl,rfl⟩ (aV (L rfl) rfl (zn [(2,_),(3,_),(4,_),(5,_)] [(2,_),(3,_),(4,_),(5,_)] t4 t4 (ex_seq ?_)))))))
 refine exm (sl:=[(22,vb (decide (¬ (canon m ws = true ∧ canon n vs = true))))]) (sl0:=[(2,_),(3,_),(4,_),(5,_)]) (hb:=[]) (hb0:=[(2,_),(3,_),(4,_),(5,_)]) t4 t4 ?_ ?_
 ·by_cases hca : canon m ws = true
  ·refine lp2 ag24 sz24 (L rfl) rfl rfl (cK hG hX cl15 hN (ris_says m ws (by omega)) (L rfl) t1 ?_)
   refine sw (c_no (L rfl)) t1 t0 (mV (L rfl) rfl (swg (g:=18) rfl (by simp [hca]) (c_lp ag24 sz24 (by rfl) (by exact al2) rfl (L rfl)) rfl t1 t1 ?_))
   refine swg (g:=18) rfl (by simp [hca]) (c_c hG hX cl15 rfl hN (ris_says n vs (by omega)) (L rfl)) rfl t1 t0 ?_
   refine swg (g:=18) rfl (by simp [hca]) (c_no (L rfl)) rfl t1 t0 ?_
   refine sw (c_pf (by simp [hca]) (L rfl)) t2 t0 ?_
   exact seq_nil ⟨⟨ob rfl (by simp [hca]),rfl,rfl,rfl,rfl,trivial⟩,t4⟩
  ·refine lp2 ag24 sz24 (L rfl) rfl rfl (cK hG hX cl15 hN (ris_says m ws (by omega)) (L rfl) t1 ?_)
   refine sw (c_no (L rfl)) t1 t0 (mV (L rfl) rfl (swn (g:=18) rfl (by simp [hca]) (L rfl) rfl ?_))
   refine swn (g:=18) rfl (by simp [hca]) (L rfl) rfl ?_
   refine swn (g:=18) rfl (by simp [hca]) (L rfl) rfl ?_
   refine sw (c_pt (by simp [hca]) (L rfl)) t2 t0 ?_
   exact seq_nil ⟨⟨ob rfl (by simp [hca]),rfl,rfl,rfl,rfl,trivial⟩,t4⟩
 refine ex_if rfl (fun hc=>?_) (fun hc=>?_)
 ·have hc:=dt hc
  refine exd (by rfl) ?_
  refine sw (c_pc (c_lp ag24 sz24 (by rfl) (by exact al2) rfl (L rfl)) (.agg (.cons .same (.cons .nil .nil)))) t1 t1 ?_
  refine sw (c_pc (c_lp ag24 sz24 (by rfl) (by exact al2) rfl (L rfl)) (.agg (.cons .same (.cons .nil .nil)))) t1 t1 ?_
  refine sb (c_sm sz24 (by rfl) pa2 rfl pu2) t2 t1 ?_
  refine sb (c_sm sz24 (by rfl) pa2 rfl pu2) t2 t1 ?_
  refine aV (L rfl) rfl ?_
  refine seq_nil ⟨aoks [⟨[4],[4],[23],[]⟩,⟨[5],[5],[24],[]⟩,⟨[4,23],[4],[],[4]⟩,⟨[5,24],[5],[],[5]⟩,⟨[],[],[6],[]⟩] (by rfl) (by rfl) (by decide),[(4,_),(5,_),(6,_)],[(4,_),(5,_)],t3,t2,?_⟩
  refine ex_ret ?_
  refine ⟨.inr rfl,ResVs.cast (.cons (.agg rfl rfl rfl ag24 sz24 (.cons (.cons .nil))) (.cons (.agg rfl rfl rfl ag24 sz24 (.cons (.cons .nil))) (.cons (.tmp rfl) .nil))) ?_⟩
  rw [dQ,dR,dE,if_neg hc,if_neg (fun hh=>hc ⟨hh.1,hh.2.1⟩),if_neg hc,pZ_zero]; rfl
 ·have hc:=Decidable.not_not.1 (df hc)
  have ht:=(canon_tr hc.1).1
  have ht2:=(canon_tr hc.2).1
  refine ex_skip (show Exec _ _ _ _ _ from ?_)
  refine ex_seq (exr (sw (c_fa un24 rfl sz22 (by decide) (by exact rfl) (L rfl)) t1 t1 ?_))
  refine sw (c_l1 ag22 (by rfl) (by rfl) (L rfl)) t1 t1 ?_
  refine sw (c_ln un22 (L rfl)) t1 t0 (sw (c_e (L rfl)) t2 t0 (zn [(2,_),(3,_),(4,_),(5,_),(28,_)] [(2,_),(3,_),(4,_),(5,_)] t5 t4 ?_))
  refine ex_if rfl (fun hz=>?_) (fun hz=>?_)
  ·have hz:=dt hz
   have e : vs = []:=List.eq_nil_of_length_eq_zero (by omega)
   subst e
   have e0 : sg n (val []) = 0:=by cases n <;> rfl
   refine exd (by rfl) ?_
   refine sw (c_pc (c_lp ag24 sz24 (by rfl) (by exact al2) rfl (L rfl)) (.agg (.cons .same (.cons .nil .nil)))) t1 t1 ?_
   refine sw (c_pc (c_lp ag24 sz24 (by rfl) (by exact al2) rfl (L rfl)) (.agg (.cons .same (.cons .nil .nil)))) t1 t1 ?_
   refine sb (c_sm sz24 (by rfl) pa2 rfl pu2) t2 t1 ?_
   refine sb (c_sm sz24 (by rfl) pa2 rfl pu2) t2 t1 ?_
   refine aV (L rfl) rfl ?_
   refine seq_nil ⟨aoks [⟨[4],[4],[29],[]⟩,⟨[5],[5],[30],[]⟩,⟨[4,29],[4],[],[4]⟩,⟨[5,30],[5],[],[5]⟩,⟨[],[],[6],[]⟩] (by rfl) (by rfl) (by decide),[(4,_),(5,_),(6,_)],[(4,_),(5,_)],t3,t2,?_⟩
   refine ex_ret ?_
   refine ⟨.inr rfl,ResVs.cast (.cons (.agg rfl rfl rfl ag24 sz24 (.cons (.cons .nil))) (.cons (.agg rfl rfl rfl ag24 sz24 (.cons (.cons .nil))) (.cons (.tmp rfl) .nil))) ?_⟩
   rw [dQ,dR,dE,if_pos hc,if_neg (fun hh=>hh.2.2 rfl),if_pos hc,if_pos (show ([] : List Int).length = 0 from rfl),e0,Int.ediv_zero,pZ_zero]; rfl
  ·have hz:=df hz
   have hv:=val_pos h2 ht2 (by omega)
   have a0:=val_nonneg h
   have r0:=Int.emod_nonneg (val ws) (show val vs ≠ 0 by omega)
   have q0:=Int.ediv_nonneg a0 (Int.le_of_lt hv)
   have r1:=Int.emod_lt_of_pos (val ws) hv
   have q1:=Int.ediv_le_self (val vs) a0
   have dsg:=div_sg (m:=m) (n:=n) a0 hv
   have hQ : dQ m n ws vs = sg m (val ws) / sg n (val vs):=by rw [dQ,if_pos hc]
   have hR : dR m n ws vs = sg m (val ws) % sg n (val vs):=by rw [dR,if_pos ⟨hc.1,hc.2,by omega⟩]
   have hE : dE m n ws vs = 0:=by rw [dE,if_pos hc,if_neg (by omega)]
   rw [hQ,hR,hE]
   refine ex_skip (show Exec _ _ _ _ _ from ?_)
   refine exr (lp2 ag24 sz24 (L rfl) rfl rfl (cK hG hX cl84 hN (rnative_says m ws (by omega) h ht) (L rfl) t1 ?_))
   refine mV (L rfl) rfl (sw (c_ex rfl (L rfl)) t1 t0 (sw (c_ex rfl (L rfl)) t1 t0 (aV (L rfl) rfl (aV (L rfl) rfl (zn [(2,_),(3,_),(4,_),(5,_),(7,_),(8,_)] [(2,_),(3,_),(4,_),(5,_)] t6 t4 (exr (lp2 ag24 sz24 (L rfl) rfl rfl (cK hG hX cl84 hN (rnative_says n vs (by omega) h2 ht2) (L rfl) t1 ?_))))))))
   refine mV (L rfl) rfl (sw (c_ex rfl (L rfl)) t1 t0 (sw (c_ex rfl (L rfl)) t1 t0 (aV (L rfl) rfl (aV (L rfl) rfl (zn [(2,_),(3,_),(4,_),(5,_),(7,_),(8,_),(9,_),(10,_)] [(2,_),(3,_),(4,_),(5,_)] t8 t4 (ex_seq ?_))))))
   refine exm (sl:=[(44,vb (decide (val ws < 4611686018427387904 ∧ val vs < 4611686018427387904)))]) (sl0:=[(2,_),(3,_),(4,_),(5,_),(7,_),(9,_)]) (hb:=[]) (hb0:=[(2,_),(3,_),(4,_),(5,_)]) t6 t4 ?_ ?_
   ·by_cases hs1 : val ws < 4611686018427387904
    ·refine mV (L rfl) rfl (mV (L rfl) rfl (gV (g:=42) rfl (decide_eq_true hs1) (L rfl) rfl rfl (sw (c_pt (decide_eq_true hs1) (L rfl)) t2 t0 ?_)))
     exact seq_nil ⟨⟨ob rfl (dec_eq ⟨fun c=>⟨hs1,c⟩,fun c=>c.2⟩),rfl,rfl,rfl,rfl,rfl,rfl,trivial⟩,t4⟩
    ·refine mV (L rfl) rfl (mV (L rfl) rfl (swn (g:=42) rfl (decide_eq_false hs1) (L rfl) rfl (sw (c_pf (decide_eq_false hs1) (L rfl)) t2 t0 ?_)))
     exact seq_nil ⟨⟨ob rfl (decide_eq_false (fun c=>hs1 c.1)).symm,rfl,rfl,rfl,rfl,rfl,rfl,trivial⟩,t4⟩
   refine ex_if rfl (fun hs=>?_) (fun hs=>?_)
   ·have hs:=dt hs
    rw [if_pos hs.1,if_pos hs.2]
    obtain ⟨x,hx⟩ : ∃ x,x = sg m (val ws):=⟨_,rfl⟩
    obtain ⟨y,hy⟩ : ∃ y,y = sg n (val vs):=⟨_,rfl⟩
    have bx : x.natAbs < 4611686018427387904:=by rw [hx]; unfold sg; split <;> omega
    have by' : y.natAbs < 4611686018427387904 ∧ y ≠ 0:=by rw [hy]; unfold sg; split <;> omega
    rw [← hx,← hy]
    obtain ⟨p1,p2,p3,p4,p5,p6⟩:=put_right (x:=x) by'.2
    have m0:=Int.emod_nonneg x by'.2
    have m1:=Int.emod_lt x by'.2
    refine exd (by rfl) ?_
    refine mV (L rfl) rfl (mV (L rfl) rfl (sw (c_q (L rfl) by'.2 (show _ = x.tdiv y from w64 (by omega) (by omega))) t2 t0 ?_))
    refine mV (L rfl) rfl (mV (L rfl) rfl (sw (c_r (L rfl) by'.2 rfl) t2 t0 (aV (L rfl) rfl (aV (L rfl) rfl ?_))))
    refine seq_nil ⟨aoks [⟨[7],[],[45],[]⟩,⟨[9],[],[46],[]⟩,⟨[45,46],[],[47],[]⟩,⟨[7],[],[48],[]⟩,⟨[9],[],[49],[]⟩,⟨[48,49],[],[50],[]⟩,⟨[47],[],[11],[]⟩,⟨[50],[],[12],[]⟩] (by rfl) (by rfl) (by decide),[(4,_),(5,_),(7,_),(9,_),(11,_),(12,_)],[(4,_),(5,_)],t6,t2,?_⟩
    refine ex_seq (exr (mV (L rfl) rfl (sw (c_ls (L rfl)) t2 t0 (zn [(4,_),(5,_),(7,_),(9,_),(11,_),(12,_),(52,_)] [(4,_),(5,_)] t7 t2 ?_))))
    refine ex_cut (sl:=[(11,vi (x / y)),(12,vi (x % y))]) (sl0:=[(4,_),(5,_)]) (hb:=[]) (hb0:=[(4,_),(5,_)]) t2 t2 ?_ ?_
    ·refine ex_if rfl (fun ht=>?_) (fun ht=>?_)
     ·have ht:=dt ht
      obtain ⟨e1,e2⟩:=p2 ht
      refine exr (mV (L rfl) rfl (mV (L rfl) rfl (mV (L rfl) rfl (sw (c_ng (L rfl) (show _ = 0 - y from w64 (by omega) (by omega))) t1 t0 ?_))))
      refine sw (c_mx (L rfl)) t2 t0 (sw (c_ad (L rfl) (show _ = x % y by rw [e1]; exact w64 (by omega) (by omega))) t2 t0 ?_)
      refine aV (L rfl) rfl (zn [(4,_),(5,_),(7,_),(9,_),(12,_)] [(4,_),(5,_)] t5 t2 (exr0 (mV (L rfl) rfl (mV (L rfl) rfl (sw (c_su (L rfl) (show _ = x - x % y from w64 (by omega) (by omega))) t2 t0 ?_)))))
      refine mV (L rfl) rfl (sw (c_q (L rfl) by'.2 (show _ = x / y by rw [e2]; exact w64 (by omega) (by omega))) t2 t0 ?_)
      refine aV (L rfl) rfl (seq_nil ?_)
      exact ⟨⟨(by first | exact rfl | exact oi (by omega) rfl),(by first | exact rfl | exact oi (by omega) rfl),(by first | exact rfl | exact oi (by omega) rfl),(by first | exact rfl | exact oi (by omega) rfl),trivial⟩,t2⟩
     ·have ht:=df ht
      obtain ⟨e1,e2⟩:=p1 (by omega)
      refine ex_skip ?_
      exact ⟨⟨oi e1 rfl,oi e2 rfl,(by first | exact rfl | exact oi (by omega) rfl),(by first | exact rfl | exact oi (by omega) rfl),trivial⟩,t2⟩
    ·refine exr (mV (L rfl) rfl (cK hG hX cl45 hN (rof_says (x / y) (by omega) (by omega)) (L rfl) t1 ?_))
     refine mV (L rfl) rfl (cK hG hX cl45 hN (rof_says (x % y) (by omega) (by omega)) (L rfl) t1 ?_)
     refine sb (c_sm sz24 (by rfl) pa2 rfl pu2) t2 t1 ?_
     refine sb (c_sm sz24 (by rfl) pa2 rfl pu2) t2 t1 ?_
     refine aV (L rfl) rfl (zn [(4,_),(5,_),(6,_)] [(4,_),(5,_)] t3 t2 (ex_ret ?_))
     refine ⟨.inr rfl,ResVs.cast (.cons (.agg rfl rfl rfl ag24 sz24 (.cons (.cons .nil))) (.cons (.agg rfl rfl rfl ag24 sz24 (.cons (.cons .nil))) (.cons (.tmp rfl) .nil))) ?_⟩
     rfl
   ·have hs:=df hs
    have dq1 : (digs (val ws / val vs).toNat).length ≤ ws.length:=dlen q0 (by have:=val_lt h; omega)
    have dr1 : (digs (val ws % val vs).toNat).length ≤ vs.length:=dlen r0 (by have:=val_lt h2; omega)
    have vq : val (digs (val ws / val vs).toNat) = val ws / val vs:=by rw [val_digs]; omega
    have vr : val (digs (val ws % val vs).toNat) = val ws % val vs:=by rw [val_digs]; omega
    rw [dsg.1,dsg.2]
    refine ex_skip (show Exec _ _ _ _ _ from ?_)
    refine exr (sw (c_fa un24 rfl sz22 (by decide) (by exact rfl) (L rfl)) t1 t1 ?_)
    refine sw (c_l1 ag22 (by rfl) (by rfl) (L rfl)) t1 t1 ?_
    refine sw (c_fa un24 rfl sz22 (by decide) (by exact rfl) (L rfl)) t1 t1 ?_
    refine sw (c_l1 ag22 (by rfl) (by rfl) (L rfl)) t1 t1 ?_
    refine cK hG hX cl113 hN (rdivW_says ws vs (by omega) (by omega) h h2 ht ht2 hv) (L rfl) t2 ?_
    refine mV (L rfl) rfl (sw (c_ex rfl (L rfl)) t1 t0 (sw (c_ex rfl (L rfl)) t1 t0 (aV (L rfl) rfl (aV (L rfl) rfl (zn [(2,_),(3,_),(4,_),(5,_),(13,_),(14,_)] [(2,_),(3,_),(4,_),(5,_)] t6 t4 (ex_seq ?_))))))
    refine exm (sl:=[(82,vb (decide (m = true ∧ val ws % val vs ≠ 0)))]) (sl0:=[(2,_),(3,_),(4,_),(5,_),(13,_),(14,_)]) (hb:=[]) (hb0:=[(2,_),(3,_),(4,_),(5,_)]) t6 t4 ?_ ?_
    ·by_cases hm : m = true
     ·refine sw (c_fa un24 rfl sz4 (by decide) (by exact rfl) (L rfl)) t1 t1 ?_
      refine sw (c_l1 ag4 (by rfl) (by rfl) (L rfl)) t1 t1 ?_
      refine mV (L rfl) rfl (gV (g:=78) rfl hm (L rfl) rfl rfl (swg (g:=78) rfl hm (c_ln un22 (L rfl)) rfl t1 t0 (swg (g:=78) rfl hm (c_gt (L rfl)) rfl t2 t0 (sw (c_pt hm (L rfl)) t2 t0 ?_))))
      exact seq_nil ⟨⟨ob rfl (dec_eq (by have:=digs_len_zero (n:=(val ws % val vs).toNat); simp only [hm,true_and]; omega)),rfl,rfl,rfl,rfl,rfl,rfl,trivial⟩,t4⟩
     ·refine sw (c_fa un24 rfl sz4 (by decide) (by exact rfl) (L rfl)) t1 t1 ?_
      refine sw (c_l1 ag4 (by rfl) (by rfl) (L rfl)) t1 t1 ?_
      refine mV (L rfl) rfl (swn (g:=78) rfl (by simpa using hm) (L rfl) rfl ?_)
      refine swn (g:=78) rfl (by simpa using hm) (L rfl) rfl ?_
      refine swn (g:=78) rfl (by simpa using hm) (L rfl) rfl ?_
      refine sw (c_pf (by simpa using hm) (L rfl)) t2 t0 ?_
      exact seq_nil ⟨⟨ob rfl (decide_eq_false (fun c=>hm c.1)).symm,rfl,rfl,rfl,rfl,rfl,rfl,trivial⟩,t4⟩
    refine ex_if rfl (fun hd=>?_) (fun hd=>?_)
    ·have hd:=dt hd
     rw [if_pos hd,if_pos hd]
     have a1:=radd_says (digs (val ws / val vs).toNat) [1] (by omega) (by simp) (wd_digs _) (fun w hw=>by rw [List.mem_singleton] at hw; subst hw; decide)
     rw [vq,show val [1] = 1 by simp [val]] at a1
     have a2:=rsub_says vs (digs (val ws % val vs).toNat) (by omega) dr1 h2 (wd_digs _) (by omega)
     rw [vr] at a2
     have l1 : (digs (val ws / val vs + 1).toNat).length ≤ ws.length + 1:=dlen (by omega) (by have:=val_lt h; have:=powle (show ws.length ≤ ws.length + 1 by omega); have:=Bsucc ws.length; have:=Bpos ws.length; omega)
     have l2 : (digs (val vs - val ws % val vs).toNat).length ≤ vs.length:=dlen (by omega) (by have:=val_lt h2; omega)
     have a3:=rmade_says (m != n) (digs (val ws / val vs + 1).toNat) (by omega) (wd_digs _)
     rw [val_digs,show (((val ws / val vs + 1).toNat : Nat) : Int) = val ws / val vs + 1 by omega] at a3
     have a4:=rmade_says false (digs (val vs - val ws % val vs).toNat) (by omega) (wd_digs _)
     rw [val_digs,show (((val vs - val ws % val vs).toNat : Nat) : Int) = val vs - val ws % val vs by omega] at a4
     refine exd0 (by rfl) ?_
     refine mV (L rfl) rfl (sw (c_bI (vs:=[_]) un22 ti68 rfl rfl (by decide) (by decide) rfl (zs_made (.cons rfl .nil) rfl) rfl (.cons rfl (.atom rfl) rfl pu1 .nil) (.cons .nil) (L rfl)) t1 t0 ?_)
     refine cK hG hX cl114 hN a1 (L rfl) t2 (sw (c_fa un24 rfl sz22 (by decide) (by exact rfl) (L rfl)) t1 t1 ?_)
     refine sw (c_l1 ag22 (by rfl) (by rfl) (L rfl)) t1 t1 ?_
     refine mV (L rfl) rfl (cK hG hX cl115 hN a2 (L rfl) t2 (aV (L rfl) rfl (aV (L rfl) rfl ?_)))
     refine seq_nil ⟨aoks [⟨[13],[],[83],[]⟩,⟨[],[],[84],[]⟩,⟨[83,84],[],[85],[]⟩,⟨[3],[3],[86],[]⟩,⟨[86],[3],[87],[]⟩,⟨[14],[],[88],[]⟩,⟨[87,88],[],[89],[]⟩,⟨[85],[],[13],[]⟩,⟨[89],[],[14],[]⟩] (by rfl) (by rfl) (by decide),?_⟩
     refine exr (sw (c_fa un24 rfl sz4 (by decide) (by exact rfl) (L rfl)) t1 t1 ?_)
     refine sw (c_l1 ag4 (by rfl) (by rfl) (L rfl)) t1 t1 ?_
     refine sw (c_fa un24 rfl sz4 (by decide) (by exact rfl) (L rfl)) t1 t1 ?_
     refine sw (c_l1 ag4 (by rfl) (by rfl) (L rfl)) t1 t1 ?_
     refine sw (c_bn un4 (L rfl)) t2 t0 (mV (L rfl) rfl (cK hG hX cl86 hN a3 (L rfl) t2 (mV (L rfl) rfl (cK hG hX cl86 hN a4 (L rfl) t2 (sb (c_sm sz24 (by rfl) pa2 rfl pu2) t2 t1 ?_)))))
     refine sb (c_sm sz24 (by rfl) pa2 rfl pu2) t2 t1 ?_
     refine aV (L rfl) rfl (zn [(4,_),(5,_),(6,_)] [(4,_),(5,_)] t3 t2 (ex_ret ?_))
     refine ⟨.inr rfl,ResVs.cast (.cons (.agg rfl rfl rfl ag24 sz24 (.cons (.cons .nil))) (.cons (.agg rfl rfl rfl ag24 sz24 (.cons (.cons .nil))) (.cons (.tmp rfl) .nil))) ?_⟩
     rfl
    ·have hd:=df hd
     rw [if_neg hd,if_neg hd]
     have a3:=rmade_says (m != n) (digs (val ws / val vs).toNat) (by omega) (wd_digs _)
     rw [vq] at a3
     have a4:=rmade_says false (digs (val ws % val vs).toNat) (by omega) (wd_digs _)
     rw [vr] at a4
     refine ex_skip (show Exec _ _ _ _ _ from ?_)
     refine exr (sw (c_fa un24 rfl sz4 (by decide) (by exact rfl) (L rfl)) t1 t1 ?_)
     refine sw (c_l1 ag4 (by rfl) (by rfl) (L rfl)) t1 t1 ?_
     refine sw (c_fa un24 rfl sz4 (by decide) (by exact rfl) (L rfl)) t1 t1 ?_
     refine sw (c_l1 ag4 (by rfl) (by rfl) (L rfl)) t1 t1 ?_
     refine sw (c_bn un4 (L rfl)) t2 t0 (mV (L rfl) rfl (cK hG hX cl86 hN a3 (L rfl) t2 (mV (L rfl) rfl (cK hG hX cl86 hN a4 (L rfl) t2 (sb (c_sm sz24 (by rfl) pa2 rfl pu2) t2 t1 ?_)))))
     refine sb (c_sm sz24 (by rfl) pa2 rfl pu2) t2 t1 ?_
     refine aV (L rfl) rfl (zn [(4,_),(5,_),(6,_)] [(4,_),(5,_)] t3 t2 (ex_ret ?_))
     refine ⟨.inr rfl,ResVs.cast (.cons (.agg rfl rfl rfl ag24 sz24 (.cons (.cons .nil))) (.cons (.agg rfl rfl rfl ag24 sz24 (.cons (.cons .nil))) (.cons (.tmp rfl) .nil))) ?_⟩
     rfl
end Go.Proofs.YtcifhkfpmhifaaaGreatDoor.N
set_option maxRecDepth 100000
set_option maxHeartbeats 4000000
namespace Go.Proofs.YtcifhkfpmhifaaaGreatDoor.N
open Go Go.Proofs.YtcifhkfpmhifaaaGreatDoor.SH Go.Proofs.YtcifhkfpmhifaaaGreatDoor.NumA
open Go.Proofs.Tryz renaming call15 → cl15,call45 → cl45,call48 → cl48,call75 → cl75,call84 → cl84,call85 → cl85,isAgg22 → ag22,isAgg24 → ag24,sizeOf22 → sz22,sizeOf24 → sz24,sizeOf4 → sz4,underlying22 → un22,underlying24 → un24,zeroValue24 → zv24
theorem rdivZ (a b : Int) (ha : nw a < 99999999999) (hb : nw b < 99999999999) (h0 : b ≠ 0) : Says E 75 [pZ a,pZ b] (.tup [pZ (a / b),pZ (a % b),vZ 0]):=by
 have:=rdiv_says (decide (a < 0)) (decide (b < 0)) (digs a.natAbs) (digs b.natAbs) ha hb (wd_digs _) (wd_digs _)
 have hl : (digs b.natAbs).length ≠ 0:=by rw [Ne,digs_len_zero]; omega
 rwa [dQ,dR,dE,if_pos ⟨canon_digs a,canon_digs b⟩,if_pos ⟨canon_digs a,canon_digs b,hl⟩,if_pos ⟨canon_digs a,canon_digs b⟩,if_neg hl,sg_digs,sg_digs] at this
theorem rmulZ2 (a b : Int) (ha : nw a < 999999999999) (hb : nw b < 999999999999) : Says E 68 [pZ a,pZ b] (pZ (a * b)):=by
 have:=rmulI_says (decide (a < 0)) (decide (b < 0)) (digs a.natAbs) (digs b.natAbs) (by unfold nw at ha; omega) (by unfold nw at hb; omega) (wd_digs _) (wd_digs _)
 rwa [if_pos ⟨canon_digs a,canon_digs b⟩,sg_digs,sg_digs] at this
theorem rsignZ (a : Int) (ha : nw a < 999999999999) : Says E 43 [pZ a] (vZ a.sign):=by
 have:=rsign_says (decide (a < 0)) (digs a.natAbs) (by unfold nw at ha; omega) (wd_digs _)
 rwa [if_pos (canon_digs a),sg_digs] at this
theorem rquoZ (a b : Int) (ha : nw a < 99999999999) (hb : nw b < 99999999999) (h0 : b ≠ 0) : Says E 103 [pZ a,pZ b] (pZ (a / b)):=by
 refine says_of (xs:=[pZ (a / b)]) Tryz.func103 rfl Tryz.ntmps103 Tryz.results103 (by simp) fun F hG hX0 hnt hdf P0=>?_
 obtain ⟨L,hX,hN⟩:=pro hnt hX0 hG
 refine exr (swb (c_bx (k:=2) (n:=2) pa2 rfl rfl (P0 _ rfl) (L rfl)) t1 t0 ⟨rfl,rfl⟩ (swb (c_bx (k:=3) (n:=2) pa2 rfl rfl (P0 _ rfl) (L rfl)) t1 t0 ⟨rfl,rfl⟩ (swb (c_al (k:=4) (n:=2) zv24 (.cons rfl (.cons rfl .nil)) rfl (P0 _ rfl) (L rfl)) t0 t0 ⟨rfl,rfl⟩ (zn [(2,_),(3,_),(4,_)] [(2,_),(3,_),(4,_)] t3 t3 (exr (lp2 ag24 sz24 (L rfl) rfl rfl (lp2 ag24 sz24 (L rfl) rfl rfl (cK hG hX cl75 hN (rdivZ a b ha hb h0) (L rfl) t2 (mV (L rfl) rfl (sw (c_ex rfl (L rfl)) t1 t0 (sw (c_ex rfl (L rfl)) t1 t0 ?_)))))))))))
 refine sw (c_ex rfl (L rfl)) t1 t0 (swb (c_al (k:=5) (n:=2) zv24 (.cons rfl (.cons rfl .nil)) rfl (P0 _ rfl) (L rfl)) t0 t0 ⟨rfl,rfl⟩ (swb (c_al (k:=6) (n:=2) zv24 (.cons rfl (.cons rfl .nil)) rfl (P0 _ rfl) (L rfl)) t0 t0 ⟨rfl,rfl⟩ (sb (c_sm sz24 (by rfl) pa2 rfl pu2) t2 t1 ?_)))
 refine sb (c_sm sz24 (by rfl) pa2 rfl pu2) t2 t1 ?_
 refine aV (L rfl) rfl (zn [(4,_),(5,_)] [(4,_),(5,_)] t2 t2 (exr (lp2 ag24 sz24 (L rfl) rfl rfl (sb (c_sm sz24 (by rfl) pa2 rfl pu2) t2 t1 ?_))))
 refine zn [(4,_)] [(4,_)] t1 t1 (ex_ret ?_)
 refine ⟨.inr rfl,ResVs.cast (.cons (.agg rfl rfl rfl ag24 sz24 (.cons (.cons .nil))) .nil) ?_⟩
 rfl
theorem rmodZ (a b : Int) (ha : nw a < 99999999999) (hb : nw b < 99999999999) (h0 : b ≠ 0) : Says E 85 [pZ a,pZ b] (pZ (a % b)):=by
 refine says_of (xs:=[pZ (a % b)]) Tryz.func85 rfl Tryz.ntmps85 Tryz.results85 (by simp) fun F hG hX0 hnt hdf P0=>?_
 obtain ⟨L,hX,hN⟩:=pro hnt hX0 hG
 refine exr (swb (c_bx (k:=2) (n:=2) pa2 rfl rfl (P0 _ rfl) (L rfl)) t1 t0 ⟨rfl,rfl⟩ (swb (c_bx (k:=3) (n:=2) pa2 rfl rfl (P0 _ rfl) (L rfl)) t1 t0 ⟨rfl,rfl⟩ (swb (c_al (k:=4) (n:=2) zv24 (.cons rfl (.cons rfl .nil)) rfl (P0 _ rfl) (L rfl)) t0 t0 ⟨rfl,rfl⟩ (zn [(2,_),(3,_),(4,_)] [(2,_),(3,_),(4,_)] t3 t3 (exr (lp2 ag24 sz24 (L rfl) rfl rfl (lp2 ag24 sz24 (L rfl) rfl rfl (cK hG hX cl75 hN (rdivZ a b ha hb h0) (L rfl) t2 (mV (L rfl) rfl (sw (c_ex rfl (L rfl)) t1 t0 (sw (c_ex rfl (L rfl)) t1 t0 ?_)))))))))))
 refine sw (c_ex rfl (L rfl)) t1 t0 (swb (c_al (k:=5) (n:=2) zv24 (.cons rfl (.cons rfl .nil)) rfl (P0 _ rfl) (L rfl)) t0 t0 ⟨rfl,rfl⟩ (swb (c_al (k:=6) (n:=2) zv24 (.cons rfl (.cons rfl .nil)) rfl (P0 _ rfl) (L rfl)) t0 t0 ⟨rfl,rfl⟩ (sb (c_sm sz24 (by rfl) pa2 rfl pu2) t2 t1 ?_)))
 refine sb (c_sm sz24 (by rfl) pa2 rfl pu2) t2 t1 ?_
 refine aV (L rfl) rfl (zn [(4,_),(6,_)] [(4,_),(6,_)] t2 t2 (exr (lp2 ag24 sz24 (L rfl) rfl rfl (sb (c_sm sz24 (by rfl) pa2 rfl pu2) t2 t1 ?_))))
 refine zn [(4,_)] [(4,_)] t1 t1 (ex_ret ?_)
 refine ⟨.inr rfl,ResVs.cast (.cons (.agg rfl rfl rfl ag24 sz24 (.cons (.cons .nil))) .nil) ?_⟩
 rfl
theorem rnatZ (x : Nat) (hx : nw (x : Int) < 999999999999) : Says E 84 [pZ (x : Int)] (.tup [vZ (if x < 4611686018427387904 then (x : Int) else 0),bZ (decide (x < 4611686018427387904))]):=by
 have:=rnative_says (decide ((x : Int) < 0)) (digs (x : Int).natAbs) (by unfold nw at hx; omega) (wd_digs _) (digs_tr _)
 rw [sg_digs,val_digs] at this
 have e : (((x : Int).natAbs : Nat) : Int) = (x : Int):=by omega
 rw [e] at this
 have e2 : decide ((x : Int) < 4611686018427387904) = decide (x < 4611686018427387904):=dec_eq (by omega)
 rw [e2] at this
 by_cases c : x < 4611686018427387904
 ·rw [if_pos (by omega)] at this; rwa [if_pos c]
 ·rw [if_neg (by omega)] at this; rwa [if_neg c]
theorem rgcd_says (m n : Bool) (ws vs : List Int) (hl : ws.length < 9999999999) (hl2 : vs.length < 9999999999) (h : Wd ws) (h2 : Wd vs) : Says E 44 [pI m ws,pI n vs] (pZ (if canon m ws = true ∧ canon n vs = true then (Int.gcd (sg m (val ws)) (sg n (val vs)) : Int) else 0)):=by
 refine says_of (xs:=[pZ (if canon m ws = true ∧ canon n vs = true then (Int.gcd (sg m (val ws)) (sg n (val vs)) : Int) else 0)]) Tryz.func44 rfl Tryz.ntmps44 Tryz.results44 (by simp) fun F hG hX0 hnt hdf P0=>?_
 obtain ⟨L,hX,hN⟩:=pro hnt hX0 hG
 refine exr (swb (c_bx (k:=2) (n:=2) pa2 rfl rfl (P0 _ rfl) (L rfl)) t1 t0 ⟨rfl,rfl⟩ (swb (c_bx (k:=3) (n:=2) pa2 rfl rfl (P0 _ rfl) (L rfl)) t1 t0 ⟨rfl,rfl⟩ (swb (c_al (k:=4) (n:=2) zv24 (.cons rfl (.cons rfl .nil)) rfl (P0 _ rfl) (L rfl)) t0 t0 ⟨rfl,rfl⟩ (zn [(2,_),(3,_),(4,_)] [(2,_),(3,_),(4,_)] t3 t3 (ex_seq ?_)))))
 refine exm (sl:=[(18,vb (decide (¬ (canon m ws = true ∧ canon n vs = true))))]) (sl0:=[(2,_),(3,_),(4,_)]) (hb:=[]) (hb0:=[(2,_),(3,_),(4,_)]) t3 t3 ?_ ?_
 ·by_cases hca : canon m ws = true
  ·refine lp2 ag24 sz24 (L rfl) rfl rfl (cK hG hX cl15 hN (ris_says m ws (by omega)) (L rfl) t1 ?_)
   refine sw (c_no (L rfl)) t1 t0 (mV (L rfl) rfl (swg (g:=14) rfl (by simp [hca]) (c_lp ag24 sz24 (by rfl) (by exact al2) rfl (L rfl)) rfl t1 t1 ?_))
   refine swg (g:=14) rfl (by simp [hca]) (c_c hG hX cl15 rfl hN (ris_says n vs (by omega)) (L rfl)) rfl t1 t0 ?_
   refine swg (g:=14) rfl (by simp [hca]) (c_no (L rfl)) rfl t1 t0 ?_
   refine sw (c_pf (by simp [hca]) (L rfl)) t2 t0 ?_
   exact seq_nil ⟨⟨ob rfl (by simp [hca]),rfl,rfl,rfl,trivial⟩,t3⟩
  ·refine lp2 ag24 sz24 (L rfl) rfl rfl (cK hG hX cl15 hN (ris_says m ws (by omega)) (L rfl) t1 ?_)
   refine sw (c_no (L rfl)) t1 t0 (mV (L rfl) rfl (swn (g:=14) rfl (by simp [hca]) (L rfl) rfl ?_))
   refine swn (g:=14) rfl (by simp [hca]) (L rfl) rfl ?_
   refine swn (g:=14) rfl (by simp [hca]) (L rfl) rfl ?_
   refine sw (c_pt (by simp [hca]) (L rfl)) t2 t0 ?_
   exact seq_nil ⟨⟨ob rfl (by simp [hca]),rfl,rfl,rfl,trivial⟩,t3⟩
 refine ex_if rfl (fun hc=>?_) (fun hc=>?_)
 ·have hc:=dt hc
  refine exr (sw (c_pc (c_bp (vs:=[]) un24 zv24 (.cons rfl (.cons rfl .nil)) ((Places.cons sz4 (Places.cons sz22 Places.nil))).to rfl .nil (.cons (.cons .nil)) (L rfl)) (.agg (.cons .same (.cons .nil .nil)))) t0 t0 (sb (c_sm sz24 (by rfl) pa2 rfl pu2) t2 t1 ?_))
  refine zn [(4,_)] [(4,_)] t1 t1 (ex_ret ?_)
  refine ⟨.inr rfl,ResVs.cast (.cons (.agg rfl rfl rfl ag24 sz24 (.cons (.cons .nil))) .nil) ?_⟩
  rw [if_neg hc,pZ_zero]; rfl
 ·have hc:=Decidable.not_not.1 (df hc)
  have ab:=rabs_says m ws (by omega) h
  have ab2:=rabs_says n vs (by omega) h2
  rw [if_pos hc.1] at ab
  rw [if_pos hc.2] at ab2
  have na:=nw_val (m:=m) h
  have nb:=nw_val (m:=n) h2
  rw [if_pos hc]
  obtain ⟨A,hA⟩ : ∃ A,A = sg m (val ws):=⟨_,rfl⟩
  obtain ⟨B,hB⟩ : ∃ B,B = sg n (val vs):=⟨_,rfl⟩
  rw [← hA] at ab na ⊢
  rw [← hB] at ab2 nb ⊢
  refine ex_skip (show Exec _ _ _ _ _ from ?_)
  refine exd (by rfl) ?_
  refine lp2 ag24 sz24 (L rfl) rfl rfl (cK hG hX cl48 hN ab (L rfl) t1 (lp2 ag24 sz24 (L rfl) rfl rfl (cK hG hX cl48 hN ab2 (L rfl) t1 (swb (c_al (k:=5) (n:=2) zv24 (.cons rfl (.cons rfl .nil)) rfl (P0 _ rfl) (L rfl)) t0 t0 ⟨rfl,rfl⟩ (swb (c_al (k:=6) (n:=2) zv24 (.cons rfl (.cons rfl .nil)) rfl (P0 _ rfl) (L rfl)) t0 t0 ⟨rfl,rfl⟩ (sb (c_sm sz24 (by rfl) pa2 rfl pu2) t2 t1 ?_))))))
  refine sb (c_sm sz24 (by rfl) pa2 rfl pu2) t2 t1 ?_
  refine seq_nil ⟨aok rfl rfl,[(4,_),(5,_),(6,_)],[(4,_),(5,_),(6,_)],t3,t3,?_⟩
  refine ex_seq (ex_block ?_)
  refine exl (α:=(Nat × Nat)) (fun x=>[]) (fun x=>[(5,bI (x.1:Int)),(6,bI (x.2:Int))]) (fun x=>Nat.gcd x.1 x.2 = Int.gcd A B ∧ x.1 ≤ max A.natAbs B.natAbs ∧ x.2 ≤ max A.natAbs B.natAbs) (fun x=>x.2) ((A.natAbs,B.natAbs)) (sl:=[(4,_),(5,_),(6,_)]) (hb:=[(4,_)]) ?_ t3 t3 ?_
  ·exact ⟨rfl,Nat.le_max_left _ _,Nat.le_max_right _ _⟩
  intro x hx
  obtain ⟨x,y⟩:=x
  obtain ⟨hg,hx,hy⟩:=hx
  simp only at hg hx hy
  dsimp only
  have hnx : nw (x : Int) < 9999999999:=by
   rcases (show x ≤ A.natAbs ∨ x ≤ B.natAbs by omega) with c | c
   ·have:=nw_mono (a:=(x : Int)) (b:=A) (by simpa using c); omega
   ·have:=nw_mono (a:=(x : Int)) (b:=B) (by simpa using c); omega
  have hny : nw (y : Int) < 9999999999:=by
   rcases (show y ≤ A.natAbs ∨ y ≤ B.natAbs by omega) with c | c
   ·have:=nw_mono (a:=(y : Int)) (b:=A) (by simpa using c); omega
   ·have:=nw_mono (a:=(y : Int)) (b:=B) (by simpa using c); omega
  refine ex_seq (exr (sw (c_fa un24 rfl sz22 (by decide) (by exact rfl) (L rfl)) t1 t1 ?_))
  refine sw (c_l1 ag22 (by rfl) (by rfl) (L rfl)) t1 t1 ?_
  refine sw (c_ln un22 (L rfl)) t1 t0 (sw (c_gt (L rfl)) t2 t0 (zn [(4,_),(5,_),(6,_),(27,_)] [(4,_),(5,_),(6,_)] t4 t3 ?_))
  refine ex_if rfl (fun he=>?_) (fun he=>?_)
  ·have he:=dt he
   have hyp : 0 < y:=by
    by_cases c : y = 0
    ·subst c; simp [digs_zero] at he
    ·omega
   refine ex_skip (show Exec _ _ _ _ _ from ?_)
   refine ex_block (exr (lp2 ag24 sz24 (L rfl) rfl rfl (cK hG hX cl84 hN (rnatZ x (by omega)) (L rfl) t1 ?_)))
   refine mV (L rfl) rfl (sw (c_ex rfl (L rfl)) t1 t0 (sw (c_ex rfl (L rfl)) t1 t0 (aV (L rfl) rfl (aV (L rfl) rfl (zn [(4,_),(5,_),(6,_),(7,_),(8,_)] [(4,_),(5,_),(6,_)] t5 t3 (exr (lp2 ag24 sz24 (L rfl) rfl rfl (cK hG hX cl84 hN (rnatZ y (by omega)) (L rfl) t1 ?_))))))))
   refine mV (L rfl) rfl (sw (c_ex rfl (L rfl)) t1 t0 (sw (c_ex rfl (L rfl)) t1 t0 (aV (L rfl) rfl (aV (L rfl) rfl (zn [(4,_),(5,_),(6,_),(7,_),(8,_),(9,_),(10,_)] [(4,_),(5,_),(6,_)] t7 t3 (ex_seq ?_))))))
   refine exm (sl:=[(41,vb (decide (x < 4611686018427387904 ∧ y < 4611686018427387904)))]) (sl0:=[(4,_),(5,_),(6,_),(7,_),(9,_)]) (hb:=[]) (hb0:=[(4,_),(5,_),(6,_)]) t5 t3 ?_ ?_
   ·by_cases hs : x < 4611686018427387904
    ·refine mV (L rfl) rfl (mV (L rfl) rfl (gV (g:=39) rfl (decide_eq_true hs) (L rfl) rfl rfl (sw (c_pt (decide_eq_true hs) (L rfl)) t2 t0 ?_)))
     exact seq_nil ⟨⟨ob rfl (dec_eq ⟨fun c=>⟨hs,c⟩,fun c=>c.2⟩),rfl,rfl,rfl,rfl,rfl,trivial⟩,t3⟩
    ·refine mV (L rfl) rfl (mV (L rfl) rfl (swn (g:=39) rfl (decide_eq_false hs) (L rfl) rfl (sw (c_pf (decide_eq_false hs) (L rfl)) t2 t0 ?_)))
     exact seq_nil ⟨⟨ob rfl (decide_eq_false (fun c=>hs c.1)).symm,rfl,rfl,rfl,rfl,rfl,trivial⟩,t3⟩
   refine ex_if rfl (fun hs=>?_) (fun hs=>?_)
   ·have hs:=dt hs
    rw [if_pos hs.1,if_pos hs.2]
    refine ex_seq (ex_block ?_)
    refine exl (α:=(Nat × Nat)) (fun z=>[(7,vi (z.1:Int)),(9,vi (z.2:Int))]) (fun z=>[]) (fun z=>Nat.gcd z.1 z.2 = Int.gcd A B ∧ z.1 < 4611686018427387904 ∧ z.2 < 4611686018427387904) (fun z=>z.2) ((x,y)) (sl:=[(4,_)]) (hb:=[(4,_)]) ?_ ⟨(by first | exact rfl | exact oi (by omega) rfl),(by first | exact rfl | exact oi (by omega) rfl),rfl,trivial⟩ t1 ?_
    ·exact ⟨hg,by simp only; omega,by simp only; omega⟩
    intro z hz
    obtain ⟨u,v⟩:=z
    obtain ⟨hg2,hu,hv⟩:=hz
    simp only at hg2 hu hv
    dsimp only
    refine ex_seq (exr (mV (L rfl) rfl (sw (c_gt (L rfl)) t2 t0 (zn [(4,_),(7,_),(9,_),(43,_)] [(4,_)] t4 t1 ?_))))
    refine ex_if rfl (fun hf=>?_) (fun hf=>?_)
    ·have hf:=dt hf
     have hlt:=Nat.mod_lt u (show 0 < v by omega)
     refine ex_skip (show Exec _ _ _ _ _ from ?_)
     refine ex_block (exd0 (by rfl) ?_)
     refine mV (L rfl) rfl (mV (L rfl) rfl (mV (L rfl) rfl (sw (c_r (L rfl) (by omega) (show _ = ((u % v : Nat) : Int) by rw [Int.tmod_eq_emod_of_nonneg (by omega)]; rfl)) t2 t0 ?_)))
     refine aV (L rfl) rfl (aV (L rfl) rfl ?_)
     refine seq_nil ⟨aoks [⟨[9],[],[44],[]⟩,⟨[7],[],[45],[]⟩,⟨[9],[],[46],[]⟩,⟨[45,46],[],[47],[]⟩,⟨[44],[],[7],[]⟩,⟨[47],[],[9],[]⟩] (by rfl) (by rfl) (by decide),?_⟩
     exact ⟨(v,u % v),⟨by rw [← gcd_step]; exact hg2,hv,by simp only; omega⟩,(by simp only; omega),le_of ⟨(by first | exact rfl | exact oi (by omega) rfl),(by first | exact rfl | exact oi (by omega) rfl),rfl,trivial⟩ t1⟩
    ·have hf:=df hf
     have hv0 : v = 0:=by omega
     subst hv0
     rw [Nat.gcd_zero_right] at hg2
     subst hg2
     refine ex_exit (show Exec _ _ _ _ _ from ?_)
     refine exr (mV (L rfl) rfl (cK hG hX cl45 hN (rof_says (Int.gcd A B : Nat) (by omega) (by omega)) (L rfl) t1 ?_))
     refine sb (c_sm sz24 (by rfl) pa2 rfl pu2) t2 t1 ?_
     refine zn [(4,_)] [(4,_)] t1 t1 (ex_ret ?_)
     refine ⟨.inr rfl,ResVs.cast (.cons (.agg rfl rfl rfl ag24 sz24 (.cons (.cons .nil))) .nil) ?_⟩
     rfl
   ·have hs:=df hs
    have hml:=Nat.mod_lt x hyp
    refine ex_skip (show Exec _ _ _ _ _ from ?_)
    refine exd0 (by rfl) ?_
    refine lp2 ag24 sz24 (L rfl) rfl rfl (lp2 ag24 sz24 (L rfl) rfl rfl (lp2 ag24 sz24 (L rfl) rfl rfl (cK hG hX cl85 hN (rmodZ (x : Int) (y : Int) (by omega) (by omega) (by omega)) (L rfl) t2 ?_)))
    refine sb (c_sm sz24 (by rfl) pa2 rfl pu2) t2 t1 ?_
    refine sb (c_sm sz24 (by rfl) pa2 rfl pu2) t2 t1 ?_
    refine seq_nil ⟨aoks [⟨[6],[6],[50],[]⟩,⟨[5],[5],[51],[]⟩,⟨[6],[6],[52],[]⟩,⟨[51,52],[],[53],[]⟩,⟨[5,50],[5],[],[5]⟩,⟨[6,53],[6],[],[6]⟩] (by rfl) (by rfl) (by decide),?_⟩
    exact ⟨(y,x % y),⟨by rw [← gcd_step]; exact hg,hy,by simp only; omega⟩,(by simp only; omega),le_of t3 t3⟩
  ·have he:=df he
   have hy0 : y = 0:=by
    have : (digs (y : Int).natAbs).length = 0:=by omega
    rw [digs_len_zero] at this; omega
   subst hy0
   rw [Nat.gcd_zero_right] at hg
   subst hg
   refine ex_exit (show Exec _ _ _ _ _ from ?_)
   refine exr (lp2 ag24 sz24 (L rfl) rfl rfl (sb (c_sm sz24 (by rfl) pa2 rfl pu2) t2 t1 ?_))
   refine zn [(4,_)] [(4,_)] t1 t1 (ex_ret ?_)
   refine ⟨.inr rfl,ResVs.cast (.cons (.agg rfl rfl rfl ag24 sz24 (.cons (.cons .nil))) .nil) ?_⟩
   rfl
theorem rgcdZ (a b : Int) (ha : nw a < 9999999999) (hb : nw b < 9999999999) : Says E 44 [pZ a,pZ b] (pZ (Int.gcd a b : Int)):=by
 have:=rgcd_says (decide (a < 0)) (decide (b < 0)) (digs a.natAbs) (digs b.natAbs) ha hb (wd_digs _) (wd_digs _)
 rwa [if_pos ⟨canon_digs a,canon_digs b⟩,sg_digs,sg_digs] at this
end Go.Proofs.YtcifhkfpmhifaaaGreatDoor.N
namespace Go.Proofs.YtcifhkfpmhifaaaGreatDoor.NumA
theorem gcd_nw {a b : Int} (hb : b ≠ 0) : nw (Int.gcd a b : Int) ≤ nw b:=by
  have : Int.gcd a b ≤ b.natAbs:=Nat.le_of_dvd (by omega) (Nat.gcd_dvd_right _ _)
  exact nw_mono (by simpa using this)
end Go.Proofs.YtcifhkfpmhifaaaGreatDoor.NumA
namespace Go.Proofs.YtcifhkfpmhifaaaGreatDoor.NumA
theorem bl_lt (n : Nat) : n < 2 ^ bl n:=(bl_spec (n:=n) (k:=bl n)).1 (Nat.le_refl _)
theorem small_abs {A : Int} (h : bl A.natAbs ≤ 1) : A = 0 ∨ A = 1 ∨ A = -1:=by
  have:=(bl_spec (n:=A.natAbs) (k:=1)).1 h
  omega
theorem neg_one_even (t : Nat) : (-1 : Int) ^ (2 * t) = 1:=by
  rw [Int.pow_mul,show ((-1 : Int) ^ 2) = 1 from rfl,Int.one_pow]
theorem pow_red {A : Int} {N : Nat} (hb : bl A.natAbs ≤ 1) : A ^ (N % 2 + 2 * min (N / 2) 1) = A ^ N:=by
  rcases small_abs hb with e | e | e
  · subst e
    by_cases h : N = 0
    · subst h; rfl
    · rw [Int.zero_pow (by omega),Int.zero_pow h]
  · subst e; rw [Int.one_pow,Int.one_pow]
  · subst e
    have h2 : (-1 : Int) ^ N = (-1) ^ (N % 2):=by
      conv=>lhs; rw [show N = N % 2 + 2 * (N / 2) by omega]
      rw [Int.pow_add,neg_one_even,Int.mul_one]
    rw [h2,Int.pow_add,neg_one_even,Int.mul_one]
theorem nw_one : nw 1 = 1:=by simp [nw,digs_pos,digs_zero]
theorem pow_nw {A : Int} {e : Nat} (h : e ≤ 1 ∨ bl A.natAbs * e ≤ 1048576) : nw (A ^ e) ≤ nw A + 32769:=by
  rcases h with h | h
  · rcases (show e = 0 ∨ e = 1 by omega) with rfl | rfl
    · rw [Int.pow_zero,nw_one]; omega
    · rw [show A ^ 1 = A from by rw [Int.pow_succ,Int.pow_zero,Int.one_mul]]; omega
  · obtain ⟨n,hn⟩ : ∃ n,n = 32768:=⟨_,rfl⟩
    have h1 : nw (A ^ e) ≤ n:=by
      apply nw_le
      rw [Int.natAbs_pow,← two32]
      have h2 : A.natAbs ^ e ≤ (2 ^ bl A.natAbs) ^ e:=Nat.pow_le_pow_left (Nat.le_of_lt (bl_lt _)) e
      rw [← Nat.pow_mul] at h2
      have h3 : 2 ^ (bl A.natAbs * e) ≤ 2 ^ (32 * n):=Nat.pow_le_pow_right (by decide) (by omega)
      by_cases he : e = 0
      · subst he
        rw [Nat.pow_zero]
        have h5 : (0 : Int) < 2 ^ (31 + 32 * (n - 1)):=Int.pow_pos (by decide)
        rw [show 32 * n = (31 + 32 * (n - 1)) + 1 by omega,Int.pow_succ]; omega
      · have h4 : A.natAbs ^ e < (2 ^ bl A.natAbs) ^ e:=Nat.pow_lt_pow_left (bl_lt _) he
        rw [← Nat.pow_mul] at h4
        have h6 : ((A.natAbs ^ e : Nat) : Int) < ((2 ^ (32 * n) : Nat) : Int):=Int.ofNat_lt.2 (by omega)
        rwa [show ((2 ^ (32 * n) : Nat) : Int) = 2 ^ (32 * n) from Int.natCast_pow 2 _] at h6
    omega
theorem pow_step {k f e N : Nat} (hk : 0 < k) (h : f + e * k = N) : (if k % 2 = 1 then f + e else f) + (if 1 < k then e + e else e) * (k / 2) = N:=by
  have h1 : k = 2 * (k / 2) + k % 2:=by omega
  generalize hh : k / 2 = q at *
  generalize hr : k % 2 = r at *
  subst h
  by_cases c : 1 < k
  · rw [if_pos c]
    have h2 : e * k = e * (2 * q) + e * r:=by rw [← Nat.mul_add,← h1]
    have h3 : (e + e) * q = e * (2 * q):=by grind
    rw [h2,h3]
    rcases (show r = 0 ∨ r = 1 by omega) with rfl | rfl
    · simp
    · rw [if_pos rfl]; omega
  · have hk1 : k = 1:=by omega
    subst hk1
    have hq : q = 0:=by omega
    have hr1 : r = 1:=by omega
    rw [hq,hr1]; simp
theorem pow_bd {k f e N : Nat} (hk : 0 < k) (h : f + e * k = N) : f + e ≤ N ∧ (1 < k → e + e ≤ N):=by
  have h1 : e * 1 ≤ e * k:=Nat.mul_le_mul_left e hk
  refine ⟨by omega,fun hc=>?_⟩
  have h2 : e * 2 ≤ e * k:=Nat.mul_le_mul_left e hc
  omega
def powE (c : Bool) (A n : Int) : Int:=if c = true then (if n < 0 then 1 else if 1 < bl A.natAbs ∧ 1048576 / bl A.natAbs < n.toNat then 2 else 0) else 3
def powV (c : Bool) (A n : Int) : Int:=if powE c A n = 0 then A ^ n.toNat else 0
end Go.Proofs.YtcifhkfpmhifaaaGreatDoor.NumA
set_option maxRecDepth 100000
set_option maxHeartbeats 4000000
namespace Go.Proofs.YtcifhkfpmhifaaaGreatDoor.N
open Go Go.Proofs.YtcifhkfpmhifaaaGreatDoor.SH Go.Proofs.YtcifhkfpmhifaaaGreatDoor.NumA
open Go.Proofs.Tryz renaming call58 → cl58,call59 → cl59,call70 → cl70,call79 → cl79,isAgg24 → ag24,sizeOf22 → sz22,sizeOf24 → sz24,sizeOf4 → sz4,underlying24 → un24,zeroValue24 → zv24
theorem ofZ (n : Int) (h : n = 0 ∨ n = 1 ∨ n = -1) : Says E 58 [vZ n] (pZ n):=of_says n (by omega) (by omega)
theorem bI_eq {m : Bool} {ws : List Int} (h : Wd ws) (hc : canon m ws = true) : (⟨24,2,.mix [.p (.a (.bool m)),.p (.sl ws.length (encW ws))]⟩ : Blk) = bI (sg m (val ws)):=by
 have e:=canon_eq h hc
 rw [bI,e.1,e.2]
theorem pow_says (m : Bool) (ws : List Int) (n : Int) (hl : ws.length < 9999999) (h : Wd ws) (hn0 : -9223372036854775808 ≤ n) (hn1 : n < 9223372036854775808) : Says E 80 [pI m ws,vZ n] (.tup [pZ (powV (canon m ws) (sg m (val ws)) n),vZ (powE (canon m ws) (sg m (val ws)) n)]):=by
 refine says_of (xs:=[pZ (powV (canon m ws) (sg m (val ws)) n),vZ (powE (canon m ws) (sg m (val ws)) n)]) Tryz.func80 rfl Tryz.ntmps80 Tryz.results80 (by simp) fun F hG hX0 hnt hdf P0=>?_
 obtain ⟨L,hX,hN⟩:=pro hnt hX0 hG
 have na:=nw_val (m:=m) h
 refine exr (swb (c_bx (k:=2) (n:=2) pa2 rfl rfl (P0 _ rfl) (L rfl)) t1 t0 ⟨rfl,rfl⟩ (swb (c_al (k:=4) (n:=2) zv24 (.cons rfl (.cons rfl .nil)) rfl (P0 _ rfl) (L rfl)) t0 t0 ⟨rfl,rfl⟩ (aV (L rfl) rfl (zn [(1,_),(2,_),(4,_)] [(2,_),(4,_)] t3 t2 (ex_seq (ex_block (exr (lp2 ag24 sz24 (L rfl) rfl rfl (cK hG hX cl59 hN (is_says m ws (by omega)) (L rfl) t1 ?_)))))))))
 refine sw (c_no (L rfl)) t1 t0 (aV (L rfl) rfl (zn [(1,_),(2,_),(4,_),(8,_)] [(2,_),(4,_)] t4 t2 ?_))
 refine ex_if rfl (fun hc=>?_) (fun hc=>?_)
 ·have hc : canon m ws = false:=by simpa using hc
  refine exr (sw (c_pc (c_bp (vs:=[]) un24 zv24 (.cons rfl (.cons rfl .nil)) ((Places.cons sz4 (Places.cons sz22 Places.nil))).to rfl .nil (.cons (.cons .nil)) (L rfl)) (.agg (.cons .same (.cons .nil .nil)))) t0 t0 (sb (c_sm sz24 (by rfl) pa2 rfl pu2) t2 t1 ?_))
  refine aV (L rfl) rfl (zn [(4,_),(5,_)] [(4,_)] t2 t1 (ex_ret ?_))
  refine ⟨.inr rfl,ResVs.cast (.cons (.agg rfl rfl rfl ag24 sz24 (.cons (.cons .nil))) (.cons (.tmp rfl) .nil)) ?_⟩
  rw [powV,powE,hc,if_neg (show ¬ (false = true) by decide),if_neg (show ¬ ((3 : Int) = 0) by decide),pZ_zero]; rfl
 ·have hc : canon m ws = true:=by simpa using hc
  rw [bI_eq h hc,hc]
  obtain ⟨A,hA⟩ : ∃ A,A = sg m (val ws):=⟨_,rfl⟩
  rw [← hA] at na ⊢
  refine exr (mV (L rfl) rfl (sw (c_ls (L rfl)) t2 t0 (aV (L rfl) rfl (zn [(1,_),(2,_),(4,_),(13,_)] [(2,_),(4,_)] t4 t2 ?_))))
  refine ex_if rfl (fun hn=>?_) (fun hn=>?_)
  ·have hn:=dt hn
   have e : powE true A n = 1:=by rw [powE,if_pos rfl,if_pos hn]
   refine exr (sw (c_pc (c_bp (vs:=[]) un24 zv24 (.cons rfl (.cons rfl .nil)) ((Places.cons sz4 (Places.cons sz22 Places.nil))).to rfl .nil (.cons (.cons .nil)) (L rfl)) (.agg (.cons .same (.cons .nil .nil)))) t0 t0 (sb (c_sm sz24 (by rfl) pa2 rfl pu2) t2 t1 ?_))
   refine aV (L rfl) rfl (zn [(4,_),(5,_)] [(4,_)] t2 t1 (ex_ret ?_))
   refine ⟨.inr rfl,ResVs.cast (.cons (.agg rfl rfl rfl ag24 sz24 (.cons (.cons .nil))) (.cons (.tmp rfl) .nil)) ?_⟩
   rw [powV,e,if_neg (show ¬ ((1 : Int) = 0) by decide),pZ_zero]; rfl
  ·have hn:=df hn
   obtain ⟨M,rfl⟩ : ∃ M : Nat,n = (M : Int):=⟨n.toNat,by omega⟩
   obtain ⟨Lq,hLq⟩ : ∃ Lq,Lq = 1048576 / bl A.natAbs:=⟨_,rfl⟩
   have hLb : Lq ≤ 1048576:=by rw [hLq]; exact Nat.div_le_self _ _
   refine exm (sl:=[(17,vb (decide (1 < bl A.natAbs ∧ Lq < M)))]) (sl0:=[(1,_),(2,_),(4,_)]) (hb:=[]) (hb0:=[(2,_),(4,_)]) t3 t2 ?_ ?_
   ·by_cases hb : 1 < bl A.natAbs
    ·refine lp2 ag24 sz24 (L rfl) rfl rfl (cK hG hX cl79 hN (bitsZ A (by omega)) (L rfl) t1 ?_)
     refine sw (c_gt (L rfl)) t2 t0 (mV (L rfl) rfl (gV (g:=21) rfl (decide_eq_true (by omega)) (L rfl) rfl rfl ?_))
     refine swg (g:=21) rfl (decide_eq_true (by omega)) (c_lp ag24 sz24 (by rfl) (by exact al2) rfl (L rfl)) rfl t1 t1 ?_
     refine swg (g:=21) rfl (decide_eq_true (by omega)) (c_c hG hX cl79 rfl hN (bitsZ A (by omega)) (L rfl)) rfl t1 t0 ?_
     refine swg (g:=21) rfl (decide_eq_true (by omega)) (c_q (L rfl) (by omega) (tdiv64 (show _ = (Lq : Int) by rw [hLq]; rfl) (by omega) (by omega))) rfl t2 t0 ?_
     refine swg (g:=21) rfl (decide_eq_true (by omega)) (c_gt (L rfl)) rfl t2 t0 ?_
     refine sw (c_pt (decide_eq_true (by omega)) (L rfl)) t2 t0 ?_
     refine aV (L rfl) rfl ?_
     exact seq_nil ⟨⟨ob rfl (dec_eq ⟨fun c=>⟨hb,by omega⟩,fun c=>by have:=c.2; omega⟩),rfl,rfl,rfl,trivial⟩,t2⟩
    ·refine lp2 ag24 sz24 (L rfl) rfl rfl (cK hG hX cl79 hN (bitsZ A (by omega)) (L rfl) t1 ?_)
     refine sw (c_gt (L rfl)) t2 t0 (mV (L rfl) rfl (swn (g:=21) rfl (decide_eq_false (by omega)) (L rfl) rfl ?_))
     refine swn (g:=21) rfl (decide_eq_false (by omega)) (L rfl) rfl ?_
     refine swn (g:=21) rfl (decide_eq_false (by omega)) (L rfl) rfl ?_
     refine swn (g:=21) rfl (decide_eq_false (by omega)) (L rfl) rfl ?_
     refine swn (g:=21) rfl (decide_eq_false (by omega)) (L rfl) rfl ?_
     refine sw (c_pf (decide_eq_false (by omega)) (L rfl)) t2 t0 ?_
     refine aV (L rfl) rfl ?_
     exact seq_nil ⟨⟨ob rfl (decide_eq_false (fun c=>hb c.1)).symm,rfl,rfl,rfl,trivial⟩,t2⟩
   refine ex_if rfl (fun hd=>?_) (fun hd=>?_)
   ·have hd:=dt hd
    have e : powE true A (M : Int) = 2:=by rw [powE,if_pos rfl,if_neg hn,if_pos (by rw [← hLq]; simpa using hd)]
    refine exr (sw (c_pc (c_bp (vs:=[]) un24 zv24 (.cons rfl (.cons rfl .nil)) ((Places.cons sz4 (Places.cons sz22 Places.nil))).to rfl .nil (.cons (.cons .nil)) (L rfl)) (.agg (.cons .same (.cons .nil .nil)))) t0 t0 (sb (c_sm sz24 (by rfl) pa2 rfl pu2) t2 t1 ?_))
    refine aV (L rfl) rfl (zn [(4,_),(5,_)] [(4,_)] t2 t1 (ex_ret ?_))
    refine ⟨.inr rfl,ResVs.cast (.cons (.agg rfl rfl rfl ag24 sz24 (.cons (.cons .nil))) (.cons (.tmp rfl) .nil)) ?_⟩
    rw [powV,e,if_neg (show ¬ ((2 : Int) = 0) by decide),pZ_zero]; rfl
   ·have hd:=df hd
    have e : powE true A (M : Int) = 0:=by rw [powE,if_pos rfl,if_neg hn,if_neg (by rw [← hLq]; simpa using hd)]
    have eV : powV true A (M : Int) = A ^ M:=by rw [powV,if_pos e,Int.toNat_natCast]
    rw [e,eV]
    refine ex_skip (show Exec _ _ _ _ _ from ?_)
    refine exd (by rfl) ?_
    refine cK hG hX cl58 hN (ofZ 1 (by omega)) (L rfl) t1 ?_
    refine lp2 ag24 sz24 (L rfl) rfl rfl (swb (c_al (k:=6) (n:=2) zv24 (.cons rfl (.cons rfl .nil)) rfl (P0 _ rfl) (L rfl)) t0 t0 ⟨rfl,rfl⟩ (swb (c_al (k:=7) (n:=2) zv24 (.cons rfl (.cons rfl .nil)) rfl (P0 _ rfl) (L rfl)) t0 t0 ⟨rfl,rfl⟩ (sb (c_sm sz24 (by rfl) pa2 rfl pu2) t2 t1 ?_)))
    refine sb (c_sm sz24 (by rfl) pa2 rfl pu2) t2 t1 ?_
    refine seq_nil ⟨aok rfl rfl,[(1,_),(2,_),(4,_),(6,_),(7,_)],[(2,_),(4,_),(6,_),(7,_)],t5,t4,?_⟩
    obtain ⟨N2,hN2⟩ : ∃ N2,N2 = if bl A.natAbs ≤ 1 then M % 2 + 2 * min (M / 2) 1 else M:=⟨_,rfl⟩
    have hAN : A ^ N2 = A ^ M:=by
     rw [hN2]; split
     ·rename_i c; exact pow_red c
     ·rfl
    have hM : (M : Int) < 9223372036854775808:=hn1
    have hNb : ∀ e : Nat,e ≤ max N2 1 → nw (A ^ e) ≤ 10032768:=fun e he=>by
     have:=pow_nw (A:=A) (e:=e) (by
      by_cases c : e ≤ 1
      ·exact .inl c
      ·right
       by_cases c2 : bl A.natAbs ≤ 1
       ·rw [if_pos c2] at hN2
        have h1 : bl A.natAbs * e ≤ 1 * e:=Nat.mul_le_mul_right e c2
        omega
       ·rw [if_neg c2] at hN2
        have h0 : M ≤ 1048576 / bl A.natAbs:=by rw [← hLq]; exact Nat.le_of_not_lt (fun hh=>hd ⟨by omega,hh⟩)
        have h1 : e ≤ 1048576 / bl A.natAbs:=by omega
        have h2 : bl A.natAbs * e ≤ bl A.natAbs * (1048576 / bl A.natAbs):=Nat.mul_le_mul_left _ h1
        have h3:=Nat.mul_div_le 1048576 (bl A.natAbs)
        omega)
     omega
    refine ex_seq (exr (lp2 ag24 sz24 (L rfl) rfl rfl (cK hG hX cl79 hN (bitsZ A (by omega)) (L rfl) t1 ?_)))
    refine sw (c_le (L rfl)) t2 t0 (zn [(1,_),(4,_),(6,_),(7,_),(33,_)] [(4,_),(6,_),(7,_)] t5 t3 ?_)
    refine ex_cut (sl:=[(1,vi (N2 : Int))]) (sl0:=[(4,_),(6,_),(7,_)]) (hb:=[]) (hb0:=[(4,_),(6,_),(7,_)]) t3 t3 ?_ ?_
    ·refine ex_if rfl (fun hb=>?_) (fun hb=>?_)
     ·have hb:=dt hb
      refine exr0 (mV (L rfl) rfl (sw (c_r (L rfl) (by decide) (show _ = ((M % 2 : Nat) : Int) by rw [Int.tmod_eq_emod_of_nonneg (by omega)]; omega)) t2 t0 ?_))
      refine mV (L rfl) rfl (sw (c_q (L rfl) (by decide) (tdiv64 (show _ = ((M / 2 : Nat) : Int) by omega))) t2 t0 ?_)
      refine sw (c_mn (L rfl)) t2 t0 (sw (c_mu (L rfl) (w64 (by omega) (by omega))) t2 t0 ?_)
      refine sw (c_ad (L rfl) (w64 (by omega) (by omega))) t2 t0 ?_
      refine aV (L rfl) rfl (seq_nil ?_)
      exact ⟨⟨oi (by rw [if_pos (by omega)] at hN2; omega) rfl,(by first | exact rfl | exact oi (by omega) rfl),(by first | exact rfl | exact oi (by omega) rfl),(by first | exact rfl | exact oi (by omega) rfl),trivial⟩,t3⟩
     ·have hb:=df hb
      refine ex_skip ?_
      exact ⟨⟨oi (by rw [if_neg (by omega)] at hN2; omega) rfl,(by first | exact rfl | exact oi (by omega) rfl),(by first | exact rfl | exact oi (by omega) rfl),(by first | exact rfl | exact oi (by omega) rfl),trivial⟩,t3⟩
    ·refine ex_seq (ex_block ?_)
     refine exl (α:=(Nat × Nat × Nat)) (fun x=>[(1,vi (x.1 : Int))]) (fun x=>[(6,bI (A ^ x.2.1)),(7,bI (A ^ x.2.2))]) (fun x=>x.2.1 + x.2.2 * x.1 = N2 ∧ x.2.2 ≤ max N2 1 ∧ x.2.1 ≤ N2 ∧ x.1 ≤ N2) (fun x=>x.1) ((N2,0,1)) (sl:=[(4,_),(6,_),(7,_)]) (hb:=[(4,_)]) ?_ ⟨(by first | exact rfl | exact oi (by omega) rfl),rfl,rfl,rfl,trivial⟩ ⟨obl rfl (by simp only [Int.pow_zero]),obl rfl (by simp only [show A ^ 1 = A by rw [Int.pow_succ,Int.pow_zero,Int.one_mul]]),rfl,trivial⟩ ?_
     ·exact ⟨by simp,by simp only; omega,by simp only; omega,by simp only; omega⟩
     intro x hx
     obtain ⟨k,f,e⟩:=x
     obtain ⟨hk,he,hf,hkN⟩:=hx
     simp only at hk he hf hkN
     dsimp only
     have hN2M : N2 ≤ M + 3:=by rw [hN2]; split <;> omega
     have hN2B : (N2 : Int) < 9223372036854775808:=by rw [hN2]; split <;> omega
     refine ex_seq (exr (mV (L rfl) rfl (sw (c_gt (L rfl)) t2 t0 (zn [(1,_),(4,_),(6,_),(7,_),(42,_)] [(4,_),(6,_),(7,_)] t5 t3 ?_))))
     refine ex_if rfl (fun hg=>?_) (fun hg=>?_)
     ·have hg:=dt hg
      have nf:=hNb f (by omega)
      have ne:=hNb e he
      have hbd:=pow_bd (by omega) hk
      refine ex_skip (show Exec _ _ _ _ _ from ?_)
      refine ex_seq (ex_block (ex_seq (exr (mV (L rfl) rfl (sw (c_r (L rfl) (by decide) (show _ = ((k % 2 : Nat) : Int) by rw [Int.tmod_eq_emod_of_nonneg (by omega)]; omega)) t2 t0 ?_)))))
      refine sw (c_e (L rfl)) t2 t0 (zn [(1,_),(4,_),(6,_),(7,_),(47,_)] [(4,_),(6,_),(7,_)] t5 t3 ?_)
      refine ex_cut (sl:=[]) (sl0:=[(1,_),(4,_),(6,_),(7,_)]) (hb:=[(6,bI (A ^ (if k % 2 = 1 then f + e else f)))]) (hb0:=[(4,_),(7,_)]) t4 t2 ?_ ?_
      ·refine ex_if rfl (fun hr=>?_) (fun hr=>?_)
       ·have hr:=dt hr
        refine exr0 (lp2 ag24 sz24 (L rfl) rfl rfl (lp2 ag24 sz24 (L rfl) rfl rfl (cK hG hX cl70 hN (mulZ (A ^ f) (A ^ e) (by omega) (by omega)) (L rfl) t2 ?_)))
        refine sb (c_sm sz24 (by rfl) pa2 rfl pu2) t2 t1 ?_
        refine seq_nil ?_
        exact ⟨⟨(by first | exact rfl | exact oi (by omega) rfl),(by first | exact rfl | exact oi (by omega) rfl),(by first | exact rfl | exact oi (by omega) rfl),(by first | exact rfl | exact oi (by omega) rfl),trivial⟩,⟨obl rfl (by rw [if_pos (by omega),Int.pow_add]),rfl,rfl,trivial⟩⟩
       ·have hr:=df hr
        refine ex_skip ?_
        exact ⟨⟨(by first | exact rfl | exact oi (by omega) rfl),(by first | exact rfl | exact oi (by omega) rfl),(by first | exact rfl | exact oi (by omega) rfl),(by first | exact rfl | exact oi (by omega) rfl),trivial⟩,⟨obl rfl (by rw [if_neg (by omega)]),rfl,rfl,trivial⟩⟩
      ·refine exr (mV (L rfl) rfl (sw (c_gt (L rfl)) t2 t0 (zn [(1,_),(4,_),(6,_),(7,_),(52,_)] [(4,_),(6,_),(7,_)] t5 t3 ?_)))
       refine ex_if rfl (fun hr=>?_) (fun hr=>?_)
       ·have hr:=dt hr
        refine exr0 (lp2 ag24 sz24 (L rfl) rfl rfl (lp2 ag24 sz24 (L rfl) rfl rfl (cK hG hX cl70 hN (mulZ (A ^ e) (A ^ e) (by omega) (by omega)) (L rfl) t2 ?_)))
        refine sb (c_sm sz24 (by rfl) pa2 rfl pu2) t2 t1 ?_
        refine seq_nil (exr0 (mV (L rfl) rfl (sw (c_q (L rfl) (by decide) (tdiv64 (show _ = ((k / 2 : Nat) : Int) by omega))) t2 t0 ?_)))
        refine aV (L rfl) rfl (seq_nil ?_)
        exact ⟨(k / 2,(if k % 2 = 1 then f + e else f),(if 1 < k then e + e else e)),⟨pow_step (by omega) hk,by simp only; split <;> omega,by simp only; split <;> omega,by simp only; omega⟩,(by simp only; omega),le_of ⟨(by first | exact rfl | exact oi (by omega) rfl),rfl,rfl,rfl,trivial⟩ ⟨rfl,obl rfl (by simp only; rw [if_pos (show 1 < k by omega),Int.pow_add]),rfl,trivial⟩⟩
       ·have hr:=df hr
        refine ex_skip (show Exec _ _ _ _ _ from ?_)
        refine exr0 (mV (L rfl) rfl (sw (c_q (L rfl) (by decide) (tdiv64 (show _ = ((k / 2 : Nat) : Int) by omega))) t2 t0 ?_))
        refine aV (L rfl) rfl (seq_nil ?_)
        exact ⟨(k / 2,(if k % 2 = 1 then f + e else f),(if 1 < k then e + e else e)),⟨pow_step (by omega) hk,by simp only; split <;> omega,by simp only; split <;> omega,by simp only; omega⟩,(by simp only; omega),le_of ⟨(by first | exact rfl | exact oi (by omega) rfl),rfl,rfl,rfl,trivial⟩ ⟨rfl,obl rfl (by simp only; rw [if_neg (show ¬ 1 < k by omega)]),rfl,trivial⟩⟩
     ·have hg:=df hg
      have hk0 : k = 0:=by omega
      subst hk0
      have hfN : f = N2:=by omega
      rw [hfN,hAN]
      refine ex_exit (show Exec _ _ _ _ _ from ?_)
      refine exr (lp2 ag24 sz24 (L rfl) rfl rfl (sb (c_sm sz24 (by rfl) pa2 rfl pu2) t2 t1 ?_))
      refine aV (L rfl) rfl (zn [(4,_),(5,_)] [(4,_)] t2 t1 (ex_ret ?_))
      refine ⟨.inr rfl,ResVs.cast (.cons (.agg rfl rfl rfl ag24 sz24 (.cons (.cons .nil))) (.cons (.tmp rfl) .nil)) ?_⟩
      rfl
theorem powZ (a n : Int) (ha : nw a < 9999999) (hn0 : -9223372036854775808 ≤ n) (hn1 : n < 9223372036854775808) : Says E 80 [pZ a,vZ n] (.tup [pZ (powV true a n),vZ (powE true a n)]):=by
 have:=pow_says (decide (a < 0)) (digs a.natAbs) n ha (wd_digs _) hn0 hn1
 rwa [canon_digs a,sg_digs] at this
end Go.Proofs.YtcifhkfpmhifaaaGreatDoor.N
set_option maxRecDepth 100000
set_option maxHeartbeats 4000000
namespace Go.Proofs.YtcifhkfpmhifaaaGreatDoor.N
open Go Go.Proofs.YtcifhkfpmhifaaaGreatDoor.SH Go.Proofs.YtcifhkfpmhifaaaGreatDoor.NumA
open Go.Proofs.Tryz renaming call15 → cl15,call45 → cl45,call68 → cl68,call78 → cl78,call86 → cl86,isAgg22 → ag22,isAgg24 → ag24,isAgg4 → ag4,sizeOf22 → sz22,sizeOf24 → sz24,sizeOf4 → sz4,underlying24 → un24,zeroValue24 → zv24
theorem rmulZ (a b : Int) (ha : nw a < 99999999) (hb : nw b < 99999999) : Says E 68 [pZ a,pZ b] (pZ (a * b)):=by
 have:=rmulI_says (decide (a < 0)) (decide (b < 0)) (digs a.natAbs) (digs b.natAbs) (by unfold nw at ha; omega) (by unfold nw at hb; omega) (wd_digs _) (wd_digs _)
 rwa [if_pos ⟨canon_digs a,canon_digs b⟩,sg_digs,sg_digs] at this
theorem rbitsZ' (a : Int) (ha : nw a < 99999999) : Says E 78 [pZ a] (vZ (bl a.natAbs : Nat)):=by
 have:=rbits_says (decide (a < 0)) (digs a.natAbs) (by unfold nw at ha; omega) (wd_digs _)
 rwa [if_pos (canon_digs a),val_digs,Int.toNat_natCast] at this
theorem one_pow' {A : Int} {M : Nat} {neg : Bool} (hb : bl A.natAbs ≤ 1) (hn : neg = decide (A < 0)) (hM : M ≠ 0) : sg (neg && decide (((M % 2 : Nat) : Int) = 1)) (A.natAbs : Int) = A ^ M:=by
 have h1 : A.natAbs < 2:=by have:=(bl_spec (n:=A.natAbs) (k:=1)).1 hb; simpa using this
 rcases (show A = 0 ∨ A = 1 ∨ A = -1 by omega) with rfl | rfl | rfl
 ·obtain ⟨m,rfl⟩ : ∃ m,M = m + 1:=⟨M - 1,by omega⟩
  subst hn; simp [sg,Int.pow_succ]
 ·subst hn; simp [sg,Int.one_pow]
 ·subst hn
  have h2 : (-1 : Int) ^ M = (-1) ^ (M % 2):=by
   conv=>lhs; rw [show M = M % 2 + 2 * (M / 2) by omega]
   rw [Int.pow_add,neg_one_even,Int.mul_one]
  rw [h2]
  rcases (show M % 2 = 0 ∨ M % 2 = 1 by omega) with h | h <;> rw [h] <;> simp [sg,Int.pow_succ]
theorem rpow_says (m : Bool) (ws : List Int) (n : Int) (hl : ws.length < 9999999) (h : Wd ws) (hn0 : -9223372036854775808 ≤ n) (hn1 : n < 9223372036854775808) : Says E 82 [pI m ws,vZ n] (.tup [pZ (powV (canon m ws) (sg m (val ws)) n),vZ (powE (canon m ws) (sg m (val ws)) n)]):=by
 refine says_of (xs:=[pZ (powV (canon m ws) (sg m (val ws)) n),vZ (powE (canon m ws) (sg m (val ws)) n)]) Tryz.func82 rfl Tryz.ntmps82 Tryz.results82 (by simp) fun F hG hX0 hnt hdf P0=>?_
 obtain ⟨L,hX,hN⟩:=pro hnt hX0 hG
 have na:=nw_val (m:=m) h
 refine exr (swb (c_bx (k:=2) (n:=2) pa2 rfl rfl (P0 _ rfl) (L rfl)) t1 t0 ⟨rfl,rfl⟩ (swb (c_al (k:=4) (n:=2) zv24 (.cons rfl (.cons rfl .nil)) rfl (P0 _ rfl) (L rfl)) t0 t0 ⟨rfl,rfl⟩ (aV (L rfl) rfl (zn [(1,_),(2,_),(4,_)] [(2,_),(4,_)] t3 t2 (ex_seq (exr (lp2 ag24 sz24 (L rfl) rfl rfl (cK hG hX cl15 hN (ris_says m ws (by omega)) (L rfl) t1 ?_))))))))
 refine sw (c_no (L rfl)) t1 t0 (zn [(1,_),(2,_),(4,_),(10,_)] [(2,_),(4,_)] t4 t2 ?_)
 refine ex_if rfl (fun hc=>?_) (fun hc=>?_)
 ·have hc : canon m ws = false:=by simpa using hc
  refine exr (sw (c_pc (c_bp (vs:=[]) un24 zv24 (.cons rfl (.cons rfl .nil)) ((Places.cons sz4 (Places.cons sz22 Places.nil))).to rfl .nil (.cons (.cons .nil)) (L rfl)) (.agg (.cons .same (.cons .nil .nil)))) t0 t0 (sb (c_sm sz24 (by rfl) pa2 rfl pu2) t2 t1 ?_))
  refine aV (L rfl) rfl (zn [(4,_),(5,_)] [(4,_)] t2 t1 (ex_ret ?_))
  refine ⟨.inr rfl,ResVs.cast (.cons (.agg rfl rfl rfl ag24 sz24 (.cons (.cons .nil))) (.cons (.tmp rfl) .nil)) ?_⟩
  rw [powV,powE,hc,if_neg (show ¬ (false = true) by decide),if_neg (show ¬ ((3 : Int) = 0) by decide),pZ_zero]; rfl
 ·have hc : canon m ws = true:=by simpa using hc
  have hce:=canon_eq h hc
  rw [bI_eq h hc,hc]
  obtain ⟨A,hA⟩ : ∃ A,A = sg m (val ws):=⟨_,rfl⟩
  rw [← hA] at na hce ⊢
  refine ex_skip (show Exec _ _ _ _ _ from ?_)
  refine ex_seq (exr (mV (L rfl) rfl (sw (c_ls (L rfl)) t2 t0 (zn [(1,_),(2,_),(4,_),(13,_)] [(2,_),(4,_)] t4 t2 ?_))))
  refine ex_if rfl (fun hn=>?_) (fun hn=>?_)
  ·have hn:=dt hn
   have e : powE true A n = 1:=by rw [powE,if_pos rfl,if_pos hn]
   refine exr (sw (c_pc (c_bp (vs:=[]) un24 zv24 (.cons rfl (.cons rfl .nil)) ((Places.cons sz4 (Places.cons sz22 Places.nil))).to rfl .nil (.cons (.cons .nil)) (L rfl)) (.agg (.cons .same (.cons .nil .nil)))) t0 t0 (sb (c_sm sz24 (by rfl) pa2 rfl pu2) t2 t1 ?_))
   refine aV (L rfl) rfl (zn [(4,_),(5,_)] [(4,_)] t2 t1 (ex_ret ?_))
   refine ⟨.inr rfl,ResVs.cast (.cons (.agg rfl rfl rfl ag24 sz24 (.cons (.cons .nil))) (.cons (.tmp rfl) .nil)) ?_⟩
   rw [powV,e,if_neg (show ¬ ((1 : Int) = 0) by decide),pZ_zero]; rfl
  ·have hn:=df hn
   obtain ⟨M,rfl⟩ : ∃ M : Nat,n = (M : Int):=⟨n.toNat,by omega⟩
   obtain ⟨Lq,hLq⟩ : ∃ Lq,Lq = 1048576 / bl A.natAbs:=⟨_,rfl⟩
   have hLb : Lq ≤ 1048576:=by rw [hLq]; exact Nat.div_le_self _ _
   refine ex_skip (show Exec _ _ _ _ _ from ?_)
   refine ex_seq ?_
   refine exm (sl:=[(24,vb (decide (1 < bl A.natAbs ∧ Lq < M)))]) (sl0:=[(1,_),(2,_),(4,_)]) (hb:=[]) (hb0:=[(2,_),(4,_)]) t3 t2 ?_ ?_
   ·by_cases hb : 1 < bl A.natAbs
    ·refine lp2 ag24 sz24 (L rfl) rfl rfl (cK hG hX cl78 hN (rbitsZ' A (by omega)) (L rfl) t1 ?_)
     refine sw (c_gt (L rfl)) t2 t0 (mV (L rfl) rfl (gV (g:=18) rfl (decide_eq_true (by omega)) (L rfl) rfl rfl ?_))
     refine swg (g:=18) rfl (decide_eq_true (by omega)) (c_lp ag24 sz24 (by rfl) (by exact al2) rfl (L rfl)) rfl t1 t1 ?_
     refine swg (g:=18) rfl (decide_eq_true (by omega)) (c_c hG hX cl78 rfl hN (rbitsZ' A (by omega)) (L rfl)) rfl t1 t0 ?_
     refine swg (g:=18) rfl (decide_eq_true (by omega)) (c_q (L rfl) (by omega) (tdiv64 (show _ = (Lq : Int) by rw [hLq]; rfl) (by omega) (by omega))) rfl t2 t0 ?_
     refine swg (g:=18) rfl (decide_eq_true (by omega)) (c_gt (L rfl)) rfl t2 t0 ?_
     refine sw (c_pt (decide_eq_true (by omega)) (L rfl)) t2 t0 ?_
     exact seq_nil ⟨⟨ob rfl (dec_eq ⟨fun c=>⟨hb,by omega⟩,fun c=>by have:=c.2; omega⟩),rfl,rfl,rfl,trivial⟩,t2⟩
    ·refine lp2 ag24 sz24 (L rfl) rfl rfl (cK hG hX cl78 hN (rbitsZ' A (by omega)) (L rfl) t1 ?_)
     refine sw (c_gt (L rfl)) t2 t0 (mV (L rfl) rfl (swn (g:=18) rfl (decide_eq_false (by omega)) (L rfl) rfl ?_))
     refine swn (g:=18) rfl (decide_eq_false (by omega)) (L rfl) rfl ?_
     refine swn (g:=18) rfl (decide_eq_false (by omega)) (L rfl) rfl ?_
     refine swn (g:=18) rfl (decide_eq_false (by omega)) (L rfl) rfl ?_
     refine swn (g:=18) rfl (decide_eq_false (by omega)) (L rfl) rfl ?_
     refine sw (c_pf (decide_eq_false (by omega)) (L rfl)) t2 t0 ?_
     exact seq_nil ⟨⟨ob rfl (decide_eq_false (fun c=>hb c.1)).symm,rfl,rfl,rfl,trivial⟩,t2⟩
   refine ex_if rfl (fun hd=>?_) (fun hd=>?_)
   ·have hd:=dt hd
    have e : powE true A (M : Int) = 2:=by rw [powE,if_pos rfl,if_neg hn,if_pos (by rw [← hLq]; simpa using hd)]
    refine exr (sw (c_pc (c_bp (vs:=[]) un24 zv24 (.cons rfl (.cons rfl .nil)) ((Places.cons sz4 (Places.cons sz22 Places.nil))).to rfl .nil (.cons (.cons .nil)) (L rfl)) (.agg (.cons .same (.cons .nil .nil)))) t0 t0 (sb (c_sm sz24 (by rfl) pa2 rfl pu2) t2 t1 ?_))
    refine aV (L rfl) rfl (zn [(4,_),(5,_)] [(4,_)] t2 t1 (ex_ret ?_))
    refine ⟨.inr rfl,ResVs.cast (.cons (.agg rfl rfl rfl ag24 sz24 (.cons (.cons .nil))) (.cons (.tmp rfl) .nil)) ?_⟩
    rw [powV,e,if_neg (show ¬ ((2 : Int) = 0) by decide),pZ_zero]; rfl
   ·have hd:=df hd
    have e : powE true A (M : Int) = 0:=by rw [powE,if_pos rfl,if_neg hn,if_neg (by rw [← hLq]; simpa using hd)]
    have eV : powV true A (M : Int) = A ^ M:=by rw [powV,if_pos e,Int.toNat_natCast]
    rw [e,eV]
    refine ex_skip (show Exec _ _ _ _ _ from ?_)
    refine ex_seq (exr (lp2 ag24 sz24 (L rfl) rfl rfl (cK hG hX cl78 hN (rbitsZ' A (by omega)) (L rfl) t1 ?_)))
    refine sw (c_ls (L rfl)) t2 t0 (zn [(1,_),(2,_),(4,_),(28,_)] [(2,_),(4,_)] t4 t2 ?_)
    refine ex_if rfl (fun hb=>?_) (fun hb=>?_)
    ·have hb:=dt hb
     refine ex_seq (exr (mV (L rfl) rfl (sw (c_e (L rfl)) t2 t0 (zn [(1,_),(2,_),(4,_),(30,_)] [(2,_),(4,_)] t4 t2 ?_))))
     refine ex_if rfl (fun h0=>?_) (fun h0=>?_)
     ·have h0:=dt h0
      have hM0 : M = 0:=by omega
      refine exr (cK hG hX cl45 hN (rof_says 1 (by decide) (by decide)) (L rfl) t1 ?_)
      refine sb (c_sm sz24 (by rfl) pa2 rfl pu2) t2 t1 ?_
      refine aV (L rfl) rfl (zn [(4,_),(5,_)] [(4,_)] t2 t1 (ex_ret ?_))
      refine ⟨.inr rfl,ResVs.cast (.cons (.agg rfl rfl rfl ag24 sz24 (.cons (.cons .nil))) (.cons (.tmp rfl) .nil)) ?_⟩
      rw [hM0,Int.pow_zero]
     ·have h0:=df h0
      have ep:=one_pow' (A:=A) (M:=M) (neg:=m) (by omega) hce.1.symm (by omega)
      have hval : val ws = A.natAbs:=by
       have:=canon_eq h hc
       rw [hA]; unfold sg; have:=val_nonneg h; split <;> omega
      have ebI : bI A = (⟨24,2,.mix [.p (.a (.bool m)),.p (.sl ws.length (encW ws))]⟩ : Blk):=by rw [hA]; exact (bI_eq h hc).symm
      rw [ebI]
      rw [← hval] at ep
      refine ex_skip (show Exec _ _ _ _ _ from ?_)
      refine exm (sl:=[(5,vi 0)]) (sl0:=[(4,_)]) (hb:=[(4,bI (A ^ M))]) (hb0:=[]) t1 t0 ?_ ?_
      ·cases hm : m
       ·refine sw (c_fa un24 rfl sz4 (by decide) (by exact rfl) (L rfl)) t1 t1 ?_
        refine sw (c_l1 ag4 (by rfl) (by rfl) (L rfl)) t1 t1 ?_
        refine mV (L rfl) rfl (swn (g:=34) rfl rfl (L rfl) rfl (swn (g:=34) rfl rfl (L rfl) rfl (swn (g:=34) rfl rfl (L rfl) rfl (sw (c_pf rfl (L rfl)) t2 t0 (sw (c_fa un24 rfl sz22 (by decide) (by exact rfl) (L rfl)) t1 t1 ?_)))))
        refine sw (c_l1 ag22 (by rfl) (by rfl) (L rfl)) t1 t1 ?_
        refine cK hG hX cl86 hN (rmade_says false ws (by omega) h) (L rfl) t2 ?_
        refine sb (c_sm sz24 (by rfl) pa2 rfl pu2) t2 t1 ?_
        refine aV (L rfl) rfl ?_
        exact seq_nil ⟨t2,⟨obl rfl (by rw [← ep,hm]; rfl),trivial⟩⟩
       ·refine sw (c_fa un24 rfl sz4 (by decide) (by exact rfl) (L rfl)) t1 t1 ?_
        refine sw (c_l1 ag4 (by rfl) (by rfl) (L rfl)) t1 t1 ?_
        refine mV (L rfl) rfl (gV (g:=34) rfl rfl (L rfl) rfl rfl (swg (g:=34) rfl rfl (c_r (L rfl) (by decide) (show _ = ((M % 2 : Nat) : Int) by rw [Int.tmod_eq_emod_of_nonneg (by omega)]; omega)) rfl t2 t0 ?_))
        refine swg (g:=34) rfl rfl (c_e (L rfl)) rfl t2 t0 (sw (c_pt rfl (L rfl)) t2 t0 (sw (c_fa un24 rfl sz22 (by decide) (by exact rfl) (L rfl)) t1 t1 ?_))
        refine sw (c_l1 ag22 (by rfl) (by rfl) (L rfl)) t1 t1 ?_
        refine cK hG hX cl86 hN (rmade_says (decide (((M % 2 : Nat) : Int) = 1)) ws (by omega) h) (L rfl) t2 ?_
        refine sb (c_sm sz24 (by rfl) pa2 rfl pu2) t2 t1 ?_
        refine aV (L rfl) rfl ?_
        exact seq_nil ⟨t2,⟨obl rfl (by rw [← ep,hm]; rfl),trivial⟩⟩
      refine ex_ret ?_
      refine ⟨.inr rfl,ResVs.cast (.cons (.agg rfl rfl rfl ag24 sz24 (.cons (.cons .nil))) (.cons (.tmp rfl) .nil)) ?_⟩
      rfl
    ·have hb:=df hb
     have hM : (M : Int) < 9223372036854775808:=hn1
     have hNb : ∀ e : Nat,e ≤ max M 1 → nw (A ^ e) ≤ 10032768:=fun e he=>by
      have:=pow_nw (A:=A) (e:=e) (by
       by_cases c : e ≤ 1
       ·exact .inl c
       ·right
        have h0 : M ≤ 1048576 / bl A.natAbs:=by rw [← hLq]; exact Nat.le_of_not_lt (fun hh=>hd ⟨by omega,hh⟩)
        have h1 : e ≤ 1048576 / bl A.natAbs:=by omega
        have h2 : bl A.natAbs * e ≤ bl A.natAbs * (1048576 / bl A.natAbs):=Nat.mul_le_mul_left _ h1
        have h3:=Nat.mul_div_le 1048576 (bl A.natAbs)
        omega)
      omega
     refine ex_skip (show Exec _ _ _ _ _ from ?_)
     refine exd (by rfl) ?_
     refine cK hG hX cl45 hN (rof_says 1 (by decide) (by decide)) (L rfl) t1 ?_
     refine lp2 ag24 sz24 (L rfl) rfl rfl (swb (c_al (k:=6) (n:=2) zv24 (.cons rfl (.cons rfl .nil)) rfl (P0 _ rfl) (L rfl)) t0 t0 ⟨rfl,rfl⟩ (swb (c_al (k:=7) (n:=2) zv24 (.cons rfl (.cons rfl .nil)) rfl (P0 _ rfl) (L rfl)) t0 t0 ⟨rfl,rfl⟩ (sb (c_sm sz24 (by rfl) pa2 rfl pu2) t2 t1 ?_)))
     refine sb (c_sm sz24 (by rfl) pa2 rfl pu2) t2 t1 ?_
     refine seq_nil ⟨aok rfl rfl,[(1,_),(4,_),(6,_),(7,_)],[(4,_),(6,_),(7,_)],t4,t3,?_⟩
     refine ex_seq (ex_block ?_)
     refine exl (α:=(Nat × Nat × Nat)) (fun x=>[(1,vi (x.1 : Int))]) (fun x=>[(6,bI (A ^ x.2.1)),(7,bI (A ^ x.2.2))]) (fun x=>x.2.1 + x.2.2 * x.1 = M ∧ x.2.2 ≤ max M 1 ∧ x.2.1 ≤ M ∧ x.1 ≤ M) (fun x=>x.1) ((M,0,1)) (sl:=[(4,_),(6,_),(7,_)]) (hb:=[(4,_)]) ?_ ⟨(by first | exact rfl | exact oi (by omega) rfl),rfl,rfl,rfl,trivial⟩ ⟨obl rfl (by simp only [Int.pow_zero]),obl rfl (by simp only [show A ^ 1 = A by rw [Int.pow_succ,Int.pow_zero,Int.one_mul]]),rfl,trivial⟩ ?_
     ·exact ⟨by simp,by simp only; omega,by simp only; omega,by simp only; omega⟩
     intro x hx
     obtain ⟨k,f,e⟩:=x
     obtain ⟨hk,he,hf,hkN⟩:=hx
     simp only at hk he hf hkN
     dsimp only
     refine ex_seq (exr (mV (L rfl) rfl (sw (c_gt (L rfl)) t2 t0 (zn [(1,_),(4,_),(6,_),(7,_),(45,_)] [(4,_),(6,_),(7,_)] t5 t3 ?_))))
     refine ex_if rfl (fun hg=>?_) (fun hg=>?_)
     ·have hg:=dt hg
      have nf:=hNb f (by omega)
      have ne:=hNb e he
      have hbd:=pow_bd (by omega) hk
      refine ex_skip (show Exec _ _ _ _ _ from ?_)
      refine ex_block (ex_seq (exr (mV (L rfl) rfl (sw (c_r (L rfl) (by decide) (show _ = ((k % 2 : Nat) : Int) by rw [Int.tmod_eq_emod_of_nonneg (by omega)]; omega)) t2 t0 ?_))))
      refine sw (c_e (L rfl)) t2 t0 (zn [(1,_),(4,_),(6,_),(7,_),(48,_)] [(4,_),(6,_),(7,_)] t5 t3 ?_)
      refine ex_cut (sl:=[]) (sl0:=[(1,_),(4,_),(6,_),(7,_)]) (hb:=[(6,bI (A ^ (if k % 2 = 1 then f + e else f)))]) (hb0:=[(4,_),(7,_)]) t4 t2 ?_ ?_
      ·refine ex_if rfl (fun hr=>?_) (fun hr=>?_)
       ·have hr:=dt hr
        refine exr0 (lp2 ag24 sz24 (L rfl) rfl rfl (lp2 ag24 sz24 (L rfl) rfl rfl (cK hG hX cl68 hN (rmulZ (A ^ f) (A ^ e) (by omega) (by omega)) (L rfl) t2 ?_)))
        refine sb (c_sm sz24 (by rfl) pa2 rfl pu2) t2 t1 ?_
        refine seq_nil ?_
        exact ⟨⟨(by first | exact rfl | exact oi (by omega) rfl),(by first | exact rfl | exact oi (by omega) rfl),(by first | exact rfl | exact oi (by omega) rfl),(by first | exact rfl | exact oi (by omega) rfl),trivial⟩,⟨obl rfl (by rw [if_pos (by omega),Int.pow_add]),rfl,rfl,trivial⟩⟩
       ·have hr:=df hr
        refine ex_skip ?_
        exact ⟨⟨(by first | exact rfl | exact oi (by omega) rfl),(by first | exact rfl | exact oi (by omega) rfl),(by first | exact rfl | exact oi (by omega) rfl),(by first | exact rfl | exact oi (by omega) rfl),trivial⟩,⟨obl rfl (by rw [if_neg (by omega)]),rfl,rfl,trivial⟩⟩
      ·refine exr (mV (L rfl) rfl (sw (c_q (L rfl) (by decide) (tdiv64 (show _ = ((k / 2 : Nat) : Int) by omega))) t2 t0 ?_))
       refine aV (L rfl) rfl (zn [(1,_),(4,_),(6,_),(7,_)] [(4,_),(6,_),(7,_)] t4 t3 (exr (mV (L rfl) rfl (sw (c_gt (L rfl)) t2 t0 (zn [(1,_),(4,_),(6,_),(7,_),(55,_)] [(4,_),(6,_),(7,_)] t5 t3 ?_)))))
       refine ex_if rfl (fun hr=>?_) (fun hr=>?_)
       ·have hr:=dt hr
        refine exr0 (lp2 ag24 sz24 (L rfl) rfl rfl (lp2 ag24 sz24 (L rfl) rfl rfl (cK hG hX cl68 hN (rmulZ (A ^ e) (A ^ e) (by omega) (by omega)) (L rfl) t2 ?_)))
        refine sb (c_sm sz24 (by rfl) pa2 rfl pu2) t2 t1 ?_
        refine seq_nil ?_
        exact ⟨(k / 2,(if k % 2 = 1 then f + e else f),(if 1 < k then e + e else e)),⟨pow_step (by omega) hk,by simp only; split <;> omega,by simp only; split <;> omega,by simp only; omega⟩,(by simp only; omega),le_of ⟨(by first | exact rfl | exact oi (by omega) rfl),rfl,rfl,rfl,trivial⟩ ⟨rfl,obl rfl (by simp only; rw [if_pos (show 1 < k by omega),Int.pow_add]),rfl,trivial⟩⟩
       ·have hr:=df hr
        refine ex_skip ?_
        exact ⟨(k / 2,(if k % 2 = 1 then f + e else f),(if 1 < k then e + e else e)),⟨pow_step (by omega) hk,by simp only; split <;> omega,by simp only; split <;> omega,by simp only; omega⟩,(by simp only; omega),le_of ⟨(by first | exact rfl | exact oi (by omega) rfl),rfl,rfl,rfl,trivial⟩ ⟨rfl,obl rfl (by simp only; rw [if_neg (show ¬ 1 < k by omega)]),rfl,trivial⟩⟩
     ·have hg:=df hg
      have hk0 : k = 0:=by omega
      subst hk0
      have hfN : f = M:=by omega
      rw [hfN]
      refine ex_exit (show Exec _ _ _ _ _ from ?_)
      refine exr (lp2 ag24 sz24 (L rfl) rfl rfl (sb (c_sm sz24 (by rfl) pa2 rfl pu2) t2 t1 ?_))
      refine aV (L rfl) rfl (zn [(4,_),(5,_)] [(4,_)] t2 t1 (ex_ret ?_))
      refine ⟨.inr rfl,ResVs.cast (.cons (.agg rfl rfl rfl ag24 sz24 (.cons (.cons .nil))) (.cons (.tmp rfl) .nil)) ?_⟩
      rfl
end Go.Proofs.YtcifhkfpmhifaaaGreatDoor.N
