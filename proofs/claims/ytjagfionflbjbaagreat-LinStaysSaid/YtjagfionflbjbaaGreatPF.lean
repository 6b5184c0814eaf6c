/- Part F of the proof: lemmas for the walks of the given functions. No statement of its own. -/
import Derived.Test.YtjagfionflbjbaaGreatPE
set_option linter.unusedVariables false
set_option linter.unusedSimpArgs false
set_option linter.deprecated false
set_option maxRecDepth 100000
set_option maxHeartbeats 4000000
namespace Go.Proofs.YtjagfionflbjbaaGreat.N
open Go Go.Proofs.YtjagfionflbjbaaGreat.SH Go.Proofs.YtjagfionflbjbaaGreat.NumA
open Go.Proofs.Tryz renaming call124→cl124,call12→cl12,call13→cl13,call14→cl14,call17→cl17,call24→cl24,call25→cl25,call29→cl29,call30→cl30,call31→cl31,call38→cl38,call40→cl40,call41→cl41,call42→cl42,call44→cl44,call45→cl45,call46→cl46,call86→cl86,call87→cl87,isAgg22→ag22,isAgg24→ag24,isAgg3→ag3,isAgg40→ag40,isAgg43→ag43,isAgg45→ag45,isAgg47→ag47,isAgg4→ag4,sizeOf22→sz22,sizeOf24→sz24,sizeOf3→sz3,sizeOf40→sz40,sizeOf43→sz43,sizeOf45→sz45,sizeOf47→sz47,sizeOf4→sz4,typeInfo119→ti119,typeInfo40→ti40,typeInfo47→ti47,underlying22→un22,underlying24→un24,underlying40→un40,underlying43→un43,underlying45→un45,underlying47→un47,zeroValue24→zv24,zeroValue45→zv45,zeroValue47→zv47
theorem n0s (neg:Bool)(ws:List Int)(hl:ws.length<10000000000000):Y2 E 124 [pI neg ws] (pI neg ws):=by
 refine j2 (xs:=[pI neg ws]) Tryz.func124 rfl Tryz.ntmps124 Tryz.results124 sM fun F hG hX0 hnt hdf P0=>?_
 obtain ⟨L,hX,hN⟩:=pro hnt hX0 hG
 refine exr (swb (R3 (k:=1) (n:=2) pa2 rfl rfl (P0 _ rfl) L) t1 t0 ⟨rfl,rfl⟩ (swb (T3 (k:=2) (n:=2) zv45 (.cons rfl (.cons rfl .nil)) rfl (P0 _ rfl) L) t0 t0 ⟨rfl,rfl⟩ (zn [(1,_),(2,_)] [(1,_),(2,_)] t2 t2 (exd rF ?_))))
 refine sw (Z1 un45 rfl sz4 dC rX L) t1 t1 ?_
 refine sw (Y1 ag4 rF rF L) t1 t1 ?_
 refine swb (O9 (k:=5) (sz:=1) un43 ti119 (P0 _ rfl) L) t0 t0 ⟨rfl,rfl⟩ (sw (Z1 un45 rfl sz43 dC rX L) t1 t1 ?_)
 refine sw (Y1 ag43 rF rF L) t1 t1 ?_
 refine swb (apP (sz:=1) un43 un43 ti119 rfl rfl rfl dC rX oF sM rfl rfl rfl (by first | (simp [Tryz.t119]; done) | (simp [Tryz.t119]; omega)) oM (P0 _ rfl) L) t2 t1 t0 ?_
 refine sw (b0r (vs:=[_,_]) un45 zv45 (.cons rfl (.cons rfl .nil)) ((y2.cons sz4 (y2.cons sz43 y2.nil))).to rfl (.cons rfl (.atom rfl) rfl pu1 (.cons rfl .ref rfl (.skip pu1) .nil)) L) t2 t0 (sb (U2 sz45 rF .agg rfl pu2) t2 t1 ?_)
 refine O1 ⟨aok rfl rfl,[(2,_)],[(2,_),(5,_)],t1,t2,?_⟩
 refine G4 [5] (sl:=[(2,_)]) (hb:=[(2,_)]) (M3 hX0) ⟨⟨_,rfl,.same⟩,trivial⟩ ⟨⟨rfl,_,rfl,(.mix (.cons .same (.cons (.ref rfl rfl (by exact sM) (by first | rfl | omega)) .nil)))⟩,trivial⟩ ?_
 refine V1 ?_
 refine Q0 (.agg rfl rfl rfl ag45 sz45 (.cons (.cons .nil))) ?_
 simp
theorem G1h (m n:Bool)(ws vs:List Int)(h1:ws.length<1000000000)(h2:vs.length<1000000000):Y2 E 87 [pR m ws n vs] (pR m ws n vs):=by
 refine j2 (xs:=[pR m ws n vs]) Tryz.func87 rfl Tryz.ntmps87 Tryz.results87 sM fun F hG hX0 hnt hdf P0=>?_
 obtain ⟨L,hX,hN⟩:=pro hnt hX0 hG
 refine exr (swb (R3 (k:=1) (n:=4) pa4 rfl rfl (P0 _ rfl) L) t1 t0 ⟨rfl,rfl⟩ (swb (T3 (k:=2) (n:=4) zv47 (.cons rfl (.cons rfl (.cons rfl (.cons rfl .nil)))) rfl (P0 _ rfl) L) t0 t0 ⟨rfl,rfl⟩ (zn [(1,_),(2,_)] [(1,_),(2,_)] t2 t2 (exd rF ?_))))
 refine sw (Z1 un47 rfl sz45 dC rX L) t1 t1 ?_
 refine lp2 ag45 sz45 L rfl rfl (cK hG hX cl124 hN (n0s m ws oM) L t1 (sw (Z1 un47 rfl sz45 dC rX L) t1 t1 ?_))
 refine lp2 ag45 sz45 L rfl rfl (cK hG hX cl124 hN (n0s n vs oM) L t1 (sw (E6 (vs:=[_,_]) un47 zv47 (.cons rfl (.cons rfl (.cons rfl (.cons rfl .nil)))) ((y2.cons sz45 (y2.cons sz45 y2.nil))).to rfl (.cons rfl pa2 rfl pu2 (.cons rfl pa2 rfl (.skip (.skip pu2)) .nil)) (.cons (.cons (.cons (.cons .nil)))) L) t2 t0 (sb (U2 sz47 rF pa4 rfl pu4) t2 t1 ?_)))
 refine O1 ⟨B5 [⟨[1],[1],[3],[]⟩,⟨[3],[1],[4],[]⟩,⟨[4],[],[5],[]⟩,⟨[1],[1],[6],[]⟩,⟨[6],[1],[7],[]⟩,⟨[7],[],[8],[]⟩,⟨[5,8],[],[9],[]⟩,⟨[2,9],[2],[],[2]⟩] rF rF dC,[(2,_)],[(2,_)],t1,t1,?_⟩
 refine V1 ?_
 refine Q0 (.agg rfl rfl rfl ag47 sz47 (.cons (.cons (.cons (.cons .nil))))) ?_
 rfl
theorem F1m {a:RQ}(ha:a.sm):Y2 E 87 [.agg (cR a)] (.agg (cR a)):=G1h _ _ _ _ ha.2.1 ha.2.2
theorem Q0b:∀ v u:List RQ,d0n (v++u)=d0n v++d0n u
 | [],u=>rfl
 | a :: v,u=>by simp only [L1,d0n,Q0b v u,List.append_assoc]
@[reducible] def f1r (v:List RQ):Blk:=⟨47,4,.pure (d0n v)⟩
theorem K1y (v:List RQ)(a:RQ):(⟨47,4,.pure (d0n v++cR a)⟩:Blk)=f1r (v++[a]):=by rw [f1r,Q0b]; simp [d0n]
theorem Q1a {v:List RQ}{i:Nat}(h:i<v.length):v.take (i+1)=v.take i++[v.getD i default]:=by
 rw [I1]; simp [f0,h]
theorem h0n (v:List RQ)(hl:v.length<1000)(hs:∀ r∈v,r.sm):Y2 E 46 [pVR v] (pVR v):=by
 refine j2 (xs:=[pVR v]) Tryz.func46 rfl Tryz.ntmps46 Tryz.results46 sM fun F hG hX0 hnt hdf P0=>?_
 obtain ⟨L,hX,hN⟩:=pro hnt hX0 hG
 refine exr (aV L rfl (zn [(0,_)] [] t1 trivial (exr (swb (O9 (k:=5) (sz:=4) un40 ti47 (P0 _ rfl) L) t0 t0 ⟨rfl,rfl⟩ (aV L rfl ?_)))))
 refine O1 ⟨[(0,_),(3,.ref 5 0 0 0)],[(5,f1r [])],t2,t1,?_⟩
 refine R1 (exr (aV L rfl (zn [(0,_),(3,_),(4,_)] [(5,_)] t3 t1 (X1 ?_))))
 refine exl (α:=Nat) (fun k=>[(4,vi (k:Int)),(3,.ref 5 0 k (k*4))]) (fun k=>[(5,f1r (v.take k))]) (fun k=>k≤v.length) (fun k=>v.length - k) (0) (sl:=[(0,_)]) (hb:=[]) ?_ ⟨oR,oR,rfl,trivial⟩ t1 ?_
 ·exact Nat.zero_le _
 intro k hk
 refine R1 (exr (mV L rfl (mV L rfl (sw (R2 un40 L) t1 t0 (sw (d4 L) t2 t0 (zn [(0,_),(3,_),(4,_),(9,_)] [(5,_)] t4 t1 ?_))))))
 refine D2 rfl (fun hc=>?_) (fun hc=>?_)
 ·have hc:=dt hc
  have hkl:k<v.length:=by omega
  refine U1 (xq ?_)
  refine R1 (X1 (y3 (mV L rfl (mV L rfl (mV L rfl (sw (F2 un40 sz47 oM oM sM dC L) t2 t0 ?_))))))
  refine sw (F7 ag47 sz47 (Y0g hkl) rfl L) t1 t0 (cK hG hX cl87 hN (F1m (hs _ (gD hkl))) L t1 (sw (F4 (vs:=[_]) un40 ti47 rfl rfl dC dC rfl (M2 (.cons rfl (.cons rfl (.cons rfl (.cons rfl .nil)))) rfl) rfl (.cons rfl pa4 rfl pu4 .nil) (.cons (.cons (.cons (.cons .nil)))) L) t1 t0 (swb (apP (sz:=4) un40 un40 ti47 rfl rfl rfl dC (by exact (by first | (simp; omega) | (simp; done))) oF sM rfl rfl rfl (by first | (simp [Tryz.t47]; done) | (simp [Tryz.t47]; omega)) oM (P0 _ rfl) L) t2 t1 t0 ?_)))
  refine aV L rfl (O1 (y3 (mV L rfl (sw (K3 L (w64 oM oM)) t2 t0 (aV L rfl (O1 ?_))))))
  exact ⟨k+1,oM,by omega,E3 ⟨oR,ov rfl sO,rfl,trivial⟩ ⟨obl rfl ((K1y _ _).trans (by rw [Q1a hkl])),trivial⟩⟩
 ·have hc:=df hc
  have hkl:k=v.length:=by omega
  subst hkl
  rw [I0]
  refine L2 (xq ?_)
  refine G4 [5] (sl:=[(3,_)]) (hb:=[]) (M3 hX0) ⟨⟨_,rfl,(.ref rfl rfl (by exact (by first | (simp; omega) | (simp; done))) (by first | rfl | omega))⟩,trivial⟩ t0 ?_
  refine exr (mV L rfl (aV L rfl (zn [(2,_)] [] t1 trivial (V1 ?_))))
  refine Q0 (.tmp rfl) ?_
  simp
@[reducible] def mRk (m:List (List RQ)):Blk:=⟨40,1,.pure (i9 m)⟩
theorem W1f (m:List (List RQ))(v:List RQ):(⟨40,1,.pure (i9 m++[pVR v])⟩:Blk)=mRk (m++[v]):=by simp [i9]
theorem P1h {m:List (List RQ)}{i:Nat}(h:i<m.length):m.take (i+1)=m.take i++[m.getD i []]:=by
 rw [I1]; simp [f0,h]
theorem N0c (m:List (List RQ))(hl:m.length<1000)(hs:∀ r∈m,r.length<1000∧∀ a∈r,a.sm):Y2 E 86 [pMs m] (pMs m):=by
 refine j2 (xs:=[pMs m]) Tryz.func86 rfl Tryz.ntmps86 Tryz.results86 sM fun F hG hX0 hnt hdf P0=>?_
 obtain ⟨L,hX,hN⟩:=pro hnt hX0 hG
 refine exr (aV L rfl (zn [(0,_)] [] t1 trivial (exr (swb (O9 (k:=5) (sz:=1) un22 ti40 (P0 _ rfl) L) t0 t0 ⟨rfl,rfl⟩ (aV L rfl ?_)))))
 refine O1 ⟨[(0,_),(3,.ref 5 0 0 0)],[(5,mRk [])],t2,t1,?_⟩
 refine R1 (exr (aV L rfl (zn [(0,_),(3,_),(4,_)] [(5,_)] t3 t1 (X1 ?_))))
 refine exl (α:=Nat) (fun k=>[(4,vi (k:Int)),(3,.ref 5 0 k k)]) (fun k=>[(5,mRk (m.take k))]) (fun k=>k≤m.length) (fun k=>m.length - k) (0) (sl:=[(0,_)]) (hb:=[]) ?_ ⟨oR,oR,rfl,trivial⟩ t1 ?_
 ·exact Nat.zero_le _
 intro k hk
 refine R1 (exr (mV L rfl (mV L rfl (sw (R2 un22 L) t1 t0 (sw (d4 L) t2 t0 (zn [(0,_),(3,_),(4,_),(9,_)] [(5,_)] t4 t1 ?_))))))
 refine D2 rfl (fun hc=>?_) (fun hc=>?_)
 ·have hc:=dt hc
  have hkl:k<m.length:=by omega
  have hr:=hs _ (gDL hkl)
  refine U1 (xq ?_)
  refine R1 (X1 (y3 (mV L rfl (mV L rfl (mV L rfl (sw (ixJ un22 sz40 (j:=k) rO oM sM L) t2 t0 ?_))))))
  refine sw (v4 ag40 (d0x hkl) L) t1 t0 (cK hG hX cl46 hN (h0n (m.getD k []) hr.1 hr.2) L t1 (sw (F4 (vs:=[_]) un22 ti40 rfl rfl dC dC rfl (M2 (.cons rfl .nil) rfl) rfl (.cons rfl .sl rfl pu1 .nil) (.cons .nil) L) t1 t0 (swb (apP (sz:=1) un22 un22 ti40 rfl rfl rfl dC (by exact (by first | (simp; omega) | (simp; done))) oF sM rfl rfl rfl (by first | (simp [Tryz.t40]; done) | (simp [Tryz.t40]; omega)) oM (P0 _ rfl) L) t2 t1 t0 ?_)))
  refine aV L rfl (O1 (y3 (mV L rfl (sw (K3 L (w64 oM oM)) t2 t0 (aV L rfl (O1 ?_))))))
  exact ⟨k+1,oM,by omega,E3 ⟨oR,ov rfl sM,rfl,trivial⟩ ⟨obl rfl ((W1f _ _).trans (by rw [P1h hkl])),trivial⟩⟩
 ·have hc:=df hc
  have hkl:k=m.length:=by omega
  subst hkl
  rw [I0]
  refine L2 (xq ?_)
  refine G4 [5] (sl:=[(3,_)]) (hb:=[]) (M3 hX0) ⟨⟨_,rfl,(.ref rfl rfl (by exact (by first | (simp; omega) | (simp; done))) (by first | rfl | omega))⟩,trivial⟩ t0 ?_
  refine exr (mV L rfl (aV L rfl (zn [(2,_)] [] t1 trivial (V1 ?_))))
  refine Q0 (.tmp rfl) ?_
  simp
theorem v0z (c:Int)(m:List (List RQ))(hl:m.length<1000)(hs:∀ r∈m,r.length<1000∧∀ a∈r,a.sm):Y2 E 45 [pMR c m] (pMR c m):=by
 refine j2 (xs:=[pMR c m]) Tryz.func45 rfl Tryz.ntmps45 Tryz.results45 sM fun F hG hX0 hnt hdf P0=>?_
 obtain ⟨L,hX,hN⟩:=pro hnt hX0 hG
 refine exr (swb (R3 (k:=1) (n:=2) pa2 rfl rfl (P0 _ rfl) L) t1 t0 ⟨rfl,rfl⟩ (swb (T3 (k:=2) (n:=2) zv24 (.cons rfl (.cons rfl .nil)) rfl (P0 _ rfl) L) t0 t0 ⟨rfl,rfl⟩ (zn [(1,_),(2,_)] [(1,_),(2,_)] t2 t2 (exd rF ?_))))
 refine sw (Z1 un24 rfl sz3 dC rX L) t1 t1 ?_
 refine sw (Y1 ag3 rF rF L) t1 t1 ?_
 refine sw (Z1 un24 rfl sz22 dC rX L) t1 t1 ?_
 refine sw (Y1 ag22 rF rF L) t1 t1 ?_
 refine cK hG hX cl86 hN (N0c m hl hs) L t1 (sw (E6 (vs:=[_,_]) un24 zv24 (.cons rfl (.cons rfl .nil)) ((y2.cons sz3 (y2.cons sz22 y2.nil))).to rfl (.cons rfl (.atom rfl) rfl pu1 (.cons rfl .sl rfl (.skip pu1) .nil)) (.cons (.cons .nil)) L) t2 t0 (sb (U2 sz24 rF pa2 rfl pu2) t2 t1 ?_))
 refine O1 ⟨B5 [⟨[1],[1],[3],[]⟩,⟨[3],[1],[4],[]⟩,⟨[1],[1],[5],[]⟩,⟨[5],[1],[6],[]⟩,⟨[6],[],[7],[]⟩,⟨[4,7],[],[8],[]⟩,⟨[2,8],[2],[],[2]⟩] rF rF dC,[(2,_)],[(2,_)],t1,t1,?_⟩
 refine V1 ?_
 refine Q0 (.agg rfl rfl rfl ag24 sz24 (.cons (.cons .nil))) ?_
 rfl
def M0a (v:List RQ):Bool:=decide (v.length≤6) && v.all (smW 3)
def w9 (c:Int)(m:List (List RQ)):Bool:=decide (m.length≤6∧c≤6) && m.all M0a
theorem s8 (c:Int)(m:List (List RQ)):Y2 E 44 [pMR c m] (bZ (w9 c m)):=by
 refine j2 (xs:=[bZ (w9 c m)]) Tryz.func44 rfl Tryz.ntmps44 Tryz.results44 sM fun F hG hX0 hnt hdf P0=>?_
 obtain ⟨L,hX,hN⟩:=pro hnt hX0 hG
 refine exr (swb (R3 (k:=1) (n:=2) pa2 rfl rfl (P0 _ rfl) L) t1 t0 ⟨rfl,rfl⟩ (aV L rfl (zn [(1,_)] [(1,_)] t1 t1 (R1 ?_))))
 refine exm (sl:=[(13,vb (!decide (m.length≤6∧c≤6)))]) (sl0:=[(1,_)]) (hb:=[]) (hb0:=[(1,_)]) t1 t1 ?_ ?_
 ·by_cases h:6<m.length
  ·refine sw (Z1 un24 rfl sz22 dC rX L) t1 t1 ?_
   refine sw (Y1 ag22 rF rF L) t1 t1 ?_
   refine sw (R2 un22 L) t1 t0 (sw (X6 L) t2 t0 (mV L rfl (swn (g:=9) rfl sO L rfl (swn (g:=9) rfl sO L rfl (swn (g:=9) rfl sO L rfl (sw (m4 sO L) t2 t0 ?_))))))
   exact O1 ⟨⟨ob rfl (by rw [decide_eq_false (show ¬ (m.length≤6∧c≤6) by omega)] <;> rfl),rfl,trivial⟩,t1⟩
  ·refine sw (Z1 un24 rfl sz22 dC rX L) t1 t1 ?_
   refine sw (Y1 ag22 rF rF L) t1 t1 ?_
   refine sw (R2 un22 L) t1 t0 (sw (X6 L) t2 t0 (mV L rfl (swg (g:=9) rfl sO (Z1 un24 rfl sz3 dC rX L) rfl t1 t1 ?_)))
   refine swg (g:=9) rfl sO (Y1 ag3 rF rF L) rfl t1 t1 ?_
   refine swg (g:=9) rfl sO (X6 L) rfl t2 t0 (sw (V3 sO L) t2 t0 ?_)
   exact O1 ⟨⟨ob rfl (by rw [Bool.eq_iff_iff]; simp; omega),rfl,trivial⟩,t1⟩
 refine D2 rfl (fun hc=>?_) (fun hc=>?_)
 ·have hc:¬ (m.length≤6∧c≤6):=by simp only [Bool.not_eq_true',decide_eq_false_iff_not] at hc; exact hc
  refine exr (aV L rfl (zn [(2,_)] [] t1 trivial (V1 ?_)))
  refine Q0 (.tmp rfl) ?_
  rw [w9,decide_eq_false hc,Bool.false_and]
 ·have hc:m.length≤6∧c≤6:=by simpa using hc
  refine U1 (xq ?_)
  refine R1 (exr (aV L rfl (zn [(1,_),(3,_)] [(1,_)] t2 t1 (X1 ?_))))
  refine exl (α:=Nat) (fun k=>[(3,vi (k:Int))]) (fun k=>[]) (fun k=>k≤m.length∧(m.take k).all M0a=true) (fun k=>m.length - k) (0) (sl:=[(1,_)]) (hb:=[(1,_)]) ?_ ⟨oR,rfl,trivial⟩ t1 ?_
  ·exact ⟨Nat.zero_le _,rfl⟩
  intro k hk
  obtain ⟨hk,hw⟩:=hk
  refine R1 (exr (mV L rfl (sw (Z1 un24 rfl sz22 dC rX L) t1 t1 ?_)))
  refine sw (Y1 ag22 rF rF L) t1 t1 ?_
  refine sw (R2 un22 L) t1 t0 (sw (d4 L) t2 t0 (zn [(1,_),(3,_),(18,_)] [(1,_)] t3 t1 ?_))
  refine D2 rfl (fun he=>?_) (fun he=>?_)
  ·have he:=dt he
   have hk2:k<m.length:=by omega
   have hrow:=d0x hk2
   obtain ⟨r,hr⟩:∃ r,r=m.getD k []:=⟨_,rfl⟩
   rw [← hr] at hrow
   refine U1 (xq ?_)
   refine R1 (X1 (R1 (exr (sw (Z1 un24 rfl sz22 dC rX L) t1 t1 ?_))))
   refine sw (Y1 ag22 rF rF L) t1 t1 ?_
   refine mV L rfl (sw (ixJ un22 sz40 (j:=k) rO oM sM L) t2 t0 ?_)
   refine sw (v4 ag40 hrow L) t1 t0 (sw (R2 un40 L) t1 t0 (sw (X6 L) t2 t0 (zn [(1,_),(3,_),(27,_)] [(1,_)] t3 t1 ?_)))
   refine D2 rfl (fun hf=>?_) (fun hf=>?_)
   ·have hf:=dt hf
    refine exr (aV L rfl (zn [(2,_)] [] t1 trivial (V1 ?_)))
    refine Q0 (.tmp rfl) ?_
    rw [w9,F0y (gDL hk2) (by rw [← hr,M0a,decide_eq_false oM]; rfl),Bool.and_false]
   ·have hf:=df hf
    refine U1 (xq ?_)
    refine exr (aV L rfl (zn [(1,_),(3,_),(4,_)] [(1,_)] t3 t1 (X1 ?_)))
    refine exl (α:=Nat) (fun i=>[(4,vi (i:Int))]) (fun i=>[]) (fun i=>i≤r.length∧(r.take i).all (smW 3)=true) (fun i=>r.length - i) (0) (sl:=[(1,_),(3,_)]) (hb:=[(1,_)]) ?_ ⟨oR,rfl,rfl,trivial⟩ t1 ?_
    ·exact ⟨Nat.zero_le _,rfl⟩
    intro i hi
    obtain ⟨hi,hx⟩:=hi
    refine R1 (exr (mV L rfl (sw (Z1 un24 rfl sz22 dC rX L) t1 t1 ?_)))
    refine sw (Y1 ag22 rF rF L) t1 t1 ?_
    refine mV L rfl (sw (ixJ un22 sz40 (j:=k) rO oM sM L) t2 t0 ?_)
    refine sw (v4 ag40 hrow L) t1 t0 (sw (R2 un40 L) t1 t0 (sw (d4 L) t2 t0 (zn [(1,_),(3,_),(4,_),(35,_)] [(1,_)] t4 t1 ?_)))
    refine D2 rfl (fun hg=>?_) (fun hg=>?_)
    ·have hg:=dt hg
     have hi2:i<r.length:=by omega
     have ha:=P1a hi2
     have hd:=P1k hi2
     obtain ⟨q,hq⟩:∃ q,q=r.getD i default:=⟨_,rfl⟩
     rw [← hq] at ha hd
     refine U1 (xq ?_)
     refine R1 (X1 ?_)
     refine exm (sl:=[(63,vb (!smW 3 q))]) (sl0:=[(1,_),(3,_),(4,_)]) (hb:=[]) (hb0:=[(1,_)]) t3 t1 ?_ ?_
     ·rcases or3 ((q.ws.length:Int) > 3) ((q.vs.length:Int) > 3) with h1 | ⟨h1,h2⟩ | ⟨h1,h2⟩
      ·refine sw (Z1 un24 rfl sz22 dC rX L) t1 t1 ?_
       refine sw (Y1 ag22 rF rF L) t1 t1 ?_
       refine mV L rfl (sw (ixJ un22 sz40 (j:=k) rO oM sM L) t2 t0 ?_)
       refine sw (v4 ag40 hrow L) t1 t0 (mV L rfl (sw (F2 un40 sz47 oM oM sM dC L) t2 t0 ?_))
       refine sw (G0n un47 rfl sz45 dC L) t1 t0 (sw (G0n un45 rfl sz43 dC L) t1 t0 (sw (v4 ag43 ha L) t1 t0 (sw (R2 un43 L) t1 t0 (sw (X6 L) t2 t0 (mV L rfl (swn (g:=50) rfl (decide_eq_true h1) L rfl (swn (g:=50) rfl (decide_eq_true h1) L rfl (swn (g:=50) rfl (decide_eq_true h1) L rfl (swn (g:=50) rfl (decide_eq_true h1) L rfl (swn (g:=50) rfl (decide_eq_true h1) L rfl (swn (g:=50) rfl (decide_eq_true h1) L rfl ?_)))))))))))
       refine swn (g:=50) rfl (decide_eq_true h1) L rfl (swn (g:=50) rfl (decide_eq_true h1) L rfl (swn (g:=50) rfl (decide_eq_true h1) L rfl (swn (g:=50) rfl (decide_eq_true h1) L rfl (swn (g:=50) rfl (decide_eq_true h1) L rfl (swn (g:=50) rfl (decide_eq_true h1) L rfl (sw (m4 (decide_eq_true h1) L) t2 t0 ?_))))))
       exact O1 ⟨⟨ob rfl (by rw [smW,decide_eq_false oM] <;> rfl),rfl,rfl,rfl,trivial⟩,t1⟩
      ·refine sw (Z1 un24 rfl sz22 dC rX L) t1 t1 ?_
       refine sw (Y1 ag22 rF rF L) t1 t1 ?_
       refine mV L rfl (sw (ixJ un22 sz40 (j:=k) rO oM sM L) t2 t0 ?_)
       refine sw (v4 ag40 hrow L) t1 t0 (mV L rfl (sw (F2 un40 sz47 oM oM sM dC L) t2 t0 ?_))
       refine sw (G0n un47 rfl sz45 dC L) t1 t0 (sw (G0n un45 rfl sz43 dC L) t1 t0 (sw (v4 ag43 ha L) t1 t0 (sw (R2 un43 L) t1 t0 (sw (X6 L) t2 t0 (mV L rfl (swg (g:=50) rfl (decide_eq_false h1) (Z1 un24 rfl sz22 dC rX L) rfl t1 t1 ?_))))))
       refine swg (g:=50) rfl (decide_eq_false h1) (Y1 ag22 rF rF L) rfl t1 t1 ?_
       refine gV (g:=50) rfl (decide_eq_false h1) L rfl rfl (swg (g:=50) rfl (decide_eq_false h1) (ixJ un22 sz40 (j:=k) rO oM sM L) rfl t2 t0 ?_)
       refine swg (g:=50) rfl (decide_eq_false h1) (v4 ag40 hrow L) rfl t1 t0 (gV (g:=50) rfl (decide_eq_false h1) L rfl rfl (swg (g:=50) rfl (decide_eq_false h1) (F2 un40 sz47 oM oM sM dC L) rfl t2 t0 ?_))
       refine swg (g:=50) rfl (decide_eq_false h1) (G0n un47 rfl sz45 dC L) rfl t1 t0 (swg (g:=50) rfl (decide_eq_false h1) (G0n un45 rfl sz43 dC L) rfl t1 t0 (swg (g:=50) rfl (decide_eq_false h1) (v4 ag43 hd L) rfl t1 t0 (swg (g:=50) rfl (decide_eq_false h1) (R2 un43 L) rfl t1 t0 (swg (g:=50) rfl (decide_eq_false h1) (X6 L) rfl t2 t0 (sw (V3 (decide_eq_false h1) L) t2 t0 ?_)))))
       exact O1 ⟨⟨ob rfl (by rw [smW,decide_eq_false (show ¬ (q.ws.length≤3∧q.vs.length≤3) by omega),decide_eq_true h2] <;> rfl),rfl,rfl,rfl,trivial⟩,t1⟩
      ·refine sw (Z1 un24 rfl sz22 dC rX L) t1 t1 ?_
       refine sw (Y1 ag22 rF rF L) t1 t1 ?_
       refine mV L rfl (sw (ixJ un22 sz40 (j:=k) rO oM sM L) t2 t0 ?_)
       refine sw (v4 ag40 hrow L) t1 t0 (mV L rfl (sw (F2 un40 sz47 oM oM sM dC L) t2 t0 ?_))
       refine sw (G0n un47 rfl sz45 dC L) t1 t0 (sw (G0n un45 rfl sz43 dC L) t1 t0 (sw (v4 ag43 ha L) t1 t0 (sw (R2 un43 L) t1 t0 (sw (X6 L) t2 t0 (mV L rfl (swg (g:=50) rfl (decide_eq_false h1) (Z1 un24 rfl sz22 dC rX L) rfl t1 t1 ?_))))))
       refine swg (g:=50) rfl (decide_eq_false h1) (Y1 ag22 rF rF L) rfl t1 t1 ?_
       refine gV (g:=50) rfl (decide_eq_false h1) L rfl rfl (swg (g:=50) rfl (decide_eq_false h1) (ixJ un22 sz40 (j:=k) rO oM sM L) rfl t2 t0 ?_)
       refine swg (g:=50) rfl (decide_eq_false h1) (v4 ag40 hrow L) rfl t1 t0 (gV (g:=50) rfl (decide_eq_false h1) L rfl rfl (swg (g:=50) rfl (decide_eq_false h1) (F2 un40 sz47 oM oM sM dC L) rfl t2 t0 ?_))
       refine swg (g:=50) rfl (decide_eq_false h1) (G0n un47 rfl sz45 dC L) rfl t1 t0 (swg (g:=50) rfl (decide_eq_false h1) (G0n un45 rfl sz43 dC L) rfl t1 t0 (swg (g:=50) rfl (decide_eq_false h1) (v4 ag43 hd L) rfl t1 t0 (swg (g:=50) rfl (decide_eq_false h1) (R2 un43 L) rfl t1 t0 (swg (g:=50) rfl (decide_eq_false h1) (X6 L) rfl t2 t0 (sw (V3 (decide_eq_false h1) L) t2 t0 ?_)))))
       exact O1 ⟨⟨ob rfl (by rw [smW,decide_eq_true (show q.ws.length≤3∧q.vs.length≤3 by omega),decide_eq_false h2] <;> rfl),rfl,rfl,rfl,trivial⟩,t1⟩
     refine D2 rfl (fun hy=>?_) (fun hy=>?_)
     ·have hy:smW 3 q=false:=by simpa using hy
      rw [hq] at hy
      refine exr (aV L rfl (zn [(2,_)] [] t1 trivial (V1 ?_)))
      refine Q0 (.tmp rfl) ?_
      rw [w9,F0y (gDL hk2) (by rw [← hr,M0a,F0y (gD hi2) hy,Bool.and_false]),Bool.and_false]
     ·have hy:smW 3 q=true:=by simpa using hy
      rw [hq] at hy
      refine U1 (xq ?_)
      refine y3 (mV L rfl (sw (K3 L (w64 oM oM)) t2 t0 (aV L rfl (O1 ?_))))
      exact ⟨i+1,⟨by omega,n0r hi2 hx hy⟩,by omega,E3 ⟨oR,rfl,rfl,trivial⟩ t1⟩
    ·have hg:=df hg
     rw [show i=r.length by omega,I0] at hx
     refine L2 (xq ?_)
     refine y3 (mV L rfl (sw (K3 L (w64 oM oM)) t2 t0 (aV L rfl (O1 ?_))))
     exact ⟨k+1,⟨by omega,n0r hk2 hw (by rw [← hr,M0a,hx,decide_eq_true oM]; rfl)⟩,by omega,E3 ⟨oR,rfl,trivial⟩ t1⟩
  ·have he:=df he
   refine L2 (xq ?_)
   refine exr (aV L rfl (zn [(2,_)] [] t1 trivial (V1 ?_)))
   refine Q0 (.tmp rfl) ?_
   rw [show k=m.length by omega,I0] at hw; rw [w9,hw,decide_eq_true hc]; rfl
theorem N0n {r:List RQ}(hw:∀ a∈r,a.wd)(h:M0a r=true):r.length<1000∧∀ a∈r,a.sm:=by
 rw [M0a,j0,decide_eq_true_iff,s0] at h
 refine ⟨by omega,fun a ha=>?_⟩
 have h2:=h.2 a ha
 rw [smW,decide_eq_true_iff] at h2
 exact ⟨hw a ha,by omega,by omega⟩
theorem g1c {c:Int}{m:List (List RQ)}(hw:WdM m)(h:w9 c m=true):m.length<1000∧∀ r∈m,r.length<1000∧∀ a∈r,a.sm:=by
 rw [w9,j0,decide_eq_true_iff,s0] at h
 exact ⟨by omega,fun r hr=>N0n (hw r hr) (h.2 r hr)⟩
theorem M0y {r:List RQ}(h:M0a r=true):smV 14 r=true:=by
 rw [M0a,j0,decide_eq_true_iff,s0] at h
 rw [smV,j0,decide_eq_true_iff,s0]
 refine ⟨by omega,fun a ha=>?_⟩
 have h2:=h.2 a ha
 rw [smW,decide_eq_true_iff] at h2 ⊢
 omega
theorem B0h {c:Int}{m:List (List RQ)}(h:w9 c m=true):Y6 14 c m=true:=by
 rw [w9,j0,decide_eq_true_iff,s0] at h
 rw [Y6,j0,decide_eq_true_iff,s0]
 exact ⟨by omega,fun r hr=>M0y (h.2 r hr)⟩
theorem M0q {m:List (List RQ)}(h:m.length<1000∧∀ r∈m,r.length<1000∧∀ a∈r,a.sm):MSm m:=⟨by omega,fun r hr=>⟨by have:=(h.2 r hr).1; omega,(h.2 r hr).2⟩⟩
theorem D0a {c:Int}{m:List (List RQ)}(h:MSm m):Y2 E 17 [pMR c m,pMR c m] (bZ true):=by
 have:=w0a c c m m h h
 rwa [decide_eq_true ⟨rfl,rfl⟩] at this
theorem G0h {v:List RQ}(h:v.length<1000∧∀ a∈v,a.sm):Y2 E 29 [pVR v,pVR v] (bZ true):=by
 have:=h0s v v oM h.2 h.2
 rwa [decide_eq_true rfl] at this
theorem G1g (v w:List RQ):Y2 E 44 [.agg [vZ v.length,.sl 2 [pVR v,pVR w]]] (bZ (w9 v.length [v,w])):=s8 v.length [v,w]
theorem b1k (c d:Int)(m l:List (List RQ))(v w:List RQ)(hwm:WdM m)(hwl:WdM l)(hvw:∀ r∈v,r.wd)(hww:∀ r∈w,r.wd):Y2 E 10 [pMR c m,pMR d l,pVR v,pVR w] (bZ true):=by
 refine j2 (xs:=[bZ true]) Tryz.func10 rfl Tryz.ntmps10 Tryz.results10 sM fun F hG hX0 hnt hdf P0=>?_
 obtain ⟨L,hX,hN⟩:=pro hnt hX0 hG
 refine exr (swb (R3 (k:=4) (n:=2) pa2 rfl rfl (P0 _ rfl) L) t1 t0 ⟨rfl,rfl⟩ (swb (R3 (k:=5) (n:=2) pa2 rfl rfl (P0 _ rfl) L) t1 t0 ⟨rfl,rfl⟩ (aV L rfl (zn [(2,_),(3,_),(4,_),(5,_)] [(4,_),(5,_)] t4 t2 (R1 ?_)))))
 refine exm (sl:=[(30,vb (!(w9 c m && w9 d l && w9 v.length [v,w])))]) (sl0:=[(2,_),(3,_),(4,_),(5,_)]) (hb:=[]) (hb0:=[(4,_),(5,_)]) t4 t2 ?_ ?_
 ·rcases (by cases h1:w9 c m; exact .inl rfl; cases h2:w9 d l; exact .inr (.inl ⟨rfl,rfl⟩); exact .inr (.inr ⟨rfl,rfl⟩):w9 c m=false∨(w9 c m=true∧w9 d l=false)∨(w9 c m=true∧w9 d l=true)) with h1 | ⟨h1,h2⟩ | ⟨h1,h2⟩
  ·refine lp2 ag24 sz24 L rfl rfl (cK hG hX cl44 hN (s8 c m) L t1 (sw (P3 L) t1 t0 (mV L rfl (swn (g:=16) rfl (by rw [h1] <;> rfl) L rfl ?_))))
   refine swn (g:=16) rfl (by rw [h1] <;> rfl) L rfl ?_
   refine swn (g:=16) rfl (by rw [h1] <;> rfl) L rfl ?_
   refine sw (m4 (by rw [h1] <;> rfl) L) t2 t0 ?_
   refine mV L rfl (swn (g:=21) rfl rfl L rfl (swn (g:=21) rfl rfl L rfl (swn (g:=21) rfl rfl L rfl (swn (g:=21) rfl rfl L rfl (swn (g:=21) rfl rfl L rfl (swn (g:=21) rfl rfl L rfl (swn (g:=21) rfl rfl L rfl (swn (g:=21) rfl rfl L rfl (sw (m4 rfl L) t2 t0 ?_)))))))))
   exact O1 ⟨⟨ob rfl (by rw [h1] <;> rfl),rfl,rfl,rfl,rfl,trivial⟩,t2⟩
  ·refine lp2 ag24 sz24 L rfl rfl (cK hG hX cl44 hN (s8 c m) L t1 (sw (P3 L) t1 t0 (mV L rfl (swg (g:=16) rfl (by rw [h1] <;> rfl) (l6 ag24 sz24 rF (by exact al2) rfl L) rfl t1 t1 ?_))))
   refine swg (g:=16) rfl (by rw [h1] <;> rfl) (c_c hG hX cl44 rfl hN (s8 d l) L) rfl t1 t0 ?_
   refine swg (g:=16) rfl (by rw [h1] <;> rfl) (P3 L) rfl t1 t0 ?_
   refine sw (V3 (by rw [h1] <;> rfl) L) t2 t0 ?_
   refine mV L rfl (swn (g:=21) rfl (by rw [h2] <;> rfl) L rfl ?_)
   refine swn (g:=21) rfl (by rw [h2] <;> rfl) L rfl ?_
   refine swn (g:=21) rfl (by rw [h2] <;> rfl) L rfl ?_
   refine swn (g:=21) rfl (by rw [h2] <;> rfl) L rfl ?_
   refine swn (g:=21) rfl (by rw [h2] <;> rfl) L rfl ?_
   refine swn (g:=21) rfl (by rw [h2] <;> rfl) L rfl ?_
   refine swn (g:=21) rfl (by rw [h2] <;> rfl) L rfl ?_
   refine swn (g:=21) rfl (by rw [h2] <;> rfl) L rfl ?_
   refine sw (m4 (by rw [h2] <;> rfl) L) t2 t0 ?_
   exact O1 ⟨⟨ob rfl (by rw [h1,h2] <;> rfl),rfl,rfl,rfl,rfl,trivial⟩,t2⟩
  ·refine lp2 ag24 sz24 L rfl rfl (cK hG hX cl44 hN (s8 c m) L t1 (sw (P3 L) t1 t0 (mV L rfl (swg (g:=16) rfl (by rw [h1] <;> rfl) (l6 ag24 sz24 rF (by exact al2) rfl L) rfl t1 t1 ?_))))
   refine swg (g:=16) rfl (by rw [h1] <;> rfl) (c_c hG hX cl44 rfl hN (s8 d l) L) rfl t1 t0 ?_
   refine swg (g:=16) rfl (by rw [h1] <;> rfl) (P3 L) rfl t1 t0 ?_
   refine sw (V3 (by rw [h1] <;> rfl) L) t2 t0 ?_
   refine mV L rfl (gV (g:=21) rfl (by rw [h2] <;> rfl) L rfl rfl ?_)
   refine swg (g:=21) rfl (by rw [h2] <;> rfl) (R2 un40 L) rfl t1 t0 ?_
   refine gV (g:=21) rfl (by rw [h2] <;> rfl) L rfl rfl ?_
   refine gV (g:=21) rfl (by rw [h2] <;> rfl) L rfl rfl ?_
   refine swg (g:=21) rfl (by rw [h2] <;> rfl) (F4 (vs:=[_,_]) un22 ti40 rfl rfl dC dC rfl (M2 (.cons rfl .nil) rfl) rfl (.cons rfl .sl rfl pu1 (.cons rfl .sl rfl (.skip pu1) .nil)) (.cons (.cons .nil)) L) rfl t2 t0 ?_
   refine swg (g:=21) rfl (by rw [h2] <;> rfl) (E6 (vs:=[_,_]) un24 zv24 (.cons rfl (.cons rfl .nil)) ((y2.cons sz3 (y2.cons sz22 y2.nil))).to rfl (.cons rfl (.atom rfl) rfl pu1 (.cons rfl .sl rfl (.skip pu1) .nil)) (.cons (.cons .nil)) L) rfl t2 t0 ?_
   refine swg (g:=21) rfl (by rw [h2] <;> rfl) (c_c hG hX cl44 rfl hN (G1g v w) L) rfl t1 t0 ?_
   refine swg (g:=21) rfl (by rw [h2] <;> rfl) (P3 L) rfl t1 t0 ?_
   refine sw (V3 (by rw [h2] <;> rfl) L) t2 t0 ?_
   exact O1 ⟨⟨ob rfl (by rw [h1,h2] <;> rfl),rfl,rfl,rfl,rfl,trivial⟩,t2⟩
 refine D2 rfl (fun hc=>?_) (fun hc=>?_)
 ·refine exr (cK hG hX cl12 hN H0w L t0 (aV L rfl (zn [(8,_)] [] t1 trivial (V1 ?_))))
  refine Q0 (.tmp rfl) ?_
  rfl
 ·have hc:w9 c m=true∧w9 d l=true∧w9 v.length [v,w]=true:=by simpa [and_assoc] using hc
  obtain ⟨h1,h2,h3⟩:=hc
  rw [w9,j0,s0] at h3
  have hv:=h3.2 v sM
  have hw:=h3.2 w sM
  have vs:=N0n hvw hv
  have ws:=N0n hww hw
  have ms:=g1c hwm h1
  have ls:=g1c hwl h2
  have h4:=B0h h1
  have h5:=B0h h2
  have hv:=M0y hv
  have hw:=M0y hw
  obtain ⟨_,_,_,a1⟩:=D1v hwm h4 hwl h5
  obtain ⟨_,_,_,a2⟩:=k1h hwm h4
  obtain ⟨_,_,_,_,a3⟩:=D1q hwm h4
  obtain ⟨_,_,a4⟩:=G1c hwm h4
  obtain ⟨_,_,_,a5⟩:=j1a hwm hvw h4 hv
  obtain ⟨_,a6,_⟩:=Y0h hwm hvw hww h4 hv hw
  obtain ⟨_,_,a7⟩:=F1y hwl h5
  obtain ⟨_,_,_,a8⟩:=D1s hwl h5
  obtain ⟨_,_,_,a9⟩:=y1v hwm hww (by rw [Y6,j0,decide_eq_true_iff] at h4; omega) (by rw [Y6,j0] at h4; exact h4.2) hw
  refine U1 (xq ?_)
  refine exd rF ?_
  refine lp2 ag24 sz24 L rfl rfl (cK hG hX cl45 hN (v0z c m ms.1 ms.2) L t1 (lp2 ag24 sz24 L rfl rfl (cK hG hX cl45 hN (v0z d l ls.1 ls.2) L t1 (mV L rfl (cK hG hX cl46 hN (h0n v vs.1 vs.2) L t1 (mV L rfl (cK hG hX cl46 hN (h0n w ws.1 ws.2) L t1 (swb (T3 (k:=9) (n:=2) zv24 (.cons rfl (.cons rfl .nil)) rfl (P0 _ rfl) L) t0 t0 ⟨rfl,rfl⟩ (swb (T3 (k:=10) (n:=2) zv24 (.cons rfl (.cons rfl .nil)) rfl (P0 _ rfl) L) t0 t0 ⟨rfl,rfl⟩ (sb (U2 sz24 rF pa2 rfl pu2) t2 t1 ?_))))))))))
  refine sb (U2 sz24 rF pa2 rfl pu2) t2 t1 ?_
  refine aV L rfl (aV L rfl ?_)
  refine O1 ⟨aok rfl rfl,[(2,_),(3,_),(4,_),(5,_),(9,_),(10,_),(11,_),(12,_)],[(4,_),(5,_),(9,_),(10,_)],t8,t4,?_⟩
  refine exr (lp2 ag24 sz24 L rfl rfl (cK hG hX cl40 hN (w6 c m (M0q ms)) L t1 (zn [(2,_),(3,_),(4,_),(5,_),(9,_),(10,_),(11,_),(12,_)] [(4,_),(5,_),(9,_),(10,_)] t8 t4 (exr (lp2 ag24 sz24 L rfl rfl (lp2 ag24 sz24 L rfl rfl (cK hG hX cl41 hN a1 L t2 (zn [(2,_),(3,_),(4,_),(5,_),(9,_),(10,_),(11,_),(12,_)] [(4,_),(5,_),(9,_),(10,_)] t8 t4 (exr (lp2 ag24 sz24 L rfl rfl (cK hG hX cl38 hN a2 L t1 ?_)))))))))))
  refine zn [(2,_),(3,_),(4,_),(5,_),(9,_),(10,_),(11,_),(12,_)] [(4,_),(5,_),(9,_),(10,_)] t8 t4 (exr (lp2 ag24 sz24 L rfl rfl (cK hG hX cl13 hN a3 L t1 (zn [(2,_),(3,_),(4,_),(5,_),(9,_),(10,_),(11,_),(12,_)] [(4,_),(5,_),(9,_),(10,_)] t8 t4 (exr (lp2 ag24 sz24 L rfl rfl (cK hG hX cl14 hN a4 L t1 (zn [(2,_),(3,_),(4,_),(5,_),(9,_),(10,_),(11,_),(12,_)] [(4,_),(5,_),(9,_),(10,_)] t8 t4 (exr (lp2 ag24 sz24 L rfl rfl (mV L rfl ?_)))))))))))
  refine cK hG hX cl24 hN a5 L t2 (zn [(2,_),(3,_),(4,_),(5,_),(9,_),(10,_),(11,_),(12,_)] [(4,_),(5,_),(9,_),(10,_)] t8 t4 (exr (lp2 ag24 sz24 L rfl rfl (mV L rfl (mV L rfl (cK hG hX cl25 hN a6 L t3 (zn [(2,_),(3,_),(4,_),(5,_),(9,_),(10,_),(11,_),(12,_)] [(4,_),(5,_),(9,_),(10,_)] t8 t4 (exr (lp2 ag24 sz24 L rfl rfl (cK hG hX cl31 hN a7 L t1 (zn [(2,_),(3,_),(4,_),(5,_),(9,_),(10,_),(11,_),(12,_)] [(4,_),(5,_),(9,_),(10,_)] t8 t4 ?_)))))))))))
  refine exr (lp2 ag24 sz24 L rfl rfl (cK hG hX cl42 hN a8 L t1 (zn [(2,_),(3,_),(4,_),(5,_),(9,_),(10,_),(11,_),(12,_)] [(4,_),(5,_),(9,_),(10,_)] t8 t4 (exr (sw (Z1 un24 rfl sz22 dC rX L) t1 t1 ?_)))))
  refine sw (Y1 ag22 rF rF L) t1 t1 ?_
  refine mV L rfl (cK hG hX cl30 hN a9 L t2 (zn [(2,_),(3,_),(4,_),(5,_),(9,_),(10,_),(11,_),(12,_)] [(4,_),(5,_),(9,_),(10,_)] t8 t4 (exr (cK hG hX cl12 hN H0w L t0 (mV L rfl (swg (g:=67) rfl rfl (l6 ag24 sz24 rF (by exact al2) rfl L) rfl t1 t1 ?_))))))
  refine swg (g:=67) rfl rfl (l6 ag24 sz24 rF (by exact al2) rfl L) rfl t1 t1 ?_
  refine swg (g:=67) rfl rfl (c_c hG hX cl17 rfl hN (D0a (M0q ms)) L) rfl t2 t0 (sw (m4 rfl L) t2 t0 (mV L rfl (swg (g:=72) rfl rfl (l6 ag24 sz24 rF (by exact al2) rfl L) rfl t1 t1 ?_)))
  refine swg (g:=72) rfl rfl (l6 ag24 sz24 rF (by exact al2) rfl L) rfl t1 t1 ?_
  refine swg (g:=72) rfl rfl (c_c hG hX cl17 rfl hN (D0a (M0q ls)) L) rfl t2 t0 (sw (m4 rfl L) t2 t0 (mV L rfl (gV (g:=77) rfl rfl L rfl rfl (gV (g:=77) rfl rfl L rfl rfl (swg (g:=77) rfl rfl (c_c hG hX cl29 rfl hN (G0h vs) L) rfl t2 t0 (sw (m4 rfl L) t2 t0 (mV L rfl (gV (g:=82) rfl rfl L rfl rfl (gV (g:=82) rfl rfl L rfl rfl (swg (g:=82) rfl rfl (c_c hG hX cl29 rfl hN (G0h ws) L) rfl t2 t0 (sw (m4 rfl L) t2 t0 ?_)))))))))))
  refine aV L rfl (zn [(8,_)] [] t1 trivial (V1 ?_))
  refine Q0 (.tmp rfl) ?_
  rfl
end Go.Proofs.YtjagfionflbjbaaGreat.N
