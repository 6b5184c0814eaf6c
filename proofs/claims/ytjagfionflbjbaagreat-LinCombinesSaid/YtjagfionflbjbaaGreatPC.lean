/- Part C of the proof: lemmas for the walks of the given functions. No statement of its own. -/
import Derived.Laws.IdiomStrings
import Derived.RangeFuncRecord
import Derived.RangeFuncIn
import Derived.RangeFuncLeaves
import Derived.Lib.ItoaNum
import Derived.RangeFuncSeq
import Derived.Test.YtjagfionflbjbaaGreatPB
set_option linter.unusedVariables false
set_option linter.unusedSimpArgs false
set_option linter.deprecated false
set_option maxRecDepth 100000
set_option maxHeartbeats 4000000
namespace Go.Proofs.YtjagfionflbjbaaGreat.N
open Go Go.Proofs.YtjagfionflbjbaaGreat.SH Go.Proofs.YtjagfionflbjbaaGreat.NumA
open Go.Proofs.Tryz renaming call129→cl129,call131→cl131,call138→cl138,call149→cl149,call150→cl150,call151→cl151,call153→cl153,call161→cl161,isAgg43→ag43,isAgg45→ag45,isAgg4→ag4,sizeOf43→sz43,sizeOf45→sz45,sizeOf4→sz4,typeInfo119→ti119,typeInfo45→ti45,underlying139→un139,underlying43→un43,underlying45→un45,underlying4→un4,zeroValue45→zv45
theorem H1z (m n:Bool)(ws vs:List Int)(hl:ws.length<999999999999)(hl2:vs.length<999999999999)(h:Wd ws)(h2:Wd vs):v3 E 152 [pI m ws,pI n vs] (.tup [pZ (dQ m n ws vs),pZ (dR m n ws vs),vZ (dE m n ws vs)]):=by
 refine D2 (xs:=[pZ (dQ m n ws vs),pZ (dR m n ws vs),vZ (dE m n ws vs)]) Tryz.func152 rfl Tryz.ntmps152 Tryz.results152 sM fun F hG hX0 hnt hdf P0=>?_
 obtain ⟨L,hX,hN⟩:=pro hnt hX0 hG
 refine exr (swb (U3 (k:=2) (n:=2) pa2 rfl rfl (P0 _ rfl) L) t1 t0 ⟨rfl,rfl⟩ (swb (U3 (k:=3) (n:=2) pa2 rfl rfl (P0 _ rfl) L) t1 t0 ⟨rfl,rfl⟩ (swb (R3 (k:=4) (n:=2) zv45 (.cons rfl (.cons rfl .nil)) rfl (P0 _ rfl) L) t0 t0 ⟨rfl,rfl⟩ (swb (R3 (k:=5) (n:=2) zv45 (.cons rfl (.cons rfl .nil)) rfl (P0 _ rfl) L) t0 t0 ⟨rfl,rfl⟩ (aV L rfl (zn [(2,_),(3,_),(4,_),(5,_)] [(2,_),(3,_),(4,_),(5,_)] t4 t4 (R1 (exr (lp2 ag45 sz45 L rfl rfl (lp2 ag45 sz45 L rfl rfl (sw (q4 (vs:=[_,_]) un139 ti45 rfl rfl dC dC rfl (K2 (.cons rfl (.cons rfl .nil)) rfl) rfl (.cons rfl pa2 rfl pu2 (.cons rfl pa2 rfl (.skip (.skip pu2)) .nil)) (.cons (.cons (.cons (.cons .nil)))) L) t2 t0 ?_)))))))))))
 refine cK hG hX cl138 hN (f0m [(m,ws),(n,vs)] sM sO) L t1 ?_
 refine sw (C4 L) t1 t0 (zn [(2,_),(3,_),(4,_),(5,_),(13,_)] [(2,_),(3,_),(4,_),(5,_)] t5 t4 ?_)
 refine j2 rfl (fun hc=>?_) (fun hc=>?_)
 ·have hc:¬ (P2 m ws=true∧P2 n vs=true):=by rintro ⟨h1,h2⟩; simp [h1,h2] at hc
  refine exr (sw (b0d (G7 (vs:=[]) un45 zv45 (.cons rfl (.cons rfl .nil)) ((J2.cons sz4 (J2.cons sz43 J2.nil))).to rfl .nil (.cons (.cons .nil)) L) (.agg (.cons .same (.cons .nil .nil)))) t0 t0 (sw (b0d (G7 (vs:=[]) un45 zv45 (.cons rfl (.cons rfl .nil)) ((J2.cons sz4 (J2.cons sz43 J2.nil))).to rfl .nil (.cons (.cons .nil)) L) (.agg (.cons .same (.cons .nil .nil)))) t0 t0 (sb (U2 sz45 rF pa2 rfl pu2) t2 t1 ?_)))
  refine sb (U2 sz45 rF pa2 rfl pu2) t2 t1 ?_
  refine aV L rfl (zn [(4,_),(5,_),(6,_)] [(4,_),(5,_)] t3 t2 (X1 ?_))
  refine P1 (.agg rfl rfl rfl ag45 sz45 (.cons (.cons .nil))) (.agg rfl rfl rfl ag45 sz45 (.cons (.cons .nil))) (.tmp rfl) ?_
  rw [dQ,dR,dE,if_neg hc,if_neg (fun hh=>hc ⟨hh.1,hh.2.1⟩),if_neg hc,U8]; rfl
 ·have hc:P2 m ws=true∧P2 n vs=true:=by simpa using hc
  have ht:=(P5 hc.1).1
  have ht2:=(P5 hc.2).1
  refine U1 (xq ?_)
  refine R1 (exr (sw (i2 un45 rfl sz43 dC rX L) t1 t1 ?_))
  refine sw (Y1 ag43 rF rF L) t1 t1 ?_
  refine sw (R2 un43 L) t1 t0 (sw (c_e L) t2 t0 (zn [(2,_),(3,_),(4,_),(5,_),(19,_)] [(2,_),(3,_),(4,_),(5,_)] t5 t4 ?_))
  refine j2 rfl (fun hz=>?_) (fun hz=>?_)
  ·have hz:=dt hz
   have e:vs=[]:=E0 oM
   subst e
   have e0:sg n (val [])=0:=by cases n <;> rfl
   refine exr (sw (b0d (G7 (vs:=[]) un45 zv45 (.cons rfl (.cons rfl .nil)) ((J2.cons sz4 (J2.cons sz43 J2.nil))).to rfl .nil (.cons (.cons .nil)) L) (.agg (.cons .same (.cons .nil .nil)))) t0 t0 (sw (b0d (G7 (vs:=[]) un45 zv45 (.cons rfl (.cons rfl .nil)) ((J2.cons sz4 (J2.cons sz43 J2.nil))).to rfl .nil (.cons (.cons .nil)) L) (.agg (.cons .same (.cons .nil .nil)))) t0 t0 (sb (U2 sz45 rF pa2 rfl pu2) t2 t1 ?_)))
   refine sb (U2 sz45 rF pa2 rfl pu2) t2 t1 ?_
   refine aV L rfl (zn [(4,_),(5,_),(6,_)] [(4,_),(5,_)] t3 t2 (X1 ?_))
   refine P1 (.agg rfl rfl rfl ag45 sz45 (.cons (.cons .nil))) (.agg rfl rfl rfl ag45 sz45 (.cons (.cons .nil))) (.tmp rfl) ?_
   rw [dQ,dR,dE,if_pos hc,if_neg (fun hh=>hh.2.2 rfl),if_pos hc,if_pos (show ([]:List Int).length=0 from rfl),e0,Int.ediv_zero,U8]; rfl
  ·have hz:=df hz
   have hv:=m1f h2 ht2 oM
   have a0:=F2 h
   have ps:=w0a h h2 ht ht2 hv
   have r0:=Int.emod_nonneg (val ws) (show val vs≠0 by omega)
   have q0:=Int.ediv_nonneg a0 (E1 hv)
   have r1:=Int.emod_lt_of_pos (val ws) hv
   have q1:=Int.ediv_le_self (val vs) a0
   have dsg:=F1c (m:=m) (n:=n) a0 hv
   have hQ:dQ m n ws vs=sg m (val ws) / sg n (val vs):=by rw [dQ,if_pos hc]
   have hR:dR m n ws vs=sg m (val ws) % sg n (val vs):=by rw [dR,if_pos ⟨hc.1,hc.2,by omega⟩]
   have hE:dE m n ws vs=0:=by rw [dE,if_pos hc,if_neg oM]
   rw [hQ,hR,hE,dsg.1,dsg.2]
   refine U1 (xq ?_)
   refine exr (sw (i2 un45 rfl sz43 dC rX L) t1 t1 ?_)
   refine sw (Y1 ag43 rF rF L) t1 t1 ?_
   refine sw (i2 un45 rfl sz43 dC rX L) t1 t1 ?_
   refine sw (Y1 ag43 rF rF L) t1 t1 ?_
   refine cK hG hX cl151 hN (B0j ws vs oM oM h h2 ht ht2 hv) L t2 (mV L rfl (sw (O3 rfl L) t1 t0 (sw (O3 rfl L) t1 t0 (aV L rfl (aV L rfl (zn [(2,_),(3,_),(4,_),(5,_),(7,_),(8,_)] [(2,_),(3,_),(4,_),(5,_)] t6 t4 (exr (sw (i2 un45 rfl sz4 dC rX L) t1 t1 ?_))))))))
   refine sw (Y1 ag4 rF rF L) t1 t1 ?_
   refine sw (i2 un45 rfl sz4 dC rX L) t1 t1 ?_
   refine sw (Y1 ag4 rF rF L) t1 t1 ?_
   refine sw (y0n un4 L) t2 t0 (mV L rfl (cK hG hX cl131 hN (B7 (m != n) (h0x ws vs) oM ps.1) L t2 (mV L rfl (cK hG hX cl131 hN (B7 false (d0g ws vs) oM ps.2.1) L t2 (sb (U2 sz45 rF pa2 rfl pu2) t2 t1 ?_)))))
   refine sb (U2 sz45 rF pa2 rfl pu2) t2 t1 ?_
   refine zn [(2,_),(3,_),(4,_),(5,_)] [(2,_),(3,_),(4,_),(5,_)] t4 t4 ?_
   rw [ps.2.2.1,ps.2.2.2.1]
   refine R1 ?_
   refine exm (sl:=[(47,vb (decide (¬ (m=true∧val ws % val vs≠0))))]) (sl0:=[(2,_),(3,_),(4,_),(5,_)]) (hb:=[]) (hb0:=[(2,_),(3,_),(4,_),(5,_)]) t4 t4 ?_ ?_
   ·by_cases hm:m=true
    ·refine sw (i2 un45 rfl sz4 dC rX L) t1 t1 ?_
     refine sw (Y1 ag4 rF rF L) t1 t1 ?_
     refine sw (C4 L) t1 t0 (mV L rfl (swg (g:=42) rfl (by simp [hm]) (i2 un45 rfl sz43 dC rX L) rfl t1 t1 ?_))
     refine swg (g:=42) rfl (by simp [hm]) (Y1 ag43 rF rF L) rfl t1 t1 ?_
     refine swg (g:=42) rfl (by simp [hm]) (R2 un43 L) rfl t1 t0 ?_
     refine swg (g:=42) rfl (by simp [hm]) (c_e L) rfl t2 t0 ?_
     refine sw (y4 (by simp [hm]) L) t2 t0 ?_
     exact O1 ⟨⟨ob rfl (C7 (by simp only [hm,true_and,Decidable.not_not,ne_eq]; have:=y7 (n:=(sg false (val ws % val vs)).natAbs); have:=H1d (m:=false) r0; omega)),rfl,rfl,rfl,rfl,trivial⟩,t4⟩
    ·refine sw (i2 un45 rfl sz4 dC rX L) t1 t1 ?_
     refine sw (Y1 ag4 rF rF L) t1 t1 ?_
     refine sw (C4 L) t1 t0 (mV L rfl (swn (g:=42) rfl (by simp [hm]) L rfl ?_))
     refine swn (g:=42) rfl (by simp [hm]) L rfl ?_
     refine swn (g:=42) rfl (by simp [hm]) L rfl ?_
     refine swn (g:=42) rfl (by simp [hm]) L rfl ?_
     refine sw (O4 (by simp [hm]) L) t2 t0 ?_
     exact O1 ⟨⟨ob rfl (by simp [hm]),rfl,rfl,rfl,rfl,trivial⟩,t4⟩
   refine j2 rfl (fun hd=>?_) (fun hd=>?_)
   ·have hd:=dt hd
    rw [if_neg hd,if_neg hd]
    refine exd rF ?_
    refine lp2 ag45 sz45 L rfl rfl (lp2 ag45 sz45 L rfl rfl (sb (U2 sz45 rF pa2 rfl pu2) t2 t1 ?_))
    refine sb (U2 sz45 rF pa2 rfl pu2) t2 t1 ?_
    refine aV L rfl ?_
    refine O1 ⟨d5 [⟨[4],[4],[48],[]⟩,⟨[5],[5],[49],[]⟩,⟨[4,48],[4],[],[4]⟩,⟨[5,49],[5],[],[5]⟩,⟨[],[],[6],[]⟩] rF rF dC,[(4,_),(5,_),(6,_)],[(4,_),(5,_)],t3,t2,?_⟩
    refine X1 ?_
    refine P1 (.agg rfl rfl rfl ag45 sz45 (.cons (.cons .nil))) (.agg rfl rfl rfl ag45 sz45 (.cons (.cons .nil))) (.tmp rfl) ?_
    rfl
   ·have hd:=Decidable.not_not.1 (df hd)
    rw [if_pos hd,if_pos hd]
    have hql:(y3 (sg (m != n) (val ws / val vs)).natAbs).length<9999999999999:=by
     have:=p0b (m:=m != n) ps.1
     rw [ps.2.2.1] at this
     unfold nw at this; omega
    have hrl:(y3 (sg false (val ws % val vs)).natAbs).length<9999999999999:=by
     have:=p0b (m:=false) ps.2.1
     rw [ps.2.2.2.1] at this
     unfold nw at this; omega
    have hbl:(y3 ((sg n (val vs)).natAbs:Int).natAbs).length<9999999999999:=by
     have:=p0b (m:=n) h2
     unfold nw at this
     rw [show ((sg n (val vs)).natAbs:Int).natAbs=(sg n (val vs)).natAbs by simp]; omega
    refine U1 (xq ?_)
    refine exr (sw (i2 un45 rfl sz43 dC rX L) t1 t1 ?_)
    refine sw (Y1 ag43 rF rF L) t1 t1 ?_
    refine sw (i2 un45 rfl sz4 dC rX L) t1 t1 ?_
    refine sw (Y1 ag4 rF rF L) t1 t1 ?_
    refine sw (i2 un45 rfl sz4 dC rX L) t1 t1 ?_
    refine sw (Y1 ag4 rF rF L) t1 t1 ?_
    refine sw (y0n un4 L) t2 t0 (sw (q4 (vs:=[_]) un43 ti119 rfl rfl dC dC rfl (K2 (.cons rfl .nil) rfl) rfl (.cons rfl (.atom rfl) rfl pu1 .nil) (.cons .nil) L) t1 t0 (sw (i2 un45 rfl sz4 dC rX L) t1 t1 ?_))
    refine sw (Y1 ag4 rF rF L) t1 t1 ?_
    refine sw (i2 un45 rfl sz4 dC rX L) t1 t1 ?_
    refine sw (Y1 ag4 rF rF L) t1 t1 ?_
    refine sw (y0n un4 L) t2 t0 (cK hG hX cl153 hN (j0z (y3 (sg (m != n) (val ws / val vs)).natAbs) [1] (m != n) (m != n) hql sM (M3 _) (by simp [Wd]) (P9 _) (by simp [Tr])) L t4 ?_)
    refine sb (U2 sz45 rF pa2 rfl pu2) t2 t1 ?_
    refine zn [(3,_),(4,_),(5,_)] [(3,_),(4,_),(5,_)] t3 t3 ?_
    rw [b1j q0]
    refine exd rF ?_
    refine lp2 ag45 sz45 L rfl rfl (lp2 ag45 sz45 L rfl rfl (cK hG hX cl149 hN (J0d n vs oM h2) L t1 (lp2 ag45 sz45 L rfl rfl (cK hG hX cl161 hN (y1x (decide ((if P2 n vs=true then ((sg n (val vs)).natAbs:Int) else 0)<0)) (decide (sg false (val ws % val vs)<0)) (y3 (if P2 n vs=true then ((sg n (val vs)).natAbs:Int) else 0).natAbs) (y3 (sg false (val ws % val vs)).natAbs) (by rw [if_pos hc.2]; exact hbl) hrl (M3 _) (M3 _)) L t2 ?_))))
    refine sb (U2 sz45 rF pa2 rfl pu2) t2 t1 ?_
    refine sb (U2 sz45 rF pa2 rfl pu2) t2 t1 ?_
    refine aV L rfl ?_
    refine O1 ⟨d5 [⟨[4],[4],[64],[]⟩,⟨[3],[3],[65],[]⟩,⟨[65],[],[66],[]⟩,⟨[5],[5],[67],[]⟩,⟨[66,67],[],[68],[]⟩,⟨[4,64],[4],[],[4]⟩,⟨[5,68],[5],[],[5]⟩,⟨[],[],[6],[]⟩] rF rF dC,[(4,_),(5,_),(6,_)],[(4,_),(5,_)],t3,t2,?_⟩
    refine X1 ?_
    refine P1 (.agg rfl rfl rfl ag45 sz45 (.cons (.cons .nil))) (.agg rfl rfl rfl ag45 sz45 (.cons (.cons .nil))) (.tmp rfl) ?_
    rw [if_pos ⟨K3 _,K3 _⟩,D5,D5,if_pos hc.2,H1d (E1 hv),← g1b]; simp [val,sg]
@[reducible] def bI (a:Int):Blk:=⟨45,2,.mix [.p (.a (.bool (decide (a<0)))),.p (.sl (y3 a.natAbs).length (J4 (y3 a.natAbs)))]⟩
theorem Y1n (a b:Int)(ha:nw a<999999999999)(hb:nw b<999999999999):v3 E 140 [pZ a,pZ b] (pZ (a+b)):=by
 have:=y1y (decide (a<0)) (decide (b<0)) (y3 a.natAbs) (y3 b.natAbs) (by unfold nw at ha; omega) (by unfold nw at hb; omega) (M3 _) (M3 _)
 rwa [if_pos ⟨K3 a,K3 b⟩,D5,D5] at this
theorem h1m (a b:Int)(ha:nw a<999999999999)(hb:nw b<999999999999):v3 E 111 [pZ a,pZ b] (pZ (a*b)):=by
 have:=w1x (decide (a<0)) (decide (b<0)) (y3 a.natAbs) (y3 b.natAbs) (by unfold nw at ha; omega) (by unfold nw at hb; omega) (M3 _) (M3 _)
 rwa [if_pos ⟨K3 a,K3 b⟩,D5,D5] at this
theorem d2w (a b:Int)(ha:nw a<999999999999)(hb:nw b<999999999999)(h0:b≠0):v3 E 152 [pZ a,pZ b] (.tup [pZ (a / b),pZ (a % b),vZ 0]):=by
 have:=H1z (decide (a<0)) (decide (b<0)) (y3 a.natAbs) (y3 b.natAbs) ha hb (M3 _) (M3 _)
 have hl:(y3 b.natAbs).length≠0:=by rw [Ne,y7]; omega
 rwa [dQ,dR,dE,if_pos ⟨K3 a,K3 b⟩,if_pos ⟨K3 a,K3 b,hl⟩,if_pos ⟨K3 a,K3 b⟩,if_neg hl,D5,D5] at this
theorem b2n (a:Int)(ha:nw a<999999999999):v3 E 102 [pZ a] (pZ (-a)):=by
 have:=H1w (decide (a<0)) (y3 a.natAbs) (by unfold nw at ha; omega) (M3 _)
 rwa [if_pos (K3 a),D5] at this
theorem W0c (a:Int)(ha:nw a<999999999999):v3 E 134 [pZ a] (vZ a.sign):=by
 have:=n1b (decide (a<0)) (y3 a.natAbs) (by unfold nw at ha; omega) (M3 _)
 rwa [if_pos (K3 a),D5] at this
theorem Q1y (a b:Int)(ha:nw a<999999999999)(hb:nw b<999999999999):v3 E 114 [pZ a,pZ b] (vZ (d8 a b)):=by
 have:=y1m (decide (a<0)) (decide (b<0)) (y3 a.natAbs) (y3 b.natAbs) (by unfold nw at ha; omega) (by unfold nw at hb; omega) (M3 _) (M3 _)
 rwa [if_pos ⟨K3 a,K3 b⟩,D5,D5] at this
theorem isZ (a:Int)(ha:nw a<999999999999):v3 E 130 [pZ a] (bZ true):=by
 have:=W9 (decide (a<0)) (y3 a.natAbs) (by unfold nw at ha; omega)
 rwa [K3 a] at this
theorem w1k (x y:Nat)(hy:0<y):val (d0g (y3 x) (y3 y))=((x % y:Nat):Int):=by
 have:=(w0a (M3 x) (M3 y) (P9 x) (P9 y) (by rw [T4]; omega)).2.2.2.1
 rw [this,T4,T4]; rfl
theorem w1n (m n:Bool)(ws vs:List Int)(hl:ws.length<99999999999)(hl2:vs.length<99999999999)(h:Wd ws)(h2:Wd vs):v3 E 135 [pI m ws,pI n vs] (pZ (if P2 m ws=true∧P2 n vs=true then (Int.gcd (sg m (val ws)) (sg n (val vs)):Int) else 0)):=by
 refine D2 (xs:=[pZ (if P2 m ws=true∧P2 n vs=true then (Int.gcd (sg m (val ws)) (sg n (val vs)):Int) else 0)]) Tryz.func135 rfl Tryz.ntmps135 Tryz.results135 sM fun F hG hX0 hnt hdf P0=>?_
 obtain ⟨L,hX,hN⟩:=pro hnt hX0 hG
 refine exr (swb (U3 (k:=2) (n:=2) pa2 rfl rfl (P0 _ rfl) L) t1 t0 ⟨rfl,rfl⟩ (swb (U3 (k:=3) (n:=2) pa2 rfl rfl (P0 _ rfl) L) t1 t0 ⟨rfl,rfl⟩ (swb (R3 (k:=4) (n:=2) zv45 (.cons rfl (.cons rfl .nil)) rfl (P0 _ rfl) L) t0 t0 ⟨rfl,rfl⟩ (zn [(2,_),(3,_),(4,_)] [(2,_),(3,_),(4,_)] t3 t3 (R1 (exr (lp2 ag45 sz45 L rfl rfl (lp2 ag45 sz45 L rfl rfl (sw (q4 (vs:=[_,_]) un139 ti45 rfl rfl dC dC rfl (K2 (.cons rfl (.cons rfl .nil)) rfl) rfl (.cons rfl pa2 rfl pu2 (.cons rfl pa2 rfl (.skip (.skip pu2)) .nil)) (.cons (.cons (.cons (.cons .nil)))) L) t2 t0 (cK hG hX cl138 hN (f0m [(m,ws),(n,vs)] sM sO) L t1 ?_))))))))))
 refine sw (C4 L) t1 t0 (zn [(2,_),(3,_),(4,_),(17,_)] [(2,_),(3,_),(4,_)] t4 t3 ?_)
 refine j2 rfl (fun hc=>?_) (fun hc=>?_)
 ·have hc:¬ (P2 m ws=true∧P2 n vs=true):=by rintro ⟨h1,h2⟩; simp [h1,h2] at hc
  refine exr (sw (b0d (G7 (vs:=[]) un45 zv45 (.cons rfl (.cons rfl .nil)) ((J2.cons sz4 (J2.cons sz43 J2.nil))).to rfl .nil (.cons (.cons .nil)) L) (.agg (.cons .same (.cons .nil .nil)))) t0 t0 (sb (U2 sz45 rF pa2 rfl pu2) t2 t1 ?_))
  refine zn [(4,_)] [(4,_)] t1 t1 (X1 ?_)
  refine Q0 (.agg rfl rfl rfl ag45 sz45 (.cons (.cons .nil))) ?_
  rw [if_neg hc,U8]; rfl
 ·have hc:P2 m ws=true∧P2 n vs=true:=by simpa using hc
  have ab:=J0d m ws oM h
  have ab2:=J0d n vs oM h2
  rw [if_pos hc.1] at ab
  rw [if_pos hc.2] at ab2
  have na:=p0b (m:=m) h
  have nb:=p0b (m:=n) h2
  rw [if_pos hc]
  obtain ⟨A,hA⟩:∃ A,A=sg m (val ws):=⟨_,rfl⟩
  obtain ⟨B,hB⟩:∃ B,B=sg n (val vs):=⟨_,rfl⟩
  rw [← hA] at ab na ⊢
  rw [← hB] at ab2 nb ⊢
  refine U1 (xq ?_)
  refine exd rF ?_
  refine lp2 ag45 sz45 L rfl rfl (cK hG hX cl149 hN ab L t1 (lp2 ag45 sz45 L rfl rfl (cK hG hX cl149 hN ab2 L t1 (swb (R3 (k:=5) (n:=2) zv45 (.cons rfl (.cons rfl .nil)) rfl (P0 _ rfl) L) t0 t0 ⟨rfl,rfl⟩ (swb (R3 (k:=6) (n:=2) zv45 (.cons rfl (.cons rfl .nil)) rfl (P0 _ rfl) L) t0 t0 ⟨rfl,rfl⟩ (sb (U2 sz45 rF pa2 rfl pu2) t2 t1 ?_))))))
  refine sb (U2 sz45 rF pa2 rfl pu2) t2 t1 ?_
  refine O1 ⟨aok rfl rfl,[(4,_),(5,_),(6,_)],[(4,_),(5,_),(6,_)],t3,t3,?_⟩
  refine R1 (V1 ?_)
  refine exl (α:=(Nat×Nat)) (fun x=>[]) (fun x=>[(5,bI (x.1:Int)),(6,bI (x.2:Int))]) (fun x=>Nat.gcd x.1 x.2=Int.gcd A B∧x.1≤max A.natAbs B.natAbs∧x.2≤max A.natAbs B.natAbs) (fun x=>x.2) ((A.natAbs,B.natAbs)) (sl:=[(4,_),(5,_),(6,_)]) (hb:=[(4,_)]) ?_ t3 t3 ?_
  ·exact ⟨rfl,Nat.le_max_left _ _,Nat.le_max_right _ _⟩
  intro x hx
  obtain ⟨x,y⟩:=x
  obtain ⟨hg,hx,hy⟩:=hx
  simp only at hg hx hy
  dsimp only
  have hnx:nw (x:Int)<99999999999:=by
   rcases (show x≤A.natAbs∨x≤B.natAbs by omega) with c | c
   ·have:=T8 (a:=(x:Int)) (b:=A) (by simpa using c); omega
   ·have:=T8 (a:=(x:Int)) (b:=B) (by simpa using c); omega
  have hny:nw (y:Int)<99999999999:=by
   rcases (show y≤A.natAbs∨y≤B.natAbs by omega) with c | c
   ·have:=T8 (a:=(y:Int)) (b:=A) (by simpa using c); omega
   ·have:=T8 (a:=(y:Int)) (b:=B) (by simpa using c); omega
  have hdx:=M3 (x:Int).natAbs
  have hdy:=M3 (y:Int).natAbs
  unfold nw at hnx hny
  refine R1 (exr (sw (i2 un45 rfl sz43 dC rX L) t1 t1 ?_))
  refine sw (Y1 ag43 rF rF L) t1 t1 ?_
  refine sw (R2 un43 L) t1 t0 (sw (i7 L) t2 t0 (zn [(4,_),(5,_),(6,_),(26,_)] [(4,_),(5,_),(6,_)] t4 t3 ?_))
  refine j2 rfl (fun he=>?_) (fun he=>?_)
  ·have he:=dt he
   have hyp:0<y:=by
    by_cases c:y=0
    ·subst c; simp [U4] at he
    ·omega
   refine U1 (xq ?_)
   refine V1 (exr (sw (i2 un45 rfl sz43 dC rX L) t1 t1 ?_))
   refine sw (Y1 ag43 rF rF L) t1 t1 ?_
   refine cK hG hX cl150 hN (k0q (y3 (x:Int).natAbs) oM hdx) L t1 (mV L rfl (sw (O3 rfl L) t1 t0 (sw (O3 rfl L) t1 t0 (aV L rfl (aV L rfl (zn [(4,_),(5,_),(6,_),(7,_),(8,_)] [(4,_),(5,_),(6,_)] t5 t3 (exr (sw (i2 un45 rfl sz43 dC rX L) t1 t1 ?_))))))))
   refine sw (Y1 ag43 rF rF L) t1 t1 ?_
   refine cK hG hX cl150 hN (k0q (y3 (y:Int).natAbs) oM hdy) L t1 (mV L rfl (sw (O3 rfl L) t1 t0 (sw (O3 rfl L) t1 t0 (aV L rfl (aV L rfl (zn [(4,_),(5,_),(6,_),(7,_),(8,_),(9,_),(10,_)] [(4,_),(5,_),(6,_)] t7 t3 (R1 ?_)))))))
   refine exm (sl:=[(42,vb (decide ((y3 (x:Int).natAbs).length≤2∧(y3 (y:Int).natAbs).length≤2)))]) (sl0:=[(4,_),(5,_),(6,_),(7,_),(9,_)]) (hb:=[]) (hb0:=[(4,_),(5,_),(6,_)]) t5 t3 ?_ ?_
   ·by_cases hs:(y3 (x:Int).natAbs).length≤2
    ·refine mV L rfl (mV L rfl (gV (g:=40) rfl (decide_eq_true hs) L rfl rfl (sw (O4 (decide_eq_true hs) L) t2 t0 ?_)))
     exact O1 ⟨⟨ob rfl (C7 ⟨fun c=>⟨hs,c⟩,fun c=>c.2⟩),rfl,rfl,rfl,rfl,rfl,trivial⟩,t3⟩
    ·refine mV L rfl (mV L rfl (swn (g:=40) rfl (decide_eq_false hs) L rfl (sw (y4 (decide_eq_false hs) L) t2 t0 ?_)))
     exact O1 ⟨⟨ob rfl (decide_eq_false (fun c=>hs c.1)).symm,rfl,rfl,rfl,rfl,rfl,trivial⟩,t3⟩
   refine j2 rfl (fun hs=>?_) (fun hs=>?_)
   ·have hs:=dt hs
    rw [if_pos hs.1,if_pos hs.2,T4,T4]
    have sx:=F0w hdx hs.1
    have sy:=F0w hdy hs.2
    rw [T4] at sx sy
    refine R1 (V1 ?_)
    refine exl (α:=(Nat×Nat)) (fun z=>[(7,vw (z.1:Int)),(9,vw (z.2:Int))]) (fun z=>[]) (fun z=>Nat.gcd z.1 z.2=Int.gcd A B∧z.1<18446744073709551616∧z.2<18446744073709551616) (fun z=>z.2) ((x,y)) (sl:=[(4,_)]) (hb:=[(4,_)]) ?_ ⟨oR,oR,rfl,trivial⟩ t1 ?_
    ·exact ⟨hg,by simp only; omega,by simp only; omega⟩
    intro z hz
    obtain ⟨u,v⟩:=z
    obtain ⟨hg2,hu,hv⟩:=hz
    simp only at hg2 hu hv
    dsimp only
    refine R1 (exr (mV L rfl (sw (i7 L) t2 t0 (zn [(4,_),(7,_),(9,_),(44,_)] [(4,_)] t4 t1 ?_))))
    refine j2 rfl (fun hf=>?_) (fun hf=>?_)
    ·have hf:=dt hf
     have hlt:=Nat.mod_lt u (show 0<v by omega)
     refine U1 (xq ?_)
     refine V1 (b0z rF ?_)
     refine mV L rfl (mV L rfl (mV L rfl (sw (c_r L oM (show _=((u % v:Nat):Int) by rw [b1v oM oM]; rfl)) t2 t0 ?_)))
     refine aV L rfl (aV L rfl ?_)
     refine O1 ⟨d5 [⟨[9],[],[45],[]⟩,⟨[7],[],[46],[]⟩,⟨[9],[],[47],[]⟩,⟨[46,47],[],[48],[]⟩,⟨[45],[],[7],[]⟩,⟨[48],[],[9],[]⟩] rF rF dC,?_⟩
     exact ⟨(v,u % v),⟨by rw [← q0r]; exact hg2,hv,by simp only; omega⟩,(by simp only; omega),l3 ⟨oR,oR,rfl,trivial⟩ t1⟩
    ·have hf:=df hf
     have hv0:v=0:=by omega
     subst hv0
     rw [Nat.gcd_zero_right] at hg2
     subst hg2
     refine G2 (xq ?_)
     refine exr (mV L rfl (cK hG hX cl129 hN (U9 false (Int.gcd A B:Nat) oM oM) L t2 (sb (U2 sz45 rF pa2 rfl pu2) t2 t1 ?_)))
     refine zn [(4,_)] [(4,_)] t1 t1 (X1 ?_)
     refine Q0 (.agg rfl rfl rfl ag45 sz45 (.cons (.cons .nil))) ?_
     rfl
   ·have hs:=df hs
    have ps:=w0a hdx hdy (P9 _) (P9 _) (by rw [T4]; omega)
    refine U1 (xq ?_)
    refine exr (sw (i2 un45 rfl sz43 dC rX L) t1 t1 ?_)
    refine sw (Y1 ag43 rF rF L) t1 t1 ?_
    refine sw (i2 un45 rfl sz43 dC rX L) t1 t1 ?_
    refine sw (Y1 ag43 rF rF L) t1 t1 ?_
    refine cK hG hX cl151 hN (B0j (y3 (x:Int).natAbs) (y3 (y:Int).natAbs) oM oM hdx hdy (P9 _) (P9 _) (by rw [T4]; omega)) L t2 ?_
    refine mV L rfl (sw (O3 rfl L) t1 t0 (sw (O3 rfl L) t1 t0 (aV L rfl (aV L rfl (zn [(4,_),(5,_),(6,_),(12,_)] [(4,_),(5,_),(6,_)] t4 t3 ?_)))))
    have pr:sg false (val (d0g (y3 (x:Int).natAbs) (y3 (y:Int).natAbs)))=((x % y:Nat):Int):=w1k x y hyp
    have md:=B7 false (d0g (y3 (x:Int).natAbs) (y3 (y:Int).natAbs)) oM ps.2.1
    rw [pr] at md
    have hml:=Nat.mod_lt x hyp
    refine b0z rF ?_
    refine lp2 ag45 sz45 L rfl rfl (mV L rfl (cK hG hX cl131 hN md L t2 (sb (U2 sz45 rF pa2 rfl pu2) t2 t1 ?_)))
    refine sb (U2 sz45 rF pa2 rfl pu2) t2 t1 ?_
    refine O1 ⟨d5 [⟨[6],[6],[59],[]⟩,⟨[12],[],[60],[]⟩,⟨[60],[],[61],[]⟩,⟨[5,59],[5],[],[5]⟩,⟨[6,61],[6],[],[6]⟩] rF rF dC,?_⟩
    exact ⟨(y,x % y),⟨by rw [← q0r]; exact hg,hy,by simp only; omega⟩,(by simp only; omega),l3 t3 t3⟩
  ·have he:=df he
   have hy0:y=0:=by
    have:(y3 (y:Int).natAbs).length=0:=by omega
    rw [y7] at this; omega
   subst hy0
   rw [Nat.gcd_zero_right] at hg
   subst hg
   refine G2 (xq ?_)
   refine exr (lp2 ag45 sz45 L rfl rfl (sb (U2 sz45 rF pa2 rfl pu2) t2 t1 ?_))
   refine zn [(4,_)] [(4,_)] t1 t1 (X1 ?_)
   refine Q0 (.agg rfl rfl rfl ag45 sz45 (.cons (.cons .nil))) ?_
   rfl
theorem W1b (a b:Int)(ha:nw a<99999999999)(hb:nw b<99999999999):v3 E 135 [pZ a,pZ b] (pZ (Int.gcd a b:Int)):=by
 have:=w1n (decide (a<0)) (decide (b<0)) (y3 a.natAbs) (y3 b.natAbs) ha hb (M3 _) (M3 _)
 rwa [if_pos ⟨K3 a,K3 b⟩,D5,D5] at this
end Go.Proofs.YtjagfionflbjbaaGreat.N
namespace Go.Proofs.YtjagfionflbjbaaGreat.NumA
open Go
theorem g1d {ws vs:List Int}{m k:Nat}(h:Wd ws)(h2:Wd vs)(ht2:Tr vs)(hm:vs.length=m+2)(hk:k+bl (vs.getD (vs.length - 1) 0).toNat=32)(hle:val vs≤val ws){W Dv:List Int}(hW:W=y3 (val ws*2 ^ k).toNat++[0,0])(hD:Dv=y3 (val vs*2 ^ k).toNat) :
  k<32∧0<val vs∧0<val Dv∧val Dv<4294967296 ^ (m+2)∧val Dv=val vs*2 ^ k∧Dv.length=m+2∧2147483648≤Dv.getD (m+1) 0∧val W=val ws*2 ^ k∧Wd W∧Wd Dv∧m+2≤W.length∧W.length≤ws.length+3 ∧
  j9 W (m+2) (val Dv) (W.length - (m+2),val (W.drop (W.length - (m+2))),[]):=by
 have hlen:=v0x h h2 ht2 hle
 obtain ⟨p1,p2,p3,p4,p5,p6,p7,p8,-⟩:=F0c h h2 ht2 hm hk hlen
 have hn:vs≠[]:=by intro e; rw [e] at hm; simp at hm
 obtain ⟨n1,n2,n3⟩:=k1k h2 ht2 hn hk
 have hp:(0:Int)<2 ^ k:=Int.pow_pos (by decide)
 have eD:Dv=G4 (m+2) (val vs*2 ^ k):=by
  rw [hD,← p5]
  have:=E9 (w6 (m+2) (val vs*2 ^ k)) (.inr (by rw [E3,show m+2 - 1=m+1 by omega]; omega))
  rw [this,p5]
 have vD:val Dv=val vs*2 ^ k:=by rw [eD,p5]
 have sw:=G0f h (Nat.le_of_lt n3)
 have vd:val (y3 (val ws*2 ^ k).toNat)=val ws*2 ^ k:=by rw [T4]; omega
 have vW:val W=val ws*2 ^ k:=by rw [hW,Z6,vd]; simp [val]
 have wD:=M3 (val ws*2 ^ k).toNat
 have wW:Wd W:=by
  rw [hW]; refine wD.append fun w hw=>?_
  simp only [List.mem_cons,List.not_mem_nil,or_false,or_self] at hw; subst hw; decide
 have hl0:m+2≤(y3 (val ws*2 ^ k).toNat).length:=by
  have h3:val vs*2 ^ k≤val ws*2 ^ k:=Z0 hle (E1 hp)
  rw [hm,show m+2 - 1=m+1 by omega] at n1
  have h4:=j5 wD
  rw [vd] at h4
  by_cases c:m+2≤(y3 (val ws*2 ^ k).toNat).length
  ·exact c
  ·have h5:=H0z (show (y3 (val ws*2 ^ k).toNat).length≤m+1 by omega)
   have:=w0h (m+1)
   omega
 have hl1:(y3 (val ws*2 ^ k).toNat).length≤ws.length+1:=K0a sw.1 sw.2
 have hWl:W.length=(y3 (val ws*2 ^ k).toNat).length+2:=by rw [hW]; simp
 refine ⟨n3,p2,by omega,by omega,vD,by rw [eD,E3],by rw [eD]; exact p7,vW,wW,by rw [hD]; exact M3 _,by omega,by omega,?_⟩
 refine j9.start wW (by omega) ?_
 have e1:W.drop (W.length - (m+2))=(y3 (val ws*2 ^ k).toNat).drop ((y3 (val ws*2 ^ k).toNat).length - m)++[0,0]:=by
  rw [hWl,hW,List.drop_append_of_le_length (by omega)]
  congr 2; omega
 rw [e1,Z6]
 have h6:=j5 (wD.drop ((y3 (val ws*2 ^ k).toNat).length - m))
 rw [List.length_drop] at h6
 have h7:=H0z (show (y3 (val ws*2 ^ k).toNat).length - ((y3 (val ws*2 ^ k).toNat).length - m)≤m+1 by omega)
 rw [hm,show m+2 - 1=m+1 by omega] at n1
 have:=w0h (m+1)
 have e2:val [0,0]=0:=by simp [val]
 rw [e2,Int.mul_zero]
 omega
structure R8 (win vs:List Int) (x:Int×List Int×Int):Prop where
 q:val win / val vs≤x.1∧x.1<4294967296
 len:x.2.1.length=win.length
 wd:Wd x.2.1
 b:x.2.2=0∨x.2.2=1
 eq:val x.2.1=val win - x.1*val vs+4294967296 ^ win.length*x.2.2
 iff:x.2.2=0↔x.1*val vs≤val win
theorem R8.start {win vs ys:List Int}{q c b:Int}(h:Wd win)(hl:vs.length<win.length)(h2:Wd vs)(hq:0≤q∧q<4294967296)(hQ:val win / val vs≤q)(ha:Y8 win vs q (win.length,ys,c,b)):R8 win vs (q,ys,b):=by
 have h1:=ha.end_ h hl h2 hq
 exact ⟨⟨hQ,hq.2⟩,ha.len,ha.wd,ha.b,h1.2.1,h1.2.2⟩
theorem R8.more {win vs w1 ys:List Int}{q e:Int}(hw:Wd win)(hl:vs.length≤win.length)(h2:Wd vs)(hD:0<val vs)(ha:R8 win vs (q,w1,1))(hb:H9 w1 vs (win.length,ys,e)):R8 win vs (q - 1,ys,1 - e)∧0<q:=by
 have hnot:¬ q*val vs≤val win:=fun c=>by have:=ha.iff.2 c; simp only at this; omega
 have hq:=ha.q
 simp only at hq
 have hlt:val win / val vs<q:=by
  by_cases c:val win / val vs<q
  ·exact c
  ·have e:val win / val vs=q:=by omega
   exact absurd (by rw [← e]; exact Int.ediv_mul_le _ (by omega)) hnot
 have h0:=Int.ediv_nonneg (F2 hw) (E1 hD)
 have:=w1a hl h2 ha.eq ha.len ha.wd hw hb hnot
 have hc:=hb.c
 simp only at hc
 refine ⟨⟨by simp only; omega,hb.len,hb.wd,by simp only; omega,this.1,this.2⟩,by omega⟩
theorem R8.pos {win vs w1:List Int}{q:Int}(hw:Wd win)(hD:0<val vs)(ha:R8 win vs (q,w1,1)):0<q:=by
 have hnot:¬ q*val vs≤val win:=fun c=>by have:=ha.iff.2 c; simp only at this; omega
 have hq:=ha.q
 simp only at hq
 have h0:=Int.ediv_nonneg (F2 hw) (E1 hD)
 by_cases c:0<q
 ·exact c
 ·have e:q=0:=by omega
  rw [e,Int.zero_mul] at hnot
  exact absurd (F2 hw) hnot
theorem R8.done {win vs w1:List Int}{q:Int}(hw:Wd win)(hD:0<val vs)(ha:R8 win vs (q,w1,0)):q=val win / val vs∧w1=G4 win.length (val win % val vs):=by
 have hle:=ha.iff.1 rfl
 have hq:=ha.q
 have he:=ha.eq
 have hlen:=ha.len
 simp only at hle hq he hlen
 have h1:=(Int.le_ediv_iff_mul_le hD).2 hle
 have e1:q=val win / val vs:=by omega
 refine ⟨e1,?_⟩
 have e2:val w1=val win % val vs:=by
  rw [he,e1,Int.mul_zero,Int.add_zero]
  have:=Int.mul_ediv_add_emod (val win) (val vs)
  rw [Int.mul_comm] at this; omega
 rw [← e2,← hlen]; exact (v7 ha.wd).symm
end Go.Proofs.YtjagfionflbjbaaGreat.NumA
namespace Go.Proofs.YtjagfionflbjbaaGreat.SH
open Go Go.RowKit
section
variable {P:Program} {F:Fr} {d:Nat} {T:TypeId} {pos:String} {aft:Array Edge} {g:Option (Nat×Bool)} {t:TypeId}
end
end Go.Proofs.YtjagfionflbjbaaGreat.SH
namespace Go.Proofs.YtjagfionflbjbaaGreat.SH
open Go Go.RowKit
end Go.Proofs.YtjagfionflbjbaaGreat.SH
namespace Go.Proofs.YtjagfionflbjbaaGreat.SH
open Go Go.RowKit
section
variable {P:Program} {F:Fr} {d:Nat} {T:TypeId} {pos:String} {aft:Array Edge} {g:Option (Nat×Bool)} {t tx:TypeId}
variable {x y:Operand} {xT yT:TypeId} {s u:ByteArray}
end
end Go.Proofs.YtjagfionflbjbaaGreat.SH
namespace Go.Proofs.YtjagfionflbjbaaGreat.SH
open Go Go.RowKit
theorem y0r.data {E:Env}{f:FuncId}{args xs:List L2}{T:TypeId}{sz n:Nat}(h:y0r E f args T sz n xs):v3 E f args (.sl n xs):=by
 intro ok w vals hG hrel
 refine (h ok w vals hG hrel).mono ?_
 rintro e w' ⟨b,cap,c,rfl,hn,hb,hH,hc,hl,hx,hbel⟩
 refine ⟨_,rfl,?_,hbel⟩
 simp only [Rel]
 refine ⟨some ⟨b,0,none⟩,cap,rfl,hn,M7.of (.inr hb) (Y4.of fun i y hy=>?_)⟩
 obtain ⟨u,h1,h2,h3⟩:=hx i y hy
 refine ⟨u,by rw [O7 hH,F1]; exact h1,h2,?_⟩
 exact Rel.mono (fun a ha hne=>⟨ha.1,rfl⟩) y u h3
end Go.Proofs.YtjagfionflbjbaaGreat.SH
set_option maxRecDepth 100000
set_option maxHeartbeats 4000000
namespace Go.Proofs.YtjagfionflbjbaaGreat.N
open Go Go.Proofs.YtjagfionflbjbaaGreat.SH Go.Proofs.YtjagfionflbjbaaGreat.NumA
open Go.Proofs.Tryz renaming call117→cl117,call118→cl118,call119→cl119,call120→cl120,call122→cl122,call142→cl142,call143→cl143,call144→cl144,call145→cl145,call146→cl146,call147→cl147,call154→cl154,call165→cl165,call166→cl166,call167→cl167,call168→cl168,call77→cl77,isAgg119→ag119,isAgg43→ag43,isAgg45→ag45,isAgg4→ag4,sizeOf119→sz119,sizeOf43→sz43,sizeOf45→sz45,sizeOf4→sz4,typeInfo119→ti119,underlying119→un119,underlying127→un127,underlying43→un43,underlying45→un45,underlying4→un4,zeroValue45→zv45
theorem N1h {xs ys win zs:List Int}{i j:Nat}(hx:xs.length=i)(hl:ys.length=j)(hj:j<win.length):(J4 (xs++((ys++win.drop j)++zs)))[i+j]? = some (.a (.int .u32 (win.getD j 0))):=by
 subst hx; exact G1k hl hj
theorem d1d {xs ys win zs:List Int}{i j:Nat}(hx:xs.length=i)(hl:ys.length=j)(hj:j<win.length){d:Int}:(xs++((ys++win.drop j)++zs)).set (i+j) d=xs++(((ys++[d])++win.drop (j+1))++zs):=by
 subst hx; exact q0m hl hj d
theorem h1v (ws vs:List Int)(hl:ws.length<900000000000)(hl2:vs.length<900000000000)(h:Wd ws)(h2:Wd vs)(ht:Tr ws)(ht2:Tr vs)(hv:0<val vs):v3 E 154 [pW ws,pW vs] (.tup [pW (y3 (val ws / val vs).toNat),pW (y3 (val ws % val vs).toNat)]):=by
 refine D2 (xs:=[pW (y3 (val ws / val vs).toNat),pW (y3 (val ws % val vs).toNat)]) Tryz.func154 rfl Tryz.ntmps154 Tryz.results154 sM fun F hG hX0 hnt hdf P0=>?_
 obtain ⟨L,hX,hN⟩:=pro hnt hX0 hG
 have a0:=F2 h
 have q0:=Int.ediv_nonneg a0 (E1 hv)
 have r0:=Int.emod_nonneg (val ws) (show val vs≠0 by omega)
 have r1:=Int.emod_lt_of_pos (val ws) hv
 refine exr (aV L rfl (aV L rfl (zn [(0,_),(1,_)] [] t2 trivial (R1 (exr (mV L rfl (mV L rfl (cK hG hX cl143 hN (K0k ws vs oM oM h h2 ht ht2) L t2 (sw (P3 L) t2 t0 (zn [(0,_),(1,_),(22,_)] [] t3 trivial ?_))))))))))
 refine j2 rfl (fun hc=>?_) (fun hc=>?_)
 ·have hc:=dt hc
  rw [j0w] at hc
  refine exr (mV L rfl (aV L rfl (aV L rfl (zn [(4,_),(5,_)] [] t2 trivial (s4 [] (sl:=[(4,_),(5,_)]) (hb:=[]) (F3 hX0) ⟨⟨_,rfl,(.p .nil)⟩,⟨_,rfl,.same⟩,trivial⟩ t0 (X1 ?_))))))
  refine Y0 (.tmp rfl) (.tmp rfl) ?_
  rw [Int.ediv_eq_zero_of_lt a0 hc,Int.emod_eq_of_lt a0 hc,E9 h ht]; simp [U4,J4]
 ·have hc:=df hc
  have hge:val vs≤val ws:=by rw [j0w] at hc; omega
  have hlen:=v0x h h2 ht2 hge
  refine U1 (xq ?_)
  refine R1 (exr (mV L rfl (sw (R2 un43 L) t1 t0 (sw (c_e L) t2 t0 (zn [(0,_),(1,_),(26,_)] [] t3 trivial ?_)))))
  refine j2 rfl (fun h1=>?_) (fun h1=>?_)
  ·have h1:=dt h1
   have hl1:vs.length=1:=by omega
   have hv1:=k0n hl1
   have hvb:=k0m h2 oM
   have a1:=Q0j ws (vs.getD 0 0) oM h oM
   rw [hv1] at a1
   refine exr (mV L rfl (mV L rfl (sw (ixJ un43 sz119 (j:=0) rfl oM sM L) t2 t0 ?_)))
   refine sw (d4 ag119 (by first | exact b6 oM | rfl) L) t1 t0 ?_
   refine sw (D4 un119 un127 L (show _=val vs by rw [hv1]; exact W1f oM oM)) t1 t0 ?_
   refine cK hG hX cl165 hN a1 L t2 (sw (O3 rfl L) t1 t0 (sw (O3 rfl L) t1 t0 (aV L rfl (aV L rfl (zn [(4,_),(5,_)] [] t2 trivial (X1 ?_))))))
   refine Y0 (.tmp rfl) (.tmp rfl) ?_
   rfl
  ·have h1:=df h1
   have hvn:vs.length≠0:=by
    intro e
    rw [E0 e] at hv; simp [val] at hv
   obtain ⟨m,hm⟩:∃ m,vs.length=m+2:=⟨vs.length - 2,by omega⟩
   have htw:=h2.getD (vs.length - 1)
   have hbl:=J1w htw.2
   obtain ⟨k,hk⟩:∃ k:Nat,k+bl (vs.getD (vs.length - 1) 0).toNat=32:=⟨32 - bl (vs.getD (vs.length - 1) 0).toNat,by omega⟩
   have hbv:=h1k h2 ht2 (fun e=>by rw [e] at hm; simp at hm)
   obtain ⟨W,hW⟩:∃ W,W=y3 (val ws*2 ^ k).toNat++[0,0]:=⟨_,rfl⟩
   obtain ⟨Dv,hDe⟩:∃ Dv,Dv=y3 (val vs*2 ^ k).toNat:=⟨_,rfl⟩
   obtain ⟨k32,-,hDpos,hDlt,hDv,hDl,htop,hWv,hWd,hDwd,hWl,hWl2,hstart⟩:=g1d h h2 ht2 hm hk hge hW hDe
   have hlW:(y3 (val ws*2 ^ k).toNat).length+2=W.length:=by rw [hW]; simp
   refine U1 (xq ?_)
   refine exr (mV L rfl (sw (R2 un43 L) t1 t0 (sw (d1c L (w64 oM oM)) t2 t0 (mV L rfl (cK hG hX cl166 hN (P0d vs oM h2 ht2) L t1 (sw (n6 L (show _=(k:Int) by rw [hbv,show (32*(vs.length:Int) - (32*((vs.length:Int) - 1)+(bl (vs.getD (vs.length - 1) 0).toNat:Int)))=(k:Int) by omega]; exact w64 oM oM)) t2 t0 ?_))))))
   refine aV L rfl (zn [(0,_),(1,_),(6,_)] [] t3 trivial (exr (mV L rfl (mV L rfl (cK hG hX cl167 hN (m0r vs k oM h2 oM).data L t2 (aV L rfl (zn [(0,_),(6,_),(7,_)] [] t3 trivial ?_)))))))
   rw [← hDe]
   refine exr (mV L rfl (mV L rfl (swb (d1z (k:=46) hG hX cl167 rfl hN (m0r ws k oM h oM) (P0 _ rfl) L) t2 t0 ⟨rfl,rfl⟩ (sw (q4 (vs:=[_,_]) un43 ti119 rfl rfl dC dC rfl (K2 (.cons rfl .nil) rfl) rfl (.cons rfl (.atom rfl) rfl pu1 (.cons rfl (.atom rfl) rfl (.skip pu1) .nil)) (.cons (.cons .nil)) L) t2 t0 (swb (apP (sz:=1) un43 un43 ti119 rfl rfl rfl dC (by exact sM) oF sM rfl rfl rfl (by first | (simp [Tryz.t119]; done) | (simp [Tryz.t119]; omega)) oM (P0 _ rfl) L) t2 t1 t0 ?_)))))
   refine aV L rfl (zn [(5,_),(6,_),(7,_)] [(46,_)] t3 t1 ?_)
   rw [show J4 (y3 (val ws*2 ^ k).toNat)++[L2.a (Value.int IntKind.u32 0),L2.a (Value.int IntKind.u32 0)]=J4 W by rw [hW]; simp [J4]]
   rw [show (y3 (val ws*2 ^ k).toNat).length*1+2*1=W.length by omega,hlW]
   refine exr (mV L rfl (sw (R2 un43 L) t1 t0 (aV L rfl (zn [(5,_),(6,_),(7,_),(8,_)] [(46,_)] t4 t1 (exr (mV L rfl (sw (p0m un43 (by exact sM) L) t1 t1 ?_)))))))
   refine mV L rfl (sw (n6 L (w64 oM oM)) t2 t0 (swb (v0a (k:=55) un43 ti119 rfl rfl rfl rfl (show _=((W.length - (m+2):Nat):Int) by omega) (show _=((W.length - (m+2):Nat):Int) by omega) (Nat.le_refl _) (by simp [Tryz.t119]; omega) oM (P0 _ rfl) L) t2 t0 ⟨rfl,rfl⟩ ?_))
   refine aV L rfl (zn [(4,_),(5,_),(6,_),(7,_),(8,_)] [(46,_),(55,_)] t5 t2 (R1 (exr (mV L rfl (sw (p0m un43 (by exact sM) L) t1 t1 ?_)))))
   refine mV L rfl (sw (n6 L (w64 oM oM)) t2 t0 (sw (n6 L (w64 oM oM)) t2 t0 (aV L rfl (zn [(4,_),(5,_),(6,_),(7,_),(8,_),(9,_)] [(46,_),(55,_)] t6 t2 (V1 ?_)))))
   refine exl (α:=(Nat×Int×List Int)) (fun x=>[(9,vi ((x.1:Int) - 1))]) (fun x=>[(46,⟨119,1,.pure (J4 (J7 W (m+2) x.1 x.2.1))⟩),(55,⟨119,1,.pure (J4 (List.replicate x.1 0++x.2.2))⟩)]) (fun x=>j9 W (m+2) (val Dv) x) (fun x=>x.1) ((W.length - (m+2),val (W.drop (W.length - (m+2))),([]:List Int))) (sl:=[(4,_),(5,_),(6,_),(7,_),(8,_)]) (hb:=[]) ?_ ⟨oi oM rfl,rfl,rfl,rfl,rfl,rfl,trivial⟩ ⟨obl rfl (by rw [q0s hWd oM]),obl rfl (by rw [b0q,List.append_nil]),trivial⟩ ?_
   ·exact hstart
   intro x hx
   obtain ⟨r,R,qs⟩:=x
   have hle:=hx.le
   have hr:=hx.r
   have hlq:=hx.len
   simp only at hle hr hlq
   dsimp only
   refine R1 (exr (mV L rfl (sw (d0b L) t2 t0 (zn [(4,_),(5,_),(6,_),(7,_),(8,_),(9,_),(62,_)] [(46,_),(55,_)] t7 t2 ?_))))
   refine j2 rfl (fun he=>?_) (fun he=>?_)
   ·have he:=dt he
    obtain ⟨i,rfl⟩:∃ i,r=i+1:=⟨r - 1,by omega⟩
    have ei:(((i+1:Nat):Int) - 1)=(i:Int):=by omega
    rw [ei]
    obtain ⟨w1,w2,w3,w4⟩:=hx.win hWd hDlt
    obtain ⟨win,hwin⟩:∃ win,win=W.getD i 0 :: G4 (m+2) R:=⟨_,rfl⟩
    rw [← hwin] at w1 w2 w3 w4
    obtain ⟨zs,hzs⟩:∃ zs:List Int,zs=List.replicate (W.length - (m+2) - (i+1)) 0:=⟨_,rfl⟩
    have hzl:zs.length=W.length - (m+2) - (i+1):=by rw [hzs,List.length_replicate]
    rw [H0d oM,← hwin,← hzs]
    obtain ⟨xs,hxs⟩:∃ xs,xs=W.take i:=⟨_,rfl⟩
    have hti:xs.length=i:=by rw [hxs]; simp; omega
    rw [← hxs]
    obtain ⟨-,g1,g2,g3,g4,g5⟩:=y0z w1 hDwd (n:=m) w2 hDl htop w4
    have hu0:=w1.getD (m+2)
    have hu1:=w1.getD (m+1)
    have hd1:=hDwd.getD (m+1)
    have key:=hx.next hWd hDpos w3
    obtain ⟨U,hU⟩:∃ U,U=win.getD (m+2) 0*4294967296+win.getD (m+1) 0:=⟨_,rfl⟩
    rw [← hU] at g4 g5
    have hUq0:0≤U / Dv.getD (m+1) 0:=Int.ediv_nonneg oM oM
    have hUq1:U / Dv.getD (m+1) 0≤U:=Int.ediv_le_self _ oM
    refine U1 (xq ?_)
    refine R1 (V1 (exd rF ?_))
    refine mV L rfl (mV L rfl (mV L rfl (sw (B3 L (w64 oM oM)) t2 t0 (sw (y6 un43 sz119 (by exact (by simp [B4 hle] <;> omega)) (j:=i+(m+2)) rO oM L) t2 t1 ?_))))
    refine sw (Y1 ag119 (by exact (by simp [B4 hle] <;> omega)) (g0k (B1q hti oM)) L) t1 t1 ?_
    refine sw (D4 un119 un127 L (I4 oM oM)) t1 t0 (sw (B0n L dC (J0r (c:=4294967296) rF (I4 oM oM))) t2 t0 ?_)
    refine mV L rfl (mV L rfl (mV L rfl (sw (B3 L (w64 oM oM)) t2 t0 (sw (n6 L (w64 oM oM)) t2 t0 (sw (y6 un43 sz119 (by exact (by simp [B4 hle] <;> omega)) (j:=i+(m+1)) rO oM L) t2 t1 ?_)))))
    refine sw (Y1 ag119 (by exact (by simp [B4 hle] <;> omega)) (g0k (B1q hti oM)) L) t1 t1 ?_
    refine sw (D4 un119 un127 L (I4 oM oM)) t1 t0 (sw (v0r L (H0n (b:=win.getD (m+2) 0) 32 rfl hu1.1 hu1.2 hu0.1 dC oM oM)) t2 t0 (aV L rfl ?_))
    refine O1 ⟨d5 [⟨[5],[],[65],[]⟩,⟨[9],[],[66],[]⟩,⟨[8],[],[67],[]⟩,⟨[66,67],[],[68],[]⟩,⟨[65,68],[46],[69],[]⟩,⟨[69],[46],[70],[]⟩,⟨[70],[],[71],[]⟩,⟨[71],[],[72],[]⟩,⟨[5],[],[73],[]⟩,⟨[9],[],[74],[]⟩,⟨[8],[],[75],[]⟩,⟨[74,75],[],[76],[]⟩,⟨[76],[],[77],[]⟩,⟨[73,77],[46],[78],[]⟩,⟨[78],[46],[79],[]⟩,⟨[79],[],[80],[]⟩,⟨[72,80],[],[81],[]⟩,⟨[81],[],[10],[]⟩] rF rF dC,[(4,_),(5,_),(6,_),(7,_),(8,_),(9,_),(10,vw U)],[(46,_),(55,_)],⟨rfl,rfl,rfl,rfl,rfl,rfl,oi oM rfl,trivial⟩,t2,?_⟩
    refine exr (mV L rfl (mV L rfl (mV L rfl (sw (n6 L (w64 oM oM)) t2 t0 (sw (ixJ un43 sz119 (j:=m+1) rO oM sM L) t2 t0 ?_)))))
    refine sw (d4 ag119 (by first | exact b6 oM | rfl) L) t1 t0 ?_
    refine sw (D4 un119 un127 L (I4 oM oM)) t1 t0 (sw (c_q L oM (b1m oM oM)) t2 t0 (aV L rfl (zn [(4,_),(5,_),(6,_),(7,_),(8,_),(9,_),(11,_)] [(46,_),(55,_)] t7 t2 (R1 (exr (mV L rfl (sw (i7 L) t2 t0 (zn [(4,_),(5,_),(6,_),(7,_),(8,_),(9,_),(11,_),(91,_)] [(46,_),(55,_)] t8 t2 ?_))))))))
    obtain ⟨q,hq⟩:∃ q,q=if 4294967295<U / Dv.getD (m+1) 0 then 4294967295 else U / Dv.getD (m+1) 0:=⟨_,rfl⟩
    have hqb:val win / val Dv≤q∧0≤q∧q<4294967296:=by rw [hq]; split <;> omega
    refine g0x (sl:=[(11,vw q)]) (sl0:=[(4,_),(5,_),(6,_),(7,_),(8,_),(9,_)]) (hb:=[]) (hb0:=[(46,_),(55,_)]) t6 t2 ?_ ?_
    ·refine j2 rfl (fun hg=>?_) (fun hg=>?_)
     ·have hg:=dt hg
      refine j3 (aV L rfl (O1 ?_))
      exact ⟨⟨oi (by rw [hq,if_pos hg]) rfl,oR,oR,oR,oR,oR,oR,trivial⟩,t2⟩
     ·have hg:=df hg
      refine U1 ?_
      exact ⟨⟨oi (by rw [hq,if_neg hg]) rfl,oR,oR,oR,oR,oR,oR,trivial⟩,t2⟩
    ·refine exr (aV L rfl (aV L rfl (zn [(4,_),(5,_),(6,_),(7,_),(8,_),(9,_),(11,_),(12,_),(13,_)] [(46,_),(55,_)] t9 t2 (R1 (exr (aV L rfl (zn [(4,_),(5,_),(6,_),(7,_),(8,_),(9,_),(11,_),(12,_),(13,_),(14,_)] [(46,_),(55,_)] t10 t2 (V1 ?_))))))))
     refine exl (α:=(Nat×List Int×Int×Int)) (fun y=>[(14,vi (y.1:Int)),(12,vw y.2.2.1),(13,vw y.2.2.2)]) (fun y=>[(46,⟨119,1,.pure (J4 (xs++((y.2.1++win.drop y.1)++zs)))⟩)]) (fun y=>Y8 win Dv q y) (fun y=>win.length - y.1) (((0:Nat),([]:List Int),(0:Int),(0:Int))) (sl:=[(4,_),(5,_),(6,_),(7,_),(8,_),(9,_),(11,_)]) (hb:=[(55,_)]) ?_ ⟨oR,oR,oR,rfl,rfl,rfl,rfl,rfl,rfl,rfl,trivial⟩ ⟨obl rfl sM,rfl,trivial⟩ ?_
     ·exact Y8.zero win Dv q
     intro y hy
     obtain ⟨j,ys,c,b⟩:=y
     have hylen:=hy.len
     have hyle:=hy.le
     have c0:=hy.c0
     have c1:=hy.c1
     have hb:=hy.b
     simp only at hylen hyle c0 c1 hb
     dsimp only
     have hu:=w1.getD j
     have hwd:=hDwd.getD j
     refine R1 (exr (mV L rfl (mV L rfl (sw (W1k L) t2 t0 (zn [(4,_),(5,_),(6,_),(7,_),(8,_),(9,_),(11,_),(12,_),(13,_),(14,_),(94,_)] [(46,_),(55,_)] t11 t2 ?_)))))
     refine j2 rfl (fun hf=>?_) (fun hf=>?_)
     ·have hf:=dt hf
      have tb:=Q0g ⟨hqb.2.1,hqb.2.2⟩ hwd ⟨c0,c1⟩
      have mb:=g0w ⟨hqb.2.1,hqb.2.2⟩ hwd
      rw [Int.mul_comm] at mb
      obtain ⟨p,hp⟩:∃ p,p=q*Dv.getD j 0+c:=⟨_,rfl⟩
      have hp2:Dv.getD j 0*q+c=p:=by rw [hp,Int.mul_comm]
      rw [← hp] at tb
      have key2:=hy.next hDwd ⟨hqb.2.1,hqb.2.2⟩ oM hp rfl rfl hu
      refine U1 (xq ?_)
      refine R1 (V1 (exr (mV L rfl (mV L rfl (cK hG hX cl145 hN (q5 Dv oM hDwd j oM) L t2 (mV L rfl (sw (d1c L (I4 oM oM)) t2 t0 (mV L rfl (sw (B3 L (I4 oM oM)) t2 t0 (aV L rfl ?_))))))))))
      refine O1 ⟨[(4,_),(5,_),(6,_),(7,_),(8,_),(9,_),(11,_),(13,_),(14,_),(15,vw p)],[(46,_),(55,_)],⟨rfl,rfl,rfl,rfl,rfl,rfl,rfl,rfl,rfl,oi hp2 rfl,trivial⟩,t2,?_⟩
      refine exr (mV L rfl (sw (I9 L dC (f0d (c:=4294967296) rF dC)) t2 t0 ?_))
      refine aV L rfl (zn [(4,_),(5,_),(6,_),(7,_),(8,_),(9,_),(11,_),(12,_),(13,_),(14,_),(15,_)] [(46,_),(55,_)] t11 t2 (exr (mV L rfl (mV L rfl (mV L rfl (sw (B3 L (w64 oM oM)) t2 t0 (sw (y6 un43 sz119 (by exact sO) (j:=i+j) rO oM L) t2 t1 ?_)))))))
      refine sw (Y1 ag119 (by exact sO) (g0k (N1h hti hylen oM)) L) t1 t1 ?_
      refine sw (D4 un119 un127 L (I4 oM oM)) t1 t0 (sw (B3 L (I4 oM oM)) t2 t0 (mV L rfl (sw (J1r L (P1b oM oM)) t2 t0 (sw (n6 L (I4 oM oM)) t2 t0 (mV L rfl (sw (n6 L (I4 oM oM)) t2 t0 (aV L rfl (zn [(4,_),(5,_),(6,_),(7,_),(8,_),(9,_),(11,_),(12,_),(14,_),(16,_)] [(46,_),(55,_)] t10 t2 (exr (mV L rfl (mV L rfl ?_)))))))))))
      refine mV L rfl (sw (B3 L (w64 oM oM)) t2 t0 (mV L rfl (sw (D4 un127 un119 L (show _=(win.getD j 0 - p % 4294967296 - b) % 4294967296 by rw [m8]; omega)) t1 t0 ?_)))
      refine sw (y6 un43 sz119 (by exact sO) (j:=i+j) rO oM L) t2 t1 ?_
      refine sb (d0c sz119 (by exact sO) (.atom rfl) oM) t2 t1 ?_
      refine zn [(4,_),(5,_),(6,_),(7,_),(8,_),(9,_),(11,_),(12,_),(14,_),(16,_)] [(46,_),(55,_)] t10 t2 (j3 (mV L rfl (sw (I9 L dC (f0d (c:=4294967296) rF dC)) t2 t0 ?_)))
      refine sw (n6 L G0v) t2 t0 (aV L rfl (O1 (j3 (mV L rfl (sw (B3 L (w64 oM oM)) t2 t0 (aV L rfl (O1 ?_)))))))
      exact ⟨(j+1,ys++[(win.getD j 0 - p % 4294967296 - b) % 4294967296],p / 4294967296,if win.getD j 0<p % 4294967296+b then 1 else 0),key2,(by simp only; omega),l3 ⟨oR,oR,oi (by simp only; split <;> omega) rfl,rfl,rfl,rfl,rfl,rfl,rfl,rfl,trivial⟩ ⟨obl rfl (by rw [m5,d1d hti hylen oM]),rfl,trivial⟩⟩
     ·have hf:=df hf
      have hj:j=win.length:=by omega
      subst hj
      have hst:=R8.start w1 oM hDwd ⟨hqb.2.1,hqb.2.2⟩ hqb.1 hy
      have el:ys++win.drop win.length=ys:=by simp
      refine G2 (xq ?_)
      refine R1 (V1 ?_)
      refine exl (α:=(Int×List Int×Int)) (fun z=>[(11,vw z.1),(13,vw z.2.2)]) (fun z=>[(46,⟨119,1,.pure (J4 (xs++(z.2.1++zs)))⟩)]) (fun z=>R8 win Dv z) (fun z=>z.1.toNat) ((q,ys,b)) (sl:=[(4,_),(5,_),(6,_),(7,_),(8,_),(9,_)]) (hb:=[(55,_)]) ?_ ⟨oR,oR,rfl,rfl,rfl,rfl,rfl,rfl,trivial⟩ ⟨obl rfl (by rw [el]),rfl,trivial⟩ ?_
      ·exact hst
      intro z hz
      obtain ⟨q,v1,b⟩:=z
      have zlen:=hz.len
      have zwd:=hz.wd
      have zb:=hz.b
      have zq:=hz.q
      simp only at zlen zwd zb zq
      dsimp only
      refine R1 (exr (mV L rfl (sw (i7 L) t2 t0 (zn [(4,_),(5,_),(6,_),(7,_),(8,_),(9,_),(11,_),(13,_),(130,_)] [(46,_),(55,_)] t9 t2 ?_))))
      refine j2 rfl (fun hg=>?_) (fun hg=>?_)
      ·have hg:=dt hg
       have hb1:b=1:=by omega
       subst hb1
       have hqp:=hz.pos w1 hDpos
       refine U1 (xq ?_)
       refine V1 (exr (mV L rfl (sw (n6 L (I4 oM oM)) t2 t0 (aV L rfl (zn [(4,_),(5,_),(6,_),(7,_),(8,_),(9,_),(11,_),(13,_)] [(46,_),(55,_)] t8 t2 (exr (aV L rfl (zn [(4,_),(5,_),(6,_),(7,_),(8,_),(9,_),(11,_),(12,_),(13,_)] [(46,_),(55,_)] t9 t2 (R1 (exr (aV L rfl ?_)))))))))))
       refine zn [(4,_),(5,_),(6,_),(7,_),(8,_),(9,_),(11,_),(12,_),(13,_),(17,_)] [(46,_),(55,_)] t10 t2 (V1 ?_)
       refine exl (α:=(Nat×List Int×Int)) (fun y=>[(17,vi (y.1:Int)),(12,vw y.2.2)]) (fun y=>[(46,⟨119,1,.pure (J4 (xs++((y.2.1++v1.drop y.1)++zs)))⟩)]) (fun y=>H9 v1 Dv y) (fun y=>win.length - y.1) (((0:Nat),([]:List Int),(0:Int))) (sl:=[(4,_),(5,_),(6,_),(7,_),(8,_),(9,_),(11,_),(13,_)]) (hb:=[(55,_)]) ?_ ⟨oR,oR,rfl,rfl,rfl,rfl,rfl,rfl,rfl,rfl,trivial⟩ ⟨obl rfl sM,rfl,trivial⟩ ?_
       ·exact H9.zero v1 Dv
       intro y hy
       obtain ⟨j,us,e⟩:=y
       have hylen:=hy.len
       have hyle:=hy.le
       have hc:=hy.c
       simp only at hylen hyle hc
       dsimp only
       have hu:=zwd.getD j
       have hwd:=hDwd.getD j
       refine R1 (exr (mV L rfl (mV L rfl (sw (W1k L) t2 t0 (zn [(4,_),(5,_),(6,_),(7,_),(8,_),(9,_),(11,_),(12,_),(13,_),(17,_),(135,_)] [(46,_),(55,_)] t11 t2 ?_)))))
       refine j2 rfl (fun hf=>?_) (fun hf=>?_)
       ·have hf:=dt hf
        have key2:=hy.next zwd hDwd oM rfl
        refine U1 (xq ?_)
        refine R1 (V1 (exd rF ?_))
        refine mV L rfl (mV L rfl (mV L rfl (sw (B3 L (w64 oM oM)) t2 t0 (sw (y6 un43 sz119 (by exact sO) (j:=i+j) rO oM L) t2 t1 ?_))))
        refine sw (Y1 ag119 (by exact sO) (g0k (N1h hti hylen oM)) L) t1 t1 ?_
        refine sw (D4 un119 un127 L (I4 oM oM)) t1 t0 (mV L rfl (mV L rfl (cK hG hX cl145 hN (q5 Dv oM hDwd j oM) L t2 (sw (B3 L (I4 oM oM)) t2 t0 (mV L rfl (sw (B3 L (I4 oM oM)) t2 t0 (aV L rfl ?_)))))))
        refine O1 ⟨d5 [⟨[5],[],[138],[]⟩,⟨[9],[],[139],[]⟩,⟨[17],[],[140],[]⟩,⟨[139,140],[],[141],[]⟩,⟨[138,141],[46],[142],[]⟩,⟨[142],[46],[143],[]⟩,⟨[143],[],[144],[]⟩,⟨[7],[],[145],[]⟩,⟨[17],[],[146],[]⟩,⟨[145,146],[],[147],[]⟩,⟨[144,147],[],[148],[]⟩,⟨[12],[],[149],[]⟩,⟨[148,149],[],[150],[]⟩,⟨[150],[],[18],[]⟩] rF rF dC,[(4,_),(5,_),(6,_),(7,_),(8,_),(9,_),(11,_),(13,_),(17,_),(18,_)],[(46,_),(55,_)],t10,t2,?_⟩
        refine exr (mV L rfl (mV L rfl (mV L rfl (sw (B3 L (w64 oM oM)) t2 t0 (mV L rfl (sw (D4 un127 un119 L m8) t1 t0 (sw (y6 un43 sz119 (by exact sO) (j:=i+j) rO oM L) t2 t1 ?_)))))))
        refine sb (d0c sz119 (by exact sO) (.atom rfl) oM) t2 t1 ?_
        refine zn [(4,_),(5,_),(6,_),(7,_),(8,_),(9,_),(11,_),(13,_),(17,_),(18,_)] [(46,_),(55,_)] t10 t2 (j3 (mV L rfl (sw (I9 L dC (f0d (c:=4294967296) rF dC)) t2 t0 ?_)))
        refine aV L rfl (O1 (j3 (mV L rfl (sw (B3 L (w64 oM oM)) t2 t0 (aV L rfl (O1 ?_))))))
        exact ⟨(j+1,us++[(v1.getD j 0+Dv.getD j 0+e) % 4294967296],(v1.getD j 0+Dv.getD j 0+e) / 4294967296),key2,(by simp only; omega),l3 ⟨oR,oR,rfl,rfl,rfl,rfl,rfl,rfl,rfl,rfl,trivial⟩ ⟨obl rfl (by rw [m5,d1d hti hylen oM]),rfl,trivial⟩⟩
       ·have hf:=df hf
        have hj:j=win.length:=by omega
        subst hj
        obtain ⟨lm,-⟩:=hz.more w1 oM hDwd hDpos hy
        have el:us++v1.drop win.length=us:=by rw [← zlen]; simp
        refine G2 (xq ?_)
        refine j3 (mV L rfl (mV L rfl (sw (n6 L (I4 oM oM)) t2 t0 (aV L rfl (O1 ?_)))))
        exact ⟨(q - 1,us,1 - e),lm,(by simp only; omega),l3 ⟨oR,oR,rfl,rfl,rfl,rfl,rfl,rfl,trivial⟩ ⟨obl rfl (by rw [el]),rfl,trivial⟩⟩
      ·have hg:=df hg
       have hb0:b=0:=by omega
       subst hb0
       obtain ⟨d1,d2⟩:=hz.done w1 hDpos
       have hrest:xs++(G4 win.length (val win % val Dv)++zs)=J7 W (m+2) i (val win % val Dv):=by
        rw [w2,hzs,hxs,B0g (Int.emod_nonneg _ oM) (by have:=Int.emod_lt_of_pos (val win) hDpos; omega) oM]
       rw [d2,hrest,d1]
       refine G2 (xq ?_)
       refine j3 (mV L rfl (mV L rfl (mV L rfl (sw (D4 un127 un119 L (D0b oM oM)) t1 t0 (sw (y6 un43 sz119 (by exact sO) (j:=i) rO oM L) t2 t1 ?_)))))
       refine sb (d0c sz119 (by exact sO) (.atom rfl) oM) t2 t1 ?_
       refine O1 (j3 (mV L rfl (sw (n6 L (w64 oM oM)) t2 t0 (aV L rfl (O1 ?_)))))
       exact ⟨(i,val win % val Dv,val win / val Dv :: qs),key,(by simp only; omega),l3 ⟨oR,rfl,rfl,rfl,rfl,rfl,trivial⟩ ⟨rfl,obl rfl (by rw [m5,D1n]),trivial⟩⟩
   ·have he:=df he
    have hr0:r=0:=by omega
    subst hr0
    have heq:=hx.eq
    have hqw:=hx.wd
    simp only [List.drop_zero] at heq hqw
    rw [hDv,hWv] at heq
    rw [hDv] at hr
    obtain ⟨pe1,pe2⟩:=d1n hv heq hr
    obtain ⟨X,hXe⟩:∃ X,X=J7 W (m+2) 0 R:=⟨_,rfl⟩
    have hXl:X.length=W.length:=by rw [hXe,B4 oM]
    have hXw:Wd X:=by rw [hXe]; exact M0m hWd
    have hXv:val X=R:=by
     rw [hXe,K0n,Z6,q0n,Int.mul_zero,Int.add_zero,i6 hr.1 (by rw [hDv] at hDlt; omega)]
    rw [← hXe]
    simp only [List.replicate_zero,List.nil_append]
    refine G2 (xq ?_)
    refine s4 [46,55] (sl:=[(4,_),(5,_),(6,_)]) (hb:=[]) (F3 hX0) ⟨⟨_,rfl,(.ref rfl rfl (by exact sO) (by first | rfl | omega))⟩,⟨_,rfl,(.ref rfl rfl (by exact (by simp [B4 hle] <;> omega)) (by first | rfl | omega))⟩,⟨_,rfl,.same⟩,trivial⟩ t0 ?_
    have a1:v3 E 147 [.sl (W.length - (m+2)) (J4 qs)] (pW (y3 (val ws / val vs).toNat)):=by
     have:=s6 qs oM
     rw [f6 hqw,pe1] at this
     rw [show W.length - (m+2)=qs.length by omega]; exact this
    have a2:v3 E 147 [.sl W.length (J4 X)] (pW (y3 R.toNat)):=by
     have:=s6 X oM
     rw [f6 hXw,hXv] at this
     rw [← hXl]; exact this
    have dl:(y3 R.toNat).length≤m+2:=K0a hr.1 (by rw [hDv] at hDlt; omega)
    have a3:=J0j (y3 R.toNat) k oM (M3 _) oM
    rw [T4,show ((R.toNat:Nat):Int)=R by omega,pe2] at a3
    refine exr (mV L rfl (cK hG hX cl147 hN a1 L t1 (mV L rfl (cK hG hX cl147 hN a2 L t1 (mV L rfl (cK hG hX cl168 hN a3 L t2 (aV L rfl (aV L rfl (zn [(4,_),(5,_)] [] t2 trivial (X1 ?_))))))))))
    refine Y0 (.tmp rfl) (.tmp rfl) ?_
    rfl
theorem V0v {b c:Int}(h0:0≤c)(h1:c<b.natAbs):c % b=c:=by
 by_cases hb:0<b
 ·exact Int.emod_eq_of_lt h0 oM
 ·obtain ⟨d,rfl⟩:∃ d,b = -d:=⟨-b,by omega⟩
  rw [Int.emod_neg]; exact Int.emod_eq_of_lt h0 oM
theorem w0m {a b c:Int}(hb:b≠0)(h0:0≤c)(h1:c<b.natAbs):(a*b+c) / b=a∧(a*b+c) % b=c:=by
 have e1:(a*b+c) % b=c:=by
  rw [Int.add_comm,Int.add_mul_emod_self_right]; exact V0v h0 h1
 refine ⟨?_,e1⟩
 have:=Int.mul_ediv_add_emod (a*b+c) b
 rw [e1] at this
 have e2:b*((a*b+c) / b)=b*a:=by rw [Int.mul_comm b a]; omega
 exact Int.eq_of_mul_eq_mul_left hb e2
theorem q1s {x y:Int}(hy:y≠0):(0≤x.tmod y→x.tdiv y=x / y∧x.tmod y=x % y)∧(x.tmod y<0→x.tmod y+(if y<0 - y then 0 - y else y)=x % y∧(x - x % y).tdiv y=x / y)∧-(y.natAbs:Int)<x.tmod y∧x.tmod y<y.natAbs∧(x.tdiv y).natAbs≤x.natAbs∧(x / y).natAbs≤x.natAbs+1:=by
 have h1:=Int.mul_tdiv_add_tmod x y
 have h2:(x.tmod y).natAbs<y.natAbs:=by
  rw [Int.natAbs_tmod]; exact Nat.mod_lt _ oM
 have h3:=Int.natAbs_tdiv_le_natAbs x y
 have hmax:(if y<0 - y then 0 - y else y)=(y.natAbs:Int):=by split <;> omega
 have key1:0≤x.tmod y→x.tdiv y=x / y∧x.tmod y=x % y:=fun h=>by
  obtain ⟨e1,e2⟩:=w0m (a:=x.tdiv y) (b:=y) (c:=x.tmod y) hy h oM
  rw [show x.tdiv y*y+x.tmod y=x by rw [Int.mul_comm]; exact h1] at e1 e2
  exact ⟨e1.symm,e2.symm⟩
 have key2:x.tmod y<0→∃ a:Int,a.natAbs≤x.natAbs+1∧x=a*y+(x.tmod y+y.natAbs):=fun h=>by
  rcases (show y<0∨0<y by omega) with c | c
  ·refine ⟨x.tdiv y+1,by omega,?_⟩
   have e:(y.natAbs:Int) = -y:=by omega
   have e2:(x.tdiv y+1)*y=y*x.tdiv y+y:=by grind
   rw [e,e2]; omega
  ·refine ⟨x.tdiv y - 1,by omega,?_⟩
   have e:(y.natAbs:Int)=y:=by omega
   have e2:(x.tdiv y - 1)*y=y*x.tdiv y - y:=by grind
   rw [e,e2]; omega
 refine ⟨key1,fun h=>?_,by omega,by omega,h3,?_⟩
 ·obtain ⟨a,-,ha⟩:=key2 h
  clear key1 key2
  obtain ⟨e1,e2⟩:=w0m (a:=a) (b:=y) (c:=x.tmod y+y.natAbs) hy oM oM
  rw [← ha] at e1 e2
  refine ⟨by rw [hmax,e2],?_⟩
  rw [e2,e1,show x - (x.tmod y+(y.natAbs:Int))=a*y from Int.sub_eq_iff_eq_add.2 ha,Int.mul_tdiv_cancel _ hy]
 ·by_cases h:0≤x.tmod y
  ·rw [← (key1 h).1]; exact Nat.le_succ_of_le h3
  ·obtain ⟨a,hal,ha⟩:=key2 (Int.not_le.1 h)
   clear key1 key2
   obtain ⟨e1,-⟩:=w0m (a:=a) (b:=y) (c:=x.tmod y+y.natAbs) hy oM oM
   rw [← ha] at e1
   rw [e1]; exact hal
theorem v1g (m n:Bool)(ws vs:List Int)(hl:ws.length<99999999999)(hl2:vs.length<99999999999)(h:Wd ws)(h2:Wd vs):v3 E 146 [pI m ws,pI n vs] (.tup [pZ (dQ m n ws vs),pZ (dR m n ws vs),vZ (dE m n ws vs)]):=by
 refine D2 (xs:=[pZ (dQ m n ws vs),pZ (dR m n ws vs),vZ (dE m n ws vs)]) Tryz.func146 rfl Tryz.ntmps146 Tryz.results146 sM fun F hG hX0 hnt hdf P0=>?_
 obtain ⟨L,hX,hN⟩:=pro hnt hX0 hG
 refine exr (swb (U3 (k:=2) (n:=2) pa2 rfl rfl (P0 _ rfl) L) t1 t0 ⟨rfl,rfl⟩ (swb (U3 (k:=3) (n:=2) pa2 rfl rfl (P0 _ rfl) L) t1 t0 ⟨rfl,rfl⟩ (swb (R3 (k:=4) (n:=2) zv45 (.cons rfl (.cons rfl .nil)) rfl (P0 _ rfl) L) t0 t0 ⟨rfl,rfl⟩ (swb (R3 (k:=5) (n:=2) zv45 (.cons rfl (.cons rfl .nil)) rfl (P0 _ rfl) L) t0 t0 ⟨rfl,rfl⟩ (aV L rfl (zn [(2,_),(3,_),(4,_),(5,_)] [(2,_),(3,_),(4,_),(5,_)] t4 t4 (R1 ?_)))))))
 refine exm (sl:=[(22,vb (decide (¬ (P2 m ws=true∧P2 n vs=true))))]) (sl0:=[(2,_),(3,_),(4,_),(5,_)]) (hb:=[]) (hb0:=[(2,_),(3,_),(4,_),(5,_)]) t4 t4 ?_ ?_
 ·by_cases hca:P2 m ws=true
  ·refine lp2 ag45 sz45 L rfl rfl (cK hG hX cl77 hN (E5 m ws oM) L t1 (sw (C4 L) t1 t0 (mV L rfl (swg (g:=18) rfl (by simp [hca]) (R6 ag45 sz45 rF (by exact al2) rfl L) rfl t1 t1 ?_))))
   refine swg (g:=18) rfl (by simp [hca]) (c_c hG hX cl77 rfl hN (E5 n vs oM) L) rfl t1 t0 ?_
   refine swg (g:=18) rfl (by simp [hca]) (C4 L) rfl t1 t0 ?_
   refine sw (y4 (by simp [hca]) L) t2 t0 ?_
   exact O1 ⟨⟨ob rfl (by simp [hca]),rfl,rfl,rfl,rfl,trivial⟩,t4⟩
  ·refine lp2 ag45 sz45 L rfl rfl (cK hG hX cl77 hN (E5 m ws oM) L t1 (sw (C4 L) t1 t0 (mV L rfl (swn (g:=18) rfl (by simp [hca]) L rfl ?_))))
   refine swn (g:=18) rfl (by simp [hca]) L rfl ?_
   refine swn (g:=18) rfl (by simp [hca]) L rfl ?_
   refine sw (O4 (by simp [hca]) L) t2 t0 ?_
   exact O1 ⟨⟨ob rfl (by simp [hca]),rfl,rfl,rfl,rfl,trivial⟩,t4⟩
 refine j2 rfl (fun hc=>?_) (fun hc=>?_)
 ·have hc:=dt hc
  refine exd rF ?_
  refine sw (b0d (R6 ag45 sz45 rF (by exact al2) rfl L) (.agg (.cons .same (.cons .nil .nil)))) t1 t1 ?_
  refine sw (b0d (R6 ag45 sz45 rF (by exact al2) rfl L) (.agg (.cons .same (.cons .nil .nil)))) t1 t1 ?_
  refine sb (U2 sz45 rF pa2 rfl pu2) t2 t1 ?_
  refine sb (U2 sz45 rF pa2 rfl pu2) t2 t1 ?_
  refine aV L rfl ?_
  refine O1 ⟨d5 [⟨[4],[4],[23],[]⟩,⟨[5],[5],[24],[]⟩,⟨[4,23],[4],[],[4]⟩,⟨[5,24],[5],[],[5]⟩,⟨[],[],[6],[]⟩] rF rF dC,[(4,_),(5,_),(6,_)],[(4,_),(5,_)],t3,t2,?_⟩
  refine X1 ?_
  refine P1 (.agg rfl rfl rfl ag45 sz45 (.cons (.cons .nil))) (.agg rfl rfl rfl ag45 sz45 (.cons (.cons .nil))) (.tmp rfl) ?_
  rw [dQ,dR,dE,if_neg hc,if_neg (fun hh=>hc ⟨hh.1,hh.2.1⟩),if_neg hc,U8]; rfl
 ·have hc:=Decidable.not_not.1 (df hc)
  have ht:=(P5 hc.1).1
  have ht2:=(P5 hc.2).1
  refine U1 (xq ?_)
  refine R1 (exr (sw (i2 un45 rfl sz43 dC rX L) t1 t1 ?_))
  refine sw (Y1 ag43 rF rF L) t1 t1 ?_
  refine sw (R2 un43 L) t1 t0 (sw (c_e L) t2 t0 (zn [(2,_),(3,_),(4,_),(5,_),(28,_)] [(2,_),(3,_),(4,_),(5,_)] t5 t4 ?_))
  refine j2 rfl (fun hz=>?_) (fun hz=>?_)
  ·have hz:=dt hz
   have e:vs=[]:=E0 oM
   subst e
   have e0:sg n (val [])=0:=by cases n <;> rfl
   refine exd rF ?_
   refine sw (b0d (R6 ag45 sz45 rF (by exact al2) rfl L) (.agg (.cons .same (.cons .nil .nil)))) t1 t1 ?_
   refine sw (b0d (R6 ag45 sz45 rF (by exact al2) rfl L) (.agg (.cons .same (.cons .nil .nil)))) t1 t1 ?_
   refine sb (U2 sz45 rF pa2 rfl pu2) t2 t1 ?_
   refine sb (U2 sz45 rF pa2 rfl pu2) t2 t1 ?_
   refine aV L rfl ?_
   refine O1 ⟨d5 [⟨[4],[4],[29],[]⟩,⟨[5],[5],[30],[]⟩,⟨[4,29],[4],[],[4]⟩,⟨[5,30],[5],[],[5]⟩,⟨[],[],[6],[]⟩] rF rF dC,[(4,_),(5,_),(6,_)],[(4,_),(5,_)],t3,t2,?_⟩
   refine X1 ?_
   refine P1 (.agg rfl rfl rfl ag45 sz45 (.cons (.cons .nil))) (.agg rfl rfl rfl ag45 sz45 (.cons (.cons .nil))) (.tmp rfl) ?_
   rw [dQ,dR,dE,if_pos hc,if_neg (fun hh=>hh.2.2 rfl),if_pos hc,if_pos (show ([]:List Int).length=0 from rfl),e0,Int.ediv_zero,U8]; rfl
  ·have hz:=df hz
   have hv:=m1f h2 ht2 oM
   have a0:=F2 h
   have r0:=Int.emod_nonneg (val ws) (show val vs≠0 by omega)
   have q0:=Int.ediv_nonneg a0 (E1 hv)
   have r1:=Int.emod_lt_of_pos (val ws) hv
   have q1:=Int.ediv_le_self (val vs) a0
   have dsg:=F1c (m:=m) (n:=n) a0 hv
   have hQ:dQ m n ws vs=sg m (val ws) / sg n (val vs):=by rw [dQ,if_pos hc]
   have hR:dR m n ws vs=sg m (val ws) % sg n (val vs):=by rw [dR,if_pos ⟨hc.1,hc.2,by omega⟩]
   have hE:dE m n ws vs=0:=by rw [dE,if_pos hc,if_neg oM]
   rw [hQ,hR,hE]
   refine U1 (xq ?_)
   refine exr (lp2 ag45 sz45 L rfl rfl (cK hG hX cl118 hN (J8 m ws oM h ht) L t1 (mV L rfl (sw (O3 rfl L) t1 t0 (sw (O3 rfl L) t1 t0 (aV L rfl (aV L rfl (zn [(2,_),(3,_),(4,_),(5,_),(7,_),(8,_)] [(2,_),(3,_),(4,_),(5,_)] t6 t4 (exr (lp2 ag45 sz45 L rfl rfl (cK hG hX cl118 hN (J8 n vs oM h2 ht2) L t1 ?_)))))))))))
   refine mV L rfl (sw (O3 rfl L) t1 t0 (sw (O3 rfl L) t1 t0 (aV L rfl (aV L rfl (zn [(2,_),(3,_),(4,_),(5,_),(7,_),(8,_),(9,_),(10,_)] [(2,_),(3,_),(4,_),(5,_)] t8 t4 (R1 ?_))))))
   refine exm (sl:=[(44,vb (decide (val ws<4611686018427387904∧val vs<4611686018427387904)))]) (sl0:=[(2,_),(3,_),(4,_),(5,_),(7,_),(9,_)]) (hb:=[]) (hb0:=[(2,_),(3,_),(4,_),(5,_)]) t6 t4 ?_ ?_
   ·by_cases hs1:val ws<4611686018427387904
    ·refine mV L rfl (mV L rfl (gV (g:=42) rfl (decide_eq_true hs1) L rfl rfl (sw (O4 (decide_eq_true hs1) L) t2 t0 ?_)))
     exact O1 ⟨⟨ob rfl (C7 ⟨fun c=>⟨hs1,c⟩,fun c=>c.2⟩),rfl,rfl,rfl,rfl,rfl,rfl,trivial⟩,t4⟩
    ·refine mV L rfl (mV L rfl (swn (g:=42) rfl (decide_eq_false hs1) L rfl (sw (y4 (decide_eq_false hs1) L) t2 t0 ?_)))
     exact O1 ⟨⟨ob rfl (decide_eq_false (fun c=>hs1 c.1)).symm,rfl,rfl,rfl,rfl,rfl,rfl,trivial⟩,t4⟩
   refine j2 rfl (fun hs=>?_) (fun hs=>?_)
   ·have hs:=dt hs
    rw [if_pos hs.1,if_pos hs.2]
    obtain ⟨x,hx⟩:∃ x,x=sg m (val ws):=⟨_,rfl⟩
    obtain ⟨y,hy⟩:∃ y,y=sg n (val vs):=⟨_,rfl⟩
    have bx:x.natAbs<4611686018427387904:=by rw [hx]; unfold sg; split <;> omega
    have by':y.natAbs<4611686018427387904∧y≠0:=by rw [hy]; unfold sg; split <;> omega
    rw [← hx,← hy]
    obtain ⟨p1,p2,p3,p4,p5,p6⟩:=q1s (x:=x) by'.2
    have m0:=Int.emod_nonneg x by'.2
    have m1:=Int.emod_lt x by'.2
    refine exd rF ?_
    refine mV L rfl (mV L rfl (sw (c_q L by'.2 (show _=x.tdiv y from w64 oM oM)) t2 t0 (mV L rfl (mV L rfl (sw (c_r L by'.2 rfl) t2 t0 (aV L rfl (aV L rfl ?_)))))))
    refine O1 ⟨d5 [⟨[7],[],[45],[]⟩,⟨[9],[],[46],[]⟩,⟨[45,46],[],[47],[]⟩,⟨[7],[],[48],[]⟩,⟨[9],[],[49],[]⟩,⟨[48,49],[],[50],[]⟩,⟨[47],[],[11],[]⟩,⟨[50],[],[12],[]⟩] rF rF dC,[(4,_),(5,_),(7,_),(9,_),(11,_),(12,_)],[(4,_),(5,_)],t6,t2,?_⟩
    refine R1 (exr (mV L rfl (sw (P3 L) t2 t0 (zn [(4,_),(5,_),(7,_),(9,_),(11,_),(12,_),(52,_)] [(4,_),(5,_)] t7 t2 ?_))))
    refine g0x (sl:=[(11,vi (x / y)),(12,vi (x % y))]) (sl0:=[(4,_),(5,_)]) (hb:=[]) (hb0:=[(4,_),(5,_)]) t2 t2 ?_ ?_
    ·refine j2 rfl (fun ht=>?_) (fun ht=>?_)
     ·have ht:=dt ht
      obtain ⟨e1,e2⟩:=p2 ht
      refine exr (mV L rfl (mV L rfl (mV L rfl (sw (q1c L (show _=0 - y from w64 oM oM)) t1 t0 (sw (V1p L) t2 t0 (sw (B3 L (show _=x % y by rw [e1]; exact w64 oM oM)) t2 t0 ?_))))))
      refine aV L rfl (zn [(4,_),(5,_),(7,_),(9,_),(12,_)] [(4,_),(5,_)] t5 t2 (j3 (mV L rfl (mV L rfl (sw (n6 L (show _=x - x % y from w64 oM oM)) t2 t0 (mV L rfl (sw (c_q L by'.2 (show _=x / y by rw [e2]; exact w64 oM oM)) t2 t0 ?_)))))))
      refine aV L rfl (O1 ?_)
      exact ⟨⟨oR,oR,oR,oR,trivial⟩,t2⟩
     ·have ht:=df ht
      obtain ⟨e1,e2⟩:=p1 oM
      refine U1 ?_
      exact ⟨⟨oi e1 rfl,oi e2 rfl,oR,oR,trivial⟩,t2⟩
    ·refine exr (mV L rfl (cK hG hX cl119 hN (b0r (x / y) oM oM) L t1 (mV L rfl (cK hG hX cl119 hN (b0r (x % y) oM oM) L t1 (sb (U2 sz45 rF pa2 rfl pu2) t2 t1 ?_)))))
     refine sb (U2 sz45 rF pa2 rfl pu2) t2 t1 ?_
     refine aV L rfl (zn [(4,_),(5,_),(6,_)] [(4,_),(5,_)] t3 t2 (X1 ?_))
     refine P1 (.agg rfl rfl rfl ag45 sz45 (.cons (.cons .nil))) (.agg rfl rfl rfl ag45 sz45 (.cons (.cons .nil))) (.tmp rfl) ?_
     rfl
   ·have hs:=df hs
    have dq1:(y3 (val ws / val vs).toNat).length≤ws.length:=K0a q0 (by have:=j5 h; omega)
    have dr1:(y3 (val ws % val vs).toNat).length≤vs.length:=K0a r0 (by have:=j5 h2; omega)
    have vq:val (y3 (val ws / val vs).toNat)=val ws / val vs:=by rw [T4]; omega
    have vr:val (y3 (val ws % val vs).toNat)=val ws % val vs:=by rw [T4]; omega
    rw [dsg.1,dsg.2]
    refine U1 (xq ?_)
    refine exr (sw (i2 un45 rfl sz43 dC rX L) t1 t1 ?_)
    refine sw (Y1 ag43 rF rF L) t1 t1 ?_
    refine sw (i2 un45 rfl sz43 dC rX L) t1 t1 ?_
    refine sw (Y1 ag43 rF rF L) t1 t1 ?_
    refine cK hG hX cl154 hN (h1v ws vs oM oM h h2 ht ht2 hv) L t2 (mV L rfl (sw (O3 rfl L) t1 t0 (sw (O3 rfl L) t1 t0 (aV L rfl (aV L rfl (zn [(2,_),(3,_),(4,_),(5,_),(13,_),(14,_)] [(2,_),(3,_),(4,_),(5,_)] t6 t4 (R1 ?_)))))))
    refine exm (sl:=[(82,vb (decide (m=true∧val ws % val vs≠0)))]) (sl0:=[(2,_),(3,_),(4,_),(5,_),(13,_),(14,_)]) (hb:=[]) (hb0:=[(2,_),(3,_),(4,_),(5,_)]) t6 t4 ?_ ?_
    ·by_cases hm:m=true
     ·refine sw (i2 un45 rfl sz4 dC rX L) t1 t1 ?_
      refine sw (Y1 ag4 rF rF L) t1 t1 ?_
      refine mV L rfl (gV (g:=78) rfl hm L rfl rfl (swg (g:=78) rfl hm (R2 un43 L) rfl t1 t0 (swg (g:=78) rfl hm (i7 L) rfl t2 t0 (sw (O4 hm L) t2 t0 ?_))))
      exact O1 ⟨⟨ob rfl (C7 (by have:=y7 (n:=(val ws % val vs).toNat); simp only [hm,true_and]; omega)),rfl,rfl,rfl,rfl,rfl,rfl,trivial⟩,t4⟩
     ·refine sw (i2 un45 rfl sz4 dC rX L) t1 t1 ?_
      refine sw (Y1 ag4 rF rF L) t1 t1 ?_
      refine mV L rfl (swn (g:=78) rfl (by simpa using hm) L rfl ?_)
      refine swn (g:=78) rfl (by simpa using hm) L rfl ?_
      refine swn (g:=78) rfl (by simpa using hm) L rfl ?_
      refine sw (y4 (by simpa using hm) L) t2 t0 ?_
      exact O1 ⟨⟨ob rfl (decide_eq_false (fun c=>hm c.1)).symm,rfl,rfl,rfl,rfl,rfl,rfl,trivial⟩,t4⟩
    refine j2 rfl (fun hd=>?_) (fun hd=>?_)
    ·have hd:=dt hd
     rw [if_pos hd,if_pos hd]
     have a1:=N0p (y3 (val ws / val vs).toNat) [1] oM sM (M3 _) (fun w hw=>by rw [List.mem_singleton] at hw; subst hw; decide)
     rw [vq,show val [1]=1 by simp [val]] at a1
     have a2:=y0c vs (y3 (val ws % val vs).toNat) oM dr1 h2 (M3 _) oM
     rw [vr] at a2
     have l1:(y3 (val ws / val vs+1).toNat).length≤ws.length+1:=K0a oM (by have:=j5 h; have:=H0z (show ws.length≤ws.length+1 by omega); have:=D1c ws.length; have:=w0h ws.length; omega)
     have l2:(y3 (val vs - val ws % val vs).toNat).length≤vs.length:=K0a oM (by have:=j5 h2; omega)
     have a3:=q6 (m != n) (y3 (val ws / val vs+1).toNat) oM (M3 _)
     rw [T4,show (((val ws / val vs+1).toNat:Nat):Int)=val ws / val vs+1 by omega] at a3
     have a4:=q6 false (y3 (val vs - val ws % val vs).toNat) oM (M3 _)
     rw [T4,show (((val vs - val ws % val vs).toNat:Nat):Int)=val vs - val ws % val vs by omega] at a4
     refine b0z rF ?_
     refine mV L rfl (sw (q4 (vs:=[_]) un43 ti119 rfl rfl dC dC rfl (K2 (.cons rfl .nil) rfl) rfl (.cons rfl (.atom rfl) rfl pu1 .nil) (.cons .nil) L) t1 t0 (cK hG hX cl142 hN a1 L t2 (sw (i2 un45 rfl sz43 dC rX L) t1 t1 ?_)))
     refine sw (Y1 ag43 rF rF L) t1 t1 ?_
     refine mV L rfl (cK hG hX cl144 hN a2 L t2 (aV L rfl (aV L rfl ?_)))
     refine O1 ⟨d5 [⟨[13],[],[83],[]⟩,⟨[],[],[84],[]⟩,⟨[83,84],[],[85],[]⟩,⟨[3],[3],[86],[]⟩,⟨[86],[3],[87],[]⟩,⟨[14],[],[88],[]⟩,⟨[87,88],[],[89],[]⟩,⟨[85],[],[13],[]⟩,⟨[89],[],[14],[]⟩] rF rF dC,?_⟩
     refine exr (sw (i2 un45 rfl sz4 dC rX L) t1 t1 ?_)
     refine sw (Y1 ag4 rF rF L) t1 t1 ?_
     refine sw (i2 un45 rfl sz4 dC rX L) t1 t1 ?_
     refine sw (Y1 ag4 rF rF L) t1 t1 ?_
     refine sw (y0n un4 L) t2 t0 (mV L rfl (cK hG hX cl122 hN a3 L t2 (mV L rfl (cK hG hX cl122 hN a4 L t2 (sb (U2 sz45 rF pa2 rfl pu2) t2 t1 ?_)))))
     refine sb (U2 sz45 rF pa2 rfl pu2) t2 t1 ?_
     refine aV L rfl (zn [(4,_),(5,_),(6,_)] [(4,_),(5,_)] t3 t2 (X1 ?_))
     refine P1 (.agg rfl rfl rfl ag45 sz45 (.cons (.cons .nil))) (.agg rfl rfl rfl ag45 sz45 (.cons (.cons .nil))) (.tmp rfl) ?_
     rfl
    ·have hd:=df hd
     rw [if_neg hd,if_neg hd]
     have a3:=q6 (m != n) (y3 (val ws / val vs).toNat) oM (M3 _)
     rw [vq] at a3
     have a4:=q6 false (y3 (val ws % val vs).toNat) oM (M3 _)
     rw [vr] at a4
     refine U1 (xq ?_)
     refine exr (sw (i2 un45 rfl sz4 dC rX L) t1 t1 ?_)
     refine sw (Y1 ag4 rF rF L) t1 t1 ?_
     refine sw (i2 un45 rfl sz4 dC rX L) t1 t1 ?_
     refine sw (Y1 ag4 rF rF L) t1 t1 ?_
     refine sw (y0n un4 L) t2 t0 (mV L rfl (cK hG hX cl122 hN a3 L t2 (mV L rfl (cK hG hX cl122 hN a4 L t2 (sb (U2 sz45 rF pa2 rfl pu2) t2 t1 ?_)))))
     refine sb (U2 sz45 rF pa2 rfl pu2) t2 t1 ?_
     refine aV L rfl (zn [(4,_),(5,_),(6,_)] [(4,_),(5,_)] t3 t2 (X1 ?_))
     refine P1 (.agg rfl rfl rfl ag45 sz45 (.cons (.cons .nil))) (.agg rfl rfl rfl ag45 sz45 (.cons (.cons .nil))) (.tmp rfl) ?_
     rfl
theorem N1c (a b:Int)(ha:nw a<99999999999)(hb:nw b<99999999999)(h0:b≠0):v3 E 146 [pZ a,pZ b] (.tup [pZ (a / b),pZ (a % b),vZ 0]):=by
 have:=v1g (decide (a<0)) (decide (b<0)) (y3 a.natAbs) (y3 b.natAbs) ha hb (M3 _) (M3 _)
 have hl:(y3 b.natAbs).length≠0:=by rw [Ne,y7]; omega
 rwa [dQ,dR,dE,if_pos ⟨K3 a,K3 b⟩,if_pos ⟨K3 a,K3 b,hl⟩,if_pos ⟨K3 a,K3 b⟩,if_neg hl,D5,D5] at this
theorem n0g (a b:Int)(ha:nw a<999999999999)(hb:nw b<999999999999):v3 E 83 [pZ a,pZ b] (pZ (a*b)):=by
 have:=f1c (decide (a<0)) (decide (b<0)) (y3 a.natAbs) (y3 b.natAbs) (by unfold nw at ha; omega) (by unfold nw at hb; omega) (M3 _) (M3 _)
 rwa [if_pos ⟨K3 a,K3 b⟩,D5,D5] at this
theorem H0w (a:Int)(ha:nw a<999999999999):v3 E 78 [pZ a] (vZ a.sign):=by
 have:=g1m (decide (a<0)) (y3 a.natAbs) (by unfold nw at ha; omega) (M3 _)
 rwa [if_pos (K3 a),D5] at this
theorem m1q (a b:Int)(ha:nw a<99999999999)(hb:nw b<99999999999)(h0:b≠0):v3 E 121 [pZ a,pZ b] (pZ (a / b)):=by
 refine D2 (xs:=[pZ (a / b)]) Tryz.func121 rfl Tryz.ntmps121 Tryz.results121 sM fun F hG hX0 hnt hdf P0=>?_
 obtain ⟨L,hX,hN⟩:=pro hnt hX0 hG
 refine exr (swb (U3 (k:=2) (n:=2) pa2 rfl rfl (P0 _ rfl) L) t1 t0 ⟨rfl,rfl⟩ (swb (U3 (k:=3) (n:=2) pa2 rfl rfl (P0 _ rfl) L) t1 t0 ⟨rfl,rfl⟩ (swb (R3 (k:=4) (n:=2) zv45 (.cons rfl (.cons rfl .nil)) rfl (P0 _ rfl) L) t0 t0 ⟨rfl,rfl⟩ (zn [(2,_),(3,_),(4,_)] [(2,_),(3,_),(4,_)] t3 t3 (exr (lp2 ag45 sz45 L rfl rfl (lp2 ag45 sz45 L rfl rfl (cK hG hX cl146 hN (N1c a b ha hb h0) L t2 (mV L rfl (sw (O3 rfl L) t1 t0 (sw (O3 rfl L) t1 t0 ?_)))))))))))
 refine sw (O3 rfl L) t1 t0 (swb (R3 (k:=5) (n:=2) zv45 (.cons rfl (.cons rfl .nil)) rfl (P0 _ rfl) L) t0 t0 ⟨rfl,rfl⟩ (swb (R3 (k:=6) (n:=2) zv45 (.cons rfl (.cons rfl .nil)) rfl (P0 _ rfl) L) t0 t0 ⟨rfl,rfl⟩ (sb (U2 sz45 rF pa2 rfl pu2) t2 t1 ?_)))
 refine sb (U2 sz45 rF pa2 rfl pu2) t2 t1 ?_
 refine aV L rfl (zn [(4,_),(5,_)] [(4,_),(5,_)] t2 t2 (exr (lp2 ag45 sz45 L rfl rfl (sb (U2 sz45 rF pa2 rfl pu2) t2 t1 ?_))))
 refine zn [(4,_)] [(4,_)] t1 t1 (X1 ?_)
 refine Q0 (.agg rfl rfl rfl ag45 sz45 (.cons (.cons .nil))) ?_
 rfl
theorem Y1w (a b:Int)(ha:nw a<99999999999)(hb:nw b<99999999999)(h0:b≠0):v3 E 120 [pZ a,pZ b] (pZ (a % b)):=by
 refine D2 (xs:=[pZ (a % b)]) Tryz.func120 rfl Tryz.ntmps120 Tryz.results120 sM fun F hG hX0 hnt hdf P0=>?_
 obtain ⟨L,hX,hN⟩:=pro hnt hX0 hG
 refine exr (swb (U3 (k:=2) (n:=2) pa2 rfl rfl (P0 _ rfl) L) t1 t0 ⟨rfl,rfl⟩ (swb (U3 (k:=3) (n:=2) pa2 rfl rfl (P0 _ rfl) L) t1 t0 ⟨rfl,rfl⟩ (swb (R3 (k:=4) (n:=2) zv45 (.cons rfl (.cons rfl .nil)) rfl (P0 _ rfl) L) t0 t0 ⟨rfl,rfl⟩ (zn [(2,_),(3,_),(4,_)] [(2,_),(3,_),(4,_)] t3 t3 (exr (lp2 ag45 sz45 L rfl rfl (lp2 ag45 sz45 L rfl rfl (cK hG hX cl146 hN (N1c a b ha hb h0) L t2 (mV L rfl (sw (O3 rfl L) t1 t0 (sw (O3 rfl L) t1 t0 ?_)))))))))))
 refine sw (O3 rfl L) t1 t0 (swb (R3 (k:=5) (n:=2) zv45 (.cons rfl (.cons rfl .nil)) rfl (P0 _ rfl) L) t0 t0 ⟨rfl,rfl⟩ (swb (R3 (k:=6) (n:=2) zv45 (.cons rfl (.cons rfl .nil)) rfl (P0 _ rfl) L) t0 t0 ⟨rfl,rfl⟩ (sb (U2 sz45 rF pa2 rfl pu2) t2 t1 ?_)))
 refine sb (U2 sz45 rF pa2 rfl pu2) t2 t1 ?_
 refine aV L rfl (zn [(4,_),(6,_)] [(4,_),(6,_)] t2 t2 (exr (lp2 ag45 sz45 L rfl rfl (sb (U2 sz45 rF pa2 rfl pu2) t2 t1 ?_))))
 refine zn [(4,_)] [(4,_)] t1 t1 (X1 ?_)
 refine Q0 (.agg rfl rfl rfl ag45 sz45 (.cons (.cons .nil))) ?_
 rfl
theorem N1v (x:Nat)(hx:nw (x:Int)<999999999999):v3 E 118 [pZ (x:Int)] (.tup [vZ (if x<4611686018427387904 then (x:Int) else 0),bZ (decide (x<4611686018427387904))]):=by
 have:=J8 (decide ((x:Int)<0)) (y3 (x:Int).natAbs) (by unfold nw at hx; omega) (M3 _) (P9 _)
 rw [D5,T4] at this
 have e:(((x:Int).natAbs:Nat):Int)=(x:Int):=by omega
 rw [e] at this
 have e2:decide ((x:Int)<4611686018427387904)=decide (x<4611686018427387904):=C7 oM
 rw [e2] at this
 by_cases c:x<4611686018427387904
 ·rw [if_pos oM] at this; rwa [if_pos c]
 ·rw [if_neg oM] at this; rwa [if_neg c]
theorem q1d (m n:Bool)(ws vs:List Int)(hl:ws.length<9999999999)(hl2:vs.length<9999999999)(h:Wd ws)(h2:Wd vs):v3 E 80 [pI m ws,pI n vs] (pZ (if P2 m ws=true∧P2 n vs=true then (Int.gcd (sg m (val ws)) (sg n (val vs)):Int) else 0)):=by
 refine D2 (xs:=[pZ (if P2 m ws=true∧P2 n vs=true then (Int.gcd (sg m (val ws)) (sg n (val vs)):Int) else 0)]) Tryz.func80 rfl Tryz.ntmps80 Tryz.results80 sM fun F hG hX0 hnt hdf P0=>?_
 obtain ⟨L,hX,hN⟩:=pro hnt hX0 hG
 refine exr (swb (U3 (k:=2) (n:=2) pa2 rfl rfl (P0 _ rfl) L) t1 t0 ⟨rfl,rfl⟩ (swb (U3 (k:=3) (n:=2) pa2 rfl rfl (P0 _ rfl) L) t1 t0 ⟨rfl,rfl⟩ (swb (R3 (k:=4) (n:=2) zv45 (.cons rfl (.cons rfl .nil)) rfl (P0 _ rfl) L) t0 t0 ⟨rfl,rfl⟩ (zn [(2,_),(3,_),(4,_)] [(2,_),(3,_),(4,_)] t3 t3 (R1 ?_)))))
 refine exm (sl:=[(18,vb (decide (¬ (P2 m ws=true∧P2 n vs=true))))]) (sl0:=[(2,_),(3,_),(4,_)]) (hb:=[]) (hb0:=[(2,_),(3,_),(4,_)]) t3 t3 ?_ ?_
 ·by_cases hca:P2 m ws=true
  ·refine lp2 ag45 sz45 L rfl rfl (cK hG hX cl77 hN (E5 m ws oM) L t1 (sw (C4 L) t1 t0 (mV L rfl (swg (g:=14) rfl (by simp [hca]) (R6 ag45 sz45 rF (by exact al2) rfl L) rfl t1 t1 ?_))))
   refine swg (g:=14) rfl (by simp [hca]) (c_c hG hX cl77 rfl hN (E5 n vs oM) L) rfl t1 t0 ?_
   refine swg (g:=14) rfl (by simp [hca]) (C4 L) rfl t1 t0 ?_
   refine sw (y4 (by simp [hca]) L) t2 t0 ?_
   exact O1 ⟨⟨ob rfl (by simp [hca]),rfl,rfl,rfl,trivial⟩,t3⟩
  ·refine lp2 ag45 sz45 L rfl rfl (cK hG hX cl77 hN (E5 m ws oM) L t1 (sw (C4 L) t1 t0 (mV L rfl (swn (g:=14) rfl (by simp [hca]) L rfl ?_))))
   refine swn (g:=14) rfl (by simp [hca]) L rfl ?_
   refine swn (g:=14) rfl (by simp [hca]) L rfl ?_
   refine sw (O4 (by simp [hca]) L) t2 t0 ?_
   exact O1 ⟨⟨ob rfl (by simp [hca]),rfl,rfl,rfl,trivial⟩,t3⟩
 refine j2 rfl (fun hc=>?_) (fun hc=>?_)
 ·have hc:=dt hc
  refine exr (sw (b0d (G7 (vs:=[]) un45 zv45 (.cons rfl (.cons rfl .nil)) ((J2.cons sz4 (J2.cons sz43 J2.nil))).to rfl .nil (.cons (.cons .nil)) L) (.agg (.cons .same (.cons .nil .nil)))) t0 t0 (sb (U2 sz45 rF pa2 rfl pu2) t2 t1 ?_))
  refine zn [(4,_)] [(4,_)] t1 t1 (X1 ?_)
  refine Q0 (.agg rfl rfl rfl ag45 sz45 (.cons (.cons .nil))) ?_
  rw [if_neg hc,U8]; rfl
 ·have hc:=Decidable.not_not.1 (df hc)
  have ab:=M0q m ws oM h
  have ab2:=M0q n vs oM h2
  rw [if_pos hc.1] at ab
  rw [if_pos hc.2] at ab2
  have na:=p0b (m:=m) h
  have nb:=p0b (m:=n) h2
  rw [if_pos hc]
  obtain ⟨A,hA⟩:∃ A,A=sg m (val ws):=⟨_,rfl⟩
  obtain ⟨B,hB⟩:∃ B,B=sg n (val vs):=⟨_,rfl⟩
  rw [← hA] at ab na ⊢
  rw [← hB] at ab2 nb ⊢
  refine U1 (xq ?_)
  refine exd rF ?_
  refine lp2 ag45 sz45 L rfl rfl (cK hG hX cl117 hN ab L t1 (lp2 ag45 sz45 L rfl rfl (cK hG hX cl117 hN ab2 L t1 (swb (R3 (k:=5) (n:=2) zv45 (.cons rfl (.cons rfl .nil)) rfl (P0 _ rfl) L) t0 t0 ⟨rfl,rfl⟩ (swb (R3 (k:=6) (n:=2) zv45 (.cons rfl (.cons rfl .nil)) rfl (P0 _ rfl) L) t0 t0 ⟨rfl,rfl⟩ (sb (U2 sz45 rF pa2 rfl pu2) t2 t1 ?_))))))
  refine sb (U2 sz45 rF pa2 rfl pu2) t2 t1 ?_
  refine O1 ⟨aok rfl rfl,[(4,_),(5,_),(6,_)],[(4,_),(5,_),(6,_)],t3,t3,?_⟩
  refine R1 (V1 ?_)
  refine exl (α:=(Nat×Nat)) (fun x=>[]) (fun x=>[(5,bI (x.1:Int)),(6,bI (x.2:Int))]) (fun x=>Nat.gcd x.1 x.2=Int.gcd A B∧x.1≤max A.natAbs B.natAbs∧x.2≤max A.natAbs B.natAbs) (fun x=>x.2) ((A.natAbs,B.natAbs)) (sl:=[(4,_),(5,_),(6,_)]) (hb:=[(4,_)]) ?_ t3 t3 ?_
  ·exact ⟨rfl,Nat.le_max_left _ _,Nat.le_max_right _ _⟩
  intro x hx
  obtain ⟨x,y⟩:=x
  obtain ⟨hg,hx,hy⟩:=hx
  simp only at hg hx hy
  dsimp only
  have hnx:nw (x:Int)<9999999999:=by
   rcases (show x≤A.natAbs∨x≤B.natAbs by omega) with c | c
   ·have:=T8 (a:=(x:Int)) (b:=A) (by simpa using c); omega
   ·have:=T8 (a:=(x:Int)) (b:=B) (by simpa using c); omega
  have hny:nw (y:Int)<9999999999:=by
   rcases (show y≤A.natAbs∨y≤B.natAbs by omega) with c | c
   ·have:=T8 (a:=(y:Int)) (b:=A) (by simpa using c); omega
   ·have:=T8 (a:=(y:Int)) (b:=B) (by simpa using c); omega
  refine R1 (exr (sw (i2 un45 rfl sz43 dC rX L) t1 t1 ?_))
  refine sw (Y1 ag43 rF rF L) t1 t1 ?_
  refine sw (R2 un43 L) t1 t0 (sw (i7 L) t2 t0 (zn [(4,_),(5,_),(6,_),(27,_)] [(4,_),(5,_),(6,_)] t4 t3 ?_))
  refine j2 rfl (fun he=>?_) (fun he=>?_)
  ·have he:=dt he
   have hyp:0<y:=by
    by_cases c:y=0
    ·subst c; simp [U4] at he
    ·omega
   refine U1 (xq ?_)
   refine V1 (exr (lp2 ag45 sz45 L rfl rfl (cK hG hX cl118 hN (N1v x oM) L t1 (mV L rfl (sw (O3 rfl L) t1 t0 (sw (O3 rfl L) t1 t0 (aV L rfl (aV L rfl (zn [(4,_),(5,_),(6,_),(7,_),(8,_)] [(4,_),(5,_),(6,_)] t5 t3 (exr (lp2 ag45 sz45 L rfl rfl ?_)))))))))))
   refine cK hG hX cl118 hN (N1v y oM) L t1 (mV L rfl (sw (O3 rfl L) t1 t0 (sw (O3 rfl L) t1 t0 (aV L rfl (aV L rfl (zn [(4,_),(5,_),(6,_),(7,_),(8,_),(9,_),(10,_)] [(4,_),(5,_),(6,_)] t7 t3 (R1 ?_)))))))
   refine exm (sl:=[(41,vb (decide (x<4611686018427387904∧y<4611686018427387904)))]) (sl0:=[(4,_),(5,_),(6,_),(7,_),(9,_)]) (hb:=[]) (hb0:=[(4,_),(5,_),(6,_)]) t5 t3 ?_ ?_
   ·by_cases hs:x<4611686018427387904
    ·refine mV L rfl (mV L rfl (gV (g:=39) rfl (decide_eq_true hs) L rfl rfl (sw (O4 (decide_eq_true hs) L) t2 t0 ?_)))
     exact O1 ⟨⟨ob rfl (C7 ⟨fun c=>⟨hs,c⟩,fun c=>c.2⟩),rfl,rfl,rfl,rfl,rfl,trivial⟩,t3⟩
    ·refine mV L rfl (mV L rfl (swn (g:=39) rfl (decide_eq_false hs) L rfl (sw (y4 (decide_eq_false hs) L) t2 t0 ?_)))
     exact O1 ⟨⟨ob rfl (decide_eq_false (fun c=>hs c.1)).symm,rfl,rfl,rfl,rfl,rfl,trivial⟩,t3⟩
   refine j2 rfl (fun hs=>?_) (fun hs=>?_)
   ·have hs:=dt hs
    rw [if_pos hs.1,if_pos hs.2]
    refine R1 (V1 ?_)
    refine exl (α:=(Nat×Nat)) (fun z=>[(7,vi (z.1:Int)),(9,vi (z.2:Int))]) (fun z=>[]) (fun z=>Nat.gcd z.1 z.2=Int.gcd A B∧z.1<4611686018427387904∧z.2<4611686018427387904) (fun z=>z.2) ((x,y)) (sl:=[(4,_)]) (hb:=[(4,_)]) ?_ ⟨oR,oR,rfl,trivial⟩ t1 ?_
    ·exact ⟨hg,by simp only; omega,by simp only; omega⟩
    intro z hz
    obtain ⟨u,v⟩:=z
    obtain ⟨hg2,hu,hv⟩:=hz
    simp only at hg2 hu hv
    dsimp only
    refine R1 (exr (mV L rfl (sw (i7 L) t2 t0 (zn [(4,_),(7,_),(9,_),(43,_)] [(4,_)] t4 t1 ?_))))
    refine j2 rfl (fun hf=>?_) (fun hf=>?_)
    ·have hf:=dt hf
     have hlt:=Nat.mod_lt u (show 0<v by omega)
     refine U1 (xq ?_)
     refine V1 (b0z rF ?_)
     refine mV L rfl (mV L rfl (mV L rfl (sw (c_r L oM (show _=((u % v:Nat):Int) by rw [Int.tmod_eq_emod_of_nonneg oM]; rfl)) t2 t0 ?_)))
     refine aV L rfl (aV L rfl ?_)
     refine O1 ⟨d5 [⟨[9],[],[44],[]⟩,⟨[7],[],[45],[]⟩,⟨[9],[],[46],[]⟩,⟨[45,46],[],[47],[]⟩,⟨[44],[],[7],[]⟩,⟨[47],[],[9],[]⟩] rF rF dC,?_⟩
     exact ⟨(v,u % v),⟨by rw [← q0r]; exact hg2,hv,by simp only; omega⟩,(by simp only; omega),l3 ⟨oR,oR,rfl,trivial⟩ t1⟩
    ·have hf:=df hf
     have hv0:v=0:=by omega
     subst hv0
     rw [Nat.gcd_zero_right] at hg2
     subst hg2
     refine G2 (xq ?_)
     refine exr (mV L rfl (cK hG hX cl119 hN (b0r (Int.gcd A B:Nat) oM oM) L t1 (sb (U2 sz45 rF pa2 rfl pu2) t2 t1 ?_)))
     refine zn [(4,_)] [(4,_)] t1 t1 (X1 ?_)
     refine Q0 (.agg rfl rfl rfl ag45 sz45 (.cons (.cons .nil))) ?_
     rfl
   ·have hs:=df hs
    have hml:=Nat.mod_lt x hyp
    refine U1 (xq ?_)
    refine b0z rF ?_
    refine lp2 ag45 sz45 L rfl rfl (lp2 ag45 sz45 L rfl rfl (lp2 ag45 sz45 L rfl rfl (cK hG hX cl120 hN (Y1w (x:Int) (y:Int) oM oM oM) L t2 (sb (U2 sz45 rF pa2 rfl pu2) t2 t1 ?_))))
    refine sb (U2 sz45 rF pa2 rfl pu2) t2 t1 ?_
    refine O1 ⟨d5 [⟨[6],[6],[50],[]⟩,⟨[5],[5],[51],[]⟩,⟨[6],[6],[52],[]⟩,⟨[51,52],[],[53],[]⟩,⟨[5,50],[5],[],[5]⟩,⟨[6,53],[6],[],[6]⟩] rF rF dC,?_⟩
    exact ⟨(y,x % y),⟨by rw [← q0r]; exact hg,hy,by simp only; omega⟩,(by simp only; omega),l3 t3 t3⟩
  ·have he:=df he
   have hy0:y=0:=by
    have:(y3 (y:Int).natAbs).length=0:=by omega
    rw [y7] at this; omega
   subst hy0
   rw [Nat.gcd_zero_right] at hg
   subst hg
   refine G2 (xq ?_)
   refine exr (lp2 ag45 sz45 L rfl rfl (sb (U2 sz45 rF pa2 rfl pu2) t2 t1 ?_))
   refine zn [(4,_)] [(4,_)] t1 t1 (X1 ?_)
   refine Q0 (.agg rfl rfl rfl ag45 sz45 (.cons (.cons .nil))) ?_
   rfl
theorem N1k (a b:Int)(ha:nw a<9999999999)(hb:nw b<9999999999):v3 E 80 [pZ a,pZ b] (pZ (Int.gcd a b:Int)):=by
 have:=q1d (decide (a<0)) (decide (b<0)) (y3 a.natAbs) (y3 b.natAbs) ha hb (M3 _) (M3 _)
 rwa [if_pos ⟨K3 a,K3 b⟩,D5,D5] at this
end Go.Proofs.YtjagfionflbjbaaGreat.N
namespace Go.Proofs.YtjagfionflbjbaaGreat.NumA
open Go
theorem D1z {a b:Int}(hb:b≠0):nw (Int.gcd a b:Int)≤nw b:=by
 have:Int.gcd a b≤b.natAbs:=Nat.le_of_dvd (by omega) (Nat.gcd_dvd_right _ _)
 exact T8 (by simpa using this)
end Go.Proofs.YtjagfionflbjbaaGreat.NumA
namespace Go.Proofs.YtjagfionflbjbaaGreat.NumA
open Go
theorem n0w:nw 1=1:=by simp [nw,j0p,U4]
end Go.Proofs.YtjagfionflbjbaaGreat.NumA
namespace Go.Proofs.YtjagfionflbjbaaGreat.NumA
open Go
end Go.Proofs.YtjagfionflbjbaaGreat.NumA
namespace Go.Proofs.YtjagfionflbjbaaGreat.NumA
open Go
open Go.Lib
end Go.Proofs.YtjagfionflbjbaaGreat.NumA
namespace Go.Proofs.YtjagfionflbjbaaGreat.NumA
open Go
open Go.Lib
end Go.Proofs.YtjagfionflbjbaaGreat.NumA
namespace Go.Proofs.YtjagfionflbjbaaGreat.NumA
open Go
def qw (a:Rat):Nat:=max (nw a.num) (nw a.den)
theorem L4 (a:Rat):nw a.num≤qw a:=Nat.le_max_left _ _
theorem l5 (a:Rat):nw (a.den:Int)≤qw a:=Nat.le_max_right _ _
def h0p (n d:Int):Int:=if d<0 then -(Int.gcd n d:Int) else Int.gcd n d
theorem d0r {n d:Int}(h:d≠0):(Rat.divInt n d).num=n / h0p n d:=by
 rw [Rat.num_divInt,h0p,Int.gcd_comm]
 rcases Int.lt_trichotomy d 0 with h0 | h0 | h0
 ·rw [if_pos h0,Int.sign_eq_neg_one_of_neg h0,Int.ediv_neg,Int.neg_one_mul]
  rw [Int.neg_ediv_of_dvd (Int.gcd_dvd_left ..)]
 ·exact absurd h0 h
 ·rw [if_neg (by omega),Int.sign_eq_one_of_pos h0,Int.one_mul]
theorem d0p {n d:Int}(h:d≠0):((Rat.divInt n d).den:Int)=d / h0p n d:=by
 rw [Rat.den_divInt,if_neg h,h0p,Int.gcd_comm,Int.natCast_ediv]
 rcases Int.lt_trichotomy d 0 with h0 | h0 | h0
 ·rw [if_pos h0,Int.ediv_neg,show ((d.natAbs:Nat):Int) = -d by omega,Int.neg_ediv_of_dvd (Int.gcd_dvd_right ..)]
 ·exact absurd h0 h
 ·rw [if_neg (by omega),show ((d.natAbs:Nat):Int)=d by omega]
theorem h1y {n d:Int}(h:d≠0):qw (Rat.divInt n d)≤max (nw n) (nw d):=by
 unfold qw
 rw [d0r h,d0p h]
 have h1:nw (n / h0p n d)≤nw n:=T8 (Int.natAbs_ediv_le_natAbs ..)
 have h2:nw (d / h0p n d)≤nw d:=T8 (Int.natAbs_ediv_le_natAbs ..)
 omega
theorem o8 (a:Rat):(a.den:Int)≠0:=by have:=a.den_nz; omega
theorem w0f (a:Rat):Rat.divInt a.num a.den=a:=by rw [Rat.divInt_ofNat,Rat.mkRat_self]
theorem N0k (a b:Rat):Rat.divInt (a.num*b.den+b.num*a.den) (a.den*b.den)=a+b:=by
 have:=Rat.divInt_add_divInt a.num b.num (o8 a) (o8 b)
 rw [w0f,w0f] at this
 exact this.symm
theorem F1j (a b:Rat):Rat.divInt (a.num*b.num) (a.den*b.den)=a*b:=by
 have:=Rat.divInt_mul_divInt a.num b.num (d₁:=a.den) (d₂:=b.den)
 rw [w0f,w0f] at this
 exact this.symm
theorem w1j (a:Rat):Rat.divInt a.den a.num=a⁻¹:=(Rat.inv_def a).symm
theorem W1g (a b:Rat):Rat.divInt (a.num*b.den) (a.den*b.num)=a / b:=by
 rw [Rat.div_def,← w1j b,← w0f a,Rat.divInt_mul_divInt,w0f]
theorem f1k {a:Rat}:a.num≠0↔a≠0:=by rw [Ne,Rat.num_eq_zero]
theorem B1j (a b:Rat):qw (a+b)≤qw a+qw b+1:=by
 rw [← N0k]
 have h1:=h1y (n:=a.num*b.den+b.num*a.den) (d:=a.den*b.den) (Int.mul_ne_zero (o8 a) (o8 b))
 have h2:=f1d (a.num*b.den) (b.num*a.den)
 have h3:=o7 a.num b.den
 have h4:=o7 b.num a.den
 have h5:=o7 a.den b.den
 have:=L4 a; have:=L4 b; have:=l5 a; have:=l5 b
 omega
theorem d9 (a b:Rat):qw (a*b)≤qw a+qw b:=by
 rw [← F1j]
 have h1:=h1y (n:=a.num*b.num) (d:=a.den*b.den) (Int.mul_ne_zero (o8 a) (o8 b))
 have h3:=o7 a.num b.num
 have h5:=o7 a.den b.den
 have:=L4 a; have:=L4 b; have:=l5 a; have:=l5 b
 omega
theorem G0m (a:Rat):qw (-a)=qw a:=by unfold qw; rw [Rat.neg_num,Rat.neg_den,H1n]
theorem H1y (a b:Rat):qw (a - b)≤qw a+qw b+1:=by rw [Rat.sub_eq_add_neg,← G0m b]; exact B1j a (-b)
theorem G1c {a:Rat}(h:a≠0):qw a⁻¹≤qw a:=by
 rw [← w1j]
 have h1:=h1y (n:=a.den) (d:=a.num) (f1k.2 h)
 unfold qw; unfold qw at h1; omega
theorem f1r {a b:Rat}(h:b≠0):qw (a / b)≤qw a+qw b:=by
 rw [Rat.div_def]; have:=d9 a b⁻¹; have:=G1c h; omega
theorem d0m:qw 0=1:=by simp [qw,n0w,j1k.2]
theorem H0g:qw 1=1:=by simp [qw,n0w]
def n0b (a b:Rat):Int:=if a<b then -1 else if b<a then 1 else 0
theorem B1z (a b:Rat):d8 (a.num*b.den) (b.num*a.den)=n0b a b:=by
 unfold d8 n0b
 simp only [Rat.lt_iff]
theorem P0n (a:Rat):a.num.sign=n0b a 0:=by
 rw [← B1z]
 unfold d8
 simp only [Rat.zero_num,Rat.zero_den,Int.zero_mul,Int.natCast_one,Int.mul_one]
 rcases Int.lt_trichotomy a.num 0 with h | h | h
 ·rw [if_pos h,Int.sign_eq_neg_one_of_neg h]
 ·rw [h,if_neg (by omega),if_neg (by omega)]; rfl
 ·rw [if_neg (by omega),if_pos h,Int.sign_eq_one_of_pos h]
theorem k1g (a:Rat):a.num.sign=0↔a=0:=by rw [Int.sign_eq_zero_iff_zero,Rat.num_eq_zero]
theorem b2a {a b:Rat}(h1:a.num=b.num)(h2:(a.den:Int)=b.den):a=b:=Rat.ext h1 (by omega)
theorem j7 (n:Int):Rat.divInt n 1=(n:Rat):=by
 refine b2a ?_ ?_
 ·rw [d0r (by decide)]; simp [h0p]
 ·rw [d0p (by decide)]; simp [h0p]
theorem j1h {n d:Int}(h:d≠0):h0p n d≠0:=by
 have:Int.gcd n d≠0:=by rw [Ne,Int.gcd_eq_zero_iff]; exact fun hh=>h hh.2
 unfold h0p; split <;> omega
theorem k1p {n d:Int}(h:d≠0):nw (h0p n d)≤nw d:=by
 have:=D1z (a:=n) h
 unfold h0p; split
 ·rwa [H1n]
 ·exact this
theorem Y0m {n d:Int}(h:Int.gcd n d=1)(h0:¬ d<0):h0p n d=1:=by rw [h0p,if_neg h0,h]; rfl
end Go.Proofs.YtjagfionflbjbaaGreat.NumA
set_option maxRecDepth 100000
set_option maxHeartbeats 4000000
namespace Go.Proofs.YtjagfionflbjbaaGreat.N
open Go Go.Proofs.YtjagfionflbjbaaGreat.SH Go.Proofs.YtjagfionflbjbaaGreat.NumA
open Go.Proofs.Tryz renaming call100→cl100,call101→cl101,call102→cl102,call105→cl105,call108→cl108,call109→cl109,call110→cl110,call111→cl111,call112→cl112,call113→cl113,call114→cl114,call115→cl115,call116→cl116,call119→cl119,call121→cl121,call125→cl125,call128→cl128,call130→cl130,call134→cl134,call135→cl135,call137→cl137,call140→cl140,call148→cl148,call152→cl152,call49→cl49,call56→cl56,call62→cl62,call67→cl67,call76→cl76,call77→cl77,call78→cl78,call79→cl79,call80→cl80,call81→cl81,call82→cl82,call83→cl83,call88→cl88,isAgg119→ag119,isAgg43→ag43,isAgg45→ag45,isAgg47→ag47,isAgg4→ag4,sizeOf119→sz119,sizeOf43→sz43,sizeOf45→sz45,sizeOf47→sz47,sizeOf4→sz4,underlying43→un43,underlying45→un45,underlying47→un47,zeroValue45→zv45,zeroValue47→zv47
@[reducible] def pR (m:Bool)(ws:List Int)(n:Bool)(vs:List Int):L2:=.agg [.a (.bool m),.sl ws.length (J4 ws),.a (.bool n),.sl vs.length (J4 vs)]
@[reducible] def pN (n d:Int):L2:=pR (decide (n<0)) (y3 n.natAbs) (decide (d<0)) (y3 d.natAbs)
@[reducible] def pQ (a:Rat):L2:=pN a.num a.den
theorem cN {a:Rat}{n d:Int}(h1:a.num=n)(h2:(a.den:Int)=d):pN n d=pQ a:=by subst h1 h2; rfl
theorem y1w (n:Int):n=1↔(y3 n.natAbs).length=1∧(y3 n.natAbs).getD 0 0=1∧¬ n<0:=by
 constructor
 ·rintro rfl; refine ⟨n0w,?_,by decide⟩
  have:val (y3 1)=1:=T4 1
  have h1:(y3 1).length=1:=n0w
  show (y3 1).getD 0 0=1
  match y3 1,h1,this with
  | [w],_,h=>simpa [val] using h
 ·rintro ⟨h1,h2,h3⟩
  have h4:=T4 n.natAbs
  match e:y3 n.natAbs,h1 with
  | [w],_ =>
   rw [e] at h2 h4
   simp only [val,List.getD_cons_zero] at h2 h4
   omega
theorem b2k (n:Int):((y3 n.natAbs).length≠1∧n≠1)∨((y3 n.natAbs).length=1∧(y3 n.natAbs).getD 0 0≠1∧n≠1)∨((y3 n.natAbs).length=1∧(y3 n.natAbs).getD 0 0=1∧(n=1↔¬ n<0)):=by
 have:=y1w n
 by_cases h1:(y3 n.natAbs).length=1
 ·by_cases h2:(y3 n.natAbs).getD 0 0=1
  ·exact .inr (.inr ⟨h1,h2,by rw [this]; simp only [h1,h2,true_and]⟩)
  ·exact .inr (.inl ⟨h1,h2,fun h=>h2 (this.1 h).2.1⟩)
 ·exact .inl ⟨h1,fun h=>h1 (this.1 h).1⟩
theorem g0s (n:Int)(h:nw n<999999999999):v3 E 113 [pZ n] (bZ (decide (n=1))):=by
 refine D2 (xs:=[bZ (decide (n=1))]) Tryz.func113 rfl Tryz.ntmps113 Tryz.results113 sM fun F hG hX0 hnt hdf P0=>?_
 obtain ⟨L,hX,hN⟩:=pro hnt hX0 hG
 unfold nw at h
 refine exr (swb (U3 (k:=1) (n:=2) pa2 rfl rfl (P0 _ rfl) L) t1 t0 ⟨rfl,rfl⟩ (aV L rfl (zn [(1,_)] [(1,_)] t1 t1 ?_)))
 refine exm (sl:=[(2,vb (decide (n=1)))]) (sl0:=[]) (hb:=[]) (hb0:=[]) t0 t0 ?_ ?_
 ·rcases b2k n with ⟨h1,h2⟩ | ⟨h1,h2,h3⟩ | ⟨h1,h2,h3⟩
  ·refine sw (i2 un45 rfl sz43 dC rX L) t1 t1 ?_
   refine sw (Y1 ag43 rF rF L) t1 t1 ?_
   refine sw (R2 un43 L) t1 t0 (sw (c_e L) t2 t0 (mV L rfl (swn (g:=7) rfl sO L rfl (swn (g:=7) rfl sO L rfl (swn (g:=7) rfl sO L rfl (swn (g:=7) rfl sO L rfl (swn (g:=7) rfl sO L rfl (sw (y4 sO L) t2 t0 (mV L rfl (swn (g:=14) rfl rfl L rfl (swn (g:=14) rfl rfl L rfl ?_)))))))))))
   refine swn (g:=14) rfl rfl L rfl (sw (y4 rfl L) t2 t0 (aV L rfl ?_))
   exact O1 ⟨⟨ob rfl (by simp [h2]),trivial⟩,trivial⟩
  ·refine sw (i2 un45 rfl sz43 dC rX L) t1 t1 ?_
   refine sw (Y1 ag43 rF rF L) t1 t1 ?_
   refine sw (R2 un43 L) t1 t0 (sw (c_e L) t2 t0 (mV L rfl (swg (g:=7) rfl sO (i2 un45 rfl sz43 dC rX L) rfl t1 t1 ?_)))
   refine swg (g:=7) rfl sO (Y1 ag43 rF rF L) rfl t1 t1 ?_
   refine swg (g:=7) rfl sO (ixJ un43 sz119 (j:=0) rfl oM sM L) rfl t2 t0 ?_
   refine swg (g:=7) rfl sO (d4 ag119 (by first | exact b6 oM | rfl) L) rfl t1 t0 ?_
   refine swg (g:=7) rfl sO (c_e L) rfl t2 t0 (sw (O4 sO L) t2 t0 (mV L rfl (swn (g:=14) rfl (by simpa using h2) L rfl ?_)))
   refine swn (g:=14) rfl (by simpa using h2) L rfl ?_
   refine swn (g:=14) rfl (by simpa using h2) L rfl ?_
   refine sw (y4 (by simpa using h2) L) t2 t0 ?_
   refine aV L rfl ?_
   exact O1 ⟨⟨ob rfl (by simp [h3]),trivial⟩,trivial⟩
  ·refine sw (i2 un45 rfl sz43 dC rX L) t1 t1 ?_
   refine sw (Y1 ag43 rF rF L) t1 t1 ?_
   refine sw (R2 un43 L) t1 t0 (sw (c_e L) t2 t0 (mV L rfl (swg (g:=7) rfl sO (i2 un45 rfl sz43 dC rX L) rfl t1 t1 ?_)))
   refine swg (g:=7) rfl sO (Y1 ag43 rF rF L) rfl t1 t1 ?_
   refine swg (g:=7) rfl sO (ixJ un43 sz119 (j:=0) rfl oM sM L) rfl t2 t0 ?_
   refine swg (g:=7) rfl sO (d4 ag119 (by first | exact b6 oM | rfl) L) rfl t1 t0 ?_
   refine swg (g:=7) rfl sO (c_e L) rfl t2 t0 (sw (O4 sO L) t2 t0 (mV L rfl (swg (g:=14) rfl (by simpa using h2) (i2 un45 rfl sz4 dC rX L) rfl t1 t1 ?_)))
   refine swg (g:=14) rfl (by simpa using h2) (Y1 ag4 rF rF L) rfl t1 t1 ?_
   refine swg (g:=14) rfl (by simpa using h2) (C4 L) rfl t1 t0 ?_
   refine sw (O4 (by simpa using h2) L) t2 t0 ?_
   refine aV L rfl ?_
   exact O1 ⟨⟨ob rfl (by rw [C7 h3]; exact (decide_not ..).symm),trivial⟩,trivial⟩
 refine X1 ?_
 refine Q0 (.tmp rfl) ?_
 rfl
theorem Y0k  : v3 E 128 [] (pZ 1):=by
 refine D2 (xs:=[pZ 1]) Tryz.func128 rfl Tryz.ntmps128 Tryz.results128 sM fun F hG hX0 hnt hdf P0=>?_
 obtain ⟨L,hX,hN⟩:=pro hnt hX0 hG
 refine exr (swb (R3 (k:=0) (n:=2) zv45 (.cons rfl (.cons rfl .nil)) rfl (P0 _ rfl) L) t0 t0 ⟨rfl,rfl⟩ (zn [(0,_)] [(0,_)] t1 t1 (exr (cK hG hX cl101 hN (P0w 1 dC dC) L t1 (sb (U2 sz45 rF pa2 rfl pu2) t2 t1 ?_)))))
 refine zn [(0,_)] [(0,_)] t1 t1 (X1 ?_)
 refine Q0 (.agg rfl rfl rfl ag45 sz45 (.cons (.cons .nil))) ?_
 rfl
theorem V0h (a b:Int)(ha:nw a<99999999999)(hb:nw b<99999999999)(h0:b≠0):v3 E 137 [pZ a,pZ b] (pZ (a / b)):=by
 refine D2 (xs:=[pZ (a / b)]) Tryz.func137 rfl Tryz.ntmps137 Tryz.results137 sM fun F hG hX0 hnt hdf P0=>?_
 obtain ⟨L,hX,hN⟩:=pro hnt hX0 hG
 refine exr (swb (U3 (k:=2) (n:=2) pa2 rfl rfl (P0 _ rfl) L) t1 t0 ⟨rfl,rfl⟩ (swb (U3 (k:=3) (n:=2) pa2 rfl rfl (P0 _ rfl) L) t1 t0 ⟨rfl,rfl⟩ (swb (R3 (k:=4) (n:=2) zv45 (.cons rfl (.cons rfl .nil)) rfl (P0 _ rfl) L) t0 t0 ⟨rfl,rfl⟩ (zn [(2,_),(3,_),(4,_)] [(2,_),(3,_),(4,_)] t3 t3 (exr (lp2 ag45 sz45 L rfl rfl (lp2 ag45 sz45 L rfl rfl (cK hG hX cl152 hN (d2w a b oM oM h0) L t2 (mV L rfl (sw (O3 rfl L) t1 t0 (sw (O3 rfl L) t1 t0 ?_)))))))))))
 refine sw (O3 rfl L) t1 t0 (swb (R3 (k:=5) (n:=2) zv45 (.cons rfl (.cons rfl .nil)) rfl (P0 _ rfl) L) t0 t0 ⟨rfl,rfl⟩ (swb (R3 (k:=6) (n:=2) zv45 (.cons rfl (.cons rfl .nil)) rfl (P0 _ rfl) L) t0 t0 ⟨rfl,rfl⟩ (sb (U2 sz45 rF pa2 rfl pu2) t2 t1 ?_)))
 refine sb (U2 sz45 rF pa2 rfl pu2) t2 t1 ?_
 refine aV L rfl (zn [(4,_),(5,_)] [(4,_),(5,_)] t2 t2 (exr (lp2 ag45 sz45 L rfl rfl (sb (U2 sz45 rF pa2 rfl pu2) t2 t1 ?_))))
 refine zn [(4,_)] [(4,_)] t1 t1 (X1 ?_)
 refine Q0 (.agg rfl rfl rfl ag45 sz45 (.cons (.cons .nil))) ?_
 rfl
theorem N1g (a:Int):a.sign = -1∧a<0∨a.sign=0∧a=0∨a.sign=1∧0<a:=by
 rcases Int.lt_trichotomy a 0 with h | h | h
 ·exact .inl ⟨Int.sign_eq_neg_one_of_neg h,h⟩
 ·exact .inr (.inl ⟨by rw [h]; rfl,h⟩)
 ·exact .inr (.inr ⟨Int.sign_eq_one_of_pos h,h⟩)
theorem gz {n d:Int}(h0:d≠0):(Int.gcd n d:Int)≠0:=by
 intro h; exact h0 (Int.gcd_eq_zero_iff.1 (show Int.gcd n d=0 by omega)).2
theorem gn {n d:Int}{k:Nat}(h0:d≠0)(hd:nw d<k):nw (Int.gcd n d:Int)<k:=Nat.lt_of_le_of_lt (D1z h0) hd
theorem gs {n d:Int}(h0:d≠0):¬ (Int.gcd n d:Int).sign=0:=by rw [Int.sign_eq_zero_iff_zero]; exact gz h0
theorem sg0 {d:Int}:(d.sign<0)=(d<0):=by
 rcases N1g d with h | h | h <;> (rw [h.1]; simp <;> omega)
theorem sgn {n d:Int}(h:d<0):h0p n d = -(Int.gcd n d:Int):=by rw [h0p,if_pos h]
theorem sgp {n d:Int}(h:¬ d<0):h0p n d=Int.gcd n d:=by rw [h0p,if_neg h]
theorem y1c (n d:Int)(h0:d≠0)(hn:nw n<90000000000)(hd:nw d<90000000000):v3 E 110 [pZ n,pZ d] (pQ (Rat.divInt n d)):=by
 refine D2 (xs:=[pQ (Rat.divInt n d)]) Tryz.func110 rfl Tryz.ntmps110 Tryz.results110 sM fun F hG hX0 hnt hdf P0=>?_
 obtain ⟨L,hX,hN⟩:=pro hnt hX0 hG
 have hg:=gn (n:=n) h0 hd
 have hs:=j1h (n:=n) h0
 have hw:=k1p (n:=n) h0
 refine exr (swb (U3 (k:=2) (n:=2) pa2 rfl rfl (P0 _ rfl) L) t1 t0 ⟨rfl,rfl⟩ (swb (U3 (k:=3) (n:=2) pa2 rfl rfl (P0 _ rfl) L) t1 t0 ⟨rfl,rfl⟩ (swb (R3 (k:=4) (n:=4) zv47 (.cons rfl (.cons rfl (.cons rfl (.cons rfl .nil)))) rfl (P0 _ rfl) L) t0 t0 ⟨rfl,rfl⟩ (zn [(2,_),(3,_),(4,_)] [(2,_),(3,_),(4,_)] t3 t3 (R1 (exr (lp2 ag45 sz45 L rfl rfl (cK hG hX cl113 hN (g0s d oM) L t1 (zn [(2,_),(3,_),(4,_),(7,_)] [(2,_),(3,_),(4,_)] t4 t3 ?_)))))))))
 refine j2 rfl (fun h1=>?_) (fun h1=>?_)
 ·have h1:=dt h1
  refine exr (lp2 ag45 sz45 L rfl rfl (lp2 ag45 sz45 L rfl rfl (sw (G7 (vs:=[_,_]) un47 zv47 (.cons rfl (.cons rfl (.cons rfl (.cons rfl .nil)))) ((J2.cons sz45 (J2.cons sz45 J2.nil))).to rfl (.cons rfl pa2 rfl pu2 (.cons rfl pa2 rfl (.skip (.skip pu2)) .nil)) (.cons (.cons (.cons (.cons .nil)))) L) t2 t0 (sb (U2 sz47 rF pa4 rfl pu4) t2 t1 ?_))))
  refine zn [(4,_)] [(4,_)] t1 t1 (X1 ?_)
  refine Q0 (.agg rfl rfl rfl ag47 sz47 (.cons (.cons (.cons (.cons .nil))))) ?_
  exact congrArg (· :: []) (cN (by rw [h1,j7]; rfl) (by rw [h1,j7]; rfl))
 ·refine U1 (xq ?_)
  refine exr (lp2 ag45 sz45 L rfl rfl (lp2 ag45 sz45 L rfl rfl (cK hG hX cl135 hN (W1b n d oM oM) L t2 (swb (R3 (k:=5) (n:=2) zv45 (.cons rfl (.cons rfl .nil)) rfl (P0 _ rfl) L) t0 t0 ⟨rfl,rfl⟩ (sb (U2 sz45 rF pa2 rfl pu2) t2 t1 ?_)))))
  refine zn [(2,_),(3,_),(4,_),(5,_)] [(2,_),(3,_),(4,_),(5,_)] t4 t4 (R1 ?_)
  refine exm (sl:=[(20,vb (decide ((Int.gcd n d:Int)=1∧¬ d<0)))]) (sl0:=[(2,_),(3,_),(4,_),(5,_)]) (hb:=[]) (hb0:=[(2,_),(3,_),(4,_),(5,_)]) t4 t4 ?_ ?_
  ·by_cases hg1:(Int.gcd n d:Int)=1
   ·refine lp2 ag45 sz45 L rfl rfl (cK hG hX cl113 hN (g0s (Int.gcd n d:Int) oM) L t1 (mV L rfl (swg (g:=16) rfl (by simp [hg1]) (i2 un45 rfl sz4 dC rX L) rfl t1 t1 ?_)))
    refine swg (g:=16) rfl (by simp [hg1]) (Y1 ag4 rF rF L) rfl t1 t1 ?_
    refine swg (g:=16) rfl (by simp [hg1]) (C4 L) rfl t1 t0 ?_
    refine sw (O4 (by simp [hg1]) L) t2 t0 ?_
    exact O1 ⟨⟨ob rfl (by simp only [hg1,true_and]; exact (decide_not ..).symm),rfl,rfl,rfl,rfl,trivial⟩,t4⟩
   ·refine lp2 ag45 sz45 L rfl rfl (cK hG hX cl113 hN (g0s (Int.gcd n d:Int) oM) L t1 (mV L rfl (swn (g:=16) rfl (by simp [hg1]) L rfl ?_)))
    refine swn (g:=16) rfl (by simp [hg1]) L rfl ?_
    refine swn (g:=16) rfl (by simp [hg1]) L rfl ?_
    refine sw (y4 (by simp [hg1]) L) t2 t0 ?_
    exact O1 ⟨⟨ob rfl (by simp [hg1]),rfl,rfl,rfl,rfl,trivial⟩,t4⟩
  refine j2 rfl (fun h2=>?_) (fun h2=>?_)
  ·have h2:=dt h2
   have hh:=Y0m (n:=n) (d:=d) oM h2.2
   refine exr (lp2 ag45 sz45 L rfl rfl (lp2 ag45 sz45 L rfl rfl (sw (G7 (vs:=[_,_]) un47 zv47 (.cons rfl (.cons rfl (.cons rfl (.cons rfl .nil)))) ((J2.cons sz45 (J2.cons sz45 J2.nil))).to rfl (.cons rfl pa2 rfl pu2 (.cons rfl pa2 rfl (.skip (.skip pu2)) .nil)) (.cons (.cons (.cons (.cons .nil)))) L) t2 t0 (sb (U2 sz47 rF pa4 rfl pu4) t2 t1 ?_))))
   refine zn [(4,_)] [(4,_)] t1 t1 (X1 ?_)
   refine Q0 (.agg rfl rfl rfl ag47 sz47 (.cons (.cons (.cons (.cons .nil))))) ?_
   exact congrArg (· :: []) (cN (by rw [d0r h0,hh,Int.ediv_one]) (by rw [d0p h0,hh,Int.ediv_one]))
  ·refine U1 (xq ?_)
   refine R1 (exr (lp2 ag45 sz45 L rfl rfl (cK hG hX cl134 hN (W0c (Int.gcd n d:Int) oM) L t1 (sw (c_e L) t2 t0 (zn [(2,_),(3,_),(4,_),(5,_),(26,_)] [(2,_),(3,_),(4,_),(5,_)] t5 t4 ?_)))))
   refine j2 rfl (fun h3=>?_) (fun h3=>?_)
   ·exact absurd (dt h3) (gs h0)
   ·refine U1 (xq ?_)
    refine R1 (exr (lp2 ag45 sz45 L rfl rfl (cK hG hX cl134 hN (W0c d oM) L t1 (sw (P3 L) t2 t0 (zn [(2,_),(3,_),(4,_),(5,_),(30,_)] [(2,_),(3,_),(4,_),(5,_)] t5 t4 ?_)))))
    refine j2 rfl (fun h4=>?_) (fun h4=>?_)
    ·have h4:=dt h4
     rw [sg0] at h4
     rw [sgn h4] at hs hw
     refine j3 (lp2 ag45 sz45 L rfl rfl (cK hG hX cl102 hN (b2n (Int.gcd n d:Int) oM) L t1 (sb (U2 sz45 rF pa2 rfl pu2) t2 t1 ?_)))
     refine O1 (exd rF ?_)
     refine lp2 ag45 sz45 L rfl rfl (lp2 ag45 sz45 L rfl rfl (cK hG hX cl137 hN (V0h n (-(Int.gcd n d:Int)) oM oM hs) L t2 (lp2 ag45 sz45 L rfl rfl (lp2 ag45 sz45 L rfl rfl (cK hG hX cl137 hN (V0h d (-(Int.gcd n d:Int)) oM oM hs) L t2 (sw (G7 (vs:=[_,_]) un47 zv47 (.cons rfl (.cons rfl (.cons rfl (.cons rfl .nil)))) ((J2.cons sz45 (J2.cons sz45 J2.nil))).to rfl (.cons rfl pa2 rfl pu2 (.cons rfl pa2 rfl (.skip (.skip pu2)) .nil)) (.cons (.cons (.cons (.cons .nil)))) L) t2 t0 (sb (U2 sz47 rF pa4 rfl pu4) t2 t1 ?_)))))))
     refine O1 ⟨d5 [⟨[2],[2],[33],[]⟩,⟨[5],[5],[34],[]⟩,⟨[33,34],[],[35],[]⟩,⟨[3],[3],[36],[]⟩,⟨[5],[5],[37],[]⟩,⟨[36,37],[],[38],[]⟩,⟨[35,38],[],[39],[]⟩,⟨[4,39],[4],[],[4]⟩] rF rF dC,[(4,_)],[(4,_)],t1,t1,?_⟩
     refine X1 ?_
     refine Q0 (.agg rfl rfl rfl ag47 sz47 (.cons (.cons (.cons (.cons .nil))))) ?_
     exact congrArg (· :: []) (cN (by rw [d0r h0,sgn h4]) (by rw [d0p h0,sgn h4]))
    ·have h4:=df h4
     rw [sg0] at h4
     rw [sgp h4] at hs hw
     refine U1 (xq ?_)
     refine exd rF ?_
     refine lp2 ag45 sz45 L rfl rfl (lp2 ag45 sz45 L rfl rfl (cK hG hX cl137 hN (V0h n (Int.gcd n d:Int) oM oM hs) L t2 (lp2 ag45 sz45 L rfl rfl (lp2 ag45 sz45 L rfl rfl (cK hG hX cl137 hN (V0h d (Int.gcd n d:Int) oM oM hs) L t2 (sw (G7 (vs:=[_,_]) un47 zv47 (.cons rfl (.cons rfl (.cons rfl (.cons rfl .nil)))) ((J2.cons sz45 (J2.cons sz45 J2.nil))).to rfl (.cons rfl pa2 rfl pu2 (.cons rfl pa2 rfl (.skip (.skip pu2)) .nil)) (.cons (.cons (.cons (.cons .nil)))) L) t2 t0 (sb (U2 sz47 rF pa4 rfl pu4) t2 t1 ?_)))))))
     refine O1 ⟨d5 [⟨[2],[2],[33],[]⟩,⟨[5],[5],[34],[]⟩,⟨[33,34],[],[35],[]⟩,⟨[3],[3],[36],[]⟩,⟨[5],[5],[37],[]⟩,⟨[36,37],[],[38],[]⟩,⟨[35,38],[],[39],[]⟩,⟨[4,39],[4],[],[4]⟩] rF rF dC,[(4,_)],[(4,_)],t1,t1,?_⟩
     refine X1 ?_
     refine Q0 (.agg rfl rfl rfl ag47 sz47 (.cons (.cons (.cons (.cons .nil))))) ?_
     exact congrArg (· :: []) (cN (by rw [d0r h0,sgp h4]) (by rw [d0p h0,sgp h4]))
theorem N1p {a b:Prop}(h:¬ (a∧b)):¬ a∨(a∧¬ b):=by
 by_cases ha:a
 ·exact .inr ⟨ha,fun hb=>h ⟨ha,hb⟩⟩
 ·exact .inl ha
theorem sgt {d:Int}:0<d.sign↔0<d:=by
 rcases N1g d with h | h | h <;> (rw [h.1]; simp <;> omega)
theorem d2p {a b:Int}:d8 a b=0↔a=b:=by unfold d8; repeat' split <;> omega
theorem gn1 (a:Int){b:Int}(h:0<b)(hb:nw b<1000000000):nw (Int.gcd a b:Int)<999999999999:=Nat.lt_of_lt_of_le (gn (Int.ne_of_gt h) hb) dC
theorem y0j (a:Rat)(ha:qw a<1000000000):v3 E 56 [pQ a] (pQ (-a)):=by
 refine D2 (xs:=[pQ (-a)]) Tryz.func56 rfl Tryz.ntmps56 Tryz.results56 sM fun F hG hX0 hnt hdf P0=>?_
 obtain ⟨L,hX,hN⟩:=pro hnt hX0 hG
 have h1:=L4 a
 refine exr (swb (U3 (k:=1) (n:=4) pa4 rfl rfl (P0 _ rfl) L) t1 t0 ⟨rfl,rfl⟩ (swb (R3 (k:=2) (n:=4) zv47 (.cons rfl (.cons rfl (.cons rfl (.cons rfl .nil)))) rfl (P0 _ rfl) L) t0 t0 ⟨rfl,rfl⟩ (zn [(1,_),(2,_)] [(1,_),(2,_)] t2 t2 (exd rF ?_))))
 refine sw (i2 un47 rfl sz45 dC rX L) t1 t1 ?_
 refine lp2 ag45 sz45 L rfl rfl (cK hG hX cl102 hN (b2n a.num oM) L t1 (sw (i2 un47 rfl sz45 dC rX L) t1 t1 ?_))
 refine lp2 ag45 sz45 L rfl rfl (sw (G7 (vs:=[_,_]) un47 zv47 (.cons rfl (.cons rfl (.cons rfl (.cons rfl .nil)))) ((J2.cons sz45 (J2.cons sz45 J2.nil))).to rfl (.cons rfl pa2 rfl pu2 (.cons rfl pa2 rfl (.skip (.skip pu2)) .nil)) (.cons (.cons (.cons (.cons .nil)))) L) t2 t0 (sb (U2 sz47 rF pa4 rfl pu4) t2 t1 ?_))
 refine O1 ⟨d5 [⟨[1],[1],[3],[]⟩,⟨[3],[1],[4],[]⟩,⟨[4],[],[5],[]⟩,⟨[1],[1],[6],[]⟩,⟨[6],[1],[7],[]⟩,⟨[5,7],[],[8],[]⟩,⟨[2,8],[2],[],[2]⟩] rF rF dC,[(2,_)],[(2,_)],t1,t1,?_⟩
 refine X1 ?_
 refine Q0 (.agg rfl rfl rfl ag47 sz47 (.cons (.cons (.cons (.cons .nil))))) ?_
 exact congrArg (· :: []) (cN rfl rfl)
theorem B0k (n:Int):v3 E 100 [pZ n] (pQ (n:Rat)):=by
 refine D2 (xs:=[pQ (n:Rat)]) Tryz.func100 rfl Tryz.ntmps100 Tryz.results100 sM fun F hG hX0 hnt hdf P0=>?_
 obtain ⟨L,hX,hN⟩:=pro hnt hX0 hG
 refine exr (swb (U3 (k:=1) (n:=2) pa2 rfl rfl (P0 _ rfl) L) t1 t0 ⟨rfl,rfl⟩ (swb (R3 (k:=2) (n:=4) zv47 (.cons rfl (.cons rfl (.cons rfl (.cons rfl .nil)))) rfl (P0 _ rfl) L) t0 t0 ⟨rfl,rfl⟩ (zn [(1,_),(2,_)] [(1,_),(2,_)] t2 t2 (exd rF ?_))))
 refine lp2 ag45 sz45 L rfl rfl (cK hG hX cl128 hN Y0k L t0 (sw (G7 (vs:=[_,_]) un47 zv47 (.cons rfl (.cons rfl (.cons rfl (.cons rfl .nil)))) ((J2.cons sz45 (J2.cons sz45 J2.nil))).to rfl (.cons rfl pa2 rfl pu2 (.cons rfl pa2 rfl (.skip (.skip pu2)) .nil)) (.cons (.cons (.cons (.cons .nil)))) L) t2 t0 (sb (U2 sz47 rF pa4 rfl pu4) t2 t1 ?_)))
 refine O1 ⟨d5 [⟨[1],[1],[3],[]⟩,⟨[],[],[4],[]⟩,⟨[3,4],[],[5],[]⟩,⟨[2,5],[2],[],[2]⟩] rF rF dC,[(2,_)],[(2,_)],t1,t1,?_⟩
 refine X1 ?_
 refine Q0 (.agg rfl rfl rfl ag47 sz47 (.cons (.cons (.cons (.cons .nil))))) ?_
 exact congrArg (· :: []) (cN rfl rfl)
theorem G0a (a:Rat)(ha:qw a<1000000000):v3 E 108 [pQ a] (vZ (n0b a 0)):=by
 refine D2 (xs:=[vZ (n0b a 0)]) Tryz.func108 rfl Tryz.ntmps108 Tryz.results108 sM fun F hG hX0 hnt hdf P0=>?_
 obtain ⟨L,hX,hN⟩:=pro hnt hX0 hG
 have h1:=L4 a
 refine exr (swb (U3 (k:=1) (n:=4) pa4 rfl rfl (P0 _ rfl) L) t1 t0 ⟨rfl,rfl⟩ (aV L rfl (zn [(1,_)] [(1,_)] t1 t1 (exr (sw (i2 un47 rfl sz45 dC rX L) t1 t1 ?_)))))
 refine lp2 ag45 sz45 L rfl rfl (cK hG hX cl134 hN (W0c a.num oM) L t1 (aV L rfl (zn [(2,_)] [] t1 trivial (X1 ?_))))
 refine Q0 (.tmp rfl) ?_
 rw [P0n]
theorem q8 (a b:Rat)(ha:qw a<1000000000)(hb:qw b<1000000000):v3 E 67 [pQ a,pQ b] (pQ (a*b)):=by
 refine D2 (xs:=[pQ (a*b)]) Tryz.func67 rfl Tryz.ntmps67 Tryz.results67 sM fun F hG hX0 hnt hdf P0=>?_
 obtain ⟨L,hX,hN⟩:=pro hnt hX0 hG
 have h1:=L4 a
 have h2:=L4 b
 have h3:=l5 a
 have h4:=l5 b
 have h5:=o7 a.num b.num
 have h6:=o7 a.den b.den
 refine exr (swb (U3 (k:=2) (n:=4) pa4 rfl rfl (P0 _ rfl) L) t1 t0 ⟨rfl,rfl⟩ (swb (U3 (k:=3) (n:=4) pa4 rfl rfl (P0 _ rfl) L) t1 t0 ⟨rfl,rfl⟩ (swb (R3 (k:=4) (n:=4) zv47 (.cons rfl (.cons rfl (.cons rfl (.cons rfl .nil)))) rfl (P0 _ rfl) L) t0 t0 ⟨rfl,rfl⟩ (zn [(2,_),(3,_),(4,_)] [(2,_),(3,_),(4,_)] t3 t3 (exd rF ?_)))))
 refine sw (i2 un47 rfl sz45 dC rX L) t1 t1 ?_
 refine lp2 ag45 sz45 L rfl rfl (sw (i2 un47 rfl sz45 dC rX L) t1 t1 ?_)
 refine lp2 ag45 sz45 L rfl rfl (cK hG hX cl111 hN (h1m a.num b.num oM oM) L t2 (sw (i2 un47 rfl sz45 dC rX L) t1 t1 ?_))
 refine lp2 ag45 sz45 L rfl rfl (sw (i2 un47 rfl sz45 dC rX L) t1 t1 ?_)
 refine lp2 ag45 sz45 L rfl rfl (cK hG hX cl111 hN (h1m a.den b.den oM oM) L t2 (cK hG hX cl110 hN (y1c (a.num*b.num) (a.den*b.den) (Int.mul_ne_zero (o8 a) (o8 b)) oM oM) L t2 (sb (U2 sz47 rF pa4 rfl pu4) t2 t1 ?_)))
 refine O1 ⟨d5 [⟨[2],[2],[5],[]⟩,⟨[5],[2],[6],[]⟩,⟨[3],[3],[7],[]⟩,⟨[7],[3],[8],[]⟩,⟨[6,8],[],[9],[]⟩,⟨[2],[2],[10],[]⟩,⟨[10],[2],[11],[]⟩,⟨[3],[3],[12],[]⟩,⟨[12],[3],[13],[]⟩,⟨[11,13],[],[14],[]⟩,⟨[9,14],[],[15],[]⟩,⟨[4,15],[4],[],[4]⟩] rF rF dC,[(4,_)],[(4,_)],t1,t1,?_⟩
 refine X1 ?_
 refine Q0 (.agg rfl rfl rfl ag47 sz47 (.cons (.cons (.cons (.cons .nil))))) ?_
 rw [F1j]
theorem K0d (a b:Rat)(ha:qw a<1000000000)(hb:qw b<1000000000):v3 E 112 [pQ a,pQ b] (pQ (a+b)):=by
 refine D2 (xs:=[pQ (a+b)]) Tryz.func112 rfl Tryz.ntmps112 Tryz.results112 sM fun F hG hX0 hnt hdf P0=>?_
 obtain ⟨L,hX,hN⟩:=pro hnt hX0 hG
 have h1:=L4 a
 have h2:=L4 b
 have h3:=l5 a
 have h4:=l5 b
 have h5:=o7 a.num b.den
 have h6:=o7 b.num a.den
 have h7:=o7 a.den b.den
 have h8:=f1d (a.num*b.den) (b.num*a.den)
 refine exr (swb (U3 (k:=2) (n:=4) pa4 rfl rfl (P0 _ rfl) L) t1 t0 ⟨rfl,rfl⟩ (swb (U3 (k:=3) (n:=4) pa4 rfl rfl (P0 _ rfl) L) t1 t0 ⟨rfl,rfl⟩ (swb (R3 (k:=4) (n:=4) zv47 (.cons rfl (.cons rfl (.cons rfl (.cons rfl .nil)))) rfl (P0 _ rfl) L) t0 t0 ⟨rfl,rfl⟩ (zn [(2,_),(3,_),(4,_)] [(2,_),(3,_),(4,_)] t3 t3 (R1 ?_)))))
 refine exm (sl:=[(12,vb (decide ((a.den:Int)=1∧(b.den:Int)=1)))]) (sl0:=[(2,_),(3,_),(4,_)]) (hb:=[]) (hb0:=[(2,_),(3,_),(4,_)]) t3 t3 ?_ ?_
 ·by_cases hd:(a.den:Int)=1
  ·refine sw (i2 un47 rfl sz45 dC rX L) t1 t1 ?_
   refine lp2 ag45 sz45 L rfl rfl (cK hG hX cl113 hN (g0s a.den oM) L t1 (mV L rfl (swg (g:=8) rfl (by simpa using hd) (i2 un47 rfl sz45 dC rX L) rfl t1 t1 ?_)))
   refine swg (g:=8) rfl (by simpa using hd) (R6 ag45 sz45 rF (by exact al2) rfl L) rfl t1 t1 ?_
   refine swg (g:=8) rfl (by simpa using hd) (c_c hG hX cl113 rfl hN (g0s b.den oM) L) rfl t1 t0 ?_
   refine sw (O4 (by simpa using hd) L) t2 t0 ?_
   exact O1 ⟨⟨ob rfl (by simp only [hd,true_and]),rfl,rfl,rfl,trivial⟩,t3⟩
  ·refine sw (i2 un47 rfl sz45 dC rX L) t1 t1 ?_
   refine lp2 ag45 sz45 L rfl rfl (cK hG hX cl113 hN (g0s a.den oM) L t1 (mV L rfl (swn (g:=8) rfl (by simpa using hd) L rfl ?_)))
   refine swn (g:=8) rfl (by simpa using hd) L rfl ?_
   refine swn (g:=8) rfl (by simpa using hd) L rfl ?_
   refine sw (y4 (by simpa using hd) L) t2 t0 ?_
   exact O1 ⟨⟨ob rfl (by simp only [hd,false_and]; rfl),rfl,rfl,rfl,trivial⟩,t3⟩
 refine j2 rfl (fun hc=>?_) (fun hc=>?_)
 ·have hc:=dt hc
  refine exr (sw (i2 un47 rfl sz45 dC rX L) t1 t1 ?_)
  refine lp2 ag45 sz45 L rfl rfl (sw (i2 un47 rfl sz45 dC rX L) t1 t1 ?_)
  refine lp2 ag45 sz45 L rfl rfl (cK hG hX cl140 hN (Y1n a.num b.num oM oM) L t2 (cK hG hX cl100 hN (B0k (a.num+b.num)) L t1 (sb (U2 sz47 rF pa4 rfl pu4) t2 t1 ?_)))
  refine zn [(4,_)] [(4,_)] t1 t1 (X1 ?_)
  refine Q0 (.agg rfl rfl rfl ag47 sz47 (.cons (.cons (.cons (.cons .nil))))) ?_
  rw [← N0k,hc.1,hc.2,Int.mul_one,Int.mul_one,Int.mul_one,j7]
 ·refine U1 (xq ?_)
  refine exd rF ?_
  refine sw (i2 un47 rfl sz45 dC rX L) t1 t1 ?_
  refine lp2 ag45 sz45 L rfl rfl (sw (i2 un47 rfl sz45 dC rX L) t1 t1 ?_)
  refine lp2 ag45 sz45 L rfl rfl (cK hG hX cl111 hN (h1m a.num b.den oM oM) L t2 (sw (i2 un47 rfl sz45 dC rX L) t1 t1 ?_))
  refine lp2 ag45 sz45 L rfl rfl (sw (i2 un47 rfl sz45 dC rX L) t1 t1 ?_)
  refine lp2 ag45 sz45 L rfl rfl (cK hG hX cl111 hN (h1m b.num a.den oM oM) L t2 (cK hG hX cl140 hN (Y1n (a.num*b.den) (b.num*a.den) oM oM) L t2 (sw (i2 un47 rfl sz45 dC rX L) t1 t1 ?_)))
  refine lp2 ag45 sz45 L rfl rfl (sw (i2 un47 rfl sz45 dC rX L) t1 t1 ?_)
  refine lp2 ag45 sz45 L rfl rfl (cK hG hX cl111 hN (h1m a.den b.den oM oM) L t2 (cK hG hX cl110 hN (y1c (a.num*b.den+b.num*a.den) (a.den*b.den) (Int.mul_ne_zero (o8 a) (o8 b)) oM oM) L t2 (sb (U2 sz47 rF pa4 rfl pu4) t2 t1 ?_)))
  refine O1 ⟨d5 [⟨[2],[2],[19],[]⟩,⟨[19],[2],[20],[]⟩,⟨[3],[3],[21],[]⟩,⟨[21],[3],[22],[]⟩,⟨[20,22],[],[23],[]⟩,⟨[3],[3],[24],[]⟩,⟨[24],[3],[25],[]⟩,⟨[2],[2],[26],[]⟩,⟨[26],[2],[27],[]⟩,⟨[25,27],[],[28],[]⟩,⟨[23,28],[],[29],[]⟩,⟨[2],[2],[30],[]⟩,⟨[30],[2],[31],[]⟩,⟨[3],[3],[32],[]⟩,⟨[32],[3],[33],[]⟩,⟨[31,33],[],[34],[]⟩,⟨[29,34],[],[35],[]⟩,⟨[4,35],[4],[],[4]⟩] rF rF dC,[(4,_)],[(4,_)],t1,t1,?_⟩
  refine X1 ?_
  refine Q0 (.agg rfl rfl rfl ag47 sz47 (.cons (.cons (.cons (.cons .nil))))) ?_
  rw [N0k]
theorem q1f (a b:Rat)(ha:qw a<1000000000)(hb:qw b<1000000000):v3 E 127 [pQ a,pQ b] (pQ (a - b)):=by
 refine D2 (xs:=[pQ (a - b)]) Tryz.func127 rfl Tryz.ntmps127 Tryz.results127 sM fun F hG hX0 hnt hdf P0=>?_
 obtain ⟨L,hX,hN⟩:=pro hnt hX0 hG
 refine exr (swb (U3 (k:=2) (n:=4) pa4 rfl rfl (P0 _ rfl) L) t1 t0 ⟨rfl,rfl⟩ (swb (U3 (k:=3) (n:=4) pa4 rfl rfl (P0 _ rfl) L) t1 t0 ⟨rfl,rfl⟩ (swb (R3 (k:=4) (n:=4) zv47 (.cons rfl (.cons rfl (.cons rfl (.cons rfl .nil)))) rfl (P0 _ rfl) L) t0 t0 ⟨rfl,rfl⟩ (zn [(2,_),(3,_),(4,_)] [(2,_),(3,_),(4,_)] t3 t3 (exd rF ?_)))))
 refine lp4 ag47 sz47 L rfl rfl (lp4 ag47 sz47 L rfl rfl (cK hG hX cl56 hN (y0j b hb) L t1 (cK hG hX cl112 hN (K0d a (-b) ha (by rw [G0m]; exact hb)) L t2 ?_)))
 refine sb (U2 sz47 rF pa4 rfl pu4) t2 t1 ?_
 refine O1 ⟨d5 [⟨[2],[2],[5],[]⟩,⟨[3],[3],[6],[]⟩,⟨[6],[],[7],[]⟩,⟨[5,7],[],[8],[]⟩,⟨[4,8],[4],[],[4]⟩] rF rF dC,[(4,_)],[(4,_)],t1,t1,?_⟩
 refine X1 ?_
 refine Q0 (.agg rfl rfl rfl ag47 sz47 (.cons (.cons (.cons (.cons .nil))))) ?_
 rw [← Rat.sub_eq_add_neg]
theorem v1a (a:Rat)(ha:qw a<1000000000)(h0:a≠0):v3 E 109 [pQ a] (pQ a⁻¹):=by
 refine D2 (xs:=[pQ a⁻¹]) Tryz.func109 rfl Tryz.ntmps109 Tryz.results109 sM fun F hG hX0 hnt hdf P0=>?_
 obtain ⟨L,hX,hN⟩:=pro hnt hX0 hG
 have h1:=L4 a
 have h3:=l5 a
 refine exr (swb (U3 (k:=1) (n:=4) pa4 rfl rfl (P0 _ rfl) L) t1 t0 ⟨rfl,rfl⟩ (swb (R3 (k:=2) (n:=4) zv47 (.cons rfl (.cons rfl (.cons rfl (.cons rfl .nil)))) rfl (P0 _ rfl) L) t0 t0 ⟨rfl,rfl⟩ (zn [(1,_),(2,_)] [(1,_),(2,_)] t2 t2 (exr (sw (i2 un47 rfl sz45 dC rX L) t1 t1 ?_)))))
 refine lp2 ag45 sz45 L rfl rfl (sw (i2 un47 rfl sz45 dC rX L) t1 t1 ?_)
 refine lp2 ag45 sz45 L rfl rfl (cK hG hX cl110 hN (y1c a.den a.num (f1k.2 h0) oM oM) L t2 (sb (U2 sz47 rF pa4 rfl pu4) t2 t1 ?_))
 refine zn [(2,_)] [(2,_)] t1 t1 (X1 ?_)
 refine Q0 (.agg rfl rfl rfl ag47 sz47 (.cons (.cons (.cons (.cons .nil))))) ?_
 rw [w1j]
theorem w0v (a b:Rat)(ha:qw a<1000000000)(hb:qw b<1000000000)(h0:b≠0):v3 E 66 [pQ a,pQ b] (.tup [pQ (a / b),vZ 0]):=by
 refine D2 (xs:=[pQ (a / b),vZ 0]) Tryz.func66 rfl Tryz.ntmps66 Tryz.results66 sM fun F hG hX0 hnt hdf P0=>?_
 obtain ⟨L,hX,hN⟩:=pro hnt hX0 hG
 have hi:=G1c h0
 refine exr (swb (U3 (k:=2) (n:=4) pa4 rfl rfl (P0 _ rfl) L) t1 t0 ⟨rfl,rfl⟩ (swb (U3 (k:=3) (n:=4) pa4 rfl rfl (P0 _ rfl) L) t1 t0 ⟨rfl,rfl⟩ (swb (R3 (k:=4) (n:=4) zv47 (.cons rfl (.cons rfl (.cons rfl (.cons rfl .nil)))) rfl (P0 _ rfl) L) t0 t0 ⟨rfl,rfl⟩ (aV L rfl (zn [(2,_),(3,_),(4,_)] [(2,_),(3,_),(4,_)] t3 t3 (R1 (exr (lp4 ag47 sz47 L rfl rfl (cK hG hX cl108 hN (G0a b hb) L t1 (sw (c_e L) t2 t0 (zn [(2,_),(3,_),(4,_),(8,_)] [(2,_),(3,_),(4,_)] t4 t3 ?_)))))))))))
 refine j2 rfl (fun hc=>?_) (fun hc=>?_)
 ·have hc:=dt hc
  rw [← P0n,k1g] at hc
  exact absurd hc h0
 ·refine U1 (xq ?_)
  refine exd rF ?_
  refine lp4 ag47 sz47 L rfl rfl (lp4 ag47 sz47 L rfl rfl (cK hG hX cl109 hN (v1a b hb h0) L t1 (cK hG hX cl67 hN (q8 a b⁻¹ ha oM) L t2 (sb (U2 sz47 rF pa4 rfl pu4) t2 t1 ?_))))
  refine aV L rfl ?_
  refine O1 ⟨d5 [⟨[2],[2],[10],[]⟩,⟨[3],[3],[11],[]⟩,⟨[11],[],[12],[]⟩,⟨[10,12],[],[13],[]⟩,⟨[4,13],[4],[],[4]⟩,⟨[],[],[5],[]⟩] rF rF dC,[(4,_),(5,_)],[(4,_)],t2,t1,?_⟩
  refine X1 ?_
  refine Y0 (.agg rfl rfl rfl ag47 sz47 (.cons (.cons (.cons (.cons .nil))))) (.tmp rfl) ?_
  rw [← Rat.div_def]
theorem q1x (a b:Rat)(ha:qw a<1000000000)(hb:qw b<1000000000):v3 E 69 [pQ a,pQ b] (vZ (n0b a b)):=by
 refine D2 (xs:=[vZ (n0b a b)]) Tryz.func69 rfl Tryz.ntmps69 Tryz.results69 sM fun F hG hX0 hnt hdf P0=>?_
 obtain ⟨L,hX,hN⟩:=pro hnt hX0 hG
 have h1:=L4 a
 have h2:=L4 b
 have h3:=l5 a
 have h4:=l5 b
 have h5:=o7 a.num b.den
 have h6:=o7 b.num a.den
 refine exr (swb (U3 (k:=2) (n:=4) pa4 rfl rfl (P0 _ rfl) L) t1 t0 ⟨rfl,rfl⟩ (swb (U3 (k:=3) (n:=4) pa4 rfl rfl (P0 _ rfl) L) t1 t0 ⟨rfl,rfl⟩ (aV L rfl (zn [(2,_),(3,_)] [(2,_),(3,_)] t2 t2 (R1 ?_)))))
 refine exm (sl:=[(12,vb (decide ((a.den:Int)=1∧(b.den:Int)=1)))]) (sl0:=[(2,_),(3,_)]) (hb:=[]) (hb0:=[(2,_),(3,_)]) t2 t2 ?_ ?_
 ·by_cases hd:(a.den:Int)=1
  ·refine sw (i2 un47 rfl sz45 dC rX L) t1 t1 ?_
   refine lp2 ag45 sz45 L rfl rfl (cK hG hX cl113 hN (g0s a.den oM) L t1 (mV L rfl (swg (g:=8) rfl (by simpa using hd) (i2 un47 rfl sz45 dC rX L) rfl t1 t1 ?_)))
   refine swg (g:=8) rfl (by simpa using hd) (R6 ag45 sz45 rF (by exact al2) rfl L) rfl t1 t1 ?_
   refine swg (g:=8) rfl (by simpa using hd) (c_c hG hX cl113 rfl hN (g0s b.den oM) L) rfl t1 t0 ?_
   refine sw (O4 (by simpa using hd) L) t2 t0 ?_
   exact O1 ⟨⟨ob rfl (by simp only [hd,true_and]),rfl,rfl,trivial⟩,t2⟩
  ·refine sw (i2 un47 rfl sz45 dC rX L) t1 t1 ?_
   refine lp2 ag45 sz45 L rfl rfl (cK hG hX cl113 hN (g0s a.den oM) L t1 (mV L rfl (swn (g:=8) rfl (by simpa using hd) L rfl ?_)))
   refine swn (g:=8) rfl (by simpa using hd) L rfl ?_
   refine swn (g:=8) rfl (by simpa using hd) L rfl ?_
   refine sw (y4 (by simpa using hd) L) t2 t0 ?_
   exact O1 ⟨⟨ob rfl (by simp only [hd,false_and]; rfl),rfl,rfl,trivial⟩,t2⟩
 refine j2 rfl (fun hc=>?_) (fun hc=>?_)
 ·have hc:=dt hc
  refine exr (sw (i2 un47 rfl sz45 dC rX L) t1 t1 ?_)
  refine lp2 ag45 sz45 L rfl rfl (sw (i2 un47 rfl sz45 dC rX L) t1 t1 ?_)
  refine lp2 ag45 sz45 L rfl rfl (cK hG hX cl114 hN (Q1y a.num b.num oM oM) L t2 (aV L rfl (zn [(4,_)] [] t1 trivial (X1 ?_))))
  refine Q0 (.tmp rfl) ?_
  rw [← B1z,hc.1,hc.2,Int.mul_one,Int.mul_one]
 ·refine U1 (xq ?_)
  refine exd rF ?_
  refine sw (i2 un47 rfl sz45 dC rX L) t1 t1 ?_
  refine lp2 ag45 sz45 L rfl rfl (sw (i2 un47 rfl sz45 dC rX L) t1 t1 ?_)
  refine lp2 ag45 sz45 L rfl rfl (cK hG hX cl111 hN (h1m a.num b.den oM oM) L t2 (sw (i2 un47 rfl sz45 dC rX L) t1 t1 ?_))
  refine lp2 ag45 sz45 L rfl rfl (sw (i2 un47 rfl sz45 dC rX L) t1 t1 ?_)
  refine lp2 ag45 sz45 L rfl rfl (cK hG hX cl111 hN (h1m b.num a.den oM oM) L t2 (cK hG hX cl114 hN (Q1y (a.num*b.den) (b.num*a.den) oM oM) L t2 (aV L rfl ?_)))
  refine O1 ⟨d5 [⟨[2],[2],[18],[]⟩,⟨[18],[2],[19],[]⟩,⟨[3],[3],[20],[]⟩,⟨[20],[3],[21],[]⟩,⟨[19,21],[],[22],[]⟩,⟨[3],[3],[23],[]⟩,⟨[23],[3],[24],[]⟩,⟨[2],[2],[25],[]⟩,⟨[25],[2],[26],[]⟩,⟨[24,26],[],[27],[]⟩,⟨[22,27],[],[28],[]⟩,⟨[28],[],[4],[]⟩] rF rF dC,[(4,_)],[],t1,trivial,?_⟩
  refine X1 ?_
  refine Q0 (.tmp rfl) ?_
  rw [B1z]
theorem P1c (m n:Bool)(ws vs:List Int)(hl:ws.length<1000000000)(hl2:vs.length<1000000000)(hn:¬ (P2 m ws=true∧P2 n vs=true)):v3 E 107 [pR m ws n vs] (bZ false):=by
 refine D2 (xs:=[bZ false]) Tryz.func107 rfl Tryz.ntmps107 Tryz.results107 sM fun F hG hX0 hnt hdf P0=>?_
 obtain ⟨L,hX,hN⟩:=pro hnt hX0 hG
 refine exr (swb (U3 (k:=1) (n:=4) pa4 rfl rfl (P0 _ rfl) L) t1 t0 ⟨rfl,rfl⟩ (aV L rfl (zn [(1,_)] [(1,_)] t1 t1 ?_)))
 refine exm (sl:=[(2,vb false)]) (sl0:=[]) (hb:=[]) (hb0:=[]) t0 t0 ?_ ?_
 ·rcases N1p hn with h1 | ⟨h1,h2⟩
  ·refine sw (i2 un47 rfl sz45 dC rX L) t1 t1 ?_
   refine lp2 ag45 sz45 L rfl rfl (cK hG hX cl130 hN (W9 m ws oM) L t1 (mV L rfl (swn (g:=6) rfl (by simpa using h1) L rfl ?_)))
   refine swn (g:=6) rfl (by simpa using h1) L rfl ?_
   refine swn (g:=6) rfl (by simpa using h1) L rfl ?_
   refine sw (y4 (by simpa using h1) L) t2 t0 ?_
   refine mV L rfl (swn (g:=11) rfl rfl L rfl (swn (g:=11) rfl rfl L rfl (swn (g:=11) rfl rfl L rfl (swn (g:=11) rfl rfl L rfl (sw (y4 rfl L) t2 t0 (mV L rfl (swn (g:=17) rfl rfl L rfl (swn (g:=17) rfl rfl L rfl (swn (g:=17) rfl rfl L rfl (swn (g:=17) rfl rfl L rfl (swn (g:=17) rfl rfl L rfl ?_)))))))))))
   refine swn (g:=17) rfl rfl L rfl (swn (g:=17) rfl rfl L rfl (swn (g:=17) rfl rfl L rfl (sw (y4 rfl L) t2 t0 (aV L rfl ?_))))
   exact O1 ⟨⟨ob rfl rfl,trivial⟩,trivial⟩
  ·refine sw (i2 un47 rfl sz45 dC rX L) t1 t1 ?_
   refine lp2 ag45 sz45 L rfl rfl (cK hG hX cl130 hN (W9 m ws oM) L t1 (mV L rfl (swg (g:=6) rfl h1 (i2 un47 rfl sz45 dC rX L) rfl t1 t1 ?_)))
   refine swg (g:=6) rfl h1 (R6 ag45 sz45 rF (by exact al2) rfl L) rfl t1 t1 ?_
   refine swg (g:=6) rfl h1 (c_c hG hX cl130 rfl hN (W9 n vs oM) L) rfl t1 t0 (sw (O4 h1 L) t2 t0 (mV L rfl (swn (g:=11) rfl (by simpa using h2) L rfl ?_)))
   refine swn (g:=11) rfl (by simpa using h2) L rfl ?_
   refine swn (g:=11) rfl (by simpa using h2) L rfl ?_
   refine swn (g:=11) rfl (by simpa using h2) L rfl ?_
   refine sw (y4 (by simpa using h2) L) t2 t0 ?_
   refine mV L rfl (swn (g:=17) rfl rfl L rfl (swn (g:=17) rfl rfl L rfl (swn (g:=17) rfl rfl L rfl (swn (g:=17) rfl rfl L rfl (swn (g:=17) rfl rfl L rfl (swn (g:=17) rfl rfl L rfl (swn (g:=17) rfl rfl L rfl (swn (g:=17) rfl rfl L rfl (sw (y4 rfl L) t2 t0 (aV L rfl ?_))))))))))
   exact O1 ⟨⟨ob rfl rfl,trivial⟩,trivial⟩
 refine X1 ?_
 refine Q0 (.tmp rfl) ?_
 rfl
theorem W1r (a b:Int)(ha:nw a<1000000000)(hb:nw b<1000000000):v3 E 107 [pN a b] (bZ (decide (0<b∧(Int.gcd a b:Int)=1))):=by
 refine D2 (xs:=[bZ (decide (0<b∧(Int.gcd a b:Int)=1))]) Tryz.func107 rfl Tryz.ntmps107 Tryz.results107 sM fun F hG hX0 hnt hdf P0=>?_
 obtain ⟨L,hX,hN⟩:=pro hnt hX0 hG
 refine exr (swb (U3 (k:=1) (n:=4) pa4 rfl rfl (P0 _ rfl) L) t1 t0 ⟨rfl,rfl⟩ (aV L rfl (zn [(1,_)] [(1,_)] t1 t1 ?_)))
 refine exm (sl:=[(2,vb (decide (0<b∧(Int.gcd a b:Int)=1)))]) (sl0:=[]) (hb:=[]) (hb0:=[]) t0 t0 ?_ ?_
 ·by_cases h1:0<b
  ·refine sw (i2 un47 rfl sz45 dC rX L) t1 t1 ?_
   refine lp2 ag45 sz45 L rfl rfl (cK hG hX cl130 hN (isZ a oM) L t1 (mV L rfl (swg (g:=6) rfl rfl (i2 un47 rfl sz45 dC rX L) rfl t1 t1 ?_)))
   refine swg (g:=6) rfl rfl (R6 ag45 sz45 rF (by exact al2) rfl L) rfl t1 t1 ?_
   refine swg (g:=6) rfl rfl (c_c hG hX cl130 rfl hN (isZ b oM) L) rfl t1 t0 (sw (O4 rfl L) t2 t0 (mV L rfl (swg (g:=11) rfl rfl (i2 un47 rfl sz45 dC rX L) rfl t1 t1 ?_)))
   refine swg (g:=11) rfl rfl (R6 ag45 sz45 rF (by exact al2) rfl L) rfl t1 t1 ?_
   refine swg (g:=11) rfl rfl (c_c hG hX cl134 rfl hN (W0c b oM) L) rfl t1 t0 (swg (g:=11) rfl rfl (i7 L) rfl t2 t0 (sw (O4 rfl L) t2 t0 (mV L rfl (swg (g:=17) rfl (decide_eq_true (sgt.2 h1)) (i2 un47 rfl sz45 dC rX L) rfl t1 t1 ?_))))
   refine swg (g:=17) rfl (decide_eq_true (sgt.2 h1)) (R6 ag45 sz45 rF (by exact al2) rfl L) rfl t1 t1 ?_
   refine swg (g:=17) rfl (decide_eq_true (sgt.2 h1)) (i2 un47 rfl sz45 dC rX L) rfl t1 t1 ?_
   refine swg (g:=17) rfl (decide_eq_true (sgt.2 h1)) (R6 ag45 sz45 rF (by exact al2) rfl L) rfl t1 t1 ?_
   refine swg (g:=17) rfl (decide_eq_true (sgt.2 h1)) (c_c hG hX cl135 rfl hN (W1b a b oM oM) L) rfl t2 t0 (swg (g:=17) rfl (decide_eq_true (sgt.2 h1)) (c_c hG hX cl128 rfl hN Y0k L) rfl trivial trivial (swg (g:=17) rfl (decide_eq_true (sgt.2 h1)) (c_c hG hX cl114 rfl hN (Q1y (Int.gcd a b:Int) 1 (gn1 a h1 hb) (by rw [n0w]; decide)) L) rfl t2 t0 ?_))
   refine swg (g:=17) rfl (decide_eq_true (sgt.2 h1)) (c_e L) rfl t2 t0 (sw (O4 (decide_eq_true (sgt.2 h1)) L) t2 t0 (aV L rfl ?_))
   exact O1 ⟨⟨ob rfl (by rw [C7 (and_iff_right h1)]; exact C7 d2p),trivial⟩,trivial⟩
  ·refine sw (i2 un47 rfl sz45 dC rX L) t1 t1 ?_
   refine lp2 ag45 sz45 L rfl rfl (cK hG hX cl130 hN (isZ a oM) L t1 (mV L rfl (swg (g:=6) rfl rfl (i2 un47 rfl sz45 dC rX L) rfl t1 t1 ?_)))
   refine swg (g:=6) rfl rfl (R6 ag45 sz45 rF (by exact al2) rfl L) rfl t1 t1 ?_
   refine swg (g:=6) rfl rfl (c_c hG hX cl130 rfl hN (isZ b oM) L) rfl t1 t0 (sw (O4 rfl L) t2 t0 (mV L rfl (swg (g:=11) rfl rfl (i2 un47 rfl sz45 dC rX L) rfl t1 t1 ?_)))
   refine swg (g:=11) rfl rfl (R6 ag45 sz45 rF (by exact al2) rfl L) rfl t1 t1 ?_
   refine swg (g:=11) rfl rfl (c_c hG hX cl134 rfl hN (W0c b oM) L) rfl t1 t0 (swg (g:=11) rfl rfl (i7 L) rfl t2 t0 (sw (O4 rfl L) t2 t0 (mV L rfl (swn (g:=17) rfl (decide_eq_false (mt sgt.1 h1)) L rfl (swn (g:=17) rfl (decide_eq_false (mt sgt.1 h1)) L rfl (swn (g:=17) rfl (decide_eq_false (mt sgt.1 h1)) L rfl (swn (g:=17) rfl (decide_eq_false (mt sgt.1 h1)) L rfl (swn (g:=17) rfl (decide_eq_false (mt sgt.1 h1)) L rfl (swn (g:=17) rfl (decide_eq_false (mt sgt.1 h1)) L rfl (swn (g:=17) rfl (decide_eq_false (mt sgt.1 h1)) L rfl (swn (g:=17) rfl (decide_eq_false (mt sgt.1 h1)) L rfl ?_)))))))))))
   refine sw (y4 (decide_eq_false (mt sgt.1 h1)) L) t2 t0 (aV L rfl ?_)
   exact O1 ⟨⟨ob rfl (decide_eq_false (fun h=>h1 h.1)).symm,trivial⟩,trivial⟩
 refine X1 ?_
 refine Q0 (.tmp rfl) ?_
 rfl
theorem N1w (a:Int)(ha:nw a<999999999999):v3 E 105 [pZ a] (pZ (-a)):=by
 have:=p1h (decide (a<0)) (y3 a.natAbs) (by unfold nw at ha; omega) (M3 _)
 rwa [if_pos (K3 a),D5] at this
theorem N1m (a b:Int)(ha:nw a<999999999999)(hb:nw b<999999999999):v3 E 116 [pZ a,pZ b] (pZ (a+b)):=by
 have:=f1x (decide (a<0)) (decide (b<0)) (y3 a.natAbs) (y3 b.natAbs) (by unfold nw at ha; omega) (by unfold nw at hb; omega) (M3 _) (M3 _)
 rwa [if_pos ⟨K3 a,K3 b⟩,D5,D5] at this
theorem n1q (a:Int)(ha:nw a<999999999999):v3 E 77 [pZ a] (bZ true):=by
 have:=E5 (decide (a<0)) (y3 a.natAbs) (by unfold nw at ha; omega)
 rwa [K3 a] at this
theorem w1q {a b:Int}:((decide (a<0))=decide (b<0)∧y3 a.natAbs=y3 b.natAbs)↔a=b:=by
 constructor
 ·rintro ⟨h1,h2⟩
  have:=congrArg val h2
  rw [T4,T4] at this
  have h1:a<0↔b<0:=by simpa using h1
  omega
 ·rintro rfl; exact ⟨rfl,rfl⟩
theorem Q1m (a b:Int)(ha:nw a<999999999999)(hb:nw b<999999999999):v3 E 79 [pZ a,pZ b] (bZ (decide (a=b))):=by
 have:=f1j (decide (a<0)) (decide (b<0)) (y3 a.natAbs) (y3 b.natAbs) (by unfold nw at ha; omega) (by unfold nw at hb; omega)
 rwa [C7 w1q] at this
theorem k0k (n:Int)(h:nw n<999999999999):v3 E 115 [pZ n] (bZ (decide (n=1))):=by
 refine D2 (xs:=[bZ (decide (n=1))]) Tryz.func115 rfl Tryz.ntmps115 Tryz.results115 sM fun F hG hX0 hnt hdf P0=>?_
 obtain ⟨L,hX,hN⟩:=pro hnt hX0 hG
 unfold nw at h
 refine exr (swb (U3 (k:=1) (n:=2) pa2 rfl rfl (P0 _ rfl) L) t1 t0 ⟨rfl,rfl⟩ (aV L rfl (zn [(1,_)] [(1,_)] t1 t1 ?_)))
 refine exm (sl:=[(2,vb (decide (n=1)))]) (sl0:=[]) (hb:=[]) (hb0:=[]) t0 t0 ?_ ?_
 ·rcases b2k n with ⟨h1,h2⟩ | ⟨h1,h2,h3⟩ | ⟨h1,h2,h3⟩
  ·refine sw (i2 un45 rfl sz43 dC rX L) t1 t1 ?_
   refine sw (Y1 ag43 rF rF L) t1 t1 ?_
   refine sw (R2 un43 L) t1 t0 (sw (c_e L) t2 t0 (mV L rfl (swn (g:=7) rfl sO L rfl (swn (g:=7) rfl sO L rfl (swn (g:=7) rfl sO L rfl (swn (g:=7) rfl sO L rfl (swn (g:=7) rfl sO L rfl (sw (y4 sO L) t2 t0 (mV L rfl (swn (g:=14) rfl rfl L rfl (swn (g:=14) rfl rfl L rfl ?_)))))))))))
   refine swn (g:=14) rfl rfl L rfl (sw (y4 rfl L) t2 t0 (aV L rfl ?_))
   exact O1 ⟨⟨ob rfl (by simp [h2]),trivial⟩,trivial⟩
  ·refine sw (i2 un45 rfl sz43 dC rX L) t1 t1 ?_
   refine sw (Y1 ag43 rF rF L) t1 t1 ?_
   refine sw (R2 un43 L) t1 t0 (sw (c_e L) t2 t0 (mV L rfl (swg (g:=7) rfl sO (i2 un45 rfl sz43 dC rX L) rfl t1 t1 ?_)))
   refine swg (g:=7) rfl sO (Y1 ag43 rF rF L) rfl t1 t1 ?_
   refine swg (g:=7) rfl sO (ixJ un43 sz119 (j:=0) rfl oM sM L) rfl t2 t0 ?_
   refine swg (g:=7) rfl sO (d4 ag119 (by first | exact b6 oM | rfl) L) rfl t1 t0 ?_
   refine swg (g:=7) rfl sO (c_e L) rfl t2 t0 (sw (O4 sO L) t2 t0 (mV L rfl (swn (g:=14) rfl (by simpa using h2) L rfl ?_)))
   refine swn (g:=14) rfl (by simpa using h2) L rfl ?_
   refine swn (g:=14) rfl (by simpa using h2) L rfl ?_
   refine sw (y4 (by simpa using h2) L) t2 t0 ?_
   refine aV L rfl ?_
   exact O1 ⟨⟨ob rfl (by simp [h3]),trivial⟩,trivial⟩
  ·refine sw (i2 un45 rfl sz43 dC rX L) t1 t1 ?_
   refine sw (Y1 ag43 rF rF L) t1 t1 ?_
   refine sw (R2 un43 L) t1 t0 (sw (c_e L) t2 t0 (mV L rfl (swg (g:=7) rfl sO (i2 un45 rfl sz43 dC rX L) rfl t1 t1 ?_)))
   refine swg (g:=7) rfl sO (Y1 ag43 rF rF L) rfl t1 t1 ?_
   refine swg (g:=7) rfl sO (ixJ un43 sz119 (j:=0) rfl oM sM L) rfl t2 t0 ?_
   refine swg (g:=7) rfl sO (d4 ag119 (by first | exact b6 oM | rfl) L) rfl t1 t0 ?_
   refine swg (g:=7) rfl sO (c_e L) rfl t2 t0 (sw (O4 sO L) t2 t0 (mV L rfl (swg (g:=14) rfl (by simpa using h2) (i2 un45 rfl sz4 dC rX L) rfl t1 t1 ?_)))
   refine swg (g:=14) rfl (by simpa using h2) (Y1 ag4 rF rF L) rfl t1 t1 ?_
   refine swg (g:=14) rfl (by simpa using h2) (C4 L) rfl t1 t0 ?_
   refine sw (O4 (by simpa using h2) L) t2 t0 ?_
   refine aV L rfl ?_
   exact O1 ⟨⟨ob rfl (by rw [C7 h3]; exact (decide_not ..).symm),trivial⟩,trivial⟩
 refine X1 ?_
 refine Q0 (.tmp rfl) ?_
 rfl
theorem n1g  : v3 E 81 [] (pZ 1):=by
 refine D2 (xs:=[pZ 1]) Tryz.func81 rfl Tryz.ntmps81 Tryz.results81 sM fun F hG hX0 hnt hdf P0=>?_
 obtain ⟨L,hX,hN⟩:=pro hnt hX0 hG
 refine exr (swb (R3 (k:=0) (n:=2) zv45 (.cons rfl (.cons rfl .nil)) rfl (P0 _ rfl) L) t0 t0 ⟨rfl,rfl⟩ (zn [(0,_)] [(0,_)] t1 t1 (exr (cK hG hX cl119 hN (b0r 1 dC dC) L t1 (sb (U2 sz45 rF pa2 rfl pu2) t2 t1 ?_)))))
 refine zn [(0,_)] [(0,_)] t1 t1 (X1 ?_)
 refine Q0 (.agg rfl rfl rfl ag45 sz45 (.cons (.cons .nil))) ?_
 rfl
theorem Q0w (n d:Int)(h0:d≠0)(hn:nw n<9000000000)(hd:nw d<9000000000):v3 E 82 [pZ n,pZ d] (pQ (Rat.divInt n d)):=by
 refine D2 (xs:=[pQ (Rat.divInt n d)]) Tryz.func82 rfl Tryz.ntmps82 Tryz.results82 sM fun F hG hX0 hnt hdf P0=>?_
 obtain ⟨L,hX,hN⟩:=pro hnt hX0 hG
 have hg:=gn (n:=n) h0 hd
 have hs:=j1h (n:=n) h0
 have hw:=k1p (n:=n) h0
 refine exr (swb (U3 (k:=2) (n:=2) pa2 rfl rfl (P0 _ rfl) L) t1 t0 ⟨rfl,rfl⟩ (swb (U3 (k:=3) (n:=2) pa2 rfl rfl (P0 _ rfl) L) t1 t0 ⟨rfl,rfl⟩ (swb (R3 (k:=4) (n:=4) zv47 (.cons rfl (.cons rfl (.cons rfl (.cons rfl .nil)))) rfl (P0 _ rfl) L) t0 t0 ⟨rfl,rfl⟩ (zn [(2,_),(3,_),(4,_)] [(2,_),(3,_),(4,_)] t3 t3 (R1 (exr (lp2 ag45 sz45 L rfl rfl (cK hG hX cl115 hN (k0k d oM) L t1 (zn [(2,_),(3,_),(4,_),(7,_)] [(2,_),(3,_),(4,_)] t4 t3 ?_)))))))))
 refine j2 rfl (fun h1=>?_) (fun h1=>?_)
 ·have h1:=dt h1
  refine exr (lp2 ag45 sz45 L rfl rfl (lp2 ag45 sz45 L rfl rfl (sw (G7 (vs:=[_,_]) un47 zv47 (.cons rfl (.cons rfl (.cons rfl (.cons rfl .nil)))) ((J2.cons sz45 (J2.cons sz45 J2.nil))).to rfl (.cons rfl pa2 rfl pu2 (.cons rfl pa2 rfl (.skip (.skip pu2)) .nil)) (.cons (.cons (.cons (.cons .nil)))) L) t2 t0 (sb (U2 sz47 rF pa4 rfl pu4) t2 t1 ?_))))
  refine zn [(4,_)] [(4,_)] t1 t1 (X1 ?_)
  refine Q0 (.agg rfl rfl rfl ag47 sz47 (.cons (.cons (.cons (.cons .nil))))) ?_
  exact congrArg (· :: []) (cN (by rw [h1,j7]; rfl) (by rw [h1,j7]; rfl))
 ·refine U1 (xq ?_)
  refine exr (lp2 ag45 sz45 L rfl rfl (lp2 ag45 sz45 L rfl rfl (cK hG hX cl80 hN (N1k n d oM oM) L t2 (swb (R3 (k:=5) (n:=2) zv45 (.cons rfl (.cons rfl .nil)) rfl (P0 _ rfl) L) t0 t0 ⟨rfl,rfl⟩ (sb (U2 sz45 rF pa2 rfl pu2) t2 t1 ?_)))))
  refine zn [(2,_),(3,_),(4,_),(5,_)] [(2,_),(3,_),(4,_),(5,_)] t4 t4 (R1 ?_)
  refine exm (sl:=[(20,vb (decide ((Int.gcd n d:Int)=1∧¬ d<0)))]) (sl0:=[(2,_),(3,_),(4,_),(5,_)]) (hb:=[]) (hb0:=[(2,_),(3,_),(4,_),(5,_)]) t4 t4 ?_ ?_
  ·by_cases hg1:(Int.gcd n d:Int)=1
   ·refine lp2 ag45 sz45 L rfl rfl (cK hG hX cl115 hN (k0k (Int.gcd n d:Int) oM) L t1 (mV L rfl (swg (g:=16) rfl (by simp [hg1]) (i2 un45 rfl sz4 dC rX L) rfl t1 t1 ?_)))
    refine swg (g:=16) rfl (by simp [hg1]) (Y1 ag4 rF rF L) rfl t1 t1 ?_
    refine swg (g:=16) rfl (by simp [hg1]) (C4 L) rfl t1 t0 ?_
    refine sw (O4 (by simp [hg1]) L) t2 t0 ?_
    exact O1 ⟨⟨ob rfl (by simp only [hg1,true_and]; exact (decide_not ..).symm),rfl,rfl,rfl,rfl,trivial⟩,t4⟩
   ·refine lp2 ag45 sz45 L rfl rfl (cK hG hX cl115 hN (k0k (Int.gcd n d:Int) oM) L t1 (mV L rfl (swn (g:=16) rfl (by simp [hg1]) L rfl ?_)))
    refine swn (g:=16) rfl (by simp [hg1]) L rfl ?_
    refine swn (g:=16) rfl (by simp [hg1]) L rfl ?_
    refine sw (y4 (by simp [hg1]) L) t2 t0 ?_
    exact O1 ⟨⟨ob rfl (by simp [hg1]),rfl,rfl,rfl,rfl,trivial⟩,t4⟩
  refine j2 rfl (fun h2=>?_) (fun h2=>?_)
  ·have h2:=dt h2
   have hh:=Y0m (n:=n) (d:=d) oM h2.2
   refine exr (lp2 ag45 sz45 L rfl rfl (lp2 ag45 sz45 L rfl rfl (sw (G7 (vs:=[_,_]) un47 zv47 (.cons rfl (.cons rfl (.cons rfl (.cons rfl .nil)))) ((J2.cons sz45 (J2.cons sz45 J2.nil))).to rfl (.cons rfl pa2 rfl pu2 (.cons rfl pa2 rfl (.skip (.skip pu2)) .nil)) (.cons (.cons (.cons (.cons .nil)))) L) t2 t0 (sb (U2 sz47 rF pa4 rfl pu4) t2 t1 ?_))))
   refine zn [(4,_)] [(4,_)] t1 t1 (X1 ?_)
   refine Q0 (.agg rfl rfl rfl ag47 sz47 (.cons (.cons (.cons (.cons .nil))))) ?_
   exact congrArg (· :: []) (cN (by rw [d0r h0,hh,Int.ediv_one]) (by rw [d0p h0,hh,Int.ediv_one]))
  ·refine U1 (xq ?_)
   refine R1 (exr (lp2 ag45 sz45 L rfl rfl (cK hG hX cl78 hN (H0w d oM) L t1 (sw (P3 L) t2 t0 (zn [(2,_),(3,_),(4,_),(5,_),(26,_)] [(2,_),(3,_),(4,_),(5,_)] t5 t4 ?_)))))
   refine j2 rfl (fun h4=>?_) (fun h4=>?_)
   ·have h4:=dt h4
    rw [sg0] at h4
    rw [sgn h4] at hs hw
    refine j3 (lp2 ag45 sz45 L rfl rfl (cK hG hX cl105 hN (N1w (Int.gcd n d:Int) oM) L t1 (sb (U2 sz45 rF pa2 rfl pu2) t2 t1 ?_)))
    refine O1 (exd rF ?_)
    refine lp2 ag45 sz45 L rfl rfl (lp2 ag45 sz45 L rfl rfl (cK hG hX cl121 hN (m1q n (-(Int.gcd n d:Int)) oM oM hs) L t2 (lp2 ag45 sz45 L rfl rfl (lp2 ag45 sz45 L rfl rfl (cK hG hX cl121 hN (m1q d (-(Int.gcd n d:Int)) oM oM hs) L t2 (sw (G7 (vs:=[_,_]) un47 zv47 (.cons rfl (.cons rfl (.cons rfl (.cons rfl .nil)))) ((J2.cons sz45 (J2.cons sz45 J2.nil))).to rfl (.cons rfl pa2 rfl pu2 (.cons rfl pa2 rfl (.skip (.skip pu2)) .nil)) (.cons (.cons (.cons (.cons .nil)))) L) t2 t0 (sb (U2 sz47 rF pa4 rfl pu4) t2 t1 ?_)))))))
    refine O1 ⟨d5 [⟨[2],[2],[29],[]⟩,⟨[5],[5],[30],[]⟩,⟨[29,30],[],[31],[]⟩,⟨[3],[3],[32],[]⟩,⟨[5],[5],[33],[]⟩,⟨[32,33],[],[34],[]⟩,⟨[31,34],[],[35],[]⟩,⟨[4,35],[4],[],[4]⟩] rF rF dC,[(4,_)],[(4,_)],t1,t1,?_⟩
    refine X1 ?_
    refine Q0 (.agg rfl rfl rfl ag47 sz47 (.cons (.cons (.cons (.cons .nil))))) ?_
    exact congrArg (· :: []) (cN (by rw [d0r h0,sgn h4]) (by rw [d0p h0,sgn h4]))
   ·have h4:=df h4
    rw [sg0] at h4
    rw [sgp h4] at hs hw
    refine U1 (xq ?_)
    refine exd rF ?_
    refine lp2 ag45 sz45 L rfl rfl (lp2 ag45 sz45 L rfl rfl (cK hG hX cl121 hN (m1q n (Int.gcd n d:Int) oM oM hs) L t2 (lp2 ag45 sz45 L rfl rfl (lp2 ag45 sz45 L rfl rfl (cK hG hX cl121 hN (m1q d (Int.gcd n d:Int) oM oM hs) L t2 (sw (G7 (vs:=[_,_]) un47 zv47 (.cons rfl (.cons rfl (.cons rfl (.cons rfl .nil)))) ((J2.cons sz45 (J2.cons sz45 J2.nil))).to rfl (.cons rfl pa2 rfl pu2 (.cons rfl pa2 rfl (.skip (.skip pu2)) .nil)) (.cons (.cons (.cons (.cons .nil)))) L) t2 t0 (sb (U2 sz47 rF pa4 rfl pu4) t2 t1 ?_)))))))
    refine O1 ⟨d5 [⟨[2],[2],[29],[]⟩,⟨[5],[5],[30],[]⟩,⟨[29,30],[],[31],[]⟩,⟨[3],[3],[32],[]⟩,⟨[5],[5],[33],[]⟩,⟨[32,33],[],[34],[]⟩,⟨[31,34],[],[35],[]⟩,⟨[4,35],[4],[],[4]⟩] rF rF dC,[(4,_)],[(4,_)],t1,t1,?_⟩
    refine X1 ?_
    refine Q0 (.agg rfl rfl rfl ag47 sz47 (.cons (.cons (.cons (.cons .nil))))) ?_
    exact congrArg (· :: []) (cN (by rw [d0r h0,sgp h4]) (by rw [d0p h0,sgp h4]))
theorem j1a (a:Rat)(ha:qw a<1000000000):v3 E 62 [pQ a] (pQ (-a)):=by
 refine D2 (xs:=[pQ (-a)]) Tryz.func62 rfl Tryz.ntmps62 Tryz.results62 sM fun F hG hX0 hnt hdf P0=>?_
 obtain ⟨L,hX,hN⟩:=pro hnt hX0 hG
 have h1:=L4 a
 refine exr (swb (U3 (k:=1) (n:=4) pa4 rfl rfl (P0 _ rfl) L) t1 t0 ⟨rfl,rfl⟩ (swb (R3 (k:=2) (n:=4) zv47 (.cons rfl (.cons rfl (.cons rfl (.cons rfl .nil)))) rfl (P0 _ rfl) L) t0 t0 ⟨rfl,rfl⟩ (zn [(1,_),(2,_)] [(1,_),(2,_)] t2 t2 (exd rF ?_))))
 refine sw (i2 un47 rfl sz45 dC rX L) t1 t1 ?_
 refine lp2 ag45 sz45 L rfl rfl (cK hG hX cl105 hN (N1w a.num oM) L t1 (sw (i2 un47 rfl sz45 dC rX L) t1 t1 ?_))
 refine lp2 ag45 sz45 L rfl rfl (sw (G7 (vs:=[_,_]) un47 zv47 (.cons rfl (.cons rfl (.cons rfl (.cons rfl .nil)))) ((J2.cons sz45 (J2.cons sz45 J2.nil))).to rfl (.cons rfl pa2 rfl pu2 (.cons rfl pa2 rfl (.skip (.skip pu2)) .nil)) (.cons (.cons (.cons (.cons .nil)))) L) t2 t0 (sb (U2 sz47 rF pa4 rfl pu4) t2 t1 ?_))
 refine O1 ⟨d5 [⟨[1],[1],[3],[]⟩,⟨[3],[1],[4],[]⟩,⟨[4],[],[5],[]⟩,⟨[1],[1],[6],[]⟩,⟨[6],[1],[7],[]⟩,⟨[5,7],[],[8],[]⟩,⟨[2,8],[2],[],[2]⟩] rF rF dC,[(2,_)],[(2,_)],t1,t1,?_⟩
 refine X1 ?_
 refine Q0 (.agg rfl rfl rfl ag47 sz47 (.cons (.cons (.cons (.cons .nil))))) ?_
 exact congrArg (· :: []) (cN rfl rfl)
theorem d1b (a:Rat)(ha:qw a<1000000000):v3 E 148 [pQ a] (vZ (n0b a 0)):=by
 refine D2 (xs:=[vZ (n0b a 0)]) Tryz.func148 rfl Tryz.ntmps148 Tryz.results148 sM fun F hG hX0 hnt hdf P0=>?_
 obtain ⟨L,hX,hN⟩:=pro hnt hX0 hG
 have h1:=L4 a
 refine exr (swb (U3 (k:=1) (n:=4) pa4 rfl rfl (P0 _ rfl) L) t1 t0 ⟨rfl,rfl⟩ (aV L rfl (zn [(1,_)] [(1,_)] t1 t1 (exr (sw (i2 un47 rfl sz45 dC rX L) t1 t1 ?_)))))
 refine lp2 ag45 sz45 L rfl rfl (cK hG hX cl78 hN (H0w a.num oM) L t1 (aV L rfl (zn [(2,_)] [] t1 trivial (X1 ?_))))
 refine Q0 (.tmp rfl) ?_
 rw [P0n]
theorem D0y (a b:Rat)(ha:qw a<1000000000)(hb:qw b<1000000000):v3 E 37 [pQ a,pQ b] (pQ (a*b)):=by
 refine D2 (xs:=[pQ (a*b)]) Tryz.func37 rfl Tryz.ntmps37 Tryz.results37 sM fun F hG hX0 hnt hdf P0=>?_
 obtain ⟨L,hX,hN⟩:=pro hnt hX0 hG
 have h1:=L4 a
 have h2:=L4 b
 have h3:=l5 a
 have h4:=l5 b
 have h5:=o7 a.num b.num
 have h6:=o7 a.den b.den
 refine exr (swb (U3 (k:=2) (n:=4) pa4 rfl rfl (P0 _ rfl) L) t1 t0 ⟨rfl,rfl⟩ (swb (U3 (k:=3) (n:=4) pa4 rfl rfl (P0 _ rfl) L) t1 t0 ⟨rfl,rfl⟩ (swb (R3 (k:=4) (n:=4) zv47 (.cons rfl (.cons rfl (.cons rfl (.cons rfl .nil)))) rfl (P0 _ rfl) L) t0 t0 ⟨rfl,rfl⟩ (zn [(2,_),(3,_),(4,_)] [(2,_),(3,_),(4,_)] t3 t3 (exd rF ?_)))))
 refine sw (i2 un47 rfl sz45 dC rX L) t1 t1 ?_
 refine lp2 ag45 sz45 L rfl rfl (sw (i2 un47 rfl sz45 dC rX L) t1 t1 ?_)
 refine lp2 ag45 sz45 L rfl rfl (cK hG hX cl83 hN (n0g a.num b.num oM oM) L t2 (sw (i2 un47 rfl sz45 dC rX L) t1 t1 ?_))
 refine lp2 ag45 sz45 L rfl rfl (sw (i2 un47 rfl sz45 dC rX L) t1 t1 ?_)
 refine lp2 ag45 sz45 L rfl rfl (cK hG hX cl83 hN (n0g a.den b.den oM oM) L t2 (cK hG hX cl82 hN (Q0w (a.num*b.num) (a.den*b.den) (Int.mul_ne_zero (o8 a) (o8 b)) oM oM) L t2 (sb (U2 sz47 rF pa4 rfl pu4) t2 t1 ?_)))
 refine O1 ⟨d5 [⟨[2],[2],[5],[]⟩,⟨[5],[2],[6],[]⟩,⟨[3],[3],[7],[]⟩,⟨[7],[3],[8],[]⟩,⟨[6,8],[],[9],[]⟩,⟨[2],[2],[10],[]⟩,⟨[10],[2],[11],[]⟩,⟨[3],[3],[12],[]⟩,⟨[12],[3],[13],[]⟩,⟨[11,13],[],[14],[]⟩,⟨[9,14],[],[15],[]⟩,⟨[4,15],[4],[],[4]⟩] rF rF dC,[(4,_)],[(4,_)],t1,t1,?_⟩
 refine X1 ?_
 refine Q0 (.agg rfl rfl rfl ag47 sz47 (.cons (.cons (.cons (.cons .nil))))) ?_
 rw [F1j]
theorem G0r (a b:Rat)(ha:qw a<1000000000)(hb:qw b<1000000000):v3 E 76 [pQ a,pQ b] (pQ (a+b)):=by
 refine D2 (xs:=[pQ (a+b)]) Tryz.func76 rfl Tryz.ntmps76 Tryz.results76 sM fun F hG hX0 hnt hdf P0=>?_
 obtain ⟨L,hX,hN⟩:=pro hnt hX0 hG
 have h1:=L4 a
 have h2:=L4 b
 have h3:=l5 a
 have h4:=l5 b
 have h5:=o7 a.num b.den
 have h6:=o7 b.num a.den
 have h7:=o7 a.den b.den
 have h8:=f1d (a.num*b.den) (b.num*a.den)
 refine exr (swb (U3 (k:=2) (n:=4) pa4 rfl rfl (P0 _ rfl) L) t1 t0 ⟨rfl,rfl⟩ (swb (U3 (k:=3) (n:=4) pa4 rfl rfl (P0 _ rfl) L) t1 t0 ⟨rfl,rfl⟩ (swb (R3 (k:=4) (n:=4) zv47 (.cons rfl (.cons rfl (.cons rfl (.cons rfl .nil)))) rfl (P0 _ rfl) L) t0 t0 ⟨rfl,rfl⟩ (zn [(2,_),(3,_),(4,_)] [(2,_),(3,_),(4,_)] t3 t3 (R1 ?_)))))
 refine exm (sl:=[(12,vb (decide ((a.den:Int)=1∧(b.den:Int)=1)))]) (sl0:=[(2,_),(3,_),(4,_)]) (hb:=[]) (hb0:=[(2,_),(3,_),(4,_)]) t3 t3 ?_ ?_
 ·by_cases hd:(a.den:Int)=1
  ·refine sw (i2 un47 rfl sz45 dC rX L) t1 t1 ?_
   refine lp2 ag45 sz45 L rfl rfl (cK hG hX cl115 hN (k0k a.den oM) L t1 (mV L rfl (swg (g:=8) rfl (by simpa using hd) (i2 un47 rfl sz45 dC rX L) rfl t1 t1 ?_)))
   refine swg (g:=8) rfl (by simpa using hd) (R6 ag45 sz45 rF (by exact al2) rfl L) rfl t1 t1 ?_
   refine swg (g:=8) rfl (by simpa using hd) (c_c hG hX cl115 rfl hN (k0k b.den oM) L) rfl t1 t0 ?_
   refine sw (O4 (by simpa using hd) L) t2 t0 ?_
   exact O1 ⟨⟨ob rfl (by simp only [hd,true_and]),rfl,rfl,rfl,trivial⟩,t3⟩
  ·refine sw (i2 un47 rfl sz45 dC rX L) t1 t1 ?_
   refine lp2 ag45 sz45 L rfl rfl (cK hG hX cl115 hN (k0k a.den oM) L t1 (mV L rfl (swn (g:=8) rfl (by simpa using hd) L rfl ?_)))
   refine swn (g:=8) rfl (by simpa using hd) L rfl ?_
   refine swn (g:=8) rfl (by simpa using hd) L rfl ?_
   refine sw (y4 (by simpa using hd) L) t2 t0 ?_
   exact O1 ⟨⟨ob rfl (by simp only [hd,false_and]; rfl),rfl,rfl,rfl,trivial⟩,t3⟩
 refine j2 rfl (fun hc=>?_) (fun hc=>?_)
 ·have hc:=dt hc
  refine exd rF ?_
  refine sw (i2 un47 rfl sz45 dC rX L) t1 t1 ?_
  refine lp2 ag45 sz45 L rfl rfl (sw (i2 un47 rfl sz45 dC rX L) t1 t1 ?_)
  refine lp2 ag45 sz45 L rfl rfl (cK hG hX cl116 hN (N1m a.num b.num oM oM) L t2 (sw (i2 un47 rfl sz45 dC rX L) t1 t1 ?_))
  refine lp2 ag45 sz45 L rfl rfl (sw (G7 (vs:=[_,_]) un47 zv47 (.cons rfl (.cons rfl (.cons rfl (.cons rfl .nil)))) ((J2.cons sz45 (J2.cons sz45 J2.nil))).to rfl (.cons rfl pa2 rfl pu2 (.cons rfl pa2 rfl (.skip (.skip pu2)) .nil)) (.cons (.cons (.cons (.cons .nil)))) L) t2 t0 (sb (U2 sz47 rF pa4 rfl pu4) t2 t1 ?_))
  refine O1 ⟨d5 [⟨[2],[2],[13],[]⟩,⟨[13],[2],[14],[]⟩,⟨[3],[3],[15],[]⟩,⟨[15],[3],[16],[]⟩,⟨[14,16],[],[17],[]⟩,⟨[2],[2],[18],[]⟩,⟨[18],[2],[19],[]⟩,⟨[17,19],[],[20],[]⟩,⟨[4,20],[4],[],[4]⟩] rF rF dC,[(4,_)],[(4,_)],t1,t1,?_⟩
  refine X1 ?_
  refine Q0 (.agg rfl rfl rfl ag47 sz47 (.cons (.cons (.cons (.cons .nil))))) ?_
  exact congrArg (· :: []) (cN (by rw [← N0k,hc.1,hc.2,Int.mul_one,Int.mul_one,Int.mul_one,j7]; rfl) (by rw [← N0k,hc.1,hc.2,Int.mul_one,Int.mul_one,Int.mul_one,j7]; rfl))
 ·refine U1 (xq ?_)
  refine exd rF ?_
  refine sw (i2 un47 rfl sz45 dC rX L) t1 t1 ?_
  refine lp2 ag45 sz45 L rfl rfl (sw (i2 un47 rfl sz45 dC rX L) t1 t1 ?_)
  refine lp2 ag45 sz45 L rfl rfl (cK hG hX cl83 hN (n0g a.num b.den oM oM) L t2 (sw (i2 un47 rfl sz45 dC rX L) t1 t1 ?_))
  refine lp2 ag45 sz45 L rfl rfl (sw (i2 un47 rfl sz45 dC rX L) t1 t1 ?_)
  refine lp2 ag45 sz45 L rfl rfl (cK hG hX cl83 hN (n0g b.num a.den oM oM) L t2 (cK hG hX cl116 hN (N1m (a.num*b.den) (b.num*a.den) oM oM) L t2 (sw (i2 un47 rfl sz45 dC rX L) t1 t1 ?_)))
  refine lp2 ag45 sz45 L rfl rfl (sw (i2 un47 rfl sz45 dC rX L) t1 t1 ?_)
  refine lp2 ag45 sz45 L rfl rfl (cK hG hX cl83 hN (n0g a.den b.den oM oM) L t2 (cK hG hX cl82 hN (Q0w (a.num*b.den+b.num*a.den) (a.den*b.den) (Int.mul_ne_zero (o8 a) (o8 b)) oM oM) L t2 (sb (U2 sz47 rF pa4 rfl pu4) t2 t1 ?_)))
  refine O1 ⟨d5 [⟨[2],[2],[21],[]⟩,⟨[21],[2],[22],[]⟩,⟨[3],[3],[23],[]⟩,⟨[23],[3],[24],[]⟩,⟨[22,24],[],[25],[]⟩,⟨[3],[3],[26],[]⟩,⟨[26],[3],[27],[]⟩,⟨[2],[2],[28],[]⟩,⟨[28],[2],[29],[]⟩,⟨[27,29],[],[30],[]⟩,⟨[25,30],[],[31],[]⟩,⟨[2],[2],[32],[]⟩,⟨[32],[2],[33],[]⟩,⟨[3],[3],[34],[]⟩,⟨[34],[3],[35],[]⟩,⟨[33,35],[],[36],[]⟩,⟨[31,36],[],[37],[]⟩,⟨[4,37],[4],[],[4]⟩] rF rF dC,[(4,_)],[(4,_)],t1,t1,?_⟩
  refine X1 ?_
  refine Q0 (.agg rfl rfl rfl ag47 sz47 (.cons (.cons (.cons (.cons .nil))))) ?_
  rw [N0k]
theorem h1x (a b:Rat)(ha:qw a<1000000000)(hb:qw b<1000000000):v3 E 132 [pQ a,pQ b] (pQ (a - b)):=by
 refine D2 (xs:=[pQ (a - b)]) Tryz.func132 rfl Tryz.ntmps132 Tryz.results132 sM fun F hG hX0 hnt hdf P0=>?_
 obtain ⟨L,hX,hN⟩:=pro hnt hX0 hG
 refine exr (swb (U3 (k:=2) (n:=4) pa4 rfl rfl (P0 _ rfl) L) t1 t0 ⟨rfl,rfl⟩ (swb (U3 (k:=3) (n:=4) pa4 rfl rfl (P0 _ rfl) L) t1 t0 ⟨rfl,rfl⟩ (swb (R3 (k:=4) (n:=4) zv47 (.cons rfl (.cons rfl (.cons rfl (.cons rfl .nil)))) rfl (P0 _ rfl) L) t0 t0 ⟨rfl,rfl⟩ (zn [(2,_),(3,_),(4,_)] [(2,_),(3,_),(4,_)] t3 t3 (exd rF ?_)))))
 refine lp4 ag47 sz47 L rfl rfl (lp4 ag47 sz47 L rfl rfl (cK hG hX cl62 hN (j1a b hb) L t1 (cK hG hX cl76 hN (G0r a (-b) ha (by rw [G0m]; exact hb)) L t2 ?_)))
 refine sb (U2 sz47 rF pa4 rfl pu4) t2 t1 ?_
 refine O1 ⟨d5 [⟨[2],[2],[5],[]⟩,⟨[3],[3],[6],[]⟩,⟨[6],[],[7],[]⟩,⟨[5,7],[],[8],[]⟩,⟨[4,8],[4],[],[4]⟩] rF rF dC,[(4,_)],[(4,_)],t1,t1,?_⟩
 refine X1 ?_
 refine Q0 (.agg rfl rfl rfl ag47 sz47 (.cons (.cons (.cons (.cons .nil))))) ?_
 rw [← Rat.sub_eq_add_neg]
theorem g1w (a b:Rat)(ha:qw a<1000000000)(hb:qw b<1000000000)(h0:b≠0):v3 E 133 [pQ a,pQ b] (.tup [pQ (a / b),vZ 0]):=by
 refine D2 (xs:=[pQ (a / b),vZ 0]) Tryz.func133 rfl Tryz.ntmps133 Tryz.results133 sM fun F hG hX0 hnt hdf P0=>?_
 obtain ⟨L,hX,hN⟩:=pro hnt hX0 hG
 have h1:=L4 a
 have h2:=L4 b
 have h3:=l5 a
 have h4:=l5 b
 have h5:=o7 a.num b.den
 have h6:=o7 a.den b.num
 refine exr (swb (U3 (k:=2) (n:=4) pa4 rfl rfl (P0 _ rfl) L) t1 t0 ⟨rfl,rfl⟩ (swb (U3 (k:=3) (n:=4) pa4 rfl rfl (P0 _ rfl) L) t1 t0 ⟨rfl,rfl⟩ (swb (R3 (k:=4) (n:=4) zv47 (.cons rfl (.cons rfl (.cons rfl (.cons rfl .nil)))) rfl (P0 _ rfl) L) t0 t0 ⟨rfl,rfl⟩ (aV L rfl (zn [(2,_),(3,_),(4,_)] [(2,_),(3,_),(4,_)] t3 t3 (R1 (exr (lp4 ag47 sz47 L rfl rfl (cK hG hX cl148 hN (d1b b hb) L t1 (sw (c_e L) t2 t0 (zn [(2,_),(3,_),(4,_),(8,_)] [(2,_),(3,_),(4,_)] t4 t3 ?_)))))))))))
 refine j2 rfl (fun hc=>?_) (fun hc=>?_)
 ·have hc:=dt hc
  rw [← P0n,k1g] at hc
  exact absurd hc h0
 ·refine U1 (xq ?_)
  refine exd rF ?_
  refine sw (i2 un47 rfl sz45 dC rX L) t1 t1 ?_
  refine lp2 ag45 sz45 L rfl rfl (sw (i2 un47 rfl sz45 dC rX L) t1 t1 ?_)
  refine lp2 ag45 sz45 L rfl rfl (cK hG hX cl83 hN (n0g a.num b.den oM oM) L t2 (sw (i2 un47 rfl sz45 dC rX L) t1 t1 ?_))
  refine lp2 ag45 sz45 L rfl rfl (sw (i2 un47 rfl sz45 dC rX L) t1 t1 ?_)
  refine lp2 ag45 sz45 L rfl rfl (cK hG hX cl83 hN (n0g a.den b.num oM oM) L t2 (cK hG hX cl82 hN (Q0w (a.num*b.den) (a.den*b.num) (Int.mul_ne_zero (o8 a) (f1k.2 h0)) oM oM) L t2 (sb (U2 sz47 rF pa4 rfl pu4) t2 t1 ?_)))
  refine aV L rfl ?_
  refine O1 ⟨d5 [⟨[2],[2],[10],[]⟩,⟨[10],[2],[11],[]⟩,⟨[3],[3],[12],[]⟩,⟨[12],[3],[13],[]⟩,⟨[11,13],[],[14],[]⟩,⟨[2],[2],[15],[]⟩,⟨[15],[2],[16],[]⟩,⟨[3],[3],[17],[]⟩,⟨[17],[3],[18],[]⟩,⟨[16,18],[],[19],[]⟩,⟨[14,19],[],[20],[]⟩,⟨[4,20],[4],[],[4]⟩,⟨[],[],[5],[]⟩] rF rF dC,[(4,_),(5,_)],[(4,_)],t2,t1,?_⟩
  refine X1 ?_
  refine Y0 (.agg rfl rfl rfl ag47 sz47 (.cons (.cons (.cons (.cons .nil))))) (.tmp rfl) ?_
  rw [W1g]
theorem M1p (m n:Bool)(ws vs:List Int)(hl:ws.length<1000000000)(hl2:vs.length<1000000000)(hn:¬ (P2 m ws=true∧P2 n vs=true)):v3 E 36 [pR m ws n vs] (bZ false):=by
 refine D2 (xs:=[bZ false]) Tryz.func36 rfl Tryz.ntmps36 Tryz.results36 sM fun F hG hX0 hnt hdf P0=>?_
 obtain ⟨L,hX,hN⟩:=pro hnt hX0 hG
 refine exr (swb (U3 (k:=1) (n:=4) pa4 rfl rfl (P0 _ rfl) L) t1 t0 ⟨rfl,rfl⟩ (aV L rfl (zn [(1,_)] [(1,_)] t1 t1 ?_)))
 refine exm (sl:=[(2,vb false)]) (sl0:=[]) (hb:=[]) (hb0:=[]) t0 t0 ?_ ?_
 ·rcases N1p hn with h1 | ⟨h1,h2⟩
  ·refine sw (i2 un47 rfl sz45 dC rX L) t1 t1 ?_
   refine lp2 ag45 sz45 L rfl rfl (cK hG hX cl77 hN (E5 m ws oM) L t1 (mV L rfl (swn (g:=6) rfl (by simpa using h1) L rfl ?_)))
   refine swn (g:=6) rfl (by simpa using h1) L rfl ?_
   refine swn (g:=6) rfl (by simpa using h1) L rfl ?_
   refine sw (y4 (by simpa using h1) L) t2 t0 ?_
   refine mV L rfl (swn (g:=11) rfl rfl L rfl (swn (g:=11) rfl rfl L rfl (swn (g:=11) rfl rfl L rfl (swn (g:=11) rfl rfl L rfl (sw (y4 rfl L) t2 t0 (mV L rfl (swn (g:=17) rfl rfl L rfl (swn (g:=17) rfl rfl L rfl (swn (g:=17) rfl rfl L rfl (swn (g:=17) rfl rfl L rfl (swn (g:=17) rfl rfl L rfl ?_)))))))))))
   refine swn (g:=17) rfl rfl L rfl (swn (g:=17) rfl rfl L rfl (sw (y4 rfl L) t2 t0 (aV L rfl ?_)))
   exact O1 ⟨⟨ob rfl rfl,trivial⟩,trivial⟩
  ·refine sw (i2 un47 rfl sz45 dC rX L) t1 t1 ?_
   refine lp2 ag45 sz45 L rfl rfl (cK hG hX cl77 hN (E5 m ws oM) L t1 (mV L rfl (swg (g:=6) rfl h1 (i2 un47 rfl sz45 dC rX L) rfl t1 t1 ?_)))
   refine swg (g:=6) rfl h1 (R6 ag45 sz45 rF (by exact al2) rfl L) rfl t1 t1 ?_
   refine swg (g:=6) rfl h1 (c_c hG hX cl77 rfl hN (E5 n vs oM) L) rfl t1 t0 (sw (O4 h1 L) t2 t0 (mV L rfl (swn (g:=11) rfl (by simpa using h2) L rfl ?_)))
   refine swn (g:=11) rfl (by simpa using h2) L rfl ?_
   refine swn (g:=11) rfl (by simpa using h2) L rfl ?_
   refine swn (g:=11) rfl (by simpa using h2) L rfl ?_
   refine sw (y4 (by simpa using h2) L) t2 t0 ?_
   refine mV L rfl (swn (g:=17) rfl rfl L rfl (swn (g:=17) rfl rfl L rfl (swn (g:=17) rfl rfl L rfl (swn (g:=17) rfl rfl L rfl (swn (g:=17) rfl rfl L rfl (swn (g:=17) rfl rfl L rfl (swn (g:=17) rfl rfl L rfl (sw (y4 rfl L) t2 t0 (aV L rfl ?_)))))))))
   exact O1 ⟨⟨ob rfl rfl,trivial⟩,trivial⟩
 refine X1 ?_
 refine Q0 (.tmp rfl) ?_
 rfl
theorem V1m (a b:Int)(ha:nw a<1000000000)(hb:nw b<1000000000):v3 E 36 [pN a b] (bZ (decide (0<b∧(Int.gcd a b:Int)=1))):=by
 refine D2 (xs:=[bZ (decide (0<b∧(Int.gcd a b:Int)=1))]) Tryz.func36 rfl Tryz.ntmps36 Tryz.results36 sM fun F hG hX0 hnt hdf P0=>?_
 obtain ⟨L,hX,hN⟩:=pro hnt hX0 hG
 refine exr (swb (U3 (k:=1) (n:=4) pa4 rfl rfl (P0 _ rfl) L) t1 t0 ⟨rfl,rfl⟩ (aV L rfl (zn [(1,_)] [(1,_)] t1 t1 ?_)))
 refine exm (sl:=[(2,vb (decide (0<b∧(Int.gcd a b:Int)=1)))]) (sl0:=[]) (hb:=[]) (hb0:=[]) t0 t0 ?_ ?_
 ·by_cases h1:0<b
  ·refine sw (i2 un47 rfl sz45 dC rX L) t1 t1 ?_
   refine lp2 ag45 sz45 L rfl rfl (cK hG hX cl77 hN (n1q a oM) L t1 (mV L rfl (swg (g:=6) rfl rfl (i2 un47 rfl sz45 dC rX L) rfl t1 t1 ?_)))
   refine swg (g:=6) rfl rfl (R6 ag45 sz45 rF (by exact al2) rfl L) rfl t1 t1 ?_
   refine swg (g:=6) rfl rfl (c_c hG hX cl77 rfl hN (n1q b oM) L) rfl t1 t0 (sw (O4 rfl L) t2 t0 (mV L rfl (swg (g:=11) rfl rfl (i2 un47 rfl sz45 dC rX L) rfl t1 t1 ?_)))
   refine swg (g:=11) rfl rfl (R6 ag45 sz45 rF (by exact al2) rfl L) rfl t1 t1 ?_
   refine swg (g:=11) rfl rfl (c_c hG hX cl78 rfl hN (H0w b oM) L) rfl t1 t0 (swg (g:=11) rfl rfl (i7 L) rfl t2 t0 (sw (O4 rfl L) t2 t0 (mV L rfl (swg (g:=17) rfl (decide_eq_true (sgt.2 h1)) (i2 un47 rfl sz45 dC rX L) rfl t1 t1 ?_))))
   refine swg (g:=17) rfl (decide_eq_true (sgt.2 h1)) (R6 ag45 sz45 rF (by exact al2) rfl L) rfl t1 t1 ?_
   refine swg (g:=17) rfl (decide_eq_true (sgt.2 h1)) (i2 un47 rfl sz45 dC rX L) rfl t1 t1 ?_
   refine swg (g:=17) rfl (decide_eq_true (sgt.2 h1)) (R6 ag45 sz45 rF (by exact al2) rfl L) rfl t1 t1 ?_
   refine swg (g:=17) rfl (decide_eq_true (sgt.2 h1)) (c_c hG hX cl80 rfl hN (N1k a b oM oM) L) rfl t2 t0 (swg (g:=17) rfl (decide_eq_true (sgt.2 h1)) (c_c hG hX cl81 rfl hN n1g L) rfl trivial trivial (swg (g:=17) rfl (decide_eq_true (sgt.2 h1)) (c_c hG hX cl79 rfl hN (Q1m (Int.gcd a b:Int) 1 (gn1 a h1 hb) (by rw [n0w]; decide)) L) rfl t2 t0 ?_))
   refine sw (O4 (decide_eq_true (sgt.2 h1)) L) t2 t0 (aV L rfl ?_)
   exact O1 ⟨⟨ob rfl (by rw [C7 (and_iff_right h1)]),trivial⟩,trivial⟩
  ·refine sw (i2 un47 rfl sz45 dC rX L) t1 t1 ?_
   refine lp2 ag45 sz45 L rfl rfl (cK hG hX cl77 hN (n1q a oM) L t1 (mV L rfl (swg (g:=6) rfl rfl (i2 un47 rfl sz45 dC rX L) rfl t1 t1 ?_)))
   refine swg (g:=6) rfl rfl (R6 ag45 sz45 rF (by exact al2) rfl L) rfl t1 t1 ?_
   refine swg (g:=6) rfl rfl (c_c hG hX cl77 rfl hN (n1q b oM) L) rfl t1 t0 (sw (O4 rfl L) t2 t0 (mV L rfl (swg (g:=11) rfl rfl (i2 un47 rfl sz45 dC rX L) rfl t1 t1 ?_)))
   refine swg (g:=11) rfl rfl (R6 ag45 sz45 rF (by exact al2) rfl L) rfl t1 t1 ?_
   refine swg (g:=11) rfl rfl (c_c hG hX cl78 rfl hN (H0w b oM) L) rfl t1 t0 (swg (g:=11) rfl rfl (i7 L) rfl t2 t0 (sw (O4 rfl L) t2 t0 (mV L rfl (swn (g:=17) rfl (decide_eq_false (mt sgt.1 h1)) L rfl (swn (g:=17) rfl (decide_eq_false (mt sgt.1 h1)) L rfl (swn (g:=17) rfl (decide_eq_false (mt sgt.1 h1)) L rfl (swn (g:=17) rfl (decide_eq_false (mt sgt.1 h1)) L rfl (swn (g:=17) rfl (decide_eq_false (mt sgt.1 h1)) L rfl (swn (g:=17) rfl (decide_eq_false (mt sgt.1 h1)) L rfl (swn (g:=17) rfl (decide_eq_false (mt sgt.1 h1)) L rfl (sw (y4 (decide_eq_false (mt sgt.1 h1)) L) t2 t0 ?_)))))))))))
   refine aV L rfl ?_
   exact O1 ⟨⟨ob rfl (decide_eq_false (fun h=>h1 h.1)).symm,trivial⟩,trivial⟩
 refine X1 ?_
 refine Q0 (.tmp rfl) ?_
 rfl
theorem g1n (n d:Int)(h0:d≠0)(hn:nw n<9000000000)(hd:nw d<9000000000):v3 E 125 [pZ n,pZ d] (.tup [pQ (Rat.divInt n d),vZ 0]):=by
 refine D2 (xs:=[pQ (Rat.divInt n d),vZ 0]) Tryz.func125 rfl Tryz.ntmps125 Tryz.results125 sM fun F hG hX0 hnt hdf P0=>?_
 obtain ⟨L,hX,hN⟩:=pro hnt hX0 hG
 refine exr (swb (U3 (k:=2) (n:=2) pa2 rfl rfl (P0 _ rfl) L) t1 t0 ⟨rfl,rfl⟩ (swb (U3 (k:=3) (n:=2) pa2 rfl rfl (P0 _ rfl) L) t1 t0 ⟨rfl,rfl⟩ (swb (R3 (k:=4) (n:=4) zv47 (.cons rfl (.cons rfl (.cons rfl (.cons rfl .nil)))) rfl (P0 _ rfl) L) t0 t0 ⟨rfl,rfl⟩ (aV L rfl (zn [(2,_),(3,_),(4,_)] [(2,_),(3,_),(4,_)] t3 t3 (R1 (exr (lp2 ag45 sz45 L rfl rfl (cK hG hX cl77 hN (n1q n oM) L t1 (sw (C4 L) t1 t0 (mV L rfl ?_)))))))))))
 refine swg (g:=9) rfl rfl (R6 ag45 sz45 rF (by exact al2) rfl L) rfl t1 t1 ?_
 refine swg (g:=9) rfl rfl (c_c hG hX cl77 rfl hN (n1q d oM) L) rfl t1 t0 (swg (g:=9) rfl rfl (C4 L) rfl t1 t0 (sw (y4 rfl L) t2 t0 (zn [(2,_),(3,_),(4,_),(13,_)] [(2,_),(3,_),(4,_)] t4 t3 ?_)))
 refine j2 rfl (fun hc=>?_) (fun hc=>?_)
 ·cases hc
 ·refine U1 (xq ?_)
  refine R1 (exr (lp2 ag45 sz45 L rfl rfl (cK hG hX cl78 hN (H0w d oM) L t1 (sw (c_e L) t2 t0 (zn [(2,_),(3,_),(4,_),(17,_)] [(2,_),(3,_),(4,_)] t4 t3 ?_)))))
  refine j2 rfl (fun hz=>?_) (fun hz=>?_)
  ·have hz:=dt hz
   exact absurd (Int.sign_eq_zero_iff_zero.1 hz) h0
  ·refine U1 (xq ?_)
   refine exr (lp2 ag45 sz45 L rfl rfl (lp2 ag45 sz45 L rfl rfl (cK hG hX cl82 hN (Q0w n d h0 hn hd) L t2 (sb (U2 sz47 rF pa4 rfl pu4) t2 t1 ?_))))
   refine aV L rfl (zn [(4,_),(5,_)] [(4,_)] t2 t1 (X1 ?_))
   refine Y0 (.agg rfl rfl rfl ag47 sz47 (.cons (.cons (.cons (.cons .nil))))) (.tmp rfl) ?_
   rfl
theorem b2r {n:Int}(h : -9223372036854775808≤n)(h1:n<9223372036854775808):nw n≤2:=D0v oM
theorem v1m (n d:Int)(h : -9223372036854775808≤n)(h1:n<9223372036854775808)(h2 : -9223372036854775808≤d)(h3:d<9223372036854775808)(h0:d≠0):v3 E 88 [vZ n,vZ d] (.tup [pQ (Rat.divInt n d),vZ 0]):=by
 refine D2 (xs:=[pQ (Rat.divInt n d),vZ 0]) Tryz.func88 rfl Tryz.ntmps88 Tryz.results88 sM fun F hG hX0 hnt hdf P0=>?_
 obtain ⟨L,hX,hN⟩:=pro hnt hX0 hG
 have k1:=b2r h h1
 have k2:=b2r h2 h3
 refine exr (swb (R3 (k:=4) (n:=4) zv47 (.cons rfl (.cons rfl (.cons rfl (.cons rfl .nil)))) rfl (P0 _ rfl) L) t0 t0 ⟨rfl,rfl⟩ (aV L rfl (zn [(0,_),(1,_),(4,_)] [(4,_)] t3 t1 (exr (mV L rfl (cK hG hX cl119 hN (b0r n h h1) L t1 (mV L rfl (cK hG hX cl119 hN (b0r d h2 h3) L t1 (cK hG hX cl125 hN (g1n n d h0 oM oM) L t2 (sw (O3 rfl L) t1 t0 (sw (O3 rfl L) t1 t0 ?_)))))))))))
 refine sb (U2 sz47 rF pa4 rfl pu4) t2 t1 ?_
 refine aV L rfl (zn [(4,_),(5,_)] [(4,_)] t2 t1 (X1 ?_))
 refine Y0 (.agg rfl rfl rfl ag47 sz47 (.cons (.cons (.cons (.cons .nil))))) (.tmp rfl) ?_
 rfl
theorem d0x (n:Int)(h : -9223372036854775808≤n)(h1:n<9223372036854775808):v3 E 49 [vZ n] (pQ (n:Rat)):=by
 refine D2 (xs:=[pQ (n:Rat)]) Tryz.func49 rfl Tryz.ntmps49 Tryz.results49 sM fun F hG hX0 hnt hdf P0=>?_
 obtain ⟨L,hX,hN⟩:=pro hnt hX0 hG
 refine exr (swb (R3 (k:=2) (n:=4) zv47 (.cons rfl (.cons rfl (.cons rfl (.cons rfl .nil)))) rfl (P0 _ rfl) L) t0 t0 ⟨rfl,rfl⟩ (zn [(0,_),(2,_)] [(2,_)] t2 t1 (exr (mV L rfl (cK hG hX cl88 hN (v1m n 1 h h1 dC dC dC) L t2 (mV L rfl (sw (O3 rfl L) t1 t0 (sw (O3 rfl L) t1 t0 (swb (R3 (k:=3) (n:=4) zv47 (.cons rfl (.cons rfl (.cons rfl (.cons rfl .nil)))) rfl (P0 _ rfl) L) t0 t0 ⟨rfl,rfl⟩ (sb (U2 sz47 rF pa4 rfl pu4) t2 t1 ?_))))))))))
 refine aV L rfl (zn [(2,_),(3,_)] [(2,_),(3,_)] t2 t2 (exr (lp4 ag47 sz47 L rfl rfl (sb (U2 sz47 rF pa4 rfl pu4) t2 t1 ?_))))
 refine zn [(2,_)] [(2,_)] t1 t1 (X1 ?_)
 refine Q0 (.agg rfl rfl rfl ag47 sz47 (.cons (.cons (.cons (.cons .nil))))) ?_
 rw [j7]
theorem n0h  : v3 E 60 [] (pQ 0):=by
 refine D2 (xs:=[pQ 0]) Tryz.func60 rfl Tryz.ntmps60 Tryz.results60 sM fun F hG hX0 hnt hdf P0=>?_
 obtain ⟨L,hX,hN⟩:=pro hnt hX0 hG
 refine exr (swb (R3 (k:=0) (n:=4) zv47 (.cons rfl (.cons rfl (.cons rfl (.cons rfl .nil)))) rfl (P0 _ rfl) L) t0 t0 ⟨rfl,rfl⟩ (zn [(0,_)] [(0,_)] t1 t1 (exr (cK hG hX cl49 hN (d0x 0 dC dC) L t1 (sb (U2 sz47 rF pa4 rfl pu4) t2 t1 ?_)))))
 refine zn [(0,_)] [(0,_)] t1 t1 (X1 ?_)
 refine Q0 (.agg rfl rfl rfl ag47 sz47 (.cons (.cons (.cons (.cons .nil))))) ?_
 rfl
theorem j1b  : v3 E 61 [] (pQ 1):=by
 refine D2 (xs:=[pQ 1]) Tryz.func61 rfl Tryz.ntmps61 Tryz.results61 sM fun F hG hX0 hnt hdf P0=>?_
 obtain ⟨L,hX,hN⟩:=pro hnt hX0 hG
 refine exr (swb (R3 (k:=0) (n:=4) zv47 (.cons rfl (.cons rfl (.cons rfl (.cons rfl .nil)))) rfl (P0 _ rfl) L) t0 t0 ⟨rfl,rfl⟩ (zn [(0,_)] [(0,_)] t1 t1 (exr (cK hG hX cl49 hN (d0x 1 dC dC) L t1 (sb (U2 sz47 rF pa4 rfl pu4) t2 t1 ?_)))))
 refine zn [(0,_)] [(0,_)] t1 t1 (X1 ?_)
 refine Q0 (.agg rfl rfl rfl ag47 sz47 (.cons (.cons (.cons (.cons .nil))))) ?_
 rfl
end Go.Proofs.YtjagfionflbjbaaGreat.N
namespace Go.Proofs.YtjagfionflbjbaaGreat.NumA
open Go
def l4 (p:Nat→Bool):Nat→Nat→Int
 | _,0=>-1
 | a,n+1=>if p a=true then a else l4 p (a+1) n
theorem i9 {p:Nat→Bool}:∀ {n a:Nat},¬ l4 p a n<0→a≤(l4 p a n).toNat∧(l4 p a n).toNat<a+n∧p (l4 p a n).toNat=true∧((l4 p a n).toNat:Int)=l4 p a n
 | 0,a,h=>by simp [l4] at h
 | n+1,a,h=>by
  simp only [l4] at h ⊢
  by_cases e:p a=true
  ·simp only [e,if_true]; exact ⟨by omega,by omega,by simpa using e,by omega⟩
  ·rw [if_neg e] at h ⊢
   obtain ⟨h1,h2,h3,h4⟩:=i9 h
   exact ⟨by omega,by omega,h3,h4⟩
theorem o9 {p:Nat→Bool}:∀ {n a:Nat},l4 p a n<0→∀ i,a≤i→i<a+n→p i=false
 | 0,a,h,i,h1,h2=>by omega
 | n+1,a,h,i,h1,h2=>by
  simp only [l4] at h
  by_cases e:p a=true
  ·rw [if_pos e] at h; omega
  ·rw [if_neg e] at h
   by_cases e2:i=a
   ·subst e2; simpa using e
   ·exact o9 h i (by omega) (by omega)
abbrev Mq:=List (List Rat)
def ent (m:Mq)(i j:Nat):Rat:=(m.getD i []).getD j 0
def K5 (m:Mq)(i k:Nat):Mq:=(m.set i (m.getD k [])).set k (m.getD i [])
def Z7 (m:Mq)(i k:Nat)(c:Rat):Mq:=m.set i (List.zipWith (fun a b=>a - c*b) (m.getD i []) (m.getD k []))
def nzI (m:Mq)(c i:Nat):Bool:=!decide ((m.getD i []).getD c 0=0)
def h0q (m:Mq)(p c i:Nat):Bool:=decide (i≠p) && nzI m c i
def X9 (m:Mq)(p c i:Nat):Nat:=((List.range i).filter (h0q m p c)).length
def F5 (m:Mq)(p c:Nat):List Nat:=(List.range m.length).filter (h0q m p c)
def O6 (m x:Mq)(p c k:Nat):Mq:=((F5 m p c).take k).foldl (fun M i=>Z7 M i p ((m.getD i []).getD c 0)) x
def q0d (m x:Mq)(p c:Nat):Mq:=O6 m x p c (F5 m p c).length
structure ESt where
 m:Mq
 b:Mq
 pv:List Nat
 det:Rat
def g0a (m:Mq)(c p:Nat):Int:=l4 (nzI m c) p (m.length - p)
def swapped (m:Mq)(i p:Nat):Mq:=if i=p then m else K5 m i p
def T5 (m:Mq)(p c:Nat):Rat:=(m.getD p []).getD c 0
def R9 (m:Mq)(p:Nat)(q:Rat):Mq:=m.set p ((m.getD p []).map (· * q))
def stp (m b:Mq)(pv:List Nat)(det:Rat)(i c:Nat):ESt :=
 let p:=pv.length
 let m1:=swapped m i p
 let b1:=swapped b i p
 let m2:=R9 m1 p (1 / T5 m1 p c)
 let b2:=R9 b1 p (1 / T5 m1 p c)
 ⟨q0d m2 m2 p c,q0d m2 b2 p c,pv++[c],(if i=p then det else -det)*T5 m1 p c⟩
def T9 (s:ESt)(c:Nat):ESt :=
 if s.pv.length<s.m.length then
  if g0a s.m c s.pv.length<0 then s
  else stp s.m s.b s.pv s.det (g0a s.m c s.pv.length).toNat c
 else s
def ech (m b:Mq)(c:Nat):ESt:=(List.range c).foldl T9 ⟨m,b,[],1⟩
theorem q9 (m b:Mq)(c:Nat):ech m b (c+1)=T9 (ech m b c) c:=by simp [ech,List.range_succ]
def RC (n c:Nat)(m:Mq):Prop:=m.length=n∧∀ r∈m,r.length=c
theorem b0a {m:Mq}{i:Nat}(hi:i<m.length):m.getD i []∈m:=by simp [f0,hi]
theorem RC.get {n c i:Nat}{m:Mq}(h:RC n c m)(hi:i<n):(m.getD i []).length=c:=h.2 _ (b0a (by rw [h.1]; exact hi))
theorem RC.set {n c i:Nat}{m:Mq}{r:List Rat}(h:RC n c m)(hr:r.length=c):RC n c (m.set i r):=by
 refine ⟨by rw [List.length_set,h.1],fun q hq=>?_⟩
 rcases List.mem_or_eq_of_mem_set hq with hq | rfl
 ·exact h.2 q hq
 ·exact hr
theorem RC.take {n c i p:Nat}{q:Rat}{m:Mq}(h:RC n c m)(hi:i<n)(hp:p<n):RC n c (Z7 m i p q):=h.set (by rw [List.length_zipWith,h.get hi,h.get hp]; omega)
theorem RC.swap {n c i k:Nat}{m:Mq}(h:RC n c m)(hi:i<n)(hk:k<n):RC n c (K5 m i k):=(h.set (h.get hk)).set (h.get hi)
theorem RC.scl {n c p:Nat}{q:Rat}{m:Mq}(h:RC n c m)(hp:p<n):RC n c (R9 m p q):=h.set (by rw [O0,h.get hp])
theorem RC.swapped {n cc i p:Nat}{m:Mq}(h:RC n cc m)(hi:i<n)(hp:p<n):RC n cc (swapped m i p):=by
 unfold Go.Proofs.YtjagfionflbjbaaGreat.NumA.swapped; split; exact h; exact h.swap hi hp
theorem G9 {m:Mq}{p c i:Nat}:i∈F5 m p c↔i<m.length∧i≠p∧(m.getD i []).getD c 0≠0:=by
 simp only [F5,List.mem_filter,List.mem_range,h0q,nzI,j0,decide_eq_true_eq,Bool.not_eq_true',decide_eq_false_iff_not]
theorem h0b {m x:Mq}{p c k:Nat}(h:k<(F5 m p c).length):O6 m x p c (k+1)=Z7 (O6 m x p c k) ((F5 m p c).getD k 0) p ((m.getD ((F5 m p c).getD k 0) []).getD c 0):=by
 rw [O6,I1,show (F5 m p c)[k]?.toList=[(F5 m p c).getD k 0] by simp [f0,h],List.foldl_append]; rfl
theorem d6 {l:List Nat}{k:Nat}(h:k<l.length):l.getD k 0∈l:=by simp [f0,h]
theorem j0h {n cc:Nat}{m x:Mq}{p c:Nat}(hm:m.length=n)(h:RC n cc x)(hp:p<n):∀ k,k≤(F5 m p c).length→RC n cc (O6 m x p c k)
 | 0,_=>by simpa [O6] using h
 | k+1,hk=>by
  rw [h0b (by omega)]
  exact (j0h hm h hp k (by omega)).take (by have:=(G9.1 (d6 (show k<(F5 m p c).length by omega))).1; rw [← hm]; exact this) hp
theorem B1g {m:Mq}{i p j:Nat}{q:Rat}(hi:i<m.length):(Z7 m i p q).getD j []=if j=i then List.zipWith (fun a b=>a - q*b) (m.getD i []) (m.getD p []) else m.getD j []:=by
 rw [Z7,f0,List.getElem?_set]
 by_cases e:i=j
 ·subst e; simp [hi]
 ·rw [if_neg e,if_neg (Ne.symm e),f0]
theorem m0n {m:Mq}{p c:Nat}:(F5 m p c).Nodup:=List.Nodup.sublist List.filter_sublist List.nodup_range
theorem f0x {m x:Mq}{p c j n cc:Nat}(hm:m.length=n)(h:RC n cc x)(hp:p<n):∀ k,k≤(F5 m p c).length→(O6 m x p c k).getD j []=if j∈(F5 m p c).take k then List.zipWith (fun a b=>a - ((m.getD j []).getD c 0)*b) (x.getD j []) (x.getD p []) else x.getD j []
 | 0,_=>by simp [O6]
 | k+1,hk=>by
  have hk':k<(F5 m p c).length:=by omega
  have ih:=fun j'=>f0x (c:=c) (j:=j') hm h hp k (by omega)
  have hpn:p ∉ (F5 m p c).take k:=fun hh=>(G9.1 (List.mem_of_mem_take hh)).2.1 rfl
  have hnd:=m0n (m:=m) (p:=p) (c:=c)
  have hnk:(F5 m p c).getD k 0 ∉ (F5 m p c).take k:=fun hh=>by
   obtain ⟨i,hi,he⟩:=List.getElem_of_mem hh
   simp only [J0] at hi
   rw [List.getElem_take,f0,J1 hk',Option.getD_some] at he
   have:=(List.getElem_inj hnd).1 he
   omega
  rw [h0b hk',B1g (by rw [(j0h hm h hp k (by omega)).1,← hm]; exact (G9.1 (d6 hk')).1),I1,show (F5 m p c)[k]?.toList=[(F5 m p c).getD k 0] by simp [f0,hk']]
  by_cases e:j=(F5 m p c).getD k 0
  ·rw [if_pos e,ih,if_neg hnk,ih p,if_neg hpn,if_pos (by rw [e]; simp),e]
  ·rw [if_neg e,ih]
   simp only [List.mem_append,List.mem_singleton,e,or_false]
theorem j1g {m:Mq}{i j:Nat}(h:m.length≤i):ent m i j=0:=by
 have g:m.getD i []=(m[i]?).getD []:=f0 ..
 rw [ent,g,List.getElem?_eq_none h]; rfl
theorem k1r {u v:List Rat}{q:Rat}{j:Nat}(h:v.length=u.length):(List.zipWith (fun a b=>a - q*b) u v).getD j 0=u.getD j 0 - q*v.getD j 0:=by
 simp only [f0,List.getElem?_zipWith]
 by_cases e:j<u.length
 ·have e2:j<v.length:=by omega
  simp [e,e2]
 ·have e2:¬ j<v.length:=by omega
  simp [e,e2]; grind
theorem d1h {m x:Mq}{p c n cc:Nat}(hm:m.length=n)(h:RC n cc x)(hp:p<n){k j:Nat}(hk:k<n):ent (q0d m x p c) k j=if k=p then ent x p j else ent x k j - ent m k c*ent x p j:=by
 rw [ent,q0d,f0x hm h hp _ (Nat.le_refl _),I0]
 by_cases e:k=p
 ·rw [if_neg (fun hh=>(G9.1 hh).2.1 e),if_pos e,e]; rfl
 ·rw [if_neg e]
  by_cases e2:(m.getD k []).getD c 0=0
  ·rw [if_neg (fun hh=>(G9.1 hh).2.2 e2)]; simp only [ent,e2]; grind
  ·rw [if_pos (G9.2 ⟨by omega,e,e2⟩),k1r (by rw [h.get hk,h.get hp])]; rfl
theorem m1m {n cc:Nat}{m x:Mq}{p c:Nat}(hm:m.length=n)(h:RC n cc x)(hp:p<n):RC n cc (q0d m x p c):=j0h hm h hp _ (Nat.le_refl _)
theorem d0k {m:Mq}{p k j n cc:Nat}{q:Rat}(h:RC n cc m)(hp:p<n):ent (R9 m p q) k j=if k=p then ent m p j*q else ent m k j:=by
 have g:(R9 m p q).getD k []=((m.set p ((m.getD p []).map (· * q)))[k]?).getD []:=by rw [R9,f0]
 rw [ent,g,List.getElem?_set]
 by_cases e:p=k
 ·subst e
  rw [if_pos rfl,if_pos (by rw [h.1]; exact hp),if_pos rfl,Option.getD_some,ent]
  simp only [f0,List.getElem?_map]
  cases ((m[p]?.getD [])[j]?) <;> simp [Rat.zero_mul]
 ·rw [if_neg e,if_neg (Ne.symm e),← f0]; rfl
theorem W5 {m:Mq}{i p k j n:Nat}(hm:m.length=n)(hi:i<n)(hp:p<n):ent (swapped m i p) k j=ent m (if k=p then i else if k=i then p else k) j:=by
 unfold swapped
 by_cases e:i=p
 ·subst e
  rw [if_pos rfl]
  by_cases e2:k=i
  ·rw [if_pos e2,e2]
  ·rw [if_neg e2,if_neg e2]
 ·have g:(K5 m i p).getD k []=(((m.set i (m.getD p [])).set p (m.getD i []))[k]?).getD []:=by rw [K5,f0]
  rw [if_neg e,ent,g,List.getElem?_set,List.length_set]
  by_cases ue1:p=k
  ·subst ue1; rw [if_pos rfl,if_pos (by omega),if_pos rfl]; rfl
  ·rw [if_neg ue1,if_neg (Ne.symm ue1),List.getElem?_set]
   by_cases e2:i=k
   ·subst e2; rw [if_pos rfl,if_pos (by omega),if_pos rfl]; rfl
   ·rw [if_neg e2,if_neg (Ne.symm e2),← f0]; rfl
theorem p0j {m:Mq}{c p:Nat}(h:¬ g0a m c p<0)(hp:p<m.length):p≤(g0a m c p).toNat∧(g0a m c p).toNat<m.length∧nzI m c (g0a m c p).toNat=true∧((g0a m c p).toNat:Int)=g0a m c p:=by
 obtain ⟨h1,h2,h3,h4⟩:=i9 h
 exact ⟨h1,by unfold g0a; omega,h3,h4⟩
theorem F1w {n cc d i c:Nat}{m b:Mq}{pv:List Nat}{det:Rat}(h:RC n cc m)(hb:RC n d b)(hp:pv.length<n)(hi:i<n):RC n cc (stp m b pv det i c).m∧RC n d (stp m b pv det i c).b:=by
 have h2:=(h.swapped hi hp).scl (q:=1 / T5 (swapped m i pv.length) pv.length c) hp
 have h3:=(hb.swapped hi hp).scl (q:=1 / T5 (swapped m i pv.length) pv.length c) hp
 exact ⟨m1m h2.1 h2 hp,m1m h2.1 h3 hp⟩
theorem W0y {n cc i c:Nat}{m b:Mq}{pv:List Nat}{det:Rat}(h:RC n cc m)(hp:pv.length<n)(hi:i<n){k j:Nat}(hk:k<n) :
  ent (stp m b pv det i c).m k j=if k=pv.length then ent m i j*(1 / ent m i c) else ent m (if k=i then pv.length else k) j - ent m (if k=i then pv.length else k) c*(ent m i j*(1 / ent m i c)):=by
 have hl:T5 (swapped m i pv.length) pv.length c=ent m i c:=by
  have:=W5 (k:=pv.length) (j:=c) h.1 hi hp
  rw [if_pos rfl] at this; exact this
 have h1:=h.swapped hi hp
 have h2:=h1.scl (q:=1 / T5 (swapped m i pv.length) pv.length c) hp
 simp only [stp]
 rw [d1h h2.1 h2 hp hk,d0k h1 hp,d0k h1 hp,if_pos rfl,W5 h.1 hi hp,if_pos rfl,hl,d0k h1 hp]
 by_cases e:k=pv.length
 ·rw [if_pos e,if_pos e]
 ·rw [if_neg e,if_neg e,if_neg e,if_neg e,W5 h.1 hi hp,W5 h.1 hi hp,if_neg e]
theorem F1v {n cc d i c:Nat}{m b:Mq}{pv:List Nat}{det:Rat}(h:RC n cc m)(hb:RC n d b)(hp:pv.length<n)(hi:i<n){k j:Nat}(hk:k<n) :
  ent (stp m b pv det i c).b k j=if k=pv.length then ent b i j*(1 / ent m i c) else ent b (if k=i then pv.length else k) j - ent m (if k=i then pv.length else k) c*(ent b i j*(1 / ent m i c)):=by
 have hl:T5 (swapped m i pv.length) pv.length c=ent m i c:=by
  have:=W5 (k:=pv.length) (j:=c) h.1 hi hp
  rw [if_pos rfl] at this; exact this
 have h1:=h.swapped hi hp
 have h2:=h1.scl (q:=1 / T5 (swapped m i pv.length) pv.length c) hp
 have g1:=hb.swapped hi hp
 have gg2:=g1.scl (q:=1 / T5 (swapped m i pv.length) pv.length c) hp
 simp only [stp]
 rw [d1h h2.1 gg2 hp hk,d0k g1 hp,d0k g1 hp,if_pos rfl,W5 hb.1 hi hp,if_pos rfl,hl,d0k h1 hp]
 by_cases e:k=pv.length
 ·rw [if_pos e,if_pos e]
 ·rw [if_neg e,if_neg e,if_neg e,if_neg e,W5 hb.1 hi hp,W5 h.1 hi hp,if_neg e]
def dtv:List Rat→(Nat→Rat)→Rat
 | [],_=>0
 | a :: r,x=>a*x 0+dtv r (fun j=>x (j+1))
theorem d1w:∀ (r:List Rat)(x y:Nat→Rat),dtv r (fun j=>x j+y j)=dtv r x+dtv r y
 | [],_,_=>by simp [dtv,Rat.add_zero]
 | a :: r,x,y=>by simp only [dtv]; rw [d1w r (fun j=>x (j+1)) (fun j=>y (j+1))]; grind
theorem B1c:∀ (r:List Rat)(c:Rat)(x:Nat→Rat),dtv r (fun j=>c*x j)=c*dtv r x
 | [],_,_=>by simp [dtv,Rat.mul_zero]
 | a :: r,c,x=>by simp only [dtv]; rw [B1c r c (fun j=>x (j+1))]; grind
theorem P0k:∀ (r:List Rat),dtv r (fun _=>0)=0
 | []=>rfl
 | a :: r=>by simp only [dtv]; rw [P0k r]; grind
def ue1 (k:Nat):Nat→Rat:=fun j=>if j=k then 1 else 0
theorem y1b:∀ (r:List Rat)(k:Nat),dtv r (ue1 k)=r.getD k 0
 | [],k=>by simp [dtv]
 | a :: r,0=>by
  have:(fun j=>ue1 0 (j+1))=fun _=>(0:Rat):=by funext j; simp [ue1]
  simp only [dtv,this,P0k]; simp [ue1]; grind
 | a :: r,k+1=>by
  have:(fun j=>ue1 (k+1) (j+1))=ue1 k:=by funext j; simp [ue1]
  simp only [dtv,this,y1b r k]; simp [ue1]; grind
def sN:Nat→(Nat→Rat)→Rat
 | 0,_=>0
 | n+1,f=>sN n f+f n
theorem F6 {f g:Nat→Rat}:∀ {n},(∀ k,k<n→f k=g k)→sN n f=sN n g
 | 0,_=>rfl
 | n+1,h=>by simp only [sN]; rw [F6 fun k hk=>h k (by omega),h n (by omega)]
theorem Y9:∀ {n:Nat}{f:Nat→Rat},(∀ k,k<n→f k=0)→sN n f=0
 | 0,_,_=>rfl
 | n+1,f,h=>by simp only [sN]; rw [Y9 fun k hk=>h k (by omega),h n (by omega)]; grind
theorem w0z {i:Nat}{f:Nat→Rat}:∀ {n:Nat},i<n→(∀ k,k<n→k≠i→f k=0)→sN n f=f i
 | 0,h,_=>by omega
 | n+1,h,hz=>by
  simp only [sN]
  by_cases e:i=n
  ·subst e; rw [Y9 fun k hk=>hz k (by omega) (by omega)]; grind
  ·rw [w0z (by omega) fun k hk hne=>hz k (by omega) hne,hz n (by omega) (by omega)]; grind
theorem g1f {f g:Nat→Rat}:∀ n,sN n (fun k=>f k+g k)=sN n f+sN n g
 | 0=>by simp [sN]; grind
 | n+1=>by simp only [sN]; rw [g1f n]; grind
theorem g0q {c:Rat}{f:Nat→Rat}:∀ n,sN n (fun k=>c*f k)=c*sN n f
 | 0=>by simp [sN]
 | n+1=>by simp only [sN]; rw [g0q n]; grind
theorem j0d {f:Nat→Rat}:∀ n,sN (n+1) f=f 0+sN n (fun k=>f (k+1))
 | 0=>by simp only [sN]; grind
 | n+1=>by rw [sN,j0d n]; simp only [sN]; grind
theorem j0s:∀ (r:List Rat)(x:Nat→Rat),dtv r x=sN r.length (fun j=>r.getD j 0*x j)
 | [],_=>rfl
 | a :: r,x=>by rw [dtv,j0s r,D1,j0d]; simp
def rvl (c:Nat)(m:Mq)(x:Nat→Rat)(i:Nat):Rat:=sN c fun j=>ent m i j*x j
theorem K0z {n c i:Nat}{m:Mq}{x:Nat→Rat}(h:RC n c m)(hi:i<n):rvl c m x i=dtv (m.getD i []) x:=by
 rw [j0s,h.get hi]; rfl
end Go.Proofs.YtjagfionflbjbaaGreat.NumA
namespace Go.Proofs.YtjagfionflbjbaaGreat.NumA
open Go
theorem P1f {c i:Nat}{m:Mq}{q:Rat}{x:Nat→Rat}:rvl c m (fun j=>q*x j) i=q*rvl c m x i:=by
 rw [rvl,rvl,← g0q]; exact F6 fun k _=>by grind
theorem N1a {c i j:Nat}{m:Mq}(h:j<c):rvl c m (ue1 j) i=ent m i j:=by
 rw [rvl,w0z h fun k _ hne=>by simp [ue1,hne]]; simp [ue1]
theorem G1w {c i k p:Nat}{m m':Mq}{a:Rat}{x:Nat→Rat}(h:∀ j,j<c→ent m' i j=ent m k j - a*ent m p j):rvl c m' x i=rvl c m x k - a*rvl c m x p:=by
 have:rvl c m' x i=rvl c m x k+(-a)*rvl c m x p:=by
  rw [rvl,rvl,rvl,← g0q,← g1f]; exact F6 fun j hj=>by rw [h j hj]; grind
 rw [this]; grind
theorem G1f {c i k:Nat}{m m':Mq}{a:Rat}{x:Nat→Rat}(h:∀ j,j<c→ent m' i j=ent m k j*a):rvl c m' x i=rvl c m x k*a:=by
 have:rvl c m' x i=a*rvl c m x k:=by
  rw [rvl,rvl,← g0q]; exact F6 fun j hj=>by rw [h j hj]; grind
 rw [this]; grind
def jvl (cc d:Nat)(m b:Mq)(x y:Nat→Rat)(k:Nat):Rat:=rvl cc m x k+rvl d b y k
def JZ (n cc d:Nat)(m b:Mq)(x y:Nat→Rat):Prop:=∀ k,k<n→jvl cc d m b x y k=0
theorem V1a {n cc d i c:Nat}{m b:Mq}{pv:List Nat}{det:Rat}{x y:Nat→Rat}(h:RC n cc m)(hb:RC n d b)(hp:pv.length<n)(hi:i<n)(hl:ent m i c≠0) :
  JZ n cc d (stp m b pv det i c).m (stp m b pv det i c).b x y↔JZ n cc d m b x y:=by
 have hP:jvl cc d (stp m b pv det i c).m (stp m b pv det i c).b x y pv.length=jvl cc d m b x y i*(1 / ent m i c):=by
  have a1:rvl cc (stp m b pv det i c).m x pv.length=rvl cc m x i*(1 / ent m i c):=G1f fun j _=>by rw [W0y h hp hi hp,if_pos rfl]
  have a2:rvl d (stp m b pv det i c).b y pv.length=rvl d b y i*(1 / ent m i c):=G1f fun j _=>by rw [F1v h hb hp hi hp,if_pos rfl]
  rw [jvl,jvl,a1,a2]; grind
 have hK:∀ k,k<n→k≠pv.length→jvl cc d (stp m b pv det i c).m (stp m b pv det i c).b x y k=jvl cc d m b x y (if k=i then pv.length else k) - ent m (if k=i then pv.length else k) c*(1 / ent m i c)*jvl cc d m b x y i:=by
  intro k hk hne
  have a1:rvl cc (stp m b pv det i c).m x k=rvl cc m x (if k=i then pv.length else k) - ent m (if k=i then pv.length else k) c*(1 / ent m i c)*rvl cc m x i:=G1w fun j _=>by rw [W0y h hp hi hk,if_neg hne]; grind
  have a2:rvl d (stp m b pv det i c).b y k=rvl d b y (if k=i then pv.length else k) - ent m (if k=i then pv.length else k) c*(1 / ent m i c)*rvl d b y i:=G1w fun j _=>by rw [F1v h hb hp hi hk,if_neg hne]; grind
  rw [jvl,jvl,jvl,a1,a2]; grind
 have h1:ent m i c*(1 / ent m i c)=1:=by rw [Rat.div_def,Rat.one_mul]; exact Rat.mul_inv_cancel _ hl
 constructor
 ·intro hz
  have hi0:jvl cc d m b x y i=0:=by
   have:=hz _ hp
   rw [hP] at this
   have h2:jvl cc d m b x y i*(1 / ent m i c)*ent m i c=0:=by rw [this]; grind
   grind
  intro k hk
  by_cases e:k=i
  ·rw [e]; exact hi0
  ·by_cases e2:k=pv.length
   ·have:=hz i hi
    by_cases e3:i=pv.length
    ·rw [e2,← e3]; exact hi0
    ·rw [hK i hi e3,if_pos rfl,hi0] at this
     rw [e2]; grind
   ·have:=hz k hk
    rw [hK k hk e2,if_neg e,hi0] at this
    grind
 ·intro hz k hk
  by_cases e:k=pv.length
  ·rw [e,hP,hz i hi]; grind
  ·rw [hK k hk e,hz i hi,hz _ (by split <;> omega)]; grind
structure d1j (n c:Nat) (pv:List Nat) (m:Mq):Prop where
 le:pv.length≤n
 lt:∀ p∈pv,p<c
 asc:pv.Pairwise (· < ·)
 one:∀ i,i<pv.length→∀ k,k<n→ent m k (pv.getD i 0)=if k=i then 1 else 0
 lo:∀ i,i<pv.length→∀ j,j<pv.getD i 0→ent m i j=0
 zr:∀ i,pv.length≤i→i<n→∀ j,j<c→ent m i j=0
theorem W0w {l:List Nat}{a i:Nat}:(l++[a]).getD i 0=if i<l.length then l.getD i 0 else if i=l.length then a else 0:=by
 simp only [f0,List.getElem?_append]
 split
 ·rfl
 ·split
  ·rename_i h; rw [h]; simp
  ·rename_i h1 h2
   rw [List.getElem?_eq_none (by simp; omega)]; rfl
theorem V0d {m b:Mq}{pv:List Nat}{det:Rat}{i c:Nat}:(stp m b pv det i c).pv=pv++[c]:=rfl
theorem B1r {n cc i c:Nat}{m b:Mq}{pv:List Nat}{det:Rat}(h:RC n cc m)(hp:pv.length<n)(hi:i<n)(hpi:pv.length≤i)(hl:ent m i c≠0)(hR:d1j n c pv m):d1j n (c+1) (stp m b pv det i c).pv (stp m b pv det i c).m:=by
 have h1:ent m i c*(1 / ent m i c)=1:=by rw [Rat.div_def,Rat.one_mul]; exact Rat.mul_inv_cancel _ hl
 have hlow:∀ k,k<n→∀ j,j<c→ent (stp m b pv det i c).m k j=if k<pv.length then ent m k j else 0:=by
  intro k hk j hj
  rw [W0y h hp hi hk,hR.zr i hpi hi j hj]
  by_cases e:k=pv.length
  ·rw [if_pos e,if_neg (by omega)]; grind
  ·rw [if_neg e]
   by_cases e2:k<pv.length
   ·rw [if_pos e2,if_neg (show ¬ k=i by omega)]; grind
   ·rw [if_neg e2,hR.zr (if k=i then pv.length else k) (by split <;> omega) (by split <;> omega) j hj]; grind
 have hat:∀ k,k<n→ent (stp m b pv det i c).m k c=if k=pv.length then 1 else 0:=by
  intro k hk
  rw [W0y h hp hi hk]
  by_cases e:k=pv.length
  ·rw [if_pos e,if_pos e,h1]
  ·rw [if_neg e,if_neg e,h1]; grind
 rw [V0d]
 refine ⟨by simp; omega,fun p hm=>?_,?_,fun a ha k hk=>?_,fun a ha j hj=>?_,fun a ha hn j hj=>?_⟩
 ·rcases List.mem_append.1 hm with hm | hm
  ·have:=hR.lt p hm; omega
  ·simp at hm; omega
 ·rw [List.pairwise_append]
  exact ⟨hR.asc,by simp,fun a ha b' hb'=>by simp at hb'; subst hb'; exact hR.lt a ha⟩
 ·simp only [K1,D1,List.length_nil] at ha
  rw [W0w]
  by_cases e:a<pv.length
  ·rw [if_pos e,hlow k hk _ (hR.lt _ (d6 e))]
   by_cases e2:k<pv.length
   ·rw [if_pos e2,hR.one a e k hk]
   ·rw [if_neg e2,if_neg (by omega)]
  ·rw [if_neg e,if_pos (by omega),hat k hk]
   have:a=pv.length:=by omega
   rw [this]
 ·simp only [K1,D1,List.length_nil] at ha
  rw [W0w] at hj
  by_cases e:a<pv.length
  ·rw [if_pos e] at hj
   rw [hlow a (by omega) j (by have:=hR.lt _ (d6 e); omega),if_pos e,hR.lo a e j hj]
  ·rw [if_neg e,if_pos (by omega)] at hj
   rw [hlow a (by omega) j hj,if_neg e]
 ·simp only [K1,D1,List.length_nil] at ha
  by_cases e:j<c
  ·rw [hlow a hn j e,if_neg (by omega)]
  ·have:j=c:=by omega
   rw [this,hat a hn,if_neg (by omega)]
theorem v6 {n cc d:Nat}{m b:Mq}(h:RC n cc m)(hb:RC n d b):∀ c,c≤cc→RC n cc (ech m b c).m∧RC n d (ech m b c).b∧d1j n c (ech m b c).pv (ech m b c).m∧∀ x y,JZ n cc d (ech m b c).m (ech m b c).b x y↔JZ n cc d m b x y
 | 0,_=>⟨h,hb,⟨Nat.zero_le _,by simp [ech],by simp [ech],by simp [ech],by simp [ech],by simp⟩,fun _ _=>Iff.rfl⟩
 | c+1,hc=>by
  obtain ⟨h1,h2,h3,h4⟩:=v6 h hb c (by omega)
  rw [q9]
  obtain ⟨s,hsz⟩:∃ s,s=ech m b c:=⟨_,rfl⟩
  rw [← hsz] at h1 h2 h3 h4 ⊢
  unfold T9
  by_cases e:s.pv.length<s.m.length
  ·rw [if_pos e]
   by_cases e2:g0a s.m c s.pv.length<0
   ·rw [if_pos e2]
    refine ⟨h1,h2,⟨h3.le,fun p hp=>by have:=h3.lt p hp; omega,h3.asc,h3.one,h3.lo,fun i hi hn j hj=>?_⟩,h4⟩
    by_cases e3:j<c
    ·exact h3.zr i hi hn j e3
    ·obtain rfl:j=c:=by omega
     have:=o9 e2 i hi (by rw [h1.1]; omega)
     simpa [nzI,ent] using this
   ·rw [if_neg e2]
    obtain ⟨p1,p2,p3,p4⟩:=p0j e2 e
    have hl:ent s.m (g0a s.m c s.pv.length).toNat c≠0:=by simpa [nzI,ent] using p3
    rw [h1.1] at e p2
    obtain ⟨g1,gg2⟩:=F1w (c:=c) (det:=s.det) h1 h2 e p2
    exact ⟨g1,gg2,B1r h1 e p2 p1 hl h3,fun x y=>(V1a h1 h2 e p2 hl).trans (h4 x y)⟩
  ·rw [if_neg e]
   rw [h1.1] at e
   exact ⟨h1,h2,⟨h3.le,fun p hp=>by have:=h3.lt p hp; omega,h3.asc,h3.one,h3.lo,fun i hi hn j hj=>by omega⟩,h4⟩
structure RL (c:Nat) (l:List (Nat×List Rat)):Prop where
 asc:l.Pairwise fun a b=>a.1<b.1
 len:∀ x∈l,x.2.length=c
 lt:∀ x∈l,x.1<c
 one:∀ x∈l,x.2.getD x.1 0=1
 lo:∀ x∈l,∀ j,j<x.1→x.2.getD j 0=0
 oth:∀ x∈l,∀ y∈l,x.1≠y.1→y.2.getD x.1 0=0
def H0h {α:Type}(f:α→Rat):List α→Rat
 | []=>0
 | a :: l=>f a+H0h f l
theorem v0j {α:Type}{f:α→Rat}:∀ {l:List α},(∀ x∈l,f x=0)→H0h f l=0
 | [],_=>rfl
 | a :: l,h=>by rw [H0h,h a (by simp),v0j fun x hx=>h x (by simp [hx])]; grind
theorem V0a {f:Nat×List Rat→Rat}:∀ {l:List (Nat×List Rat)},(l.Pairwise fun a b=>a.1<b.1)→∀ x∈l,(∀ y∈l,y.1≠x.1→f y=0)→H0h f l=f x
 | a :: l,hp,x,hx,h=>by
  rw [List.pairwise_cons] at hp
  rcases List.mem_cons.1 hx with rfl | hx
  ·rw [H0h,v0j fun y hy=>h y (by simp [hy]) (by have:=hp.1 y hy; omega)]; grind
  ·rw [H0h,h a (by simp) (by have:=hp.1 x hx; omega),V0a hp.2 x hx fun y hy=>h y (by simp [hy])]; grind
theorem N1s {α:Type}(r:List Rat)(u:α→Nat→Rat):∀ l:List α,dtv r (fun t=>H0h (fun a=>u a t) l)=H0h (fun a=>dtv r (u a)) l
 | []=>P0k r
 | a :: l=>by simp only [H0h]; rw [d1w,N1s r u l]
def h0a (l:List (Nat×List Rat))(j:Nat):Nat→Rat:=fun t=>ue1 j t+H0h (fun x=>(-(x.2.getD j 0))*ue1 x.1 t) l
theorem N1j {l:List (Nat×List Rat)}{j:Nat}{r:List Rat}:dtv r (h0a l j)=r.getD j 0+H0h (fun x=>(-(x.2.getD j 0))*r.getD x.1 0) l:=by
 unfold h0a
 rw [d1w,y1b,N1s]
 congr 1
 congr 1
 funext x
 rw [B1c,y1b]
theorem RL.ker {c j:Nat}{l:List (Nat×List Rat)}(h:RL c l):∀ x∈l,dtv x.2 (h0a l j)=0:=by
 intro x hx
 rw [N1j,V0a h.asc x hx fun y hy hne=>by rw [h.oth y hy x hx hne]; grind,h.one x hx]; grind
theorem RL.sup {c j t:Nat}{l:List (Nat×List Rat)}(h:RL c l)(ht:j<t):h0a l j t=0:=by
 rw [h0a,v0j fun x hx=>by
  by_cases e:x.1=t
  ·rw [h.lo x hx j (by omega)]; grind
  ·rw [ue1,if_neg (Ne.symm e)]; grind]
 rw [ue1,if_neg (by omega)]; grind
theorem RL.at {j:Nat}{l:List (Nat×List Rat)}(hj:∀ x∈l,x.1≠j):h0a l j j=1:=by
 rw [h0a,v0j fun x hx=>by rw [ue1,if_neg (Ne.symm (hj x hx))]; grind,ue1,if_pos rfl]; grind
theorem RL.piv {c:Nat}{l:List (Nat×List Rat)}{v:Nat→Rat}(h:RL c l){x:Nat×List Rat}(hx:x∈l)(hv:∀ t,x.1<t→v t=0)(hk:dtv x.2 v=0):v x.1=0:=by
 rw [j0s,h.len x hx,w0z (i:=x.1) (h.lt x hx) fun t _ hne=>by
  by_cases e:t<x.1
  ·rw [h.lo x hx t e]; grind
  ·rw [hv t (by omega)]; grind] at hk
 rw [h.one x hx] at hk; grind
theorem b1c {u v:List Rat}(hl:u.length=v.length)(h:∀ j,j<u.length→u.getD j 0=v.getD j 0):u=v:=by
 refine List.ext_getElem hl fun i h1 h2=>?_
 have:=h i h1
 simpa [f0,h1,h2] using this
def LK (l:List (Nat×List Rat))(v:Nat→Rat):Prop:=∀ x∈l,dtv x.2 v=0
theorem RL.sub {c:Nat}{l l':List (Nat×List Rat)}(h:RL c l)(h':RL c l')(hk:∀ v,LK l v↔LK l' v):∀ x∈l',x∈l:=by
 have key:∀ {l l':List (Nat×List Rat)},RL c l→RL c l'→(∀ v,LK l v↔LK l' v)→∀ x∈l',∃ y∈l,y.1=x.1:=by
  intro l l' h h' hk x hx
  apply Classical.byContradiction
  intro hno
  have hno:∀ y∈l,y.1≠x.1:=fun y hy e=>hno ⟨y,hy,e⟩
  have h1:=h'.piv hx (v:=h0a l x.1) (fun t ht=>h.sup ht) ((hk _).1 h.ker x hx)
  rw [RL.at hno] at h1
  exact absurd h1 (by decide)
 intro x hx
 obtain ⟨y,hy,e⟩:=key h h' hk x hx
 have:y.2=x.2:=by
  refine b1c (by rw [h.len y hy,h'.len x hx]) fun j hj=>?_
  have h1:=(hk _).1 (h.ker (j:=j)) x hx
  rw [N1j,V0a h.asc y hy fun z hz hne=>?_,e,h'.one x hx] at h1
  ·grind
  ·obtain ⟨w,hw,e2⟩:=key h' h (fun v=>(hk v).symm) z hz
   rw [← e2,h'.oth w hw x hx (by omega)]; grind
 have:y=x:=Prod.ext e this
 exact this ▸ hy
theorem N0w:∀ {l l':List (Nat×List Rat)},(l.Pairwise fun a b=>a.1<b.1)→(l'.Pairwise fun a b=>a.1<b.1)→(∀ x,x∈l↔x∈l')→l=l'
 | [],[],_,_,_=>rfl
 | [],b :: l',_,_,h=>by have:=(h b).2 (by simp); simp at this
 | a :: l,[],_,_,h=>by have:=(h a).1 (by simp); simp at this
 | a :: l,b :: l',h1,h2,h=>by
  rw [List.pairwise_cons] at h1 h2
  have e:a=b:=by
   rcases List.mem_cons.1 ((h a).1 (by simp)) with e | e
   ·exact e
   ·rcases List.mem_cons.1 ((h b).2 (by simp)) with e' | e'
    ·exact e'.symm
    ·have h3:=h1.1 b e'; have h4:=h2.1 a e; omega
  subst e
  congr 1
  refine N0w h1.2 h2.2 fun x=>⟨fun hx=>?_,fun hx=>?_⟩
  ·rcases List.mem_cons.1 ((h x).1 (by simp [hx])) with e | e
   ·have:=h1.1 x hx; rw [e] at this; omega
   ·exact e
  ·rcases List.mem_cons.1 ((h x).2 (by simp [hx])) with e | e
   ·have:=h2.1 x hx; rw [e] at this; omega
   ·exact e
theorem RL.uniq {c:Nat}{l l':List (Nat×List Rat)}(h:RL c l)(h':RL c l')(hk:∀ v,LK l v↔LK l' v):l=l' :=
 N0w h.asc h'.asc fun x=>⟨h'.sub h (fun v=>(hk v).symm) x,h.sub h' hk x⟩
end Go.Proofs.YtjagfionflbjbaaGreat.NumA
namespace Go.Proofs.YtjagfionflbjbaaGreat.NumA
open Go
def D6 (u v:List Rat)(c:Rat):List Rat:=List.zipWith (fun a b=>a - c*b) u v
def s3:List Rat→Nat
 | []=>0
 | a :: r=>if a=0 then s3 r+1 else 0
def j8 (rows:Mq)(row:List Rat):List Rat:=rows.foldl (fun r q=>D6 r q (r.getD (s3 q) 0)) row
def m0m (row:List Rat)(p:Nat):Mq→Mq
 | []=>[row]
 | q :: l=>if p<s3 q then row :: (q :: l).map (fun z=>D6 z row (z.getD p 0)) else D6 q row (q.getD p 0) :: m0m row p l
def m0h (rows:Mq)(row:List Rat):Mq :=
 if s3 (j8 rows row)=(j8 rows row).length then rows
 else m0m ((j8 rows row).map (· / (j8 rows row).getD (s3 (j8 rows row)) 0)) (s3 (j8 rows row)) rows
def m4 (m:Mq):Mq:=m.foldl m0h []
theorem q0x:∀ r:List Rat,s3 r≤r.length
 | []=>Nat.le_refl _
 | a :: r=>by simp only [s3]; split <;> simp [q0x r]
theorem B9:∀ {r:List Rat}{j:Nat},j<s3 r→r.getD j 0=0
 | a :: r,j,h=>by
  simp only [s3] at h
  split at h
  ·rename_i e
   cases j with
   | zero=>simpa using e
   | succ j=>simpa using B9 (r:=r) (j:=j) (by omega)
  ·omega
theorem h0s:∀ {r:List Rat},s3 r<r.length→r.getD (s3 r) 0≠0
 | a :: r,h=>by
  simp only [s3] at h ⊢
  split at h
  ·rename_i e
   rw [if_pos e]
   simpa using h0s (r:=r) (by simpa using h)
  ·rename_i e
   rw [if_neg e]; simpa using e
theorem b1x {r:List Rat}{p:Nat}(hp:p<r.length)(h1:r.getD p 0≠0)(h0:∀ j,j<p→r.getD j 0=0):s3 r=p:=by
 rcases Nat.lt_trichotomy (s3 r) p with h | h | h
 ·exact absurd (h0 _ h) (h0s (by omega))
 ·exact h
 ·exact absurd (B9 h) h1
theorem h1h {r:List Rat}(h:s3 r=r.length):∀ j,r.getD j 0=0:=fun j=>by
 by_cases e:j<r.length
 ·exact B9 (by omega)
 ·simp [f0,show r.length≤j by omega]
theorem T7 {u v:List Rat}{q:Rat}{j:Nat}(h:v.length=u.length):(D6 u v q).getD j 0=u.getD j 0 - q*v.getD j 0:=k1r h
theorem C6 {u v:List Rat}{q:Rat}(h:v.length=u.length):(D6 u v q).length=u.length:=by simp [D6,h]
theorem H0s {u v:List Rat}{q:Rat}{x:Nat→Rat}(h:v.length=u.length):dtv (D6 u v q) x=dtv u x - q*dtv v x:=by
 have:dtv (D6 u v q) x=dtv u x+(-q)*dtv v x:=by
  rw [j0s,j0s,j0s,C6 h,h,← g0q,← g1f]; exact F6 fun j _=>by rw [T7 h]; grind
 rw [this]; grind
def lpr (rows:Mq):List (Nat×List Rat):=rows.map fun r=>(s3 r,r)
theorem j6 {rows:Mq}{x:Nat×List Rat}:x∈lpr rows↔x.2∈rows∧x.1=s3 x.2:=by
 simp only [lpr,G0]
 constructor
 ·rintro ⟨r,h,rfl⟩; exact ⟨h,rfl⟩
 ·rintro ⟨h,e⟩; exact ⟨x.2,h,Prod.ext e.symm rfl⟩
theorem K0w {c:Nat}{L:Mq}(hL:RL c (lpr L)):∀ (suf pre:Mq),L=pre++suf→∀ r:List Rat,r.length=c→(∀ x∈pre,r.getD (s3 x) 0=0) →
  (j8 suf r).length=c∧(∀ x∈L,(j8 suf r).getD (s3 x) 0=0)∧∀ v,LK (lpr L) v→dtv (j8 suf r) v=dtv r v
 | [],pre,e,r,hr,hp=>by rw [List.append_nil] at e; subst e; exact ⟨hr,hp,fun _ _=>rfl⟩
 | q :: suf,pre,e,r,hr,hp=>by
  have hq:(s3 q,q)∈lpr L:=j6.2 ⟨by rw [e]; simp,rfl⟩
  have hl:q.length=r.length:=by rw [hr]; exact hL.len _ hq
  have h1:(D6 r q (r.getD (s3 q) 0)).length=c:=by rw [C6 hl,hr]
  obtain ⟨a1,a2,a3⟩:=K0w hL suf (pre++[q]) (by rw [e]; simp) _ h1 (fun x hx=>by
   rw [T7 hl]
   rcases List.mem_append.1 hx with hx | hx
   ·have hx':(s3 x,x)∈lpr L:=j6.2 ⟨by rw [e]; simp [hx],rfl⟩
    have hne:s3 x≠s3 q:=by
     have:=hL.asc
     rw [e,lpr,List.map_append,List.pairwise_append] at this
     have:=this.2.2 (s3 x,x) (G0.2 ⟨x,hx,rfl⟩) (s3 q,q) (by simp)
     simp only at this; omega
    rw [hp x hx,hL.oth _ hx' _ hq hne]; grind
   ·simp only [List.mem_singleton] at hx; subst hx; rw [hL.one _ hq]; grind)
  refine ⟨a1,a2,fun v hv=>?_⟩
  rw [j8,List.foldl_cons,← j8,a3 v hv,H0s hl,hv _ hq]; grind
theorem G0y {row:List Rat}{p:Nat}:∀ {l:Mq} {x:List Rat},x∈m0m row p l↔x=row∨∃ q∈l,x=D6 q row (q.getD p 0)
 | [],x=>by simp [m0m]
 | q :: l,x=>by
  simp only [m0m]
  split
  ·simp only [List.mem_cons,G0,R0]
   constructor
   ·rintro (h | h | ⟨z,h,rfl⟩)
    ·exact .inl h
    ·exact .inr ⟨q,.inl rfl,h⟩
    ·exact .inr ⟨z,.inr h,rfl⟩
   ·rintro (h | ⟨z,rfl | h,e⟩)
    ·exact .inl h
    ·exact .inr (.inl e)
    ·exact .inr (.inr ⟨z,h,e.symm⟩)
  ·rw [List.mem_cons,G0y]
   simp only [List.mem_cons]
   constructor
   ·rintro (h | h | ⟨z,h,e⟩)
    ·exact .inr ⟨q,.inl rfl,h⟩
    ·exact .inl h
    ·exact .inr ⟨z,.inr h,e⟩
   ·rintro (h | ⟨z,rfl | h,e⟩)
    ·exact .inr (.inl h)
    ·exact .inl e
    ·exact .inr (.inr ⟨z,h,e⟩)
theorem b1f {row:List Rat}{p:Nat}(hr:s3 row=p):∀ {l:Mq},((lpr l).Pairwise fun a b=>a.1<b.1)→(∀ q∈l,s3 q≠p∧s3 (D6 q row (q.getD p 0))=s3 q)→(lpr (m0m row p l)).Pairwise fun a b=>a.1<b.1
 | [],_,_=>by simp [m0m,lpr]
 | q :: l,hp,hq=>by
  have hp':=hp
  simp only [lpr,R0,List.pairwise_cons] at hp
  have hlt:∀ z∈l,s3 q<s3 z:=fun z hz=>hp.1 (s3 z,z) (G0.2 ⟨z,hz,rfl⟩)
  simp only [m0m]
  split
  ·rename_i e
   simp only [lpr,R0,List.pairwise_cons,List.map_map]
   refine ⟨fun z hz=>?_,fun z hz=>?_,?_⟩
   ·simp only [List.mem_cons,G0,Function.comp] at hz
    rcases hz with rfl | ⟨y,hy,rfl⟩
    ·simp only [hr,(hq q (by simp)).2]; exact e
    ·simp only [hr,(hq y (by simp [hy])).2]; have:=hlt y hy; omega
   ·simp only [G0,Function.comp] at hz
    obtain ⟨y,hy,rfl⟩:=hz
    simp only [(hq q (by simp)).2,(hq y (by simp [hy])).2]; exact hlt y hy
   ·rw [List.pairwise_map] at hp ⊢
    refine hp.2.imp_of_mem fun {a b} ha hb h=>?_
    simp only [Function.comp,(hq a (by simp [ha])).2,(hq b (by simp [hb])).2]; exact h
  ·rename_i e
   simp only [lpr,R0,List.pairwise_cons]
   refine ⟨fun z hz=>?_,b1f hr hp.2 fun z hz=>hq z (by simp [hz])⟩
   obtain ⟨h1,h2⟩:=j6.1 (show z∈lpr (m0m row p l) from hz)
   rw [h2,(hq q (by simp)).2]
   rcases G0y.1 h1 with h | ⟨y,hy,h⟩
   ·rw [h,hr]; have:=(hq q (by simp)).1; omega
   ·rw [h,(hq y (by simp [hy])).2]; exact hlt y hy
theorem B1h {a:Rat}(h:a≠0):a / a=1:=by rw [Rat.div_def]; exact Rat.mul_inv_cancel _ h
theorem d0v {r:List Rat}{a:Rat}{j:Nat}:(r.map (· / a)).getD j 0=r.getD j 0 / a:=by
 simp only [f0,List.getElem?_map]
 cases r[j]? <;> simp [Rat.div_def,Rat.zero_mul]
theorem d1x {r:List Rat}{a:Rat}{x:Nat→Rat}:dtv (r.map (· / a)) x=a⁻¹*dtv r x:=by
 rw [j0s,j0s,O0,← g0q]; exact F6 fun j _=>by rw [d0v,Rat.div_def]; grind
theorem v1s {c:Nat}{rows:Mq}{row:List Rat}(h:RL c (lpr rows))(hr:row.length=c) :
  RL c (lpr (m0h rows row))∧∀ v,LK (lpr (m0h rows row)) v↔LK (lpr rows) v∧dtv row v=0:=by
 obtain ⟨a1,a2,a3⟩:=K0w h rows [] rfl row hr (by simp)
 unfold m0h
 obtain ⟨r1,hr1⟩:∃ r1,r1=j8 rows row:=⟨_,rfl⟩
 rw [← hr1] at a1 a2 a3 ⊢
 by_cases e:s3 r1=r1.length
 ·rw [if_pos e]
  refine ⟨h,fun v=>⟨fun hv=>⟨hv,?_⟩,fun hv=>hv.1⟩⟩
  rw [← a3 v hv,j0s,Y9 fun j _=>by rw [h1h e]; grind]
 ·rw [if_neg e]
  have hp:s3 r1<r1.length:=by have:=q0x r1; omega
  have hne:=h0s hp
  obtain ⟨p,hpp⟩:∃ p,p=s3 r1:=⟨_,rfl⟩
  obtain ⟨a,ha⟩:∃ a,a=r1.getD p 0:=⟨_,rfl⟩
  obtain ⟨w,hw⟩:∃ w,w=r1.map (· / a):=⟨_,rfl⟩
  rw [← hpp] at hp hne ⊢
  rw [← ha] at hne ⊢
  rw [← hw]
  have w1:w.length=c:=by rw [hw,O0,a1]
  have w2:w.getD p 0=1:=by rw [hw,d0v,← ha]; exact B1h hne
  have w3:∀ j,j<p→w.getD j 0=0:=fun j hj=>by rw [hw,d0v,B9 (by omega),Rat.div_def,Rat.zero_mul]
  have w4:∀ x∈rows,w.getD (s3 x) 0=0:=fun x hx=>by rw [hw,d0v,a2 x hx,Rat.div_def,Rat.zero_mul]
  have w5:s3 w=p:=b1x (by omega) (by rw [w2]; decide) w3
  have hql:∀ q∈rows,w.length=q.length:=fun q hq=>by rw [w1]; exact (h.len (s3 q,q) (j6.2 ⟨hq,rfl⟩)).symm
  have hf:∀ q∈rows,s3 q≠p∧(D6 q w (q.getD p 0)).getD (s3 q) 0=1∧s3 (D6 q w (q.getD p 0))=s3 q:=by
   intro q hq
   have hm:(s3 q,q)∈lpr rows:=j6.2 ⟨hq,rfl⟩
   have h0:s3 q≠p:=fun e2=>by have:=a2 q hq; rw [e2,← ha] at this; exact hne this
   have h1:(D6 q w (q.getD p 0)).getD (s3 q) 0=1:=by rw [T7 (hql q hq),h.one _ hm,w4 q hq]; grind
   refine ⟨h0,h1,b1x (by rw [C6 (hql q hq),h.len _ hm]; exact h.lt _ hm) (by rw [h1]; decide) fun j hj=>?_⟩
   rw [T7 (hql q hq),B9 hj]
   by_cases e2:p<s3 q
   ·rw [B9 e2]; grind
   ·rw [w3 j (by omega)]; grind
  have hmem:∀ x,x∈lpr (m0m w p rows)↔x=(p,w)∨∃ q∈rows,x=(s3 q,D6 q w (q.getD p 0)):=by
   intro x
   rw [j6,G0y]
   constructor
   ·rintro ⟨h1 | ⟨q,hq,h1⟩,h2⟩
    ·exact .inl (Prod.ext (by rw [h2,h1,w5]) h1)
    ·exact .inr ⟨q,hq,Prod.ext (by rw [h2,h1,(hf q hq).2.2]) h1⟩
   ·rintro (rfl | ⟨q,hq,rfl⟩)
    ·exact ⟨.inl rfl,w5.symm⟩
    ·exact ⟨.inr ⟨q,hq,rfl⟩,(hf q hq).2.2.symm⟩
  refine ⟨⟨b1f w5 h.asc fun q hq=>⟨(hf q hq).1,(hf q hq).2.2⟩,fun x hx=>?_,fun x hx=>?_,fun x hx=>?_,fun x hx j hj=>?_,fun x hx y hy hne2=>?_⟩,fun v=>?_⟩
  ·rcases (hmem x).1 hx with rfl | ⟨q,hq,rfl⟩
   ·exact w1
   ·rw [C6 (hql q hq),← hql q hq,w1]
  ·rcases (hmem x).1 hx with rfl | ⟨q,hq,rfl⟩
   ·simp only; omega
   ·exact h.lt (s3 q,q) (j6.2 ⟨hq,rfl⟩)
  ·rcases (hmem x).1 hx with rfl | ⟨q,hq,rfl⟩
   ·exact w2
   ·exact (hf q hq).2.1
  ·have:=(j6.1 hx).2
   exact B9 (by rw [← this]; exact hj)
  ·rcases (hmem x).1 hx with rfl | ⟨q,hq,rfl⟩ <;> rcases (hmem y).1 hy with rfl | ⟨z,hz,rfl⟩
   ·simp at hne2
   ·simp only; rw [T7 (hql z hz),w2]; grind
   ·exact w4 q hq
   ·simp only
    rw [T7 (hql z hz),w4 q hq,h.oth (s3 q,q) (j6.2 ⟨hq,rfl⟩) (s3 z,z) (j6.2 ⟨hz,rfl⟩) hne2]; grind
  ·have hw0:dtv w v=a⁻¹*dtv r1 v:=by rw [hw,d1x]
   have hai:a*a⁻¹=1:=Rat.mul_inv_cancel _ hne
   constructor
   ·intro hv
    have hv1:dtv w v=0:=hv (p,w) ((hmem _).2 (.inl rfl))
    have hv2:LK (lpr rows) v:=fun x hx=>by
     obtain ⟨h1,h2⟩:=j6.1 hx
     have:=hv (s3 x.2,_) ((hmem _).2 (.inr ⟨x.2,h1,rfl⟩))
     simp only at this
     rw [H0s (hql _ h1),hv1] at this; grind
    refine ⟨hv2,?_⟩
    rw [← a3 v hv2]
    rw [hw0] at hv1
    grind
   ·rintro ⟨hv,h0⟩ x hx
    have hv1:dtv w v=0:=by rw [hw0,a3 v hv,h0]; grind
    rcases (hmem x).1 hx with rfl | ⟨q,hq,rfl⟩
    ·exact hv1
    ·simp only
     rw [H0s (hql _ hq),hv1,hv (s3 q,q) (j6.2 ⟨hq,rfl⟩)]; grind
theorem G0g {c:Nat}:∀ {m:Mq} {rows:Mq},RL c (lpr rows)→(∀ r∈m,r.length=c)→RL c (lpr (m.foldl m0h rows))∧∀ v,LK (lpr (m.foldl m0h rows)) v↔LK (lpr rows) v∧∀ r∈m,dtv r v=0
 | [],rows,h,_=>⟨h,fun v=>by simp⟩
 | r :: m,rows,h,hm=>by
  obtain ⟨h1,h2⟩:=v1s h (hm r (by simp))
  obtain ⟨h3,h4⟩:=G0g (m:=m) h1 fun x hx=>hm x (by simp [hx])
  refine ⟨h3,fun v=>?_⟩
  rw [List.foldl_cons,h4,h2]
  simp only [List.mem_cons,forall_eq_or_imp]
  exact ⟨fun ⟨⟨a,b⟩,c⟩=>⟨a,b,c⟩,fun ⟨a,b,c⟩=>⟨⟨a,b⟩,c⟩⟩
theorem B8 {c:Nat}{m:Mq}(hm:∀ r∈m,r.length=c):RL c (lpr (m4 m))∧∀ v,LK (lpr (m4 m)) v↔∀ r∈m,dtv r v=0:=by
 obtain ⟨h1,h2⟩:=G0g (c:=c) (m:=m) (rows:=[]) ⟨by simp [lpr],by simp [lpr],by simp [lpr],by simp [lpr],by simp [lpr],by simp [lpr]⟩ hm
 exact ⟨h1,fun v=>by have:=h2 v; simpa [LK,lpr,m4] using this⟩
def prs (pv:List Nat)(m:Mq):List (Nat×List Rat):=(List.range pv.length).map fun i=>(pv.getD i 0,m.getD i [])
theorem D0d {pv:List Nat}{m:Mq}{x:Nat×List Rat}:x∈prs pv m↔∃ i,i<pv.length∧x=(pv.getD i 0,m.getD i []):=by
 simp only [prs,G0,List.mem_range]
 exact ⟨fun ⟨i,h,e⟩=>⟨i,h,e.symm⟩,fun ⟨i,h,e⟩=>⟨i,h,e.symm⟩⟩
theorem k1c {pv:List Nat}(h:pv.Pairwise (· < ·)){i j:Nat}(hij:i<j)(hj:j<pv.length):pv.getD i 0<pv.getD j 0:=by
 have:=List.pairwise_iff_getElem.1 h i j (by omega) hj hij
 simpa [f0,hj,show i<pv.length by omega] using this
theorem d1j.rl {n c:Nat}{pv:List Nat}{m:Mq}(hR:d1j n c pv m)(h:RC n c m):RL c (prs pv m):=by
 have hle:=hR.le
 refine ⟨?_,fun x hx=>?_,fun x hx=>?_,fun x hx=>?_,fun x hx j hj=>?_,fun x hx y hy hne=>?_⟩
 ·rw [prs,List.pairwise_map]
  exact List.pairwise_lt_range.imp_of_mem fun {a b} ha hb hab=>k1c hR.asc hab (by simpa using hb)
 all_goals obtain ⟨i,hi,rfl⟩:=D0d.1 hx
 ·exact h.get (by omega)
 ·exact hR.lt _ (d6 hi)
 ·have:=hR.one i hi i (by omega); rw [if_pos rfl] at this; exact this
 ·exact hR.lo i hi j hj
 ·obtain ⟨k,hk,rfl⟩:=D0d.1 hy
  have:=hR.one i hi k (by omega)
  rw [if_neg (fun e=>hne (by rw [e]))] at this; exact this
theorem d1j.lk {n c:Nat}{pv:List Nat}{m:Mq}(hR:d1j n c pv m)(h:RC n c m){v:Nat→Rat}:LK (prs pv m) v↔∀ i,i<n→rvl c m v i=0:=by
 have hle:=hR.le
 constructor
 ·intro hv i hi
  by_cases e:i<pv.length
  ·rw [K0z h hi]; exact hv _ (D0d.2 ⟨i,e,rfl⟩)
  ·rw [rvl,Y9 fun j hj=>by rw [hR.zr i (by omega) hi j hj]; grind]
 ·intro hv x hx
  obtain ⟨i,hi,rfl⟩:=D0d.1 hx
  have:=hv i (by omega)
  rwa [K0z h (by omega)] at this
theorem k1b {n cc d:Nat}{m b:Mq}{x:Nat→Rat}:JZ n cc d m b x (fun _=>0)↔∀ i,i<n→rvl cc m x i=0:=by
 have:∀ k,jvl cc d m b x (fun _=>0) k=rvl cc m x k:=fun k=>by
  rw [jvl,show rvl d b (fun _=>0) k=0 from by rw [rvl]; exact Y9 fun j _=>by grind]; grind
 simp only [JZ,this]
theorem v0b {n c:Nat}{m:Mq}(h:RC n c m){v:Nat→Rat}:(∀ r∈m,dtv r v=0)↔∀ i,i<n→rvl c m v i=0:=by
 constructor
 ·intro hv i hi; rw [K0z h hi]; exact hv _ (b0a (by rw [h.1]; exact hi))
 ·intro hv r hr
  obtain ⟨i,hi,rfl⟩:=List.getElem_of_mem hr
  have:=hv i (by rw [← h.1]; exact hi)
  rw [K0z h (by rw [← h.1]; exact hi)] at this
  simpa [f0,hi] using this
theorem K1f {n cc d:Nat}{m b:Mq}(h:RC n cc m)(hb:RC n d b):prs (ech m b cc).pv (ech m b cc).m=lpr (m4 m):=by
 obtain ⟨h1,_,h3,h4⟩:=v6 h hb cc (Nat.le_refl _)
 obtain ⟨g1,gg2⟩:=B8 h.2
 refine (h3.rl h1).uniq g1 fun v=>?_
 rw [h3.lk h1,gg2,← k1b (d:=d) (b:=(ech m b cc).b),h4,k1b,v0b h]
theorem w1w {pv:List Nat}{m:Mq}(h:pv.length≤m.length):(prs pv m).map (·.2)=m.take pv.length:=by
 rw [prs,List.map_map]
 refine List.ext_getElem (by simp; omega) fun i h1 h2=>?_
 simp at h1
 simp [f0,show i<m.length by omega]
theorem D1y {pv:List Nat}{m:Mq}:(prs pv m).map (·.1)=pv:=by
 rw [prs,List.map_map]
 refine List.ext_getElem (by simp) fun i h1 h2=>?_
 simp [f0,h2]
theorem n1y {n cc d:Nat}{m b:Mq}(h:RC n cc m)(hb:RC n d b):m4 m=(ech m b cc).m.take (ech m b cc).pv.length∧(m4 m).map s3=(ech m b cc).pv:=by
 obtain ⟨h1,_,h3,_⟩:=v6 h hb cc (Nat.le_refl _)
 have e:=K1f h hb
 constructor
 ·rw [← w1w (by rw [h1.1]; exact h3.le),e,lpr,List.map_map]; exact (List.map_id _).symm
 ·have:=D1y (pv:=(ech m b cc).pv) (m:=(ech m b cc).m)
  rw [e,lpr,List.map_map] at this; exact this
end Go.Proofs.YtjagfionflbjbaaGreat.NumA
namespace Go.Proofs.YtjagfionflbjbaaGreat.NumA
open Go
theorem y1j:∀ (r s:List Rat)(x:Nat→Rat),dtv (r++s) x=dtv r x+dtv s (fun j=>x (r.length+j))
 | [],s,x=>by simp [dtv,Rat.zero_add]
 | a :: r,s,x=>by
  simp only [L1,dtv,D1]
  rw [y1j r s,show (fun j=>x (r.length+1+j))=fun j=>x (r.length+j+1) by funext j; congr 1; omega]; grind
def n0y (pv:List Nat)(g:Nat→Rat)(x:List Rat)(k:Nat):List Rat:=(List.range k).foldl (fun v i=>v.set (pv.getD i 0) (g i)) x
theorem y8 {pv:List Nat}{g:Nat→Rat}{x:List Rat}{k:Nat}:n0y pv g x (k+1)=(n0y pv g x k).set (pv.getD k 0) (g k):=by simp [n0y,List.range_succ]
@[simp] theorem C9 {pv:List Nat}{g:Nat→Rat}{x:List Rat}:∀ {k:Nat},(n0y pv g x k).length=x.length
 | 0=>rfl
 | k+1=>by rw [y8,List.length_set,C9]
theorem p0h {v:List Rat}{i j:Nat}{a:Rat}:(v.set i a).getD j 0=if i=j∧j<v.length then a else v.getD j 0:=by
 simp only [f0,List.getElem?_set]
 by_cases e:i=j
 ·subst e
  by_cases e2:i<v.length
  ·simp [e2]
  ·simp [e2]
 ·simp [e]
theorem W0q {pv:List Nat}{g:Nat→Rat}{x:List Rat}{t:Nat}:∀ {k:Nat},(∀ i,i<k→pv.getD i 0≠t)→(n0y pv g x k).getD t 0=x.getD t 0
 | 0,_=>rfl
 | k+1,h=>by rw [y8,p0h,if_neg (fun hh=>h k (by omega) hh.1),W0q fun i hi=>h i (by omega)]
theorem D0q {pv:List Nat}{g:Nat→Rat}{x:List Rat}(ha:pv.Pairwise (· < ·))(hl:∀ p∈pv,p<x.length):∀ {k i:Nat},i<k→k≤pv.length→(n0y pv g x k).getD (pv.getD i 0) 0=g i
 | k+1,i,h,hk=>by
  rw [y8,p0h,C9]
  by_cases e:i=k
  ·subst e; rw [if_pos ⟨rfl,hl _ (d6 (by omega))⟩]
  ·rw [if_neg (fun hh=>by have:=k1c ha (show i<k by omega) (by omega); omega),D0q ha hl (by omega) (by omega)]
def zsQ (n:Nat):List Rat:=List.replicate n 0
theorem j1v {n j:Nat}:(zsQ n).getD j 0=0:=by
 simp only [zsQ,f0,List.getElem?_replicate]; split <;> rfl
@[simp] theorem F0r {n:Nat}:(zsQ n).length=n:=by simp [zsQ]
def f0f (c:Nat)(pv:List Nat)(m:Mq)(f:Nat):List Rat:=n0y pv (fun i=>-(ent m i f)) ((zsQ c).set f 1) pv.length
def W8 (c:Nat)(pv:List Nat):List Nat:=(List.range c).filter fun f=>!pv.contains f
def f1s (c:Nat)(pv:List Nat)(m:Mq):Mq:=(W8 c pv).map (f0f c pv m)
theorem Q0f {l:List Nat}{t:Nat}(h:t∈l):∃ i,i<l.length∧l.getD i 0=t:=by
 obtain ⟨i,hi,e⟩:=List.getElem_of_mem h
 exact ⟨i,hi,by simp [f0,hi,e]⟩
theorem P1s {c j:Nat}{l:List (Nat×List Rat)}(h:RL c l){x:Nat×List Rat}(hx:x∈l)(hj:x.1≠j):h0a l j x.1 = -(x.2.getD j 0):=by
 rw [h0a,V0a h.asc x hx fun y _ hne=>by rw [ue1,if_neg (Ne.symm hne)]; grind,ue1,if_neg hj,ue1,if_pos rfl]; grind
theorem Q1b {j t:Nat}{l:List (Nat×List Rat)}(hj:t≠j)(ht:∀ x∈l,x.1≠t):h0a l j t=0:=by
 rw [h0a,v0j fun x hx=>by rw [ue1,if_neg (Ne.symm (ht x hx))]; grind,ue1,if_neg hj]; grind
def Y3 (b:List Rat):Mq:=(List.range b.length).map fun i=>((zsQ (b.length+1)).set 0 (b.getD i 0)).set (i+1) 1
theorem W0s {b:List Rat}{i:Nat}(h:i<b.length):(Y3 b).getD i []=((zsQ (b.length+1)).set 0 (b.getD i 0)).set (i+1) 1:=by simp [Y3,f0,h]
theorem D0g {b:List Rat}{n:Nat}(hn:b.length=n):RC n (n+1) (Y3 b):=by
 subst hn
 refine ⟨by simp [Y3],fun r hr=>?_⟩
 simp only [Y3,G0] at hr
 obtain ⟨i,_,rfl⟩:=hr
 simp
theorem P0v {b:List Rat}{n i:Nat}{y:Nat→Rat}(hn:b.length=n)(hi:i<n):rvl (n+1) (Y3 b) y i=b.getD i 0*y 0+y (i+1):=by
 subst hn
 have g:∀ j,ent (Y3 b) i j=if i+1=j∧j<b.length+1 then 1 else if j=0 then b.getD i 0 else 0:=by
  intro j
  rw [ent,W0s hi,p0h,p0h]
  simp only [List.length_set,F0r,j1v]
  by_cases e:i+1=j∧j<b.length+1
  ·rw [if_pos e,if_pos e]
  ·rw [if_neg e,if_neg e]
   by_cases e2:j=0
   ·subst e2; rw [if_pos ⟨rfl,by omega⟩,if_pos rfl]
   ·rw [if_neg (fun hh=>e2 hh.1.symm),if_neg e2]
 rw [rvl,j0d,g,if_neg (by omega),if_pos rfl,w0z hi fun k hk hne=>by rw [g,if_neg (by omega),if_neg (by omega)]; grind,g,if_pos ⟨rfl,by omega⟩]; grind
def J5 (m:Mq)(b:List Rat):Mq:=(List.range m.length).map fun i=>m.getD i []++[b.getD i 0]
theorem w9 {n c:Nat}{m:Mq}{b:List Rat}(h:RC n c m):RC n (c+1) (J5 m b):=by
 refine ⟨by simp [J5,h.1],fun r hr=>?_⟩
 simp only [J5,G0,List.mem_range] at hr
 obtain ⟨i,hi,rfl⟩:=hr
 rw [K1,h.get (by rw [← h.1]; exact hi)]; rfl
theorem H0q {n c i:Nat}{m:Mq}{b:List Rat}{v:Nat→Rat}(h:RC n c m)(hi:i<n):rvl (c+1) (J5 m b) v i=rvl c m v i+b.getD i 0*v c:=by
 have hi':i<m.length:=by rw [h.1]; exact hi
 rw [K0z (w9 h) hi,K0z h hi,show (J5 m b).getD i []=m.getD i []++[b.getD i 0] by simp [J5,f0,hi'],y1j,h.get hi]
 simp only [dtv]; grind
def d0a (c:Nat)(pv:List Nat)(g:Nat→Rat):List Rat:=n0y pv g (zsQ c) pv.length
structure Sys (n c:Nat) (m:Mq) (b:List Rat):Prop where
 rc:RC n c m
 bl:b.length=n
theorem H1c {n c d:Nat}{m bb:Mq}{b:List Rat}(S:Sys n c m b)(hbb:RC n d bb)(hno:c ∉ (m4 (J5 m b)).map s3):prs (ech m bb c).pv (ech m bb c).m=(lpr (m4 (J5 m b))).map fun x=>(x.1,x.2.take c):=by
 obtain ⟨h1,_,h3,h4⟩:=v6 S.rc hbb c (Nat.le_refl _)
 obtain ⟨g1,gg2⟩:=B8 (w9 (b:=b) S.rc).2
 have hlt:∀ x∈lpr (m4 (J5 m b)),x.1<c:=fun x hx=>by
  have:=g1.lt x hx
  have h2:x.1≠c:=fun e=>hno (by rw [← e]; obtain ⟨a1,a2⟩:=j6.1 hx; rw [a2]; exact G0.2 ⟨_,a1,rfl⟩)
  omega
 have tk:∀ {r:List Rat} {j:Nat},j<c→(r.take c).getD j 0=r.getD j 0:=fun hj=>by simp [f0,hj]
 refine (h3.rl h1).uniq (l':=(lpr (m4 (J5 m b))).map fun x=>(x.1,x.2.take c)) ⟨?_,?_,?_,?_,?_,?_⟩ fun v=>?_
 ·rw [List.pairwise_map]; exact g1.asc
 all_goals try (intro x hx; obtain ⟨z,hz,rfl⟩:=G0.1 hx)
 ·simp only [J0,g1.len z hz]; omega
 ·exact hlt z hz
 ·simp only; rw [tk (hlt z hz)]; exact g1.one z hz
 ·intro j hj
  simp only at hj ⊢
  have:=hlt z hz
  rw [tk (by omega)]; exact g1.lo z hz j hj
 ·intro y hy hne
  obtain ⟨w,hw,rfl⟩:=G0.1 hy
  simp only at hne ⊢
  rw [tk (hlt z hz)]; exact g1.oth z hz w hw hne
 ·have e0 : LK ((lpr (m4 (J5 m b))).map fun x => (x.1, x.2.take c)) v ↔ LK (lpr (m4 (J5 m b))) fun t => if t < c then v t else 0 := by
   simp only [LK,G0,forall_exists_index,and_imp,forall_apply_eq_imp_iff₂]
   have key:∀ x∈lpr (m4 (J5 m b)),dtv x.2 (fun t=>if t<c then v t else 0)=dtv (x.2.take c) v:=fun x hx=>by
    rw [j0s,j0s,g1.len x hx,J0,g1.len x hx,show min c (c+1)=c by omega,sN,if_neg (Nat.lt_irrefl c)]
    rw [F6 (g:=fun j=>(x.2.take c).getD j 0*v j) fun j hj=>by rw [if_pos hj,tk hj]]
    grind
   exact ⟨fun h x hx=>by rw [key x hx]; exact h x hx,fun h x hx=>by rw [← key x hx]; exact h x hx⟩
  rw [h3.lk h1,← k1b (d:=d) (b:=(ech m bb c).b),h4,k1b,e0,gg2,v0b (w9 S.rc)]
  have key:∀ i,i<n→rvl (c+1) (J5 m b) (fun t=>if t<c then v t else 0) i=rvl c m v i:=fun i hi=>by
   rw [H0q S.rc hi,if_neg (Nat.lt_irrefl c),rvl,rvl,F6 (g:=fun j=>ent m i j*v j) fun j hj=>by rw [if_pos hj]]; grind
  exact ⟨fun h i hi=>by rw [key i hi]; exact h i hi,fun h i hi=>by rw [← key i hi]; exact h i hi⟩
def Y0s (c:Nat)(m:Mq)(b:List Rat):Prop:=c ∉ (m4 (J5 m b)).map s3
def X7 (c:Nat)(m:Mq)(b:List Rat):List Rat:=d0a c ((m4 (J5 m b)).map s3) fun i=>ent (m4 (J5 m b)) i c
theorem q0b {c t:Nat}{pv:List Nat}{g:Nat→Rat}(ht:t ∉ pv):(d0a c pv g).getD t 0=0:=by
 rw [d0a,W0q fun i hi e=>ht (by rw [← e]; exact d6 hi),j1v]
theorem V0x {l:Mq}{i:Nat}(h:i<l.length):(l.map s3).getD i 0=s3 (l.getD i []):=by simp [f0,h]
theorem V1d {c:Nat}{rows:Mq}(h:RL c (lpr rows)):(rows.map s3).Pairwise (· < ·):=by
 have:=h.asc; rw [lpr,List.pairwise_map] at this; rw [List.pairwise_map]; exact this
theorem Y0j {n c:Nat}{m:Mq}{b:List Rat}(S:Sys n c m b)(hc:Y0s c m b):∀ i,i<n→rvl c m (fun t=>(X7 c m b).getD t 0) i=b.getD i 0:=by
 obtain ⟨g1,gg2⟩:=B8 (w9 (b:=b) S.rc).2
 obtain ⟨E,hE⟩:∃ E,E=m4 (J5 m b):=⟨_,rfl⟩
 have hw:X7 c m b=d0a c (E.map s3) fun i=>ent E i c:=by rw [hE]; rfl
 unfold Y0s at hc
 rw [← hE] at g1 gg2 hc
 have hlt:∀ p∈E.map s3,p<c:=fun p hp=>by
  obtain ⟨r,hr,rfl⟩:=G0.1 hp
  have h1:=g1.lt (s3 r,r) (j6.2 ⟨hr,rfl⟩)
  have h2:s3 r≠c:=fun e=>hc (by rw [← e]; exact hp)
  simp only at h1; omega
 have hv:∀ t,t<c→(X7 c m b).getD t 0 = -h0a (lpr E) c t:=by
  intro t ht
  rw [hw]
  by_cases e:t∈E.map s3
  ·obtain ⟨i,hi,rfl⟩:=Q0f e
   have hi':i<E.length:=by simpa using hi
   have hm:(s3 (E.getD i []),E.getD i [])∈lpr E:=j6.2 ⟨b0a hi',rfl⟩
   rw [d0a,D0q (V1d g1) (fun p hp=>by simpa using hlt p hp) hi (Nat.le_refl _),V0x hi',P1s g1 hm (by have:=hlt _ (d6 hi); rw [V0x hi'] at this; simp only; omega),ent]; grind
  ·rw [q0b e,Q1b (by omega) fun x hx e2=>e (by rw [← e2,(j6.1 hx).2]; exact G0.2 ⟨_,(j6.1 hx).1,rfl⟩)]; grind
 intro i hi
 have h0:=(v0b (w9 S.rc)).1 ((gg2 _).1 (g1.ker (j:=c))) i hi
 rw [H0q S.rc hi,RL.at fun x hx e=>hc (by rw [← e,(j6.1 hx).2]; exact G0.2 ⟨_,(j6.1 hx).1,rfl⟩)] at h0
 have h2:rvl c m (fun t=>(X7 c m b).getD t 0) i = -rvl c m (h0a (lpr E) c) i:=by
  have:rvl c m (fun t=>-1*h0a (lpr E) c t) i = -1*rvl c m (h0a (lpr E) c) i:=P1f
  rw [rvl,F6 (g:=fun j=>ent m i j*(-1*h0a (lpr E) c j)) fun j hj=>by rw [hv j hj]; grind]
  have h3:rvl c m (fun t=>-1*h0a (lpr E) c t) i=sN c fun j=>ent m i j*(-1*h0a (lpr E) c j):=rfl
  rw [← h3,this]; grind
 rw [h2]; grind
def yb:Nat→Rat:=fun j=>if j=0 then -1 else 0
theorem G1d {n c:Nat}{m:Mq}{b:List Rat}(S:Sys n c m b){x:Nat→Rat}:JZ n c (n+1) m (Y3 b) x yb↔∀ i,i<n→rvl c m x i=b.getD i 0:=by
 have:∀ i,i<n→(jvl c (n+1) m (Y3 b) x yb i=0↔rvl c m x i=b.getD i 0):=fun i hi=>by
  rw [jvl,P0v S.bl hi]; simp only [yb]; simp
  constructor <;> intro h <;> grind
 exact ⟨fun h i hi=>(this i hi).1 (h i hi),fun h i hi=>(this i hi).2 (h i hi)⟩
theorem N1q {d i:Nat}{b:Mq}(hd:0<d):rvl d b yb i = -ent b i 0:=by
 rw [rvl,w0z (i:=0) hd fun k _ hne=>by simp only [yb,if_neg hne]; grind]; simp only [yb,if_true]; grind
theorem D1w {n c i:Nat}{pv:List Nat}{m:Mq}{x:Nat→Rat}(hR:d1j n c pv m)(hi:i<pv.length)(hx:∀ t,t<c→t ∉ pv→x t=0):rvl c m x i=x (pv.getD i 0):=by
 have hle:=hR.le
 rw [rvl,w0z (i:=pv.getD i 0) (hR.lt _ (d6 hi)) fun t ht hne=>?_,hR.one i hi i (by omega),if_pos rfl]; · grind
 by_cases e:t∈pv
 ·obtain ⟨k,hk,rfl⟩:=Q0f e
  rw [hR.one k hk i (by omega),if_neg (fun e2=>hne (by rw [e2]))]; grind
 ·rw [hx t ht e]; grind
theorem p1j {n c:Nat}{m:Mq}{b:List Rat}(S:Sys n c m b)(hc:Y0s c m b) :
  l4 (nzI (ech m (Y3 b) c).b 0) (ech m (Y3 b) c).pv.length (n - (ech m (Y3 b) c).pv.length)<0∧d0a c (ech m (Y3 b) c).pv (fun i=>ent (ech m (Y3 b) c).b i 0)=X7 c m b:=by
 have hbb:=D0g S.bl
 obtain ⟨h1,h2,h3,h4⟩:=v6 S.rc hbb c (Nat.le_refl _)
 have hcut:=H1c S hbb hc
 obtain ⟨s,hsz⟩:∃ s,s=ech m (Y3 b) c:=⟨_,rfl⟩
 rw [← hsz] at h1 h2 h3 h4 hcut ⊢
 have hle:=h3.le
 have hpv:s.pv=(m4 (J5 m b)).map s3:=by
  have:=D1y (pv:=s.pv) (m:=s.m)
  rw [hcut,List.map_map,lpr,List.map_map] at this; exact this.symm
 have hz:=(h4 (fun t=>(X7 c m b).getD t 0) yb).2 ((G1d S).2 (Y0j S hc))
 have hoff:∀ t,t<c→t ∉ s.pv→(X7 c m b).getD t 0=0:=fun t _ ht=>by rw [X7,q0b (by rw [← hpv]; exact ht)]
 have hrow:∀ k,k<n→rvl c s.m (fun t=>(X7 c m b).getD t 0) k=ent s.b k 0:=fun k hk=>by
  have:=hz k hk
  rw [jvl,N1q (by omega)] at this; grind
 constructor
 ·apply Classical.byContradiction
  intro hneg
  obtain ⟨a1,a2,a3,a4⟩:=i9 hneg
  have:=hrow (l4 (nzI s.b 0) s.pv.length (n - s.pv.length)).toNat (by omega)
  rw [rvl,Y9 fun j hj=>by rw [h3.zr _ a1 (by omega) j hj]; grind] at this
  simp only [nzI,Bool.not_eq_true',decide_eq_false_iff_not] at a3
  exact a3 this.symm
 ·refine b1c (by simp [d0a,X7]) fun t ht=>?_
  have ht:t<c:=by simpa [d0a] using ht
  by_cases e:t∈s.pv
  ·obtain ⟨i,hi,rfl⟩:=Q0f e
   rw [d0a,D0q h3.asc (fun p hp=>by simpa using h3.lt p hp) hi (Nat.le_refl _),← hrow i (by omega),D1w h3 hi hoff]
  ·rw [q0b e,hoff t ht e]
theorem solve_no {n c:Nat}{m:Mq}{b:List Rat}(S:Sys n c m b)(hc:¬ Y0s c m b) :
  ∃ k:Nat,l4 (nzI (ech m (Y3 b) c).b 0) (ech m (Y3 b) c).pv.length (n - (ech m (Y3 b) c).pv.length)=(k:Int)∧(ech m (Y3 b) c).pv.length≤k∧k<n∧ent (ech m (Y3 b) c).b k 0≠0 ∧
   (∀ j,j<c→sN n (fun i=>ent (ech m (Y3 b) c).b k (i+1)*ent m i j)=0)∧sN n (fun i=>ent (ech m (Y3 b) c).b k (i+1)*b.getD i 0)=ent (ech m (Y3 b) c).b k 0:=by
 have hbb:=D0g S.bl
 obtain ⟨h1,h2,h3,h4⟩:=v6 S.rc hbb c (Nat.le_refl _)
 obtain ⟨s,hsz⟩:∃ s,s=ech m (Y3 b) c:=⟨_,rfl⟩
 rw [← hsz] at h1 h2 h3 h4 ⊢
 have hle:=h3.le
 have hneg:¬ l4 (nzI s.b 0) s.pv.length (n - s.pv.length)<0:=by
  intro hneg
  have hz:∀ k,s.pv.length≤k→k<n→ent s.b k 0=0:=fun k hk hn=>by
   have:=o9 hneg k hk (by omega)
   simpa [nzI,ent] using this
  have hJ:JZ n c (n+1) s.m s.b (fun t=>(d0a c s.pv fun i=>ent s.b i 0).getD t 0) yb:=by
   intro k hk
   rw [jvl,N1q (by omega)]
   by_cases e:k<s.pv.length
   ·rw [D1w h3 e fun t _ ht=>q0b ht,d0a,D0q h3.asc (fun p hp=>by simpa using h3.lt p hp) e (Nat.le_refl _)]; grind
   ·rw [hz k (by omega) hk,rvl,Y9 fun j hj=>by rw [h3.zr k (by omega) hk j hj]; grind]; grind
  have hsol:=(G1d S).1 ((h4 _ _).1 hJ)
  obtain ⟨g1,gg2⟩:=B8 (w9 (b:=b) S.rc).2
  have hmem:c∈(m4 (J5 m b)).map s3:=Classical.byContradiction fun h=>hc h
  obtain ⟨r,hr,hrc⟩:=G0.1 hmem
  have hx:(c,r)∈lpr (m4 (J5 m b)):=j6.2 ⟨hr,hrc.symm⟩
  have hker:LK (lpr (m4 (J5 m b))) fun t=>if t<c then (d0a c s.pv fun i=>ent s.b i 0).getD t 0 else if t=c then -1 else 0:=by
   rw [gg2,v0b (w9 S.rc)]
   intro i hi
   rw [H0q S.rc hi,if_neg (Nat.lt_irrefl c),if_pos rfl,rvl,F6 (g:=fun j=>ent m i j*(d0a c s.pv fun i=>ent s.b i 0).getD j 0) fun j hj=>by rw [if_pos hj]]
   have:=hsol i hi
   rw [rvl] at this
   rw [this]; grind
  have:=g1.piv hx (fun t ht=>by simp only at ht; rw [if_neg (by omega),if_neg (by omega)]) (hker _ hx)
  simp only [Nat.lt_irrefl,if_false,if_true] at this
  exact absurd this (by decide)
 obtain ⟨a1,a2,a3,a4⟩:=i9 hneg
 have a5:(l4 (nzI s.b 0) s.pv.length (n - s.pv.length)).toNat<n:=by omega
 refine ⟨_,a4.symm,a1,by omega,by simpa [nzI,ent] using a3,fun j hj=>?_,?_⟩
 ·have hJ : JZ n c (n + 1) m (Y3 b) (ue1 j) fun t => if t = 0 then 0 else -(ent m (t - 1) j) := by
   intro i hi
   rw [jvl,P0v S.bl hi,N1a hj]; simp; grind
  have:=(h4 _ _).2 hJ _ a5
  rw [jvl,N1a hj,h3.zr _ a1 a5 j hj,rvl,j0d] at this
  simp only [if_true,Nat.add_eq_zero_iff,Nat.one_ne_zero,and_false,if_false,Nat.add_sub_cancel] at this
  rw [F6 (g:=fun i=>-1*(ent s.b (l4 (nzI s.b 0) s.pv.length (n - s.pv.length)).toNat (i+1)*ent m i j)) fun i _=>by grind,g0q] at this
  grind
 ·have hJ : JZ n c (n + 1) m (Y3 b) (fun _ => 0) fun t => if t = 0 then 1 else -(b.getD (t - 1) 0) := by
   intro i hi
   rw [jvl,P0v S.bl hi,rvl,Y9 fun j _=>by grind]; simp; grind
  have:=(h4 _ _).2 hJ _ a5
  rw [jvl,rvl,Y9 fun j _=>by grind,rvl,j0d] at this
  simp only [if_true,Nat.add_eq_zero_iff,Nat.one_ne_zero,and_false,if_false,Nat.add_sub_cancel] at this
  rw [F6 (g:=fun i=>-1*(ent s.b (l4 (nzI s.b 0) s.pv.length (n - s.pv.length)).toNat (i+1)*b.getD i 0)) fun i _=>by grind,g0q] at this
  grind
end Go.Proofs.YtjagfionflbjbaaGreat.NumA
namespace Go.Proofs.YtjagfionflbjbaaGreat.NumA
open Go
def p1d (n:Nat)(m b:Mq):Rat:=if (ech m b n).pv.length<n then 0 else (ech m b n).det
end Go.Proofs.YtjagfionflbjbaaGreat.NumA
namespace Go.Proofs.YtjagfionflbjbaaGreat.NumA
open Go
def CDM (B:Nat)(m b:Mq):Prop:=∃ d:Nat,0<d∧d≤2 ^ B∧(∀ i j,∃ z:Int,ent m i j*(d:Rat)=(z:Rat)∧z.natAbs≤2 ^ B)∧∀ i j,∃ z:Int,ent b i j*(d:Rat)=(z:Rat)∧z.natAbs≤2 ^ B
def hsz (B:Nat)(a:Rat):Prop:=a.num.natAbs≤2 ^ B∧a.den≤2 ^ B
theorem M1w {B d:Nat}{a:Rat}{z:Int}(hd:0<d)(hB:d≤2 ^ B)(h:a*(d:Rat)=(z:Rat))(hz:z.natAbs≤2 ^ B):hsz B a:=by
 have hden:(a.den:Rat)≠0:=by
  have:=a.den_nz
  intro h0
  exact this (by exact_mod_cast h0)
 have ue1:(a.num:Rat)=a*(a.den:Rat):=by
  have:=Rat.num_divInt_den a
  have h2:a=(a.num:Rat) / (a.den:Rat):=by rw [← Rat.intCast_natCast,← Rat.divInt_eq_div,this]
  rw [Rat.div_def] at h2
  have h3:(a.den:Rat)⁻¹*(a.den:Rat)=1:=Rat.inv_mul_cancel _ hden
  grind
 have e2:a.num*(d:Int)=z*(a.den:Int):=by
  have:((a.num*(d:Int):Int):Rat)=((z*(a.den:Int):Int):Rat):=by
   rw [Rat.intCast_mul,Rat.intCast_mul,Rat.intCast_natCast,Rat.intCast_natCast,ue1,← h]; grind
  exact_mod_cast this
 have e3:a.num.natAbs*d=z.natAbs*a.den:=by
  have:=congrArg Int.natAbs e2
  simpa [Int.natAbs_mul] using this
 have hdvd:a.den ∣ d:=by
  have:a.den ∣ a.num.natAbs*d:=⟨z.natAbs,by rw [e3,Nat.mul_comm]⟩
  exact (Nat.Coprime.dvd_of_dvd_mul_left a.reduced.symm this)
 obtain ⟨k,hk⟩:=hdvd
 have hk0:0<k:=by
  rcases Nat.eq_zero_or_pos k with h0 | h0
  ·subst h0; omega
  ·exact h0
 have e4:a.num.natAbs*k=z.natAbs:=by
  rw [hk] at e3
  have hdn:0<a.den:=a.den_pos
  have:a.den*(a.num.natAbs*k)=a.den*z.natAbs:=by
   rw [← Nat.mul_assoc,Nat.mul_comm a.den,Nat.mul_assoc,e3,Nat.mul_comm]
  exact Nat.eq_of_mul_eq_mul_left hdn this
 refine ⟨Nat.le_trans ?_ hz,Nat.le_trans ?_ hB⟩
 ·rw [← e4]; exact Nat.le_mul_of_pos_right _ hk0
 ·rw [hk]; exact Nat.le_mul_of_pos_right _ hk0
theorem CDM.m {B:Nat}{m b:Mq}(h:CDM B m b)(i j:Nat):hsz B (ent m i j):=by
 obtain ⟨d,h1,h2,h3,_⟩:=h
 obtain ⟨z,hz,hb⟩:=h3 i j
 exact M1w h1 h2 hz hb
theorem CDM.b {B:Nat}{m b:Mq}(h:CDM B m b)(i j:Nat):hsz B (ent b i j):=by
 obtain ⟨d,h1,h2,_,h3⟩:=h
 obtain ⟨z,hz,hb⟩:=h3 i j
 exact M1w h1 h2 hz hb
theorem q0k {a b:Nat}(h:a≤b):2 ^ a≤2 ^ b:=Nat.pow_le_pow_right (by decide) h
theorem CDM.mono {B C:Nat}{m b:Mq}(h:CDM B m b)(hBC:B≤C):CDM C m b:=by
 obtain ⟨d,h1,h2,h3,h4⟩:=h
 exact ⟨d,h1,Nat.le_trans h2 (q0k hBC),fun i j=>let ⟨z,a,b⟩:=h3 i j; ⟨z,a,Nat.le_trans b (q0k hBC)⟩,fun i j=>let ⟨z,a,b⟩:=h4 i j; ⟨z,a,Nat.le_trans b (q0k hBC)⟩⟩
theorem D0f {a b B:Nat}(ha:a≤2 ^ B)(hb:b≤2 ^ B):a*b≤2 ^ (2*B):=by
 rw [show 2*B=B+B by omega,Nat.pow_add]; exact Nat.mul_le_mul ha hb
theorem K1a (z:Int):∃ s:Int,s.natAbs=1∧((z.natAbs:Int))=s*z:=by
 by_cases h:z<0
 ·exact ⟨-1,rfl,by omega⟩
 ·exact ⟨1,rfl,by omega⟩
theorem K1y {z:Int}{a d:Rat}(h:a*d=(z:Rat))(ha:a≠0)(hd:d≠0):z≠0:=by
 intro h0
 rw [h0] at h
 rcases Rat.mul_eq_zero.1 (h.trans (by rfl)) with h | h
 ·exact ha h
 ·exact hd h
theorem Q1d {n cc d i c B:Nat}{m b:Mq}{pv:List Nat}{det:Rat}(h:RC n cc m)(hb:RC n d b)(hp:pv.length<n)(hi:i<n)(hl:ent m i c≠0)(hC:CDM B m b) :
  CDM (2*B+1) (stp m b pv det i c).m (stp m b pv det i c).b:=by
 obtain ⟨DF,hD0,hDB,hm,hbb⟩:=hC
 obtain ⟨zp,hzp,hzpB⟩:=hm i c
 have hDne:(DF:Rat)≠0:=fun h0=>by
  have:DF=0:=by exact_mod_cast h0
  omega
 have hz0:zp≠0:=K1y hzp hl hDne
 obtain ⟨s,hs1,hs2⟩:=K1a zp
 have hq:ent m i c*(1 / ent m i c)=1:=by rw [Rat.div_def,Rat.one_mul]; exact Rat.mul_inv_cancel _ hl
 obtain ⟨q,hqq⟩:∃ q,q=1 / ent m i c:=⟨_,rfl⟩
 have hcast:((DF*zp.natAbs:Nat):Rat)=(DF:Rat)*((s:Rat)*(zp:Rat)):=by
  rw [Rat.natCast_mul]
  congr 1
  rw [← Rat.intCast_mul,← hs2]; rfl
 have h2:(2:Nat) ^ (2*B+1)=2 ^ (2*B)+2 ^ (2*B):=by rw [Nat.pow_succ]; omega
 have step : ∀ {y : Mq} {dd : Nat}, RC n dd y → (∀ i j, ∃ z : Int, ent y i j * (DF : Rat) = (z : Rat) ∧ z.natAbs ≤ 2 ^ B) → ∀ {y' : Mq}, RC n dd y' → (∀ k j, k < n → ent y' k j = if k = pv.length then ent y i j * q else ent y (if k = i then pv.length else k) j - ent m (if k = i then pv.length else k) c * (ent y i j * q)) →
   ∀ k j,∃ z:Int,ent y' k j*((DF*zp.natAbs:Nat):Rat)=(z:Rat)∧z.natAbs≤2 ^ (2*B+1):=by
  intro y dd hy hyz y' hy' he k j
  by_cases hk:k<n
  ·rw [he k j hk,hcast]
   obtain ⟨zi,ue1,b1⟩:=hyz i j
   rw [← hqq] at hq
   by_cases e:k=pv.length
   ·rw [if_pos e]
    refine ⟨s*zi*DF,?_,?_⟩
    ·rw [Rat.intCast_mul,Rat.intCast_mul,Rat.intCast_natCast,← ue1,← hzp]; grind
    ·rw [Int.natAbs_mul,Int.natAbs_mul,hs1,Nat.one_mul,Int.natAbs_natCast,h2]
     have:=D0f b1 hDB; omega
   ·rw [if_neg e]
    obtain ⟨zk,e2,b2⟩:=hyz (if k=i then pv.length else k) j
    obtain ⟨zc,e3,b3⟩:=hm (if k=i then pv.length else k) c
    refine ⟨s*(zk*zp - zc*zi),?_,?_⟩
    ·rw [Rat.intCast_mul,Rat.intCast_sub,Rat.intCast_mul,Rat.intCast_mul,← ue1,← e2,← e3,← hzp]; grind
    ·rw [Int.natAbs_mul,hs1,Nat.one_mul,h2]
     have h3:=Int.natAbs_sub_le (zk*zp) (zc*zi)
     rw [Int.natAbs_mul,Int.natAbs_mul] at h3
     have:=D0f b2 hzpB
     have:=D0f b3 b1
     omega
  ·rw [j1g (by rw [hy'.1]; omega)]
   exact ⟨0,by rw [Rat.zero_mul]; rfl,Nat.zero_le _⟩
 obtain ⟨g1,gg2⟩:=F1w (c:=c) (det:=det) h hb hp hi
 refine ⟨DF*zp.natAbs,Nat.mul_pos hD0 (by omega),?_,step h hm g1 fun k j hk=>?_,step hb hbb gg2 fun k j hk=>?_⟩
 ·rw [h2]; have:=D0f hDB hzpB; omega
 ·rw [hqq]; exact W0y h hp hi hk
 ·rw [hqq]; exact F1v h hb hp hi hk
def g0n (B k:Nat):Nat:=2 ^ k*(B+1) - 1
theorem m1z {B k:Nat}:g0n B (k+1)=2*g0n B k+1:=by
 unfold g0n
 have:0<2 ^ k*(B+1):=Nat.mul_pos (Nat.two_pow_pos k) (by omega)
 rw [Nat.pow_succ,show 2 ^ k*2*(B+1)=2*(2 ^ k*(B+1)) by rw [Nat.mul_comm (2 ^ k),Nat.mul_assoc]]; omega
theorem v0n {B k l:Nat}(h:k≤l):g0n B k≤g0n B l:=by
 unfold g0n
 have:2 ^ k*(B+1)≤2 ^ l*(B+1):=V0 _ (q0k h)
 omega
theorem B1m {n cc d B:Nat}{m b:Mq}(h:RC n cc m)(hb:RC n d b)(hC:CDM B m b):∀ c,c≤cc→CDM (g0n B (ech m b c).pv.length) (ech m b c).m (ech m b c).b
 | 0,_=>by simpa [ech,g0n] using hC
 | c+1,hc=>by
  obtain ⟨h1,h2,_,_⟩:=v6 h hb c (by omega)
  have ih:=B1m h hb hC c (by omega)
  rw [q9]
  obtain ⟨s,hsz⟩:∃ s,s=ech m b c:=⟨_,rfl⟩
  rw [← hsz] at h1 h2 ih ⊢
  unfold T9
  by_cases e:s.pv.length<s.m.length
  ·rw [if_pos e]
   by_cases e2:g0a s.m c s.pv.length<0
   ·rw [if_pos e2]; exact ih
   ·rw [if_neg e2]
    obtain ⟨p1,p2,p3,p4⟩:=p0j e2 e
    have hl:ent s.m (g0a s.m c s.pv.length).toNat c≠0:=by simpa [nzI,ent] using p3
    rw [h1.1] at e p2
    rw [V0d,K1,D1,List.length_nil,F1,m1z]
    exact Q1d h1 h2 e p2 hl ih
  ·rw [if_neg e]; exact ih
theorem k1v {n cc d B N c:Nat}{m b:Mq}(h:RC n cc m)(hb:RC n d b)(hC:CDM B m b)(hc:c≤cc)(hN:n≤N):CDM (g0n B N) (ech m b c).m (ech m b c).b :=
 (B1m h hb hC c hc).mono (v0n (Nat.le_trans (v6 h hb c hc).2.2.1.le hN))
theorem H1f {n cc d:Nat}{m b:Mq}(h:RC n cc m)(hb:RC n d b){c:Nat}(hc:c<cc):(ech m b (c+1)).det=(ech m b c).det∨(ech m b c).pv.length<n∧(ech m b (c+1)).pv.length=(ech m b c).pv.length+1∧∃ i,i<n∧((ech m b (c+1)).det=(ech m b c).det*ent (ech m b c).m i c∨(ech m b (c+1)).det = -(ech m b c).det*ent (ech m b c).m i c):=by
 obtain ⟨h1,h2,_,_⟩:=v6 h hb c (by omega)
 rw [q9]
 obtain ⟨s,hsz⟩:∃ s,s=ech m b c:=⟨_,rfl⟩
 rw [← hsz] at h1 h2 ⊢
 unfold T9
 by_cases e:s.pv.length<s.m.length
 ·rw [if_pos e]
  by_cases e2:g0a s.m c s.pv.length<0
  ·rw [if_pos e2]; exact .inl rfl
  ·rw [if_neg e2]
   obtain ⟨p1,p2,p3,p4⟩:=p0j e2 e
   rw [h1.1] at e p2
   have hld:T5 (swapped s.m (g0a s.m c s.pv.length).toNat s.pv.length) s.pv.length c=ent s.m (g0a s.m c s.pv.length).toNat c:=by
    have:=W5 (k:=s.pv.length) (j:=c) h1.1 p2 e
    rw [if_pos rfl] at this; exact this
   refine .inr ⟨e,by rw [V0d]; simp,_,p2,?_⟩
   simp only [stp]
   rw [hld]
   split
   ·exact .inl rfl
   ·exact .inr rfl
 ·rw [if_neg e]; exact .inl rfl
theorem cdl {b:Nat}:∀ {l:List Rat},(∀ a∈l,hsz b a)→∃ d:Nat,0<d∧d≤2 ^ (b*l.length)∧∀ a∈l,∃ z:Int,a*(d:Rat)=(z:Rat)∧z.natAbs≤2 ^ (b*l.length)
 | [],_=>⟨1,by decide,by simp,by simp⟩
 | a :: l,h=>by
  obtain ⟨d,h1,h2,h3⟩:=cdl (l:=l) fun x hx=>h x (by simp [hx])
  obtain ⟨g1,gg2⟩:=h a (by simp)
  have e:2 ^ (b*(a :: l).length)=2 ^ (b*l.length)*2 ^ b:=by rw [D1,Nat.mul_add,Nat.mul_one,Nat.pow_add]
  refine ⟨d*a.den,Nat.mul_pos h1 a.den_pos,by rw [e]; exact Nat.mul_le_mul h2 gg2,fun x hx=>?_⟩
  rcases List.mem_cons.1 hx with rfl | hx
  ·refine ⟨x.num*d,?_,by rw [Int.natAbs_mul,Int.natAbs_natCast,e,Nat.mul_comm]; exact Nat.mul_le_mul h2 g1⟩
   have hden:(x.den:Rat)≠0:=fun h0=>x.den_nz (by exact_mod_cast h0)
   have ue1:(x.num:Rat)=x*(x.den:Rat):=by
    have:=Rat.num_divInt_den x
    have h2:x=(x.num:Rat) / (x.den:Rat):=by rw [← Rat.intCast_natCast,← Rat.divInt_eq_div,this]
    rw [Rat.div_def] at h2
    have h3:(x.den:Rat)⁻¹*(x.den:Rat)=1:=Rat.inv_mul_cancel _ hden
    grind
   rw [Rat.natCast_mul,Rat.intCast_mul,Rat.intCast_natCast,ue1]; grind
  ·obtain ⟨z,z1,z2⟩:=h3 x hx
   refine ⟨z*a.den,by rw [Rat.natCast_mul,Rat.intCast_mul,Rat.intCast_natCast,← z1]; grind,by rw [Int.natAbs_mul,Int.natAbs_natCast,e]; exact Nat.mul_le_mul z2 gg2⟩
theorem v0h {m:Mq}{i j:Nat}:ent m i j=0∨∃ r∈m,ent m i j∈r:=by
 by_cases hi:i<m.length
 ·by_cases hj:j<(m.getD i []).length
  ·refine .inr ⟨_,b0a hi,?_⟩
   have:ent m i j=(m.getD i [])[j]:=by
    have e:∀ (r:List Rat) (h:j<r.length),r.getD j 0=r[j]:=fun r h=>by simp [f0,h]
    exact e _ hj
   rw [this]; exact List.getElem_mem _
  ·have e:∀ (r:List Rat),¬ j<r.length→r.getD j 0=0:=fun r h=>by simp [f0,show r.length≤j by omega]
   exact .inl (e _ hj)
 ·exact .inl (j1g (by omega))
theorem G1s {n c:Nat}:∀ {m:Mq},RC n c m→m.flatten.length=n*c:=by
 intro m
 induction m generalizing n with
 | nil=>rintro ⟨rfl,_⟩; simp
 | cons r m ih =>
  rintro ⟨rfl,h⟩
  rw [List.flatten_cons,K1,ih (n:=m.length) ⟨rfl,fun x hx=>h x (by simp [hx])⟩,h r (by simp),D1,Nat.add_mul,Nat.one_mul,Nat.add_comm]
theorem Q1a {B:Nat}{m b:Mq}{l:List Rat}(h:∃ d:Nat,0<d∧d≤2 ^ B∧∀ a∈l,∃ z:Int,a*(d:Rat)=(z:Rat)∧z.natAbs≤2 ^ B)(hm:∀ i j,ent m i j=0∨ent m i j=1∨ent m i j∈l)(hb:∀ i j,ent b i j=0∨ent b i j=1∨ent b i j∈l):CDM B m b:=by
 obtain ⟨d,h1,h2,h3⟩:=h
 have key:∀ a:Rat,(a=0∨a=1∨a∈l)→∃ z:Int,a*(d:Rat)=(z:Rat)∧z.natAbs≤2 ^ B:=by
  rintro a (rfl | rfl | h)
  ·exact ⟨0,by rw [Rat.zero_mul]; rfl,Nat.zero_le _⟩
  ·exact ⟨d,by rw [Rat.one_mul,Rat.intCast_natCast],by simpa using h2⟩
  ·exact h3 a h
 exact ⟨d,h1,h2,fun i j=>key _ (hm i j),fun i j=>key _ (hb i j)⟩
end Go.Proofs.YtjagfionflbjbaaGreat.NumA
namespace Go.Proofs.YtjagfionflbjbaaGreat.SH
open Go Go.RowKit
def G0n (P:Program)(F:Fr)(ops:Array Oper)(o:Oper)(S S':St):Prop :=
 ∀ a w,Sat F S a w→∀ (Q:Exit→Act→World→Prop) (K:Act→World→Prop),(∀ a' w',Sat F S' a' w'→K a' w') →
  if Region.wanted o (yielded ops a.tmps) then o.wp P a w K Q∨(∀ n,o.wpIn (fen F) n P a w K Q) else K (a.put o.dst undef) w
inductive h0d (P:Program) (F:Fr) (ops:Array Oper):List Oper→St→(St→Prop)→Prop
 | nil {S:St} {K:St→Prop}:K S→h0d P F ops [] S K
 | cons {o:Oper} {os:List Oper} {S S1:St} {K:St→Prop}:G0n P F ops o S S1→h0d P F ops os S1 K→h0d P F ops (o :: os) S K
theorem F1h {P:Program}{F:Fr}{ops:Array Oper}{Q:Exit→Act→World→Prop}(hnd:∀ o∈ops.toList,∀ c,o.op≠.defer c)(m:Nat){K:St→Prop}(hQ:∀ S' a w,K S'→Sat F S' a w→Q .normal a w):∀ {os:List Oper} {S:St} {n:Nat},h0d P F ops os S K →
  (∀ j,os[j]? = ops[n+j]?)→∀ a w,Sat F S a w→wpOpsIn (fen F) m P ops Q ((List.range os.length).map (n + ·)) a w:=by
 intro os S n h
 induction h generalizing n with
 | nil hK=>intro _ a w hS; exact hQ _ a w hK hS
 | @cons o os S S1 K hop _ ih =>
  intro hj a w hS
  have h0:ops[n]? = some o:=by have:=hj 0; simpa using this.symm
  rw [D1,List.range_succ_eq_map,R0,List.map_map,Nat.add_zero,wpOpsIn_cons]
  refine P0z h0 (hnd o (M1 (by rw [Array.getElem?_toList]; exact h0))) (hop a w hS Q _ fun a' w' h'=>?_)
  have:=ih hQ (n:=n+1) (fun j=>by have:=hj (j+1); simp only [List.getElem?_cons_succ] at this; rw [this]; congr 1; omega) a' w' h'
  have e:(fun x=>n+1+x)=((fun x=>n+x) ∘ Nat.succ):=by funext x; simp; omega
  rwa [e] at this
section
variable {P:Program} {F:Fr} {Q:Exit→St→Prop} {S:St}
theorem F0v {id:Nat}{l:List Oper}{K:St→Prop}(h:h0d P F l.toArray l S K)(hQ:∀ S',K S'→Q .normal S')(hnd:d0q l=true:=by rfl):n4 P F (.region id l.toArray false) S Q:=⟨fun m a w hS=>by
 refine wpIn_region ?_
 have:=F1h (by simpa using k0z hnd) m (Q:=fun e a' w'=>(∃ S',Q e S'∧Sat F S' a' w')∨(e = .ret∧F.esc a' w')) (fun S' a w hK hS=>.inl ⟨S',hQ S' hK,hS⟩) h (n:=0) (fun j=>by simp) a w hS
 simpa using this⟩
theorem p0r {id:Nat}{l:List Oper}{y:Code}(h:h0d P F l.toArray l S fun S1=>∃ sl hb,q7 S1 sl∧O5 S1 hb∧n4 P F y ⟨sl,hb⟩ Q)(hnd:d0q l=true:=by rfl):n4 P F (.seq (.region id l.toArray false) y) S Q :=
 R1 (F0v h (fun _ ⟨_,_,h1,h2,hn⟩=>hn.weak (l3 h1 h2)) hnd)
theorem H0a {id:Nat}{l:List Oper}(h:h0d P F l.toArray l S fun S1=>Q .normal S1)(hnd:d0q l=true:=by rfl):n4 P F (.region id l.toArray false) S Q:=F0v h (fun _ h=>h) hnd
end
section
variable {P:Program} {F:Fr} {ops:Array Oper} {sl:List (Nat×PV)} {hb:List (Nat×Blk)} {op:Op} {T:TypeId} {pos:String} {aft:Array Edge} {os:List Oper} {dst:Option Nat} {rs:List (Operand×PV)} {rb:List (Nat×Blk)} {fr:Option Nat} {K:St→Prop}
theorem nsw {d:Nat}{v:PV}(hc:O2 P F ⟨dst,op,T,pos,aft,none⟩ ⟨rs,rb,none,[(d,v)],[]⟩)(h1:C8 ⟨sl,hb⟩ rs)(h2:P6 ⟨sl,hb⟩ rb)(hn:h0d P F ops os ⟨(d,v) :: sl,hb⟩ K):h0d P F ops (⟨dst,op,T,pos,aft,none⟩ :: os) ⟨sl,hb⟩ K :=
 .cons (fun a w hS Q K' hK=>L7 rfl hc _ a w hS (H7 h1 h2 trivial) Q K' hK) hn
theorem nsb {k:Nat}{B:Blk}(hc:O2 P F ⟨dst,op,T,pos,aft,none⟩ ⟨rs,rb,none,[],[(k,B)]⟩)(h1:C8 ⟨sl,hb⟩ rs)(h2:P6 ⟨sl,hb⟩ rb)(hn:h0d P F ops os ⟨sl,(k,B) :: hb⟩ K):h0d P F ops (⟨dst,op,T,pos,aft,none⟩ :: os) ⟨sl,hb⟩ K :=
 .cons (fun a w hS Q K' hK=>L7 rfl hc _ a w hS (H7 h1 h2 trivial) Q K' hK) hn
theorem V1k {d k:Nat}{v:PV}{B:Blk}(hc:O2 P F ⟨dst,op,T,pos,aft,none⟩ ⟨rs,rb,fr,[(d,v)],[(k,B)]⟩)(h1:C8 ⟨sl,hb⟩ rs)(h2:P6 ⟨sl,hb⟩ rb)(h3:g0v ⟨sl,hb⟩ fr)(hn:h0d P F ops os ⟨(d,v) :: sl,(k,B) :: hb⟩ K):h0d P F ops (⟨dst,op,T,pos,aft,none⟩ :: os) ⟨sl,hb⟩ K :=
 .cons (fun a w hS Q K' hK=>L7 rfl hc _ a w hS (H7 h1 h2 h3) Q K' hK) hn
end
mutual
def PV.only (ks:List Nat):PV→Bool
 | .p _=>true
 | .at_ j _ _=>ks.contains j
 | .im _ _=>true
 | .ref j _ _ _=>ks.contains j
 | .agg xs=>PV.onlyL ks xs
 | .tup xs=>PV.onlyL ks xs
 | .clo _ f c=>PV.onlyL ks f && PV.onlyL ks c
 | .ifc _ x=>x.only ks
 | .dead=>true
def PV.onlyL (ks:List Nat):List PV→Bool
 | []=>true
 | x :: xs=>x.only ks && PV.onlyL ks xs
end
mutual
theorem PV.only_free {ks:List Nat}{k:Nat}(hk:ks.contains k=false):∀ x:PV,x.only ks=true→x.free k=true
 | .p _,_=>rfl
 | .at_ j _ _,h=>by
  simp only [PV.only] at h; simp only [PV.free]
  have:j≠k:=fun e=>by rw [e,hk] at h; cases h
  simpa using this
 | .im _ _,_=>rfl
 | .ref j _ _ _,h=>by
  simp only [PV.only] at h; simp only [PV.free]
  have:j≠k:=fun e=>by rw [e,hk] at h; cases h
  simpa using this
 | .agg xs,h=>by simp only [PV.only] at h; simp only [PV.free]; exact PV.onlyL_free hk xs h
 | .tup xs,h=>by simp only [PV.only] at h; simp only [PV.free]; exact PV.onlyL_free hk xs h
 | .clo _ f c,h=>by
  simp only [PV.only,j0] at h; simp only [PV.free,j0]
  exact ⟨PV.onlyL_free hk f h.1,PV.onlyL_free hk c h.2⟩
 | .ifc _ x,h=>by simp only [PV.only] at h; simp only [PV.free]; exact PV.only_free hk x h
 | .dead,_=>rfl
theorem PV.onlyL_free {ks:List Nat}{k:Nat}(hk:ks.contains k=false):∀ xs:List PV,PV.onlyL ks xs=true→PV.freeL k xs=true
 | [],_=>rfl
 | x :: xs,h=>by
  simp only [PV.onlyL,j0] at h; simp only [PV.freeL,j0]
  exact ⟨PV.only_free hk x h.1,PV.onlyL_free hk xs h.2⟩
end
theorem PV.only_mem {ks:List Nat}{k:Nat}{x:PV}(h:x.only ks=true)(hk:x.free k=false):k∈ks:=by
 cases e:ks.contains k with
 | true=>simpa using e
 | false=>rw [PV.only_free e x h] at hk; cases hk
def Cells.only (ks:List Nat):Cells→Bool
 | .pure _=>true
 | .mix vs=>PV.onlyL ks vs
theorem Cells.only_get {ks:List Nat}{c:Cells}{i:Nat}{x:PV}(h:c.only ks=true)(hx:c.get i=some x):x.only ks=true:=by
 cases c with
 | pure xs =>
  simp only [Cells.get,M0] at hx
  obtain ⟨y,_,rfl⟩:=hx; rfl
 | mix vs =>
  simp only [Cells.only] at h
  have:∀ (l:List PV) (i:Nat),PV.onlyL ks l=true→l[i]? = some x→x.only ks=true:=by
   intro l
   induction l with
   | nil=>intro i _ h; simp at h
   | cons y l ih =>
    intro i hl hi
    simp only [PV.onlyL,j0] at hl
    cases i with
    | zero =>
      obtain rfl : y = x := by simpa using hi
      exact hl.1
    | succ i=>exact ih i hl.2 (by simpa using hi)
  exact this vs i h hx
def Cells.ren (κ:Nat→Nat):Cells→Cells
 | .pure xs=>.pure xs
 | .mix vs=>.mix (vs.map (PV.ren κ))
def Blk.ren (κ:Nat→Nat)(B:Blk):Blk:=⟨B.T,B.sz,B.cs.ren κ⟩
theorem Cells.ren_len (κ:Nat→Nat)(c:Cells):(c.ren κ).len=c.len:=by cases c <;> simp [Cells.ren,Cells.len]
theorem Cells.ren_get (κ:Nat→Nat)(c:Cells)(i:Nat):(c.ren κ).get i=(c.get i).map (PV.ren κ):=by
 cases c with
 | pure xs=>simp only [Cells.ren,Cells.get,Option.map_map]; congr 1
 | mix vs=>simp [Cells.ren,Cells.get]
end Go.Proofs.YtjagfionflbjbaaGreat.SH
namespace Go.Proofs.YtjagfionflbjbaaGreat.SH
open Go Go.RowKit
mutual
theorem V0r {β β0:Nat→Option Blk}{ρ:Nat→Nat}{ok:Nat→Prop}{Hp:Nat→Option Obj}{κ:Nat→Nat}(hH:∀ j B,β0 j=some B→∃ B',β (κ j)=some B'∧B'.sz=B.sz∧B'.cs.len=B.cs.len):∀ (x:PV) (v:Value),M2 β ρ ok Hp (x.ren κ) v→M2 β0 (fun j=>ρ (κ j)) ok Hp x v
 | .p x,v,h=>by simpa only [PV.ren,M2] using h
 | .at_ k o t,v,h=>by
  simp only [PV.ren,M2] at h ⊢
  intro B hB
  obtain ⟨B',h1,h2,h3⟩:=hH k B hB
  rw [← h3]; exact h B' h1
 | .im xs o,v,h=>by simpa only [PV.ren,M2] using h
 | .ref k o n t,v,h=>by
  simp only [PV.ren,M2] at h ⊢
  refine ⟨h.1,fun B hB=>?_⟩
  obtain ⟨B',h1,h2,h3⟩:=hH k B hB
  rw [← h3,← h2]; exact h.2 B' h1
 | .agg xs,v,h=>by
  simp only [PV.ren,M2] at h ⊢
  obtain ⟨cs,h1,h2,h3⟩:=h
  exact ⟨cs,h1,k0w hH xs cs h2,h3⟩
 | .tup xs,v,h=>by
  simp only [PV.ren,M2] at h ⊢
  obtain ⟨cs,h1,h2⟩:=h
  exact ⟨cs,h1,k0w hH xs cs h2⟩
 | .clo f a b,v,h=>by
  simp only [PV.ren,M2] at h ⊢
  obtain ⟨fs,cs,h1,h2,h3⟩:=h
  exact ⟨fs,cs,h1,k0w hH a fs h2,k0w hH b cs h3⟩
 | .ifc t x,v,h=>by
  simp only [PV.ren,M2] at h ⊢
  obtain ⟨y,h1,h2⟩:=h
  exact ⟨y,h1,V0r hH x y h2⟩
 | .dead,_,_=>by simp [M2]
theorem k0w {β β0:Nat→Option Blk}{ρ:Nat→Nat}{ok:Nat→Prop}{Hp:Nat→Option Obj}{κ:Nat→Nat}(hH:∀ j B,β0 j=some B→∃ B',β (κ j)=some B'∧B'.sz=B.sz∧B'.cs.len=B.cs.len):∀ (xs:List PV) (vs:List Value),D3 β ρ ok Hp (PV.renL κ xs) vs→D3 β0 (fun j=>ρ (κ j)) ok Hp xs vs
 | [],v,h=>by simpa only [PV.renL,D3] using h
 | x :: xs,vs,h=>by
  simp only [PV.renL,D3] at h ⊢
  obtain ⟨v,r,h1,h2,h3⟩:=h
  exact ⟨v,r,h1,V0r hH x v h2,k0w hH xs r h3⟩
end
mutual
theorem G0w {β β0:Nat→Option Blk}{ρ ρ0:Nat→Nat}{ok:Nat→Prop}{Hp:Nat→Option Obj}{κ:Nat→Nat}{K:Nat→Prop}(hH:∀ j,K j→∀ B',β (κ j)=some B'→∃ B,β0 j=some B∧B'.sz=B.sz∧B'.cs.len=B.cs.len∧ρ (κ j)=ρ0 j):∀ (x:PV) (v:Value),(∀ k,x.free k=false→K k)→M2 β0 ρ0 ok Hp x v→M2 β ρ ok Hp (x.ren κ) v
 | .p x,v,_,h=>by simpa only [PV.ren,M2] using h
 | .at_ k o t,v,hf,h=>by
  simp only [PV.ren,M2] at h ⊢
  intro B' hB'
  obtain ⟨B,h1,h2,h3,h4⟩:=hH k (hf k (by simp [PV.free])) B' hB'
  rw [h3,h4]; exact h B h1
 | .im xs o,v,_,h=>by simpa only [PV.ren,M2] using h
 | .ref k o n t,v,hf,h=>by
  simp only [PV.ren,M2] at h ⊢
  refine ⟨h.1,fun B' hB'=>?_⟩
  obtain ⟨B,h1,h2,h3,h4⟩:=hH k (hf k (by simp [PV.free])) B' hB'
  rw [h3,h4,h2]; exact h.2 B h1
 | .agg xs,v,hf,h=>by
  simp only [PV.ren,M2] at h ⊢
  obtain ⟨cs,h1,h2,h3⟩:=h
  exact ⟨cs,h1,v0k hH xs cs (fun k hk=>hf k (by simpa [PV.free] using hk)) h2,h3⟩
 | .tup xs,v,hf,h=>by
  simp only [PV.ren,M2] at h ⊢
  obtain ⟨cs,h1,h2⟩:=h
  exact ⟨cs,h1,v0k hH xs cs (fun k hk=>hf k (by simpa [PV.free] using hk)) h2⟩
 | .clo f a b,v,hf,h=>by
  simp only [PV.ren,M2] at h ⊢
  obtain ⟨fs,cs,h1,h2,h3⟩:=h
  exact ⟨fs,cs,h1,v0k hH a fs (fun k hk=>hf k (by simp [PV.free,hk])) h2,v0k hH b cs (fun k hk=>hf k (by simp [PV.free,hk])) h3⟩
 | .ifc t x,v,hf,h=>by
  simp only [PV.ren,M2] at h ⊢
  obtain ⟨y,h1,h2⟩:=h
  exact ⟨y,h1,G0w hH x y (fun k hk=>hf k (by simpa [PV.free] using hk)) h2⟩
 | .dead,_,_,_=>by simp [PV.ren,M2]
theorem v0k {β β0:Nat→Option Blk}{ρ ρ0:Nat→Nat}{ok:Nat→Prop}{Hp:Nat→Option Obj}{κ:Nat→Nat}{K:Nat→Prop}(hH:∀ j,K j→∀ B',β (κ j)=some B'→∃ B,β0 j=some B∧B'.sz=B.sz∧B'.cs.len=B.cs.len∧ρ (κ j)=ρ0 j):∀ (xs:List PV) (vs:List Value),(∀ k,PV.freeL k xs=false→K k)→D3 β0 ρ0 ok Hp xs vs→D3 β ρ ok Hp (PV.renL κ xs) vs
 | [],v,_,h=>by simpa only [PV.renL,D3] using h
 | x :: xs,vs,hf,h=>by
  simp only [PV.renL,D3] at h ⊢
  obtain ⟨v,r,h1,h2,h3⟩:=h
  exact ⟨v,r,h1,G0w hH x v (fun k hk=>hf k (by simp [PV.freeL,hk])) h2,v0k hH xs r (fun k hk=>hf k (by simp [PV.freeL,hk])) h3⟩
end
def okG (ok:Nat→Prop)(w:World)(H':List (Nat×Blk))(ρ':Nat→Nat)(b:Nat):Prop:=(ok b∨w.heap.size≤b)∧∀ j,H'.lookup j≠none→b≠ρ' j
structure W1p (E:Env) (st:Nat→Bool) (ok:Nat→Prop) (ρ:Nat→Nat) (w:World) (H H':List (Nat×Blk)) (r:PV) (v:Value) (ρ':Nat→Nat) (w':World):Prop where
 res:M2 (lk H') ρ' (okG ok w H' ρ') (hp w') r v
 blk:∀ j B',H'.lookup j=some B'→j0c (lk H') ρ' (okG ok w H' ρ') (hp w') j B'
 inj:∀ j j',H'.lookup j≠none→H'.lookup j'≠none→ρ' j=ρ' j'→j=j'
 old:∀ j,H'.lookup j≠none→H.lookup j≠none→(∃ i,H.lookup i≠none∧ρ' j=ρ i)∨w.heap.size≤ρ' j
 new:∀ j,H'.lookup j≠none→H.lookup j=none→w.heap.size≤ρ' j
 stay:∀ j,H'.lookup j≠none→H.lookup j≠none→st j=true→ρ' j=ρ j∧∀ c T,hp w (ρ j)=some (.cells c T (0,0))→∃ c' T',hp w' (ρ j)=some (.cells c' T' (0,0))∧c'.size=c.size
 os:w'.os=w.os
 tape:w'.tape=w.tape
 output:w'.output=w.output
 size:w.heap.size≤w'.heap.size
 frame:∀ b,b<w.heap.size→(∀ j,H.lookup j≠none→b≠ρ j)→w'.heap[b]? = w.heap[b]?
def R4 (E:Env)(st:Nat→Bool)(f:FuncId)(args:List PV)(H H':List (Nat×Blk))(r:PV):Prop :=
 ∀ (ok:Nat→Prop) (ρ:Nat→Nat) (w:World) (vals:List Value),E.G w →
  (∀ j B,H.lookup j=some B→j0c (lk H) ρ ok (hp w) j B∧E.ng≤ρ j∧¬ ok (ρ j)) →
  (∀ j j',H.lookup j≠none→H.lookup j'≠none→ρ j=ρ j'→j=j')→D3 (lk H) ρ ok (hp w) args vals →
  Calls E.P f vals.toArray w fun e w'=>∃ v ρ',e = .returned v∧W1p E st ok ρ w H H' r v ρ' w'
theorem G3 {l:List (Nat×Blk)}{j:Nat}(h:l.lookup j≠none):∃ B,l.lookup j=some B:=j1.1 h
structure GFr (E:Env) (st:Nat→Bool) (H:List (Nat×Blk)) (n:Nat) (F:Fr):Prop where
 g:E.G F.w0
 x:∀ b,F.X b→E.ng≤b
 nt:F.nt=n
 df:F.df=[]
 p0:∀ k,H.lookup k=none→F.pin k=none
 ps:∀ k,st k=false→F.pin k=none
 lo:∀ k,F.lo k=(H.lookup k).isNone
 ro:F.ro=none
theorem K0g {E:Env}{st:Nat→Bool}{f:FuncId}{fn:Func}{c:Code}{args:List PV}{H H':List (Nat×Blk)}{r:PV}{n:Nat}{Q:Exit→St→Prop}(hf:E.P.funcs[f]? = some fn)(hb:fn.body=some c)(hn:fn.ntmps=n)(hle:args.length≤n)
  (hQ:∀ e S,Q e S→(e = .normal∨e = .ret)∧O5 S H'∧∀ F ρ tmps w',b5 F ρ S ⟨tmps,[]⟩ w'→∃ v,(results fn tmps).run E.P w' = .ok v w'∧M2 S.blk ρ (okI F S.blk ρ) (hp w') r v)
  (h:∀ F:Fr,GFr E st H n F→n4 E.P F c ⟨i3 0 args,H⟩ Q):R4 E st f args H H' r:=by
 intro ok ρ w vals hG hH hinj hrel
 have hvl:=B5 hrel
 let F:Fr:=⟨w,ok,fun b=>∃ j,H.lookup j≠none∧b=ρ j,n,[],fun j=>if H.lookup j≠none∧st j=true then match hp w (ρ j) with | some (.cells c _ _)=>some (ρ j,c.size) | _=>none else none,none,fun _ _=>False,fun k=>(H.lookup k).isNone⟩
 have hpin:∀ j B c,st j=true→H.lookup j=some B→hp w (ρ j)=some (.cells c B.T (0,0))→F.pin j=some (ρ j,c.size):=fun j B c hf hj hc=>by
  simp only [F]
  rw [if_pos ⟨by simp [hj],hf⟩,hc]
 have hcarry:Carry ok (okI F (lk H) ρ) (hp w) (hp w):=fun b hb _=>⟨⟨.inl hb,fun k hk e=>by obtain ⟨B,hB⟩:=G3 hk; exact (hH k B hB).2.2 (e ▸ hb)⟩,rfl⟩
 have hkeep:b0y (fun _=>True) (lk H) (lk H) ρ ρ (hp w) (hp w):=fun k _ B hB=>⟨B,hB,rfl,Nat.le_refl _,fun _=>⟨rfl,fun c T fr hc=>⟨c,T,fr,hc,rfl⟩⟩⟩
 have hS:b5 F ρ ⟨i3 0 args,H⟩ { tmps:=vals.toArray++Array.replicate (fn.ntmps - vals.toArray.size) undef,defers:=[] } w:=by
  refine ⟨fun t v ht=>?_,fun k B hB=>?_,hinj,⟨rfl,rfl,rfl,Nat.le_refl _,fun _ _ _=>rfl⟩,?_,h0j.nil rfl,fun j b m hj hS=>?_⟩
  ·obtain ⟨j,rfl,hx⟩:=l8 ht
   obtain ⟨u,hu,hru⟩:=U6 hrel hx
   refine ⟨u,?_,M2.mono hcarry hkeep v u (fun _ _=>trivial) hru⟩
   rw [F1,Array.getElem?_append_left (by have:=(i1.1 hu).1; simpa using this)]
   simpa using hu
  ·obtain ⟨⟨c,h1,h2,h3⟩,h4,h5⟩:=hH k B hB
   have hB':H.lookup k=some B:=hB
   refine ⟨c,h1,.inl ⟨⟨k,by simp [hB'],rfl⟩,by simp [F,hB']⟩,h2,fun i x hx=>?_⟩
   obtain ⟨u,hu,ho,hru⟩:=h3 i x hx
   exact ⟨u,hu,ho,M2.mono hcarry hkeep x u (fun _ _=>trivial) hru⟩
  ·simp [F,hn]; omega
  ·obtain ⟨B,hB⟩:=G3 (l:=H) (j:=j) hS
   obtain ⟨⟨c,h1,_⟩,_⟩:=hH j B hB
   have hjf:st j=true:=by
    by_cases hjf:st j=true
    ·exact hjf
    ·simp only [F] at hj; rw [if_neg (fun h=>hjf h.2)] at hj; cases hj
   rw [hpin j B c hjf hB h1] at hj
   injection hj with hj
   injection hj with hj1 hj2
   subst hj1 hj2
   exact ⟨rfl,c,B.T,h1,rfl⟩
 refine e9 hf hb rfl rfl (fun _ _ h=>h) ⟨ρ,hS⟩ (h F ⟨hG,fun b ⟨j,hj,e⟩=>by obtain ⟨B,hB⟩:=G3 hj; subst e; exact (hH j B hB).2.1,rfl,rfl,fun k hk2=>by simp only [F]; rw [if_neg (fun h=>h.1 hk2)],fun k hk2=>by simp only [F]; rw [if_neg (fun h=>by rw [h.2] at hk2; cases hk2)],fun _=>rfl,rfl⟩) fun e S' hq=>⟨(hQ e S' hq).1,fun ρ' tmps w' hS'=>?_⟩
 obtain ⟨-,hHB,hres⟩:=hQ e S' hq
 obtain ⟨v,hv,hrv⟩:=hres F ρ' tmps w' hS'
 have hsb:∀ j B',H'.lookup j=some B'→S'.blk j=some B':=fun j B' hj=>hHB.all j B' hj
 have hcar:Carry (okI F S'.blk ρ') (okG ok w H' ρ') (hp w') (hp w'):=fun b hb _=>⟨⟨hb.1,fun j hj e=>by
  obtain ⟨B',hB'⟩:=G3 hj
  exact hb.2 j (by simp [hsb j B' hB']) e⟩,rfl⟩
 have hkp:∀ K:Nat→Prop,b0y K S'.blk (lk H') ρ' ρ' (hp w') (hp w'):=fun K k _ B hB=>⟨B,hsb k B hB,rfl,Nat.le_refl _,fun _=>⟨rfl,fun c T fr hc=>⟨c,T,fr,hc,rfl⟩⟩⟩
 refine ⟨v,hv,v,ρ',rfl,M2.mono (K:=fun _=>True) hcar (hkp _) r v (fun _ _=>trivial) hrv,fun j B' hj=>?_,fun j j' h1 h2 e=>?_,fun j h1 h2=>?_,fun j h1 h2=>?_,fun j h1 h2 h3=>?_,hS'.frame.os,hS'.frame.tape,hS'.frame.output,hS'.frame.size,fun b hb hx=>hS'.frame.block b hb (fun ⟨j,hj,e⟩=>hx j hj e)⟩
 ·obtain ⟨c',f1,_,f3,f4⟩:=hS'.blks j B' (hsb j B' hj)
  refine ⟨c',f1,f3,fun i x hx=>?_⟩
  obtain ⟨u,hu,ho,hru⟩:=f4 i x hx
  exact ⟨u,hu,ho,M2.mono (K:=fun _=>True) hcar (hkp _) x u (fun _ _=>trivial) hru⟩
 ·obtain ⟨B,hB⟩:=G3 h1
  obtain ⟨B',hB'⟩:=G3 h2
  exact hS'.inj j j' (by simp [hsb j B hB]) (by simp [hsb j' B' hB']) e
 ·obtain ⟨B,hB⟩:=G3 h1
  obtain ⟨_,_,f2,_⟩:=hS'.blks j B (hsb j B hB)
  rcases f2 with ⟨⟨i,hi,e⟩,_⟩ | f2
  ·exact .inl ⟨i,hi,e⟩
  ·exact .inr f2
 ·obtain ⟨B,hB⟩:=G3 h1
  obtain ⟨_,_,f2,_⟩:=hS'.blks j B (hsb j B hB)
  rcases f2 with ⟨_,f2⟩ | f2
  ·simp only [F,h2] at f2; cases f2
  ·exact f2
 ·obtain ⟨B',hB'⟩:=G3 h1
  obtain ⟨B,hB⟩:=G3 h2
  obtain ⟨⟨c,g1,_⟩,_⟩:=hH j B hB
  obtain ⟨e1,c',T',e2,e3⟩:=hS'.pin j _ _ (hpin j B c h3 hB g1) (by simp [hsb j B' hB'])
  refine ⟨e1,fun c2 T2 hc2=>⟨c',T',e2,?_⟩⟩
  rw [g1] at hc2
  injection hc2 with hc2
  injection hc2 with hc2
  rw [e3,hc2]
theorem y0a {E:Env}{st:Nat→Bool}{f:FuncId}{fn:Func}{c:Code}{args:List PV}{H H':List (Nat×Blk)}{r:PV}{t0 n:Nat}(hf:E.P.funcs[f]? = some fn)(hb:fn.body=some c)(hn:fn.ntmps=n)(hr:fn.results = #[.tmp t0])(hle:args.length≤n)
  (h:∀ F:Fr,GFr E st H n F→n4 E.P F c ⟨i3 0 args,H⟩ (fun e S=>(e = .normal∨e = .ret)∧S.slot t0=some r∧O5 S H')):R4 E st f args H H' r :=
 K0g hf hb hn hle (fun e S hq=>⟨hq.1,hq.2.2,fun F ρ tmps w' hS'=>by
  obtain ⟨v,hu,hrv⟩:=hS'.slots t0 r hq.2.1
  refine ⟨v,?_,hrv⟩
  have e:results fn tmps=(do let vs ← [ResultVar.tmp t0].toArray.mapM (e8 tmps); pure (if h:vs.size=1 then vs[0] else .tuple vs)):=by
   unfold results
   rw [hr]
   rfl
  have hm:([ResultVar.tmp t0].toArray.mapM (e8 tmps)).run E.P w' = .ok #[v] w':=by
   rw [List.mapM_toArray]
   simp [List.mapM_cons,e8,Array.getD_eq_getD_getElem?,hu]
  rw [e]
  simp only [Sem.run_bind,hm,Result.andThen_ok,Sem.run_pure]
  rfl⟩) h
theorem v4 {E:Env}{st:Nat→Bool}{f:FuncId}{fn:Func}{c:Code}{args:List PV}{H H':List (Nat×Blk)}{xs:List L2}{rs:List ResultVar}{n:Nat}(hf:E.P.funcs[f]? = some fn)(hb:fn.body=some c)(hn:fn.ntmps=n)(hr:fn.results=rs.toArray)(hle:args.length≤n)
  (h:∀ F:Fr,GFr E st H n F→n4 E.P F c ⟨i3 0 args,H⟩ (fun e S=>(e = .normal∨e = .ret)∧X4 E.P S rs xs∧O5 S H')):R4 E st f args H H' (.p (y0s xs)) :=
 K0g hf hb hn hle (fun e S hq=>⟨hq.1,hq.2.2,fun F ρ tmps w' hS'=>by
  obtain ⟨v,hv,hrv⟩:=j0b hS' hr hq.2.1
  exact ⟨v,hv,by simpa only [M2] using hrv⟩⟩) h
def G0h (st:Nat→Bool)(S S':St)(κ:Nat→Nat)(H H':List (Nat×Blk))(k:Nat):Prop :=
 S'.blk k=none∨(S'.blk k=S.blk k∧∀ j,(H.lookup j≠none∨H'.lookup j≠none)→κ j≠k)∨∃ j B0 B1,κ j=k∧st j=true∧H.lookup j=some B0∧H'.lookup j=some B1∧B1.sz=B0.sz∧B1.cs.len=B0.cs.len
structure G1h (st:Nat→Bool) (F:Fr) (S S':St) (κ:Nat→Nat) (H H':List (Nat×Blk)) (r:PV) (d:Nat):Prop where
 h1:∀ j B,H.lookup j=some B→S.blk (κ j)=some (B.ren κ)
 inj:∀ j j',(H.lookup j≠none∨H'.lookup j≠none)→(H.lookup j'≠none∨H'.lookup j'≠none)→κ j=κ j'→j=j'
 lo:∀ i j,H.lookup i≠none→H.lookup j≠none→H'.lookup j≠none→st j=false→F.lo (κ i)=false→F.lo (κ j)=false
 blk:∀ k B',S'.blk k=some B'→(∃ j B,κ j=k∧H'.lookup j=some B∧B'=B.ren κ)∨(S.blk k=some B'∧(∀ j,(H.lookup j≠none∨H'.lookup j≠none)→κ j≠k)∧∀ i x,B'.cs.get i=some x→∀ q,x.free q=false→G0h st S S' κ H H' q)
 slot:∀ t v,S'.slot t=some v→(t=d∧v=r.ren κ)∨(t≠d∧S.slot t=some v∧∀ q,v.free q=false→G0h st S S' κ H H' q)
 res:∀ q,r.free q=false→H'.lookup q≠none
 cont:∀ j B,H'.lookup j=some B→∀ i x,B.cs.get i=some x→∀ q,x.free q=false→H'.lookup q≠none
 pin:∀ j,H'.lookup j≠none→F.pin (κ j)≠none→H.lookup j≠none∧st j=true
open Classical in
theorem Y0x {E:Env}{st:Nat→Bool}{F:Fr}(hG:E.G F.w0)(hX:∀ b,F.X b→E.ng≤b)(hng:E.ng≤F.w0.heap.size){d:Nat}{f:FuncId}{o:Oper}{xs:List PV}{S S':St}{H H':List (Nat×Blk)}{r:PV}(κ:Nat→Nat)(hs:R4 E st f xs H H' r)(hd:o.dst=some d)(hlt:d<F.nt)
  (hargs:∀ ρ a w,b5 F ρ S a w→∃ vals:List Value,(execOp a.eval o).run E.P w = .ok (.enter f vals.toArray) w∧D3 S.blk ρ (okI F S.blk ρ) (hp w) (PV.renL κ xs) vals)
  (C:G1h st F S S' κ H H' r d):∀ a w,Sat F S a w→∀ (Q:Exit→Act→World→Prop) (K:Act→World→Prop),(∀ a' w',Sat F S' a' w'→K a' w')→o.wp E.P a w K Q:=by
 intro a w ⟨ρ,h⟩ Q K hK
 obtain ⟨vals,hrun,hvals⟩:=hargs ρ a w h
 unfold Oper.wp
 rw [hrun]
 simp only [Oper.upon]
 have hne:∀ k,S.blk k≠none→ρ k<w.heap.size:=fun k hk=>by
  obtain ⟨B,hB⟩:=j1.1 hk
  obtain ⟨c,e1,_⟩:=h.blks k B hB; exact World.size_lt e1
 have hSH:∀ j,H.lookup j≠none→S.blk (κ j)≠none:=fun j hj=>by
  obtain ⟨B,hB⟩:=G3 hj; rw [C.h1 j B hB]; simp
 have hrel:D3 (lk H) (fun j=>ρ (κ j)) (okI F S.blk ρ) (hp w) xs vals:=k0w (fun j B hB=>⟨B.ren κ,C.h1 j B hB,rfl,Cells.ren_len κ B.cs⟩) xs _ hvals
 have hGw:E.G w:=E.stab F.w0 w hG fun b hb=>h.frame.block b (by omega) (fun hx=>by have:=hX b hx; omega)
 have hpre:∀ j B,H.lookup j=some B→j0c (lk H) (fun j=>ρ (κ j)) (okI F S.blk ρ) (hp w) j B∧E.ng≤ρ (κ j)∧¬ okI F S.blk ρ (ρ (κ j)):=fun j B hj=>by
  have hB:=C.h1 j B hj
  obtain ⟨c,e1,e2,e3,e4⟩:=h.blks (κ j) _ hB
  refine ⟨⟨c,e1,by rw [← Cells.ren_len κ]; exact e3,fun i x hx=>?_⟩,?_,fun hok=>hok.2 (κ j) (by simp [hB]) rfl⟩
  ·obtain ⟨u,hu,ho,hru⟩:=e4 i (x.ren κ) (by show (B.cs.ren κ).get i=_; rw [Cells.ren_get,hx]; rfl)
   exact ⟨u,hu,ho,V0r (fun j B hB=>⟨B.ren κ,C.h1 j B hB,rfl,Cells.ren_len κ B.cs⟩) x u hru⟩
  ·rcases e2 with e2 | e2
   ·exact hX _ e2.1
   ·omega
 refine Calls.mono (hs (okI F S.blk ρ) (fun j=>ρ (κ j)) w _ hGw hpre (fun j j' hj hj' e=>C.inj j j' (.inl hj) (.inl hj') (h.inj _ _ (hSH j hj) (hSH j' hj') e)) hrel) fun e w' ⟨v,ρ',he,hp'⟩=>?_
 subst he
 let ρn:Nat→Nat:=fun k=>if hh:∃ j,κ j=k∧H'.lookup j≠none then ρ' (Classical.choose hh) else ρ k
 have n1:∀ j,H'.lookup j≠none→ρn (κ j)=ρ' j:=fun j hj=>by
  have hh:∃ i,κ i=κ j∧H'.lookup i≠none:=⟨j,rfl,hj⟩
  simp only [ρn,dif_pos hh]
  have:=Classical.choose_spec hh
  rw [C.inj _ j (.inr this.2) (.inr hj) this.1]
 have n2:∀ k,(∀ j,H'.lookup j≠none→κ j≠k)→ρn k=ρ k:=fun k hk=>by
  simp only [ρn]; rw [dif_neg (fun ⟨j,h1,h2⟩=>hk j h2 h1)]
 have hother:∀ b,b<w.heap.size→(∀ j,H.lookup j≠none→b≠ρ (κ j))→hp w' b=hp w b:=fun b hb hn=>hp'.frame b hb hn
 have hplace:∀ j,H'.lookup j≠none→(∃ i,H.lookup i≠none∧ρ' j=ρ (κ i))∨w.heap.size≤ρ' j:=fun j hj=>by
  by_cases hj':H.lookup j=none
  ·exact .inr (hp'.new j hj hj')
  ·exact hp'.old j hj hj'
 have hkept:∀ k B,S.blk k=some B→(∀ j,(H.lookup j≠none∨H'.lookup j≠none)→κ j≠k)→ρn k=ρ k∧hp w' (ρ k)=hp w (ρ k):=fun k B hB hk=>by
  refine ⟨n2 k fun j hj=>hk j (.inr hj),hother _ (hne k (by simp [hB])) fun j hj e=>hk j (.inl hj) (h.inj _ _ (hSH j hj) (by simp [hB]) e.symm)⟩
 have hown:∀ b,okI F S.blk ρ b→b<w.heap.size→∀ k,S'.blk k≠none→b≠ρn k:=fun b hb hbs k hk e=>by
  obtain ⟨B',hB'⟩:=j1.1 hk
  rcases C.blk k B' hB' with ⟨j,B,rfl,hj,_⟩ | ⟨hB,hk2,_⟩
  ·rw [n1 j (by simp [hj])] at e
   rcases hplace j (by simp [hj]) with ⟨i,hi,e2⟩ | e2
   ·exact hb.2 (κ i) (hSH i hi) (by rw [e,e2])
   ·omega
  ·rw [(hkept k B' hB hk2).1] at e
   exact hb.2 k (by simp [hB]) e
 have hcar:Carry (okI F S.blk ρ) (okI F S'.blk ρn) (hp w) (hp w'):=fun b hb hne'=>by
  have hbs:b<w.heap.size:=by
   obtain ⟨o,ho⟩:=j1.1 hne'; exact World.size_lt ho
  exact ⟨⟨hb.1,hown b hb hbs⟩,hother b hbs fun j hj e=>hb.2 (κ j) (hSH j hj) e⟩
 have hcar2:Carry (okG (okI F S.blk ρ) w H' ρ') (okI F S'.blk ρn) (hp w') (hp w'):=fun b hb _=>by
  refine ⟨⟨?_,fun k hk e=>?_⟩,rfl⟩
  ·rcases hb.1 with hb1 | hb1
   ·exact hb1.1
   ·exact .inr (Nat.le_trans h.frame.size hb1)
  ·obtain ⟨B',hB'⟩:=j1.1 hk
   rcases C.blk k B' hB' with ⟨j,B,rfl,hj,_⟩ | ⟨hB,hk2,_⟩
   ·rw [n1 j (by simp [hj])] at e; exact hb.2 j (by simp [hj]) e
   ·rw [(hkept k B' hB hk2).1] at e
    rcases hb.1 with hb1 | hb1
    ·exact hb1.2 k (by simp [hB]) e
    ·have:=hne k (by simp [hB]); omega
 have hren:∀ j,H'.lookup j≠none→∀ B',S'.blk (κ j)=some B'→∃ B,lk H' j=some B∧B'.sz=B.sz∧B'.cs.len=B.cs.len∧ρn (κ j)=ρ' j:=fun j hj B' hB'=>by
  rcases C.blk _ B' hB' with ⟨i,B,e1,hi,rfl⟩ | ⟨_,hk2,_⟩
  ·obtain rfl:=C.inj i j (.inr (by simp [hi])) (.inr hj) e1
   exact ⟨B,hi,rfl,Cells.ren_len κ B.cs,n1 i hj⟩
  ·exact absurd rfl (hk2 j (.inr hj))
 have hput:∀ t,t≠d→(a.put o.dst v).tmps[t]? = a.tmps[t]?:=fun t ht=>by
  rw [hd]; simp only [Act.put]; rw [Array.getElem?_setIfInBounds_ne (Ne.symm ht)]
 have hkeep:b0y (G0h st S S' κ H H') S.blk S'.blk ρ ρn (hp w) (hp w'):=fun k hst B' hB'=>by
  rcases hst with h0 | ⟨h0,hk2⟩ | ⟨j,B0,B1,rfl,hf,g0,g1,g2,g3⟩
  ·rw [h0] at hB'; cases hB'
  ·rw [h0] at hB'
   obtain ⟨e1,e2⟩:=hkept k B' hB' hk2
   exact ⟨B',hB',rfl,Nat.le_refl _,fun _=>⟨e1,fun c T fr hc=>⟨c,T,fr,by rw [e2]; exact hc,rfl⟩⟩⟩
  ·rcases C.blk _ B' hB' with ⟨i,B,e1,hi,rfl⟩ | ⟨_,hk2,_⟩
   ·obtain rfl:=C.inj i j (.inr (by simp [hi])) (.inr (by simp [g1])) e1
    rw [g1] at hi; injection hi with hi; subst hi
    obtain ⟨s1,s2⟩:=hp'.stay i (by simp [g1]) (by simp [g0]) hf
    refine ⟨B0.ren κ,C.h1 i B0 g0,g2,by show (B0.cs.ren κ).len≤(B1.cs.ren κ).len; rw [Cells.ren_len,Cells.ren_len]; omega,fun _=>⟨(n1 i (by simp [g1])).trans s1,fun c T fr hc=>?_⟩⟩
    obtain ⟨c0,e1',_⟩:=h.blks (κ i) _ (C.h1 i B0 g0)
    have hc':=hc
    rw [e1'] at hc'
    injection hc' with hc'
    injection hc' with q1 q2 q3
    subst q1
    obtain ⟨c',T',r1,r2⟩:=s2 _ _ e1'
    exact ⟨c',T',(0,0),r1,r2⟩
   ·exact absurd rfl (hk2 j (.inr (by simp [g1])))
 show K (a.put o.dst v) w'
 refine hK _ _ ⟨ρn,h.upd (S':=S') (Kp:=G0h st S S' κ H H') ⟨hp'.os.trans h.frame.os,hp'.tape.trans h.frame.tape,hp'.output.trans h.frame.output,Nat.le_trans h.frame.size hp'.size,fun b hb hx=>?_⟩ (by simp [hd,Act.put,h.nt]) (by simp [hd,Act.put]) hcar hkeep (fun k k' h1 h2 e=>?_) (fun j b n hj hS=>?_) (fun t v' ht=>?_) (fun k B' hB'=>?_)⟩
 ·rw [hp'.frame b (Nat.lt_of_lt_of_le hb h.frame.size) fun j hj e=>?_]
  ·exact h.frame.block b hb hx
  ·obtain ⟨B,hB⟩:=G3 hj
   obtain ⟨_,_,e2,_⟩:=h.blks (κ j) _ (C.h1 j B hB)
   subst e
   rcases e2 with e2 | e2
   ·exact hx e2.1
   ·omega
 ·obtain ⟨B,hB⟩:=j1.1 h1
  obtain ⟨B',hB'⟩:=j1.1 h2
  rcases C.blk k B hB with ⟨j,C1,rfl,hj,_⟩ | ⟨g1,g2,_⟩ <;> rcases C.blk k' B' hB' with ⟨j',C2,rfl,hj',_⟩ | ⟨g1',g2',_⟩
  ·rw [n1 j (by simp [hj]),n1 j' (by simp [hj'])] at e
   rw [hp'.inj j j' (by simp [hj]) (by simp [hj']) e]
  ·rw [n1 j (by simp [hj]),(hkept k' B' g1' g2').1] at e
   rcases hplace j (by simp [hj]) with ⟨i,hi,e2⟩ | e2
   ·exact absurd (h.inj (κ i) k' (hSH i hi) (by simp [g1']) (by rw [← e2,e])) (g2' i (.inl hi))
   ·have:=hne k' (by simp [g1']); omega
  ·rw [n1 j' (by simp [hj']),(hkept k B g1 g2).1] at e
   rcases hplace j' (by simp [hj']) with ⟨i,hi,e2⟩ | e2
   ·exact absurd (h.inj (κ i) k (hSH i hi) (by simp [g1]) (by rw [← e2,e])) (g2 i (.inl hi))
   ·have:=hne k (by simp [g1]); omega
  ·rw [(hkept k B g1 g2).1,(hkept k' B' g1' g2').1] at e
   exact h.inj k k' (by simp [g1]) (by simp [g1']) e
 ·obtain ⟨B',hB'⟩:=j1.1 hS
  rcases C.blk j B' hB' with ⟨i,B,rfl,hi,_⟩ | ⟨g1,g2,_⟩
  ·obtain ⟨q1,q2⟩:=C.pin i (by simp [hi]) (by simp [hj])
   obtain ⟨s1,s2⟩:=hp'.stay i (by simp [hi]) q1 q2
   exact ⟨hSH i q1,(n1 i (by simp [hi])).trans s1,s2⟩
  ·obtain ⟨e1,e2⟩:=hkept j B' g1 g2
   exact ⟨by simp [g1],e1,fun c T hc=>⟨c,T,by rw [e2]; exact hc,rfl⟩⟩
 ·rcases C.slot t v' ht with ⟨rfl,rfl⟩ | ⟨h1,h2,h3⟩
  ·refine .inr ⟨v,?_,?_⟩
   ·rw [hd]; simp only [Act.put]; rw [Array.getElem?_setIfInBounds_self_of_lt (by rw [h.nt]; exact hlt)]
   ·exact M2.mono (K:=fun _=>True) hcar2 (fun k _ B hB=>⟨B,hB,rfl,Nat.le_refl _,fun _=>⟨rfl,fun c T fr hc=>⟨c,T,fr,hc,rfl⟩⟩⟩) _ v (fun _ _=>trivial) (G0w (K:=fun q=>H'.lookup q≠none) hren r v C.res hp'.res)
  ·exact .inl ⟨h2,hput t h1,h3⟩
 ·rcases C.blk k B' hB' with ⟨j,B,rfl,hj,rfl⟩ | ⟨g1,g2,g3⟩
  ·obtain ⟨c,f1,f2,f3⟩:=hp'.blk j B hj
   refine .inr ⟨c,by rw [n1 j (by simp [hj])]; exact f1,?_,by show (B.cs.ren κ).len≤_; rw [Cells.ren_len]; exact f2,fun i x hx=>?_⟩
   ·rw [n1 j (by simp [hj])]
    by_cases hjH:H.lookup j=none
    ·exact .inr (Nat.le_trans h.frame.size (hp'.new j (by simp [hj]) hjH))
    ·rcases hp'.old j (by simp [hj]) hjH with ⟨i,hi,e2⟩ | e2
     ·obtain ⟨Bi,hBi⟩:=G3 hi
      obtain ⟨Bj,hBj⟩:=G3 hjH
      by_cases hf:st j=true
      ·rw [(hp'.stay j (by simp [hj]) hjH hf).1]
       obtain ⟨_,_,q2,_⟩:=h.blks (κ j) _ (C.h1 j Bj hBj)
       exact q2
      ·rw [e2]
       obtain ⟨_,_,q2,_⟩:=h.blks (κ i) _ (C.h1 i Bi hBi)
       rcases q2 with ⟨q2,q3⟩ | q2
       ·exact .inl ⟨q2,C.lo i j hi hjH (by simp [hj]) (by simpa using hf) q3⟩
       ·exact .inr q2
     ·exact .inr (Nat.le_trans h.frame.size e2)
   ·have hx':(B.cs.ren κ).get i=some x:=hx
    rw [Cells.ren_get,M0] at hx'
    obtain ⟨y,hy,rfl⟩:=hx'
    obtain ⟨u,hu,ho,hru⟩:=f3 i y hy
    exact ⟨u,hu,ho,M2.mono (K:=fun _=>True) hcar2 (fun k _ B hB=>⟨B,hB,rfl,Nat.le_refl _,fun _=>⟨rfl,fun c T fr hc=>⟨c,T,fr,hc,rfl⟩⟩⟩) _ u (fun _ _=>trivial) (G0w (K:=fun q=>H'.lookup q≠none) hren y u (C.cont j B hj i y hy) hru)⟩
  ·obtain ⟨e1,e2⟩:=hkept k B' g1 g2
   exact .inl ⟨g1,e1,e2,g3⟩
theorem N1d {E:Env}{st:Nat→Bool}{F:Fr}(hG:E.G F.w0)(hX:∀ b,F.X b→E.ng≤b)(hng:E.ng≤F.w0.heap.size){ops:Array Oper}{d:Nat}{f:FuncId}{o:Oper}{xs:List PV}{S S':St}{H H':List (Nat×Blk)}{r:PV}(κ:Nat→Nat)(hs:R4 E st f xs H H' r)(hd:o.dst=some d)(hg:o.guard=none)(hlt:d<F.nt)
  (hargs:∀ ρ a w,b5 F ρ S a w→∃ vals:List Value,(execOp a.eval o).run E.P w = .ok (.enter f vals.toArray) w∧D3 S.blk ρ (okI F S.blk ρ) (hp w) (PV.renL κ xs) vals)
  (C:G1h st F S S' κ H H' r d):G0n E.P F ops o S S':=by
 intro a w h Q K hK
 have hw:Region.wanted o (yielded ops a.tmps)=true:=by simp [Region.wanted,hg]
 rw [if_pos hw]
 exact .inl (Y0x hG hX hng κ hs hd hlt hargs C a w h Q K hK)
end Go.Proofs.YtjagfionflbjbaaGreat.SH
namespace Go.Proofs.YtjagfionflbjbaaGreat.SH
open Go Go.RowKit
theorem b5.move {F F':Fr}{ρ ρ':Nat→Nat}{S S':St}{a a':Act}{w w':World}{Kp:Nat→Prop}(h:b5 F ρ S a w)(hfr:F0x F' w')(hnt:a'.tmps.size=F'.nt)(hdf:h0j F' a'.defers w')
  (hc:Carry (okI F S.blk ρ) (okI F' S'.blk ρ') (hp w) (hp w')) (hk:b0y Kp S.blk S'.blk ρ ρ' (hp w) (hp w'))
  (hinj:∀ k k',S'.blk k≠none→S'.blk k'≠none→ρ' k=ρ' k'→k=k')
  (hpin:∀ j b n,F'.pin j=some (b,n)→S'.blk j≠none→ρ' j=b∧∃ c T,hp w' b=some (.cells c T (0,0))∧c.size=n)
  (hs:∀ t v,S'.slot t=some v→(S.slot t=some v∧a'.tmps[t]? = a.tmps[t]?∧∀ k,v.free k=false→Kp k)∨∃ u,a'.tmps[t]? = some u∧M2 S'.blk ρ' (okI F' S'.blk ρ') (hp w') v u)
  (hb:∀ k B,S'.blk k=some B→(S.blk k=some B∧ρ' k=ρ k∧hp w' (ρ k)=hp w (ρ k)∧((F'.X (ρ k)∧F'.lo k=false)∨F'.w0.heap.size≤ρ k)∧∀ i x,B.cs.get i=some x→∀ j,x.free j=false→Kp j) ∨
   ∃ c,hp w' (ρ' k)=some (.cells c B.T (0,0))∧((F'.X (ρ' k)∧F'.lo k=false)∨F'.w0.heap.size≤ρ' k)∧B.cs.len≤c.size∧∀ i x,B.cs.get i=some x→∃ u,c[i]? = some u∧u.oneCell'=true∧M2 S'.blk ρ' (okI F' S'.blk ρ') (hp w') x u) :
  b5 F' ρ' S' a' w' where
 slots t v ht:=by
  rcases hs t v ht with ⟨h1,h2,h3⟩ | h
  ·obtain ⟨u,hu,hr⟩:=h.slots t v h1
   exact ⟨u,by rw [h2]; exact hu,M2.mono hc hk v u h3 hr⟩
  ·exact h
 blks k B hB:=by
  rcases hb k B hB with ⟨h1,h2,h3,h5,h4⟩ | h
  ·obtain ⟨c,e1,e2,e3,e4⟩:=h.blks k B h1
   refine ⟨c,by rw [h2,h3]; exact e1,by rw [h2]; exact h5,e3,fun i x hx=>?_⟩
   obtain ⟨u,hu,h1c,hr⟩:=e4 i x hx
   exact ⟨u,hu,h1c,M2.mono hc hk x u (h4 i x hx) hr⟩
  ·exact h
 inj:=hinj
 frame:=hfr
 nt:=hnt
 df:=hdf
 pin:=hpin
theorem b5.weakR {F:Fr}{ρ:Nat→Nat}{S S':St}{a:Act}{w:World}(h:b5 F ρ S a w)(hle:S'.le S):b5 F ρ S' a w:=by
 have hne:∀ k,S'.blk k≠none→S.blk k≠none∧ρ k=ρ k:=fun k hk=>by
  obtain ⟨B,hB⟩:=j1.1 hk
  exact ⟨by rw [hle.2 k B hB]; simp,rfl⟩
 exact h.upd (Kp:=fun _=>True) h.frame h.nt rfl (fun b hb' _=>⟨p0n hne hb',rfl⟩) (fun k _ B' hB'=>⟨B',hle.2 k B' hB',rfl,Nat.le_refl _,fun _=>⟨rfl,fun c T fr hc=>⟨c,T,fr,hc,rfl⟩⟩⟩)
  (fun k k' h1 h2 h3=>h.inj k k' (hne k h1).1 (hne k' h2).1 h3) (fun j _ _ _ hj=>⟨(hne j hj).1,rfl,fun c T hc=>⟨c,T,hc,rfl⟩⟩) (fun t v ht=>.inl ⟨hle.1 t v ht,rfl,fun _ _=>trivial⟩) (fun k B hB=>.inl ⟨hle.2 k B hB,rfl,rfl,fun _ _ _ _ _=>trivial⟩)
structure XFr (E:Env) (H:List (Nat×Blk)) (n:Nat) (F:Fr):Prop where
 g:E.G F.w0
 x:∀ b,F.X b→E.ng≤b
 nt:F.nt=n
 df:F.df=[]
 p0:∀ q,H.lookup q=none→F.pin q=none
 lo:∀ q,F.lo q=(H.lookup q).isNone
 ng:E.ng≤F.w0.heap.size
def Yields (P:Program)(F:Fr)(l n:Nat)(encs:Nat→L2×L2)(H:Nat→List (Nat×Blk)):Prop :=
 ∀ k,k<n→∀ (d:Nat) (fo o1 o2:Operand) (ts:Array TypeId) (T:TypeId) (pos:String) (aft:Array Edge) (g:Option (Nat×Bool)),d<F.nt →
  ∀ S a w,Sat F S a w→Ann.holds ⟨[(fo,.clo (.yield l) [] []),(o1,.p (encs k).1),(o2,.p (encs k).2)],H k,none,[(d,.p (.a (.bool true)))],H (k+1)⟩ S→∀ (Q:Exit→Act→World→Prop) (K:Act→World→Prop),
   (∀ a' w',Sat F (S.app ⟨[(fo,.clo (.yield l) [] []),(o1,.p (encs k).1),(o2,.p (encs k).2)],H k,none,[(d,.p (.a (.bool true)))],H (k+1)⟩) a' w'→K a' w')→∀ m,Oper.wpIn (fen F) m P ⟨some d,.call ⟨.value fo,#[o1,o2],ts⟩,T,pos,aft,g⟩ a w K Q
def mkL (fid:FuncId)(tmps:Array Value)(p1 p2:Nat)(asx bd:Code)(D:Nat)(st:LoopState)(pe:Option Code):Loop:={ state:=st,pending:=pe,fn:=fid,tmps:=tmps,params:=#[p1,p2],assign:=asx,body:=bd,defers:=D }
theorem L3 {l:List (Nat×Blk)}{j:Nat}{B:Blk}(h:l.lookup j=some B):(j,B)∈l:=by
 induction l with
 | nil=>simp at h
 | cons p l ih =>
  obtain ⟨s,u⟩:=p
  rw [i0] at h
  split at h
  ·rename_i e; injection h with h; subst h; simp [beq_iff_eq.1 e]
  ·simp [ih h]
def b0v (FI:Fr)(nt:Nat)(S:St)(ρ:Nat→Nat)(W W0:World)(l:Nat)(Hk:List (Nat×Blk)):Fr :=
 ⟨W0,fun b=>okI FI S.blk ρ b∧b<W.heap.size,fun b=>∃ q,Hk.lookup q≠none∧b=ρ q,nt,[],fun q=>if Hk.lookup q≠none then match hp W (ρ q) with | some (.cells c _ _)=>some (ρ q,c.size) | _=>none else none,some l,fun _ _=>False,fun q=>(Hk.lookup q).isNone⟩
structure W1x (FI:Fr) (l D:Nat) (L:Loop) (H:Nat→List (Nat×Blk)) (n:Nat):Prop where
 ro:FI.ro=none
 loop:FI.w0.heap[l]? = some (.loop L)
 lX:¬ FI.X l
 lok:¬ FI.okA l
 llt:l<FI.w0.heap.size
 pin:∀ k,k≤n→∀ q B,(H k).lookup q=some B→∃ b m,FI.pin q=some (b,m)
 keys:∀ k,k<n→∀ q,(H (k+1)).lookup q≠none↔(H k).lookup q≠none
 same:∀ k,k<n→∀ q B B',(H k).lookup q=some B→(H (k+1)).lookup q=some B'→B'.sz=B.sz∧B'.cs.len=B.cs.len
 lo:∀ k,k≤n→∀ q,(H k).lookup q≠none→FI.lo q=false
 cont:∀ k,k≤n→∀ j B,(H k).lookup j=some B→∀ i x,B.cs.get i=some x→∀ q,x.free q=false→(H k).lookup q≠none
theorem n1f {E:Env}{FI:Fr}{nt l D p1 p2 n:Nat}{fid:FuncId}{tmps0:Array Value}{asx bd:Code}{encs:Nat→L2×L2}{H:Nat→List (Nat×Blk)}{sl:List (Nat×PV)}(I:W1x FI l D (mkL fid tmps0 p1 p2 asx bd D .ready none) H n)
  (hG:E.G FI.w0) (hx:∀ b,FI.X b→E.ng≤b) (hng:E.ng≤FI.w0.heap.size) (hlng:E.ng≤l) (ht0:tmps0.size=nt) (hlt:p1<nt∧p2<nt)
  (hout:∀ k,k≤n→∀ ρ S a W,b5 FI ρ S a W→(∀ q B,(H k).lookup q=some B→S.blk q=some B)→∀ t v,sl.lookup t=some v→∃ u,tmps0[t]? = some u∧M2 (lk (H k)) ρ (okI FI S.blk ρ) (hp W) v u)
  (hround:∀ k,k<n→∃ S1,(∀ F',XFr E (H k) nt F'→n4 E.P F' asx ⟨(p2,.p (encs k).2) :: (p1,.p (encs k).1) :: sl,H k⟩ (fun e S'=>e = .normal∧S1.le S')) ∧
   (∀ F',XFr E (H k) nt F'→n4 E.P F' bd S1 (fun e S'=>e = .normal∧O5 S' (H (k+1))))):Yields E.P FI l n encs H:=by
 intro k hk d fo o1 o2 ts T pos aft g hd S a W ⟨ρ,h⟩ hA Q K hK m
 obtain ⟨S1,has,hbd⟩:=hround k hk
 have hSH:∀ q B,(H k).lookup q=some B→S.blk q=some B:=fun q B hq=>hA.rb (q,B) (L3 hq)
 have hSH':∀ q,(H k).lookup q≠none→S.blk q≠none:=fun q hq=>by obtain ⟨B,hB⟩:=G3 hq; rw [hSH q B hB]; simp
 have hne:∀ q,S.blk q≠none→ρ q<W.heap.size:=fun q hq=>by
  obtain ⟨B,hB⟩:=j1.1 hq
  obtain ⟨c,e1,_⟩:=h.blks q B hB; exact World.size_lt e1
 have hsz:=h.frame.size
 have hlW:W.heap[l]? = some (.loop (mkL fid tmps0 p1 p2 asx bd D .ready none)):=(h.frame.block l I.llt I.lX).trans I.loop
 have hlown:∀ q,S.blk q≠none→ρ q≠l:=fun q hq e=>by
  obtain ⟨B,hB⟩:=j1.1 hq
  obtain ⟨c,e1,_⟩:=h.blks q B hB
  have:hp W l=some (.loop (mkL fid tmps0 p1 p2 asx bd D .ready none)):=hlW
  rw [e,this] at e1; cases e1
 have hlok:∀ β ρ',¬ okI FI β ρ' l:=fun β ρ' hb=>by
  rcases hb.1 with hb | hb
  ·exact I.lok hb
  ·have:=I.llt; omega
 have ef:a.eval fo = .func (.yield l) #[] #[]:=by
  have:=Z4 h (hA.rs (fo,.clo (.yield l) [] []) (by simp))
  simp only [M2,D3] at this
  obtain ⟨fs,cs,h3,rfl,rfl⟩:=this
  exact h3
 have r1:=Z4 h (hA.rs (o1,.p (encs k).1) (by simp))
 have r2:=Z4 h (hA.rs (o2,.p (encs k).2) (by simp))
 simp only [M2] at r1 r2
 obtain ⟨v1,hv1⟩:∃ v,v=a.eval o1:=⟨_,rfl⟩
 obtain ⟨v2,hv2⟩:∃ v,v=a.eval o2:=⟨_,rfl⟩
 rw [← hv1] at r1
 rw [← hv2] at r2
 obtain ⟨FR,hFR⟩:∃ FR,FR=b0v FI nt S ρ W W l (H k):=⟨_,rfl⟩
 have hGW:E.G W:=E.stab FI.w0 W hG fun b hb=>h.frame.block b (by omega) (fun hx'=>by have:=hx b hx'; omega)
 have hXng:∀ q,(H k).lookup q≠none→E.ng≤ρ q:=fun q hq=>by
  obtain ⟨B,hB⟩:=G3 hq
  obtain ⟨_,_,e2,_⟩:=h.blks q B (hSH q B hB)
  rcases e2 with e2 | e2
  ·exact hx _ e2.1
  ·omega
 have hXF:∀ W0:World,E.G W0→E.ng≤W0.heap.size→XFr E (H k) nt (b0v FI nt S ρ W W0 l (H k)):=fun W0 h1 h2=>⟨h1,fun b ⟨q,hq,e⟩=>e ▸ hXng q hq,rfl,rfl,fun q hq=>by simp only [b0v]; rw [if_neg (by simp [hq])],fun _=>rfl,h2⟩
 have hnH:∀ (β:Nat→Option Blk) (hβ:∀ q,β q≠none→S.blk q≠none) b,okI FI S.blk ρ b→b<W.heap.size→∀ W0,okI (b0v FI nt S ρ W W0 l (H k)) β ρ b:=fun β hβ b hb hbs W0=>⟨.inl ⟨hb,hbs⟩,fun q hq=>hb.2 q (hβ q hq)⟩
 have hs1:b5 FR ρ ⟨(p2,.p (encs k).2) :: (p1,.p (encs k).1) :: sl,H k⟩ ⟨(tmps0.setIfInBounds p1 v1).setIfInBounds p2 v2,[]⟩ W:=by
  rw [hFR]
  have hcar:Carry (okI FI S.blk ρ) (okI (b0v FI nt S ρ W W l (H k)) (lk (H k)) ρ) (hp W) (hp W):=fun b hb hne'=>⟨hnH _ (fun q hq=>hSH' q hq) b hb (by obtain ⟨o,ho⟩:=j1.1 hne'; exact World.size_lt ho) W,rfl⟩
  have hkp:b0y (fun _=>True) S.blk (lk (H k)) ρ ρ (hp W) (hp W):=fun q _ B hB=>⟨B,hSH q B hB,rfl,Nat.le_refl _,fun _=>⟨rfl,fun c T fr hc=>⟨c,T,fr,hc,rfl⟩⟩⟩
  refine h.move (S':=⟨(p2,.p (encs k).2) :: (p1,.p (encs k).1) :: sl,H k⟩) (Kp:=fun _=>True) ⟨rfl,rfl,rfl,Nat.le_refl _,fun _ _ _=>rfl⟩ (by simp [b0v,ht0]) (h0j.nil rfl) hcar hkp (fun q q' h1 h2 e=>h.inj q q' (hSH' q h1) (hSH' q' h2) e) (fun j b m hj hS=>?_) (fun t v ht=>.inr ?_) (fun q B hB=>.inl ⟨hSH q B hB,rfl,rfl,.inl ⟨⟨q,by have hB':(H k).lookup q=some B:=hB; simp [hB'],rfl⟩,by have hB':(H k).lookup q=some B:=hB; simp [b0v,hB']⟩,fun _ _ _ _ _=>trivial⟩)
  ·simp only [b0v] at hj
   have hS':(H k).lookup j≠none:=hS
   rw [if_pos hS'] at hj
   obtain ⟨B,hB⟩:=G3 hS'
   obtain ⟨c,e1,_⟩:=h.blks j B (hSH j B hB)
   rw [e1] at hj
   injection hj with hj; injection hj with hj1 hj2
   subst hj1 hj2
   exact ⟨rfl,c,B.T,e1,rfl⟩
  ·simp only [St.slot,i0] at ht
   split at ht
   ·rename_i e; injection ht with ht; subst ht
    obtain rfl:t=p2:=by simpa using e
    exact ⟨v2,by rw [Array.getElem?_setIfInBounds_self_of_lt (by simp [ht0]; exact hlt.2)],by simp only [M2]; exact Rel.mono hcar _ _ r2⟩
   ·rename_i e2
    have e2:t≠p2:=by simpa using e2
    split at ht
    ·rename_i e; injection ht with ht; subst ht
     obtain rfl:t=p1:=by simpa using e
     exact ⟨v1,by rw [Array.getElem?_setIfInBounds_ne (Ne.symm e2),Array.getElem?_setIfInBounds_self_of_lt (by rw [ht0]; exact hlt.1)],by simp only [M2]; exact Rel.mono hcar _ _ r1⟩
    ·rename_i e1
     have e1:t≠p1:=by simpa using e1
     obtain ⟨u,hu,hr⟩:=hout k (by omega) ρ S a W h hSH t v ht
     exact ⟨u,by rw [Array.getElem?_setIfInBounds_ne (Ne.symm e2),Array.getElem?_setIfInBounds_ne (Ne.symm e1)]; exact hu,M2.mono (K:=fun _=>True) hcar (fun q _ B hB=>⟨B,hB,rfl,Nat.le_refl _,fun _=>⟨rfl,fun c T fr hc=>⟨c,T,fr,hc,rfl⟩⟩⟩) v u (fun _ _=>trivial) hr⟩
 have hyr:(Instr.yield l #[v1,v2]).run E.P W = .ok (.round l fid ((tmps0.setIfInBounds p1 v1).setIfInBounds p2 v2) asx bd) W:=by
  have:=run_yield (P:=E.P) (args:=#[v1,v2]) hlW (by rfl)
  simpa [mkL] using this
 have hfw:fen FI=Fence.wide:=by simp [fen,I.ro,Fence.wide]
 unfold Oper.wpIn
 refine ⟨fun f _=>trivial,?_⟩
 rw [Oper.semAt_eq _ _ _ (by intro c e; cases e)]
 have hexec:(execOp a.eval ⟨some d,.call ⟨.value fo,#[o1,o2],ts⟩,T,pos,aft,g⟩).run E.P W = .ok (.round l fid ((tmps0.setIfInBounds p1 v1).setIfInBounds p2 v2) asx bd) W:=by
  simp [execOp,resolve,ef,← hv1,← hv2,Deferred.ofValue,invoke,hyr]
 rw [hexec,Oper.uponIn_round,hfw]
 refine ⟨fun hh=>by simp [Fence.wide] at hh,?_⟩
 refine roundIn_of_wpIn trivial ?_
 have hA1:=(has FR (by rw [hFR]; exact hXF W hGW (by omega))).run (m - 1) _ W ⟨ρ,hs1⟩
 rw [show fen FR=Fence.wide.inRound l by rw [hFR]; rfl] at hA1
 refine wpIn_mono hA1 fun ex a1 w1 hq=>?_
 obtain ⟨S',⟨he,hle1⟩,ρ1,hsa⟩:=hq.resolve_right (fun h=>by rw [hFR] at h; exact h.2)
 subst he
 have hsa:=hsa.weakR hle1
 have hRl:∀ W0:World,¬ (b0v FI nt S ρ W W0 l (H k)).X l:=fun W0 ⟨q,hq,e⟩=>hlown q (hSH' q hq) e.symm
 have hw0:FR.w0=W:=by rw [hFR]; rfl
 have hl1:w1.heap[l]? = some (.loop (mkL fid tmps0 p1 p2 asx bd D .ready none)):=(hsa.frame.block l (by rw [hw0]; exact World.size_lt hlW) (by rw [hFR]; exact hRl W)).trans (by rw [hw0]; exact hlW)
 obtain ⟨W0b,hW0b⟩:∃ W0b,W0b=W.putObj l (.loop (mkL fid tmps0 p1 p2 asx bd D .busy none)):=⟨_,rfl⟩
 obtain ⟨w2,hw2⟩:∃ w2,w2=w1.putObj l (.loop (mkL fid tmps0 p1 p2 asx bd D .busy none)):=⟨_,rfl⟩
 have hbeg:(Instr.beginRound l).run E.P w1 = .ok () w2:=by rw [hw2]; exact run_beginRound hl1 rfl
 have hszb:W0b.heap.size=W.heap.size:=by rw [hW0b]; simp
 have hob:∀ b,b≠l→W0b.heap[b]? = W.heap[b]?:=fun b hb=>by rw [hW0b]; exact World.putObj_heap_other hb
 have ho2:∀ b,b≠l→w2.heap[b]? = w1.heap[b]?:=fun b hb=>by rw [hw2]; exact World.putObj_heap_other hb
 obtain ⟨FB,hFB⟩:∃ FB,FB=b0v FI nt S ρ W W0b l (H k):=⟨_,rfl⟩
 have hlR:∀ β ρ',¬ okI FR β ρ' l:=fun β ρ' hb=>by
  rw [hFR] at hb
  rcases hb.1 with hb | hb
  ·exact hlok _ _ hb.1
  ·have:=World.size_lt hlW; have:W.heap.size≤l:=hb; omega
 have hl1own:∀ q B,S1.blk q=some B→ρ1 q≠l:=fun q B hB e=>by
  obtain ⟨c,e1,_⟩:=hsa.blks q B hB
  have:hp w1 l=some (.loop (mkL fid tmps0 p1 p2 asx bd D .ready none)):=hl1
  rw [e,this] at e1; cases e1
 have hs2:b5 FB ρ1 S1 a1 w2:=by
  obtain ⟨Ds,d1,d2,d3⟩:=hsa.df
  have hfr:=hsa.frame
  rw [hFB]
  refine hsa.move (Kp:=fun _=>True) ⟨?_,?_,?_,?_,fun b hb hx'=>?_⟩ (by rw [hsa.nt,hFR]; rfl) ⟨Ds,by rw [d1,hFR]; rfl,d2,fun D' hD'=>?_⟩ (fun b hb _=>⟨⟨?_,hb.2⟩,ho2 b (fun e=>hlR _ _ (e ▸ hb))⟩) (fun q _ B hB=>⟨B,hB,rfl,Nat.le_refl _,fun _=>⟨rfl,fun c T fr hc=>⟨c,T,fr,(ho2 _ (hl1own q B hB)).trans hc,rfl⟩⟩⟩) hsa.inj (fun j b n hj hS=>?_) (fun t v ht=>.inl ⟨ht,rfl,fun _ _=>trivial⟩) (fun q B hB=>.inl ⟨hB,rfl,ho2 _ (hl1own q B hB),?_,fun _ _ _ _ _=>trivial⟩)
  ·rw [hw2]; show w1.os=W0b.os; rw [hfr.os,hw0,hW0b]; rfl
  ·rw [hw2]; show w1.tape=W0b.tape; rw [hfr.tape,hw0,hW0b]; rfl
  ·rw [hw2]; show w1.output=W0b.output; rw [hfr.output,hw0,hW0b]; rfl
  ·show W0b.heap.size≤w2.heap.size; rw [hszb,hw2]; have:=hfr.size; rw [hw0] at this; simpa using this
  ·show w2.heap[b]? = W0b.heap[b]?
   by_cases eb:b=l
   ·subst eb; rw [hw2,hW0b,World.putObj_heap_same (World.size_lt hl1),World.putObj_heap_same (World.size_lt hlW)]
   ·rw [ho2 b eb,hob b eb]
    have hb':b<W0b.heap.size:=hb
    have:=hfr.block b (by rw [hw0]; omega) (by rw [hFR]; exact hx')
    rw [hw0] at this; exact this
  ·obtain ⟨q1,q2⟩:=d3 D' hD'
   refine ⟨by show W0b.heap.size≤D'; rw [hszb]; rw [hw0] at q1; exact q1,(ho2 D' (fun e=>?_)).trans q2⟩
   rw [e,hl1] at q2; cases q2
  ·rcases hb.1 with hb1 | hb1
   ·rw [hFR] at hb1; exact .inl hb1
   ·rw [hw0] at hb1; exact .inr (by show W0b.heap.size≤b; omega)
  ·have hj':FR.pin j=some (b,n):=by rw [hFR]; exact hj
   obtain ⟨q1,c,T,q2,q3⟩:=hsa.pin j b n hj' hS
   obtain ⟨B,hB⟩:=j1.1 hS
   exact ⟨q1,c,T,(ho2 b (by rw [← q1]; exact hl1own j B hB)).trans q2,q3⟩
  ·obtain ⟨_,_,q2,_⟩:=hsa.blks q B hB
   rcases q2 with q2 | q2
   ·rw [hFR] at q2; exact .inl q2
   ·rw [hw0] at q2; exact .inr (by show W0b.heap.size≤_; omega)
 refine ⟨w2,hbeg,?_⟩
 have hGb:E.G W0b:=E.stab W W0b hGW fun b hb=>hob b (fun e=>by omega)
 have hB1:=(hbd FB (by rw [hFB]; exact hXF W0b hGb (by omega))).run (m - 1) a1 w2 ⟨ρ1,hs2⟩
 rw [show fen FB=Fence.wide.inRound l by rw [hFB]; rfl] at hB1
 refine wpIn_mono hB1 fun ex a3 w3 hq=>?_
 obtain ⟨S3,⟨he,hHB⟩,ρ3,hs3⟩:=hq.resolve_right (fun h=>by rw [hFB] at h; exact h.2)
 subst he
 have hw0b:FB.w0=W0b:=by rw [hFB]; rfl
 have hl3:w3.heap[l]? = some (.loop (mkL fid tmps0 p1 p2 asx bd D .busy none)):=(hs3.frame.block l (by rw [hw0b,hszb]; exact World.size_lt hlW) (by rw [hFB]; exact hRl W0b)).trans (by rw [hw0b,hW0b]; exact World.putObj_heap_same (World.size_lt hlW))
 obtain ⟨w4,hw4⟩:∃ w4,w4=w3.putObj l (.loop (mkL fid tmps0 p1 p2 asx bd D .ready none)):=⟨_,rfl⟩
 have hend:(Instr.endRound l none).run E.P w3 = .ok (.bool true) w4:=by rw [hw4]; exact run_endRound none hl3
 have ho4:∀ b,b≠l→w4.heap[b]? = w3.heap[b]?:=fun b hb=>by rw [hw4]; exact World.putObj_heap_other hb
 have hfr3:=hs3.frame
 refine ⟨_,_,hend,?_⟩
 refine hK _ _ ⟨ρ,?_⟩
 have hS3:∀ q B,(H (k+1)).lookup q=some B→S3.blk q=some B:=fun q B hq=>hHB.all q B hq
 have hplace:∀ q,(H (k+1)).lookup q≠none→ρ3 q=ρ q∧∀ c T,hp W (ρ q)=some (.cells c T (0,0))→∃ c' T',hp w3 (ρ q)=some (.cells c' T' (0,0))∧c'.size=c.size:=fun q hq=>by
  have hq0:=(I.keys k hk q).1 hq
  obtain ⟨B0,hB0⟩:=G3 hq0
  obtain ⟨B1,hB1⟩:=G3 hq
  obtain ⟨c,e1,_⟩:=h.blks q B0 (hSH q B0 hB0)
  have hp0:FB.pin q=some (ρ q,c.size):=by rw [hFB]; simp only [b0v]; rw [if_pos hq0,e1]
  obtain ⟨q1,c',T',q2,q3⟩:=hs3.pin q _ _ hp0 (by rw [hS3 q B1 hB1]; simp)
  refine ⟨q1,fun c2 T2 h2=>⟨c',T',q2,?_⟩⟩
  rw [e1] at h2; injection h2 with h2; injection h2 with h2; rw [q3,h2]
 have hkeep:∀ q,(H k).lookup q=none→S.blk q≠none→hp w4 (ρ q)=hp W (ρ q):=fun q hq hS=>by
  have hl':=hlown q hS
  refine (ho4 _ hl').trans ((hfr3.block _ (by rw [hw0b,hszb]; exact hne q hS) (fun hX=>?_)).trans (by rw [hw0b]; exact hob _ hl'))
  rw [hFB] at hX
  obtain ⟨q',h1,h2⟩:=hX
  have:=h.inj q q' hS (hSH' q' h1) h2
  subst this; exact h1 hq
 have hold:∀ b,okI FI S.blk ρ b→b<W.heap.size→hp w4 b=hp W b:=fun b hb hbs=>by
  have hl':b≠l:=fun e=>hlok _ _ (e ▸ hb)
  refine (ho4 _ hl').trans ((hfr3.block _ (by rw [hw0b,hszb]; exact hbs) (fun hX=>?_)).trans (by rw [hw0b]; exact hob _ hl'))
  rw [hFB] at hX
  obtain ⟨q',h1,h2⟩:=hX
  exact hb.2 q' (hSH' q' h1) h2
 obtain ⟨S',hS'⟩:∃ S',S'=S.app ⟨[(fo,.clo (.yield l) [] []),(o1,.p (encs k).1),(o2,.p (encs k).2)],H k,none,[(d,.p (.a (.bool true)))],H (k+1)⟩:=⟨_,rfl⟩
 rw [← hS']
 have hS'b:∀ q,S'.blk q=((H (k+1)).lookup q).or (S.blk q):=fun q=>by rw [hS']; exact St.app_blk _ _ _
 have hS'n:∀ q,S'.blk q≠none→S.blk q≠none:=fun q hq=>by
  rw [hS'b] at hq
  cases e:(H (k+1)).lookup q with
  | none=>rw [e,l0] at hq; exact hq
  | some B=>exact hSH' q ((I.keys k hk q).1 (by simp [e]))
 have hsize:∀ q,S'.blk q≠none→∀ c T,hp W (ρ q)=some (.cells c T (0,0))→∃ c' T',hp w4 (ρ q)=some (.cells c' T' (0,0))∧c'.size=c.size:=fun q hq c T hc=>by
  have hSq:=hS'n q hq
  by_cases hH:(H (k+1)).lookup q=none
  ·have : (H k).lookup q = none := by
    cases e:(H k).lookup q with
    | none=>rfl
    | some B=>exact absurd hH ((I.keys k hk q).2 (by simp [e]))
   exact ⟨c,T,(hkeep q this hSq).trans hc,rfl⟩
  ·obtain ⟨c',T',g1,g2⟩:=(hplace q hH).2 c T hc
   exact ⟨c',T',(ho4 _ (hlown q hSq)).trans g1,g2⟩
 have hcells:∀ q,S.blk q≠none→∃ c T,hp W (ρ q)=some (.cells c T (0,0)):=fun q hq=>by
  obtain ⟨B,hB⟩:=j1.1 hq
  obtain ⟨c,e1,_⟩:=h.blks q B hB; exact ⟨c,B.T,e1⟩
 refine h.upd (S':=S') (Kp:=fun _=>True) ⟨?_,?_,?_,?_,fun b hb hx'=>?_⟩ (by simp [Act.put,h.nt]) rfl (fun b hb hne'=>⟨⟨hb.1,fun q hq=>hb.2 q (hS'n q hq)⟩,hold b hb (by obtain ⟨o,ho⟩:=j1.1 hne'; exact World.size_lt ho)⟩) (fun q _ B' hB'=>?_) (fun q q' h1 h2 e=>h.inj q q' (hS'n q h1) (hS'n q' h2) e) (fun j b n hj hSj=>⟨hS'n j hSj,rfl,hsize j hSj⟩) (fun t v ht=>?_) (fun q B hB=>?_)
 ·rw [hw4]; show w3.os=_; rw [hfr3.os,hw0b,hW0b]; exact h.frame.os
 ·rw [hw4]; show w3.tape=_; rw [hfr3.tape,hw0b,hW0b]; exact h.frame.tape
 ·rw [hw4]; show w3.output=_; rw [hfr3.output,hw0b,hW0b]; exact h.frame.output
 ·rw [hw4]; have:=hfr3.size; rw [hw0b,hszb] at this; simp; omega
 ·by_cases eb:b=l
  ·subst eb; rw [hw4,World.putObj_heap_same (World.size_lt hl3)]; exact I.loop.symm
  ·rw [ho4 b eb,hfr3.block b (by rw [hw0b,hszb]; omega) (fun hX=>?_),hw0b,hob b eb]
   ·exact h.frame.block b hb hx'
   ·rw [hFB] at hX
    obtain ⟨q',h1,h2⟩:=hX
    obtain ⟨B,hB⟩:=G3 h1
    obtain ⟨_,_,e2,_⟩:=h.blks q' B (hSH q' B hB)
    rw [← h2] at e2
    rcases e2 with e2 | e2
    ·exact hx' e2.1
    ·omega
 ·have hSq:=hS'n q (by simp [hB'])
  rw [hS'b] at hB'
  cases e:(H (k+1)).lookup q with
  | none =>
   rw [e,l0] at hB'
   exact ⟨B',hB',rfl,Nat.le_refl _,fun _=>⟨rfl,fun c T fr hc=>by
    obtain ⟨c0,T0,e1⟩:=hcells q hSq
    have hc':=hc
    rw [e1] at hc'; injection hc' with hc'; injection hc' with q1 q2 q3; subst q1
    obtain ⟨c',T',g1,g2⟩:=hsize q (by rw [hS'b,e,l0,hB']; simp) _ _ e1
    exact ⟨c',T',(0,0),g1,g2⟩⟩⟩
  | some B1 =>
   rw [e,K0] at hB'; injection hB' with hB'; subst hB'
   obtain ⟨B0,hB0⟩:=G3 ((I.keys k hk q).1 (by simp [e]))
   obtain ⟨s1,s2⟩:=I.same k hk q B0 B1 hB0 e
   exact ⟨B0,hSH q B0 hB0,s1,by omega,fun _=>⟨rfl,fun c T fr hc=>by
    obtain ⟨c0,T0,e1⟩:=hcells q hSq
    have hc':=hc
    rw [e1] at hc'; injection hc' with hc'; injection hc' with q1 q2 q3; subst q1
    obtain ⟨c',T',g1,g2⟩:=hsize q (by rw [hS'b,e,K0]; simp) _ _ e1
    exact ⟨c',T',(0,0),g1,g2⟩⟩⟩
 ·rw [hS',St.app_slot] at ht
  simp only [i0,List.lookup_nil] at ht
  by_cases e:t=d
  ·subst e
   simp only [BEq.rfl,K0,U0] at ht
   subst ht
   exact .inr ⟨.bool true,by simp only [Act.put]; rw [Array.getElem?_setIfInBounds_self_of_lt (by rw [h.nt]; exact hd)],by simp [M2,Rel]⟩
  ·rw [show (t == d)=false by simpa using e,l0] at ht
   exact .inl ⟨ht,by simp only [Act.put]; rw [Array.getElem?_setIfInBounds_ne (Ne.symm e)],fun _ _=>trivial⟩
 ·have hSq:=hS'n q (by simp [hB])
  have hB0:=hB
  rw [hS'b] at hB
  cases e:(H (k+1)).lookup q with
  | none =>
   rw [e,l0] at hB
   have hn:(H k).lookup q=none:=by
    cases e':(H k).lookup q with
    | none=>rfl
    | some B=>exact absurd e ((I.keys k hk q).2 (by simp [e']))
   exact .inl ⟨hB,rfl,hkeep q hn hSq,fun _ _ _ _ _=>trivial⟩
  | some B1 =>
   rw [e,K0] at hB; injection hB with hB; subst hB
   obtain ⟨c,f1,f2,f3,f4⟩:=hs3.blks q B1 (hS3 q B1 e)
   obtain ⟨p1',p2'⟩:=hplace q (by simp [e])
   rw [p1'] at f1
   obtain ⟨B0',hB0'⟩:=j1.1 hSq
   obtain ⟨_,_,g2,_⟩:=h.blks q B0' hB0'
   refine .inr ⟨c,(ho4 _ (hlown q hSq)).trans f1,g2,f3,fun i x hx'=>?_⟩
   obtain ⟨u,hu,ho,hr⟩:=f4 i x hx'
   refine ⟨u,hu,ho,M2.mono (K:=fun j=>(H (k+1)).lookup j≠none) (fun b hb _=>?_) (fun j hj B' hB'=>?_) x u (I.cont (k+1) (by omega) q B1 e i x hx') hr⟩
   ·have hbok : okI FI S'.blk ρ b ∧ b ≠ l := by
     rcases hb.1 with hb1 | hb1
     ·rw [hFB] at hb1
      exact ⟨⟨hb1.1.1,fun j hj=>hb1.1.2 j (hS'n j hj)⟩,fun e=>hlok _ _ (e ▸ hb1.1)⟩
     ·rw [hw0b,hszb] at hb1
      exact ⟨⟨.inr (by omega),fun j hj e=>by have:=hne j (hS'n j hj); omega⟩,fun e=>by have:=World.size_lt hlW; omega⟩
    exact ⟨hbok.1,ho4 b hbok.2⟩
   ·obtain ⟨Bj,hBj⟩:=G3 hj
    rw [hS'b,hBj,K0] at hB'; injection hB' with hB'; subst hB'
    refine ⟨Bj,hS3 j Bj hBj,rfl,Nat.le_refl _,fun _=>⟨(hplace j hj).1.symm,fun c T fr hc=>⟨c,T,fr,?_,rfl⟩⟩⟩
    rw [(hplace j hj).1] at hc ⊢
    exact (ho4 _ (hlown j (hSH' j ((I.keys k hk j).1 hj)))).trans hc
end Go.Proofs.YtjagfionflbjbaaGreat.SH
