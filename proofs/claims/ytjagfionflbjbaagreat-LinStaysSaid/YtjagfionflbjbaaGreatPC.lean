/- Part C of the proof: lemmas for the walks of the given functions. No statement of its own. -/
import Derived.Laws.IdiomStrings
import Derived.RangeFuncRecord
import Derived.RangeFuncIn
import Derived.RangeFuncLeaves
import Derived.Lib.ItoaNum
import Derived.RangeFuncSeq
import Derived.Test.YtjagfionflbjbaaGreatPB
set_option linter.unusedVariables false
set_option linter.unusedSimpArgs false
set_option linter.deprecated false
set_option maxRecDepth 100000
set_option maxHeartbeats 4000000
namespace Go.Proofs.YtjagfionflbjbaaGreat.N
open Go Go.Proofs.YtjagfionflbjbaaGreat.SH Go.Proofs.YtjagfionflbjbaaGreat.NumA
open Go.Proofs.Tryz renaming call129→cl129,call131→cl131,call138→cl138,call149→cl149,call150→cl150,call151→cl151,call153→cl153,call161→cl161,isAgg43→ag43,isAgg45→ag45,isAgg4→ag4,sizeOf43→sz43,sizeOf45→sz45,sizeOf4→sz4,typeInfo119→ti119,typeInfo45→ti45,underlying139→un139,underlying43→un43,underlying45→un45,underlying4→un4,zeroValue45→zv45
theorem p1y (m n:Bool)(ws vs:List Int)(hl:ws.length<999999999999)(hl2:vs.length<999999999999)(h:Wd ws)(h2:Wd vs):Y2 E 152 [pI m ws,pI n vs] (.tup [pZ (dQ m n ws vs),pZ (dR m n ws vs),vZ (dE m n ws vs)]):=by
 refine j2 (xs:=[pZ (dQ m n ws vs),pZ (dR m n ws vs),vZ (dE m n ws vs)]) Tryz.func152 rfl Tryz.ntmps152 Tryz.results152 sM fun F hG hX0 hnt hdf P0=>?_
 obtain ⟨L,hX,hN⟩:=pro hnt hX0 hG
 refine exr (swb (R3 (k:=2) (n:=2) pa2 rfl rfl (P0 _ rfl) L) t1 t0 ⟨rfl,rfl⟩ (swb (R3 (k:=3) (n:=2) pa2 rfl rfl (P0 _ rfl) L) t1 t0 ⟨rfl,rfl⟩ (swb (T3 (k:=4) (n:=2) zv45 (.cons rfl (.cons rfl .nil)) rfl (P0 _ rfl) L) t0 t0 ⟨rfl,rfl⟩ (swb (T3 (k:=5) (n:=2) zv45 (.cons rfl (.cons rfl .nil)) rfl (P0 _ rfl) L) t0 t0 ⟨rfl,rfl⟩ (aV L rfl (zn [(2,_),(3,_),(4,_),(5,_)] [(2,_),(3,_),(4,_),(5,_)] t4 t4 (R1 (exr (lp2 ag45 sz45 L rfl rfl (lp2 ag45 sz45 L rfl rfl (sw (F4 (vs:=[_,_]) un139 ti45 rfl rfl dC dC rfl (M2 (.cons rfl (.cons rfl .nil)) rfl) rfl (.cons rfl pa2 rfl pu2 (.cons rfl pa2 rfl (.skip (.skip pu2)) .nil)) (.cons (.cons (.cons (.cons .nil)))) L) t2 t0 ?_)))))))))))
 refine cK hG hX cl138 hN (f0g [(m,ws),(n,vs)] sM sO) L t1 ?_
 refine sw (P3 L) t1 t0 (zn [(2,_),(3,_),(4,_),(5,_),(13,_)] [(2,_),(3,_),(4,_),(5,_)] t5 t4 ?_)
 refine D2 rfl (fun hc=>?_) (fun hc=>?_)
 ·have hc:¬ (P2 m ws=true∧P2 n vs=true):=by rintro ⟨h1,h2⟩; simp [h1,h2] at hc
  refine exr (sw (Y7 (E6 (vs:=[]) un45 zv45 (.cons rfl (.cons rfl .nil)) ((y2.cons sz4 (y2.cons sz43 y2.nil))).to rfl .nil (.cons (.cons .nil)) L) (.agg (.cons .same (.cons .nil .nil)))) t0 t0 (sw (Y7 (E6 (vs:=[]) un45 zv45 (.cons rfl (.cons rfl .nil)) ((y2.cons sz4 (y2.cons sz43 y2.nil))).to rfl .nil (.cons (.cons .nil)) L) (.agg (.cons .same (.cons .nil .nil)))) t0 t0 (sb (U2 sz45 rF pa2 rfl pu2) t2 t1 ?_)))
  refine sb (U2 sz45 rF pa2 rfl pu2) t2 t1 ?_
  refine aV L rfl (zn [(4,_),(5,_),(6,_)] [(4,_),(5,_)] t3 t2 (V1 ?_))
  refine P1 (.agg rfl rfl rfl ag45 sz45 (.cons (.cons .nil))) (.agg rfl rfl rfl ag45 sz45 (.cons (.cons .nil))) (.tmp rfl) ?_
  rw [dQ,dR,dE,if_neg hc,if_neg (fun hh=>hc ⟨hh.1,hh.2.1⟩),if_neg hc,D8]; rfl
 ·have hc:P2 m ws=true∧P2 n vs=true:=by simpa using hc
  have ht:=(P5 hc.1).1
  have ht2:=(P5 hc.2).1
  refine U1 (xq ?_)
  refine R1 (exr (sw (Z1 un45 rfl sz43 dC rX L) t1 t1 ?_))
  refine sw (Y1 ag43 rF rF L) t1 t1 ?_
  refine sw (R2 un43 L) t1 t0 (sw (c_e L) t2 t0 (zn [(2,_),(3,_),(4,_),(5,_),(19,_)] [(2,_),(3,_),(4,_),(5,_)] t5 t4 ?_))
  refine D2 rfl (fun hz=>?_) (fun hz=>?_)
  ·have hz:=dt hz
   have e:vs=[]:=E0 oM
   subst e
   have e0:sg n (val [])=0:=by cases n <;> rfl
   refine exr (sw (Y7 (E6 (vs:=[]) un45 zv45 (.cons rfl (.cons rfl .nil)) ((y2.cons sz4 (y2.cons sz43 y2.nil))).to rfl .nil (.cons (.cons .nil)) L) (.agg (.cons .same (.cons .nil .nil)))) t0 t0 (sw (Y7 (E6 (vs:=[]) un45 zv45 (.cons rfl (.cons rfl .nil)) ((y2.cons sz4 (y2.cons sz43 y2.nil))).to rfl .nil (.cons (.cons .nil)) L) (.agg (.cons .same (.cons .nil .nil)))) t0 t0 (sb (U2 sz45 rF pa2 rfl pu2) t2 t1 ?_)))
   refine sb (U2 sz45 rF pa2 rfl pu2) t2 t1 ?_
   refine aV L rfl (zn [(4,_),(5,_),(6,_)] [(4,_),(5,_)] t3 t2 (V1 ?_))
   refine P1 (.agg rfl rfl rfl ag45 sz45 (.cons (.cons .nil))) (.agg rfl rfl rfl ag45 sz45 (.cons (.cons .nil))) (.tmp rfl) ?_
   rw [dQ,dR,dE,if_pos hc,if_neg (fun hh=>hh.2.2 rfl),if_pos hc,if_pos (show ([]:List Int).length=0 from rfl),e0,Int.ediv_zero,D8]; rfl
  ·have hz:=df hz
   have hv:=g1a h2 ht2 oM
   have a0:=G2 h
   have ps:=v0s h h2 ht ht2 hv
   have r0:=Int.emod_nonneg (val ws) (show val vs≠0 by omega)
   have q0:=Int.ediv_nonneg a0 (E1 hv)
   have r1:=Int.emod_lt_of_pos (val ws) hv
   have q1:=Int.ediv_le_self (val vs) a0
   have dsg:=D1b (m:=m) (n:=n) a0 hv
   have hQ:dQ m n ws vs=sg m (val ws) / sg n (val vs):=by rw [dQ,if_pos hc]
   have hR:dR m n ws vs=sg m (val ws) % sg n (val vs):=by rw [dR,if_pos ⟨hc.1,hc.2,by omega⟩]
   have hE:dE m n ws vs=0:=by rw [dE,if_pos hc,if_neg oM]
   rw [hQ,hR,hE,dsg.1,dsg.2]
   refine U1 (xq ?_)
   refine exr (sw (Z1 un45 rfl sz43 dC rX L) t1 t1 ?_)
   refine sw (Y1 ag43 rF rF L) t1 t1 ?_
   refine sw (Z1 un45 rfl sz43 dC rX L) t1 t1 ?_
   refine sw (Y1 ag43 rF rF L) t1 t1 ?_
   refine cK hG hX cl151 hN (v0x ws vs oM oM h h2 ht ht2 hv) L t2 (mV L rfl (sw (i4 rfl L) t1 t0 (sw (i4 rfl L) t1 t0 (aV L rfl (aV L rfl (zn [(2,_),(3,_),(4,_),(5,_),(7,_),(8,_)] [(2,_),(3,_),(4,_),(5,_)] t6 t4 (exr (sw (Z1 un45 rfl sz4 dC rX L) t1 t1 ?_))))))))
   refine sw (Y1 ag4 rF rF L) t1 t1 ?_
   refine sw (Z1 un45 rfl sz4 dC rX L) t1 t1 ?_
   refine sw (Y1 ag4 rF rF L) t1 t1 ?_
   refine sw (v0h un4 L) t2 t0 (mV L rfl (cK hG hX cl131 hN (n7 (m != n) (j0r ws vs) oM ps.1) L t2 (mV L rfl (cK hG hX cl131 hN (n7 false (d0b ws vs) oM ps.2.1) L t2 (sb (U2 sz45 rF pa2 rfl pu2) t2 t1 ?_)))))
   refine sb (U2 sz45 rF pa2 rfl pu2) t2 t1 ?_
   refine zn [(2,_),(3,_),(4,_),(5,_)] [(2,_),(3,_),(4,_),(5,_)] t4 t4 ?_
   rw [ps.2.2.1,ps.2.2.2.1]
   refine R1 ?_
   refine exm (sl:=[(47,vb (decide (¬ (m=true∧val ws % val vs≠0))))]) (sl0:=[(2,_),(3,_),(4,_),(5,_)]) (hb:=[]) (hb0:=[(2,_),(3,_),(4,_),(5,_)]) t4 t4 ?_ ?_
   ·by_cases hm:m=true
    ·refine sw (Z1 un45 rfl sz4 dC rX L) t1 t1 ?_
     refine sw (Y1 ag4 rF rF L) t1 t1 ?_
     refine sw (P3 L) t1 t0 (mV L rfl (swg (g:=42) rfl (by simp [hm]) (Z1 un45 rfl sz43 dC rX L) rfl t1 t1 ?_))
     refine swg (g:=42) rfl (by simp [hm]) (Y1 ag43 rF rF L) rfl t1 t1 ?_
     refine swg (g:=42) rfl (by simp [hm]) (R2 un43 L) rfl t1 t0 ?_
     refine swg (g:=42) rfl (by simp [hm]) (c_e L) rfl t2 t0 ?_
     refine sw (V3 (by simp [hm]) L) t2 t0 ?_
     exact O1 ⟨⟨ob rfl (v7 (by simp only [hm,true_and,Decidable.not_not,ne_eq]; have:=q7 (n:=(sg false (val ws % val vs)).natAbs); have:=B1a (m:=false) r0; omega)),rfl,rfl,rfl,rfl,trivial⟩,t4⟩
    ·refine sw (Z1 un45 rfl sz4 dC rX L) t1 t1 ?_
     refine sw (Y1 ag4 rF rF L) t1 t1 ?_
     refine sw (P3 L) t1 t0 (mV L rfl (swn (g:=42) rfl (by simp [hm]) L rfl ?_))
     refine swn (g:=42) rfl (by simp [hm]) L rfl ?_
     refine swn (g:=42) rfl (by simp [hm]) L rfl ?_
     refine swn (g:=42) rfl (by simp [hm]) L rfl ?_
     refine sw (m4 (by simp [hm]) L) t2 t0 ?_
     exact O1 ⟨⟨ob rfl (by simp [hm]),rfl,rfl,rfl,rfl,trivial⟩,t4⟩
   refine D2 rfl (fun hd=>?_) (fun hd=>?_)
   ·have hd:=dt hd
    rw [if_neg hd,if_neg hd]
    refine exd rF ?_
    refine lp2 ag45 sz45 L rfl rfl (lp2 ag45 sz45 L rfl rfl (sb (U2 sz45 rF pa2 rfl pu2) t2 t1 ?_))
    refine sb (U2 sz45 rF pa2 rfl pu2) t2 t1 ?_
    refine aV L rfl ?_
    refine O1 ⟨B5 [⟨[4],[4],[48],[]⟩,⟨[5],[5],[49],[]⟩,⟨[4,48],[4],[],[4]⟩,⟨[5,49],[5],[],[5]⟩,⟨[],[],[6],[]⟩] rF rF dC,[(4,_),(5,_),(6,_)],[(4,_),(5,_)],t3,t2,?_⟩
    refine V1 ?_
    refine P1 (.agg rfl rfl rfl ag45 sz45 (.cons (.cons .nil))) (.agg rfl rfl rfl ag45 sz45 (.cons (.cons .nil))) (.tmp rfl) ?_
    rfl
   ·have hd:=Decidable.not_not.1 (df hd)
    rw [if_pos hd,if_pos hd]
    have hql:(j3 (sg (m != n) (val ws / val vs)).natAbs).length<9999999999999:=by
     have:=n0c (m:=m != n) ps.1
     rw [ps.2.2.1] at this
     unfold nw at this; omega
    have hrl:(j3 (sg false (val ws % val vs)).natAbs).length<9999999999999:=by
     have:=n0c (m:=false) ps.2.1
     rw [ps.2.2.2.1] at this
     unfold nw at this; omega
    have hbl:(j3 ((sg n (val vs)).natAbs:Int).natAbs).length<9999999999999:=by
     have:=n0c (m:=n) h2
     unfold nw at this
     rw [show ((sg n (val vs)).natAbs:Int).natAbs=(sg n (val vs)).natAbs by simp]; omega
    refine U1 (xq ?_)
    refine exr (sw (Z1 un45 rfl sz43 dC rX L) t1 t1 ?_)
    refine sw (Y1 ag43 rF rF L) t1 t1 ?_
    refine sw (Z1 un45 rfl sz4 dC rX L) t1 t1 ?_
    refine sw (Y1 ag4 rF rF L) t1 t1 ?_
    refine sw (Z1 un45 rfl sz4 dC rX L) t1 t1 ?_
    refine sw (Y1 ag4 rF rF L) t1 t1 ?_
    refine sw (v0h un4 L) t2 t0 (sw (F4 (vs:=[_]) un43 ti119 rfl rfl dC dC rfl (M2 (.cons rfl .nil) rfl) rfl (.cons rfl (.atom rfl) rfl pu1 .nil) (.cons .nil) L) t1 t0 (sw (Z1 un45 rfl sz4 dC rX L) t1 t1 ?_))
    refine sw (Y1 ag4 rF rF L) t1 t1 ?_
    refine sw (Z1 un45 rfl sz4 dC rX L) t1 t1 ?_
    refine sw (Y1 ag4 rF rF L) t1 t1 ?_
    refine sw (v0h un4 L) t2 t0 (cK hG hX cl153 hN (j0j (j3 (sg (m != n) (val ws / val vs)).natAbs) [1] (m != n) (m != n) hql sM (U3 _) (by simp [Wd]) (H9 _) (by simp [Tr])) L t4 ?_)
    refine sb (U2 sz45 rF pa2 rfl pu2) t2 t1 ?_
    refine zn [(3,_),(4,_),(5,_)] [(3,_),(4,_),(5,_)] t3 t3 ?_
    rw [W0q q0]
    refine exd rF ?_
    refine lp2 ag45 sz45 L rfl rfl (lp2 ag45 sz45 L rfl rfl (cK hG hX cl149 hN (B0b n vs oM h2) L t1 (lp2 ag45 sz45 L rfl rfl (cK hG hX cl161 hN (w1f (decide ((if P2 n vs=true then ((sg n (val vs)).natAbs:Int) else 0)<0)) (decide (sg false (val ws % val vs)<0)) (j3 (if P2 n vs=true then ((sg n (val vs)).natAbs:Int) else 0).natAbs) (j3 (sg false (val ws % val vs)).natAbs) (by rw [if_pos hc.2]; exact hbl) hrl (U3 _) (U3 _)) L t2 ?_))))
    refine sb (U2 sz45 rF pa2 rfl pu2) t2 t1 ?_
    refine sb (U2 sz45 rF pa2 rfl pu2) t2 t1 ?_
    refine aV L rfl ?_
    refine O1 ⟨B5 [⟨[4],[4],[64],[]⟩,⟨[3],[3],[65],[]⟩,⟨[65],[],[66],[]⟩,⟨[5],[5],[67],[]⟩,⟨[66,67],[],[68],[]⟩,⟨[4,64],[4],[],[4]⟩,⟨[5,68],[5],[],[5]⟩,⟨[],[],[6],[]⟩] rF rF dC,[(4,_),(5,_),(6,_)],[(4,_),(5,_)],t3,t2,?_⟩
    refine V1 ?_
    refine P1 (.agg rfl rfl rfl ag45 sz45 (.cons (.cons .nil))) (.agg rfl rfl rfl ag45 sz45 (.cons (.cons .nil))) (.tmp rfl) ?_
    rw [if_pos ⟨L3 _,L3 _⟩,D5,D5,if_pos hc.2,B1a (E1 hv),← b1n]; simp [val,sg]
@[reducible] def bI (a:Int):Blk:=⟨45,2,.mix [.p (.a (.bool (decide (a<0)))),.p (.sl (j3 a.natAbs).length (K4 (j3 a.natAbs)))]⟩
theorem P1b (a b:Int)(ha:nw a<999999999999)(hb:nw b<999999999999):Y2 E 140 [pZ a,pZ b] (pZ (a+b)):=by
 have:=B1z (decide (a<0)) (decide (b<0)) (j3 a.natAbs) (j3 b.natAbs) (by unfold nw at ha; omega) (by unfold nw at hb; omega) (U3 _) (U3 _)
 rwa [if_pos ⟨L3 a,L3 b⟩,D5,D5] at this
theorem d1s (a b:Int)(ha:nw a<999999999999)(hb:nw b<999999999999):Y2 E 111 [pZ a,pZ b] (pZ (a*b)):=by
 have:=y1a (decide (a<0)) (decide (b<0)) (j3 a.natAbs) (j3 b.natAbs) (by unfold nw at ha; omega) (by unfold nw at hb; omega) (U3 _) (U3 _)
 rwa [if_pos ⟨L3 a,L3 b⟩,D5,D5] at this
theorem V1p (a b:Int)(ha:nw a<999999999999)(hb:nw b<999999999999)(h0:b≠0):Y2 E 152 [pZ a,pZ b] (.tup [pZ (a / b),pZ (a % b),vZ 0]):=by
 have:=p1y (decide (a<0)) (decide (b<0)) (j3 a.natAbs) (j3 b.natAbs) ha hb (U3 _) (U3 _)
 have hl:(j3 b.natAbs).length≠0:=by rw [Ne,q7]; omega
 rwa [dQ,dR,dE,if_pos ⟨L3 a,L3 b⟩,if_pos ⟨L3 a,L3 b,hl⟩,if_pos ⟨L3 a,L3 b⟩,if_neg hl,D5,D5] at this
theorem Q1g (a:Int)(ha:nw a<999999999999):Y2 E 102 [pZ a] (pZ (-a)):=by
 have:=B1m (decide (a<0)) (j3 a.natAbs) (by unfold nw at ha; omega) (U3 _)
 rwa [if_pos (L3 a),D5] at this
theorem V0n (a:Int)(ha:nw a<999999999999):Y2 E 134 [pZ a] (vZ a.sign):=by
 have:=j1b (decide (a<0)) (j3 a.natAbs) (by unfold nw at ha; omega) (U3 _)
 rwa [if_pos (L3 a),D5] at this
theorem M1f (a b:Int)(ha:nw a<999999999999)(hb:nw b<999999999999):Y2 E 114 [pZ a,pZ b] (vZ (X7 a b)):=by
 have:=q1k (decide (a<0)) (decide (b<0)) (j3 a.natAbs) (j3 b.natAbs) (by unfold nw at ha; omega) (by unfold nw at hb; omega) (U3 _) (U3 _)
 rwa [if_pos ⟨L3 a,L3 b⟩,D5,D5] at this
theorem isZ (a:Int)(ha:nw a<999999999999):Y2 E 130 [pZ a] (bZ true):=by
 have:=E9 (decide (a<0)) (j3 a.natAbs) (by unfold nw at ha; omega)
 rwa [L3 a] at this
theorem p1q (x y:Nat)(hy:0<y):val (d0b (j3 x) (j3 y))=((x % y:Nat):Int):=by
 have:=(v0s (U3 x) (U3 y) (H9 x) (H9 y) (by rw [T4]; omega)).2.2.2.1
 rw [this,T4,T4]; rfl
theorem y1z (m n:Bool)(ws vs:List Int)(hl:ws.length<99999999999)(hl2:vs.length<99999999999)(h:Wd ws)(h2:Wd vs):Y2 E 135 [pI m ws,pI n vs] (pZ (if P2 m ws=true∧P2 n vs=true then (Int.gcd (sg m (val ws)) (sg n (val vs)):Int) else 0)):=by
 refine j2 (xs:=[pZ (if P2 m ws=true∧P2 n vs=true then (Int.gcd (sg m (val ws)) (sg n (val vs)):Int) else 0)]) Tryz.func135 rfl Tryz.ntmps135 Tryz.results135 sM fun F hG hX0 hnt hdf P0=>?_
 obtain ⟨L,hX,hN⟩:=pro hnt hX0 hG
 refine exr (swb (R3 (k:=2) (n:=2) pa2 rfl rfl (P0 _ rfl) L) t1 t0 ⟨rfl,rfl⟩ (swb (R3 (k:=3) (n:=2) pa2 rfl rfl (P0 _ rfl) L) t1 t0 ⟨rfl,rfl⟩ (swb (T3 (k:=4) (n:=2) zv45 (.cons rfl (.cons rfl .nil)) rfl (P0 _ rfl) L) t0 t0 ⟨rfl,rfl⟩ (zn [(2,_),(3,_),(4,_)] [(2,_),(3,_),(4,_)] t3 t3 (R1 (exr (lp2 ag45 sz45 L rfl rfl (lp2 ag45 sz45 L rfl rfl (sw (F4 (vs:=[_,_]) un139 ti45 rfl rfl dC dC rfl (M2 (.cons rfl (.cons rfl .nil)) rfl) rfl (.cons rfl pa2 rfl pu2 (.cons rfl pa2 rfl (.skip (.skip pu2)) .nil)) (.cons (.cons (.cons (.cons .nil)))) L) t2 t0 (cK hG hX cl138 hN (f0g [(m,ws),(n,vs)] sM sO) L t1 ?_))))))))))
 refine sw (P3 L) t1 t0 (zn [(2,_),(3,_),(4,_),(17,_)] [(2,_),(3,_),(4,_)] t4 t3 ?_)
 refine D2 rfl (fun hc=>?_) (fun hc=>?_)
 ·have hc:¬ (P2 m ws=true∧P2 n vs=true):=by rintro ⟨h1,h2⟩; simp [h1,h2] at hc
  refine exr (sw (Y7 (E6 (vs:=[]) un45 zv45 (.cons rfl (.cons rfl .nil)) ((y2.cons sz4 (y2.cons sz43 y2.nil))).to rfl .nil (.cons (.cons .nil)) L) (.agg (.cons .same (.cons .nil .nil)))) t0 t0 (sb (U2 sz45 rF pa2 rfl pu2) t2 t1 ?_))
  refine zn [(4,_)] [(4,_)] t1 t1 (V1 ?_)
  refine Q0 (.agg rfl rfl rfl ag45 sz45 (.cons (.cons .nil))) ?_
  rw [if_neg hc,D8]; rfl
 ·have hc:P2 m ws=true∧P2 n vs=true:=by simpa using hc
  have ab:=B0b m ws oM h
  have ab2:=B0b n vs oM h2
  rw [if_pos hc.1] at ab
  rw [if_pos hc.2] at ab2
  have na:=n0c (m:=m) h
  have nb:=n0c (m:=n) h2
  rw [if_pos hc]
  obtain ⟨A,hA⟩:∃ A,A=sg m (val ws):=⟨_,rfl⟩
  obtain ⟨B,hB⟩:∃ B,B=sg n (val vs):=⟨_,rfl⟩
  rw [← hA] at ab na ⊢
  rw [← hB] at ab2 nb ⊢
  refine U1 (xq ?_)
  refine exd rF ?_
  refine lp2 ag45 sz45 L rfl rfl (cK hG hX cl149 hN ab L t1 (lp2 ag45 sz45 L rfl rfl (cK hG hX cl149 hN ab2 L t1 (swb (T3 (k:=5) (n:=2) zv45 (.cons rfl (.cons rfl .nil)) rfl (P0 _ rfl) L) t0 t0 ⟨rfl,rfl⟩ (swb (T3 (k:=6) (n:=2) zv45 (.cons rfl (.cons rfl .nil)) rfl (P0 _ rfl) L) t0 t0 ⟨rfl,rfl⟩ (sb (U2 sz45 rF pa2 rfl pu2) t2 t1 ?_))))))
  refine sb (U2 sz45 rF pa2 rfl pu2) t2 t1 ?_
  refine O1 ⟨aok rfl rfl,[(4,_),(5,_),(6,_)],[(4,_),(5,_),(6,_)],t3,t3,?_⟩
  refine R1 (X1 ?_)
  refine exl (α:=(Nat×Nat)) (fun x=>[]) (fun x=>[(5,bI (x.1:Int)),(6,bI (x.2:Int))]) (fun x=>Nat.gcd x.1 x.2=Int.gcd A B∧x.1≤max A.natAbs B.natAbs∧x.2≤max A.natAbs B.natAbs) (fun x=>x.2) ((A.natAbs,B.natAbs)) (sl:=[(4,_),(5,_),(6,_)]) (hb:=[(4,_)]) ?_ t3 t3 ?_
  ·exact ⟨rfl,Nat.le_max_left _ _,Nat.le_max_right _ _⟩
  intro x hx
  obtain ⟨x,y⟩:=x
  obtain ⟨hg,hx,hy⟩:=hx
  simp only at hg hx hy
  dsimp only
  have hnx:nw (x:Int)<99999999999:=by
   rcases (show x≤A.natAbs∨x≤B.natAbs by omega) with c | c
   ·have:=F8 (a:=(x:Int)) (b:=A) (by simpa using c); omega
   ·have:=F8 (a:=(x:Int)) (b:=B) (by simpa using c); omega
  have hny:nw (y:Int)<99999999999:=by
   rcases (show y≤A.natAbs∨y≤B.natAbs by omega) with c | c
   ·have:=F8 (a:=(y:Int)) (b:=A) (by simpa using c); omega
   ·have:=F8 (a:=(y:Int)) (b:=B) (by simpa using c); omega
  have hdx:=U3 (x:Int).natAbs
  have hdy:=U3 (y:Int).natAbs
  unfold nw at hnx hny
  refine R1 (exr (sw (Z1 un45 rfl sz43 dC rX L) t1 t1 ?_))
  refine sw (Y1 ag43 rF rF L) t1 t1 ?_
  refine sw (R2 un43 L) t1 t0 (sw (X6 L) t2 t0 (zn [(4,_),(5,_),(6,_),(26,_)] [(4,_),(5,_),(6,_)] t4 t3 ?_))
  refine D2 rfl (fun he=>?_) (fun he=>?_)
  ·have he:=dt he
   have hyp:0<y:=by
    by_cases c:y=0
    ·subst c; simp [X4] at he
    ·omega
   refine U1 (xq ?_)
   refine X1 (exr (sw (Z1 un45 rfl sz43 dC rX L) t1 t1 ?_))
   refine sw (Y1 ag43 rF rF L) t1 t1 ?_
   refine cK hG hX cl150 hN (k0k (j3 (x:Int).natAbs) oM hdx) L t1 (mV L rfl (sw (i4 rfl L) t1 t0 (sw (i4 rfl L) t1 t0 (aV L rfl (aV L rfl (zn [(4,_),(5,_),(6,_),(7,_),(8,_)] [(4,_),(5,_),(6,_)] t5 t3 (exr (sw (Z1 un45 rfl sz43 dC rX L) t1 t1 ?_))))))))
   refine sw (Y1 ag43 rF rF L) t1 t1 ?_
   refine cK hG hX cl150 hN (k0k (j3 (y:Int).natAbs) oM hdy) L t1 (mV L rfl (sw (i4 rfl L) t1 t0 (sw (i4 rfl L) t1 t0 (aV L rfl (aV L rfl (zn [(4,_),(5,_),(6,_),(7,_),(8,_),(9,_),(10,_)] [(4,_),(5,_),(6,_)] t7 t3 (R1 ?_)))))))
   refine exm (sl:=[(42,vb (decide ((j3 (x:Int).natAbs).length≤2∧(j3 (y:Int).natAbs).length≤2)))]) (sl0:=[(4,_),(5,_),(6,_),(7,_),(9,_)]) (hb:=[]) (hb0:=[(4,_),(5,_),(6,_)]) t5 t3 ?_ ?_
   ·by_cases hs:(j3 (x:Int).natAbs).length≤2
    ·refine mV L rfl (mV L rfl (gV (g:=40) rfl (decide_eq_true hs) L rfl rfl (sw (m4 (decide_eq_true hs) L) t2 t0 ?_)))
     exact O1 ⟨⟨ob rfl (v7 ⟨fun c=>⟨hs,c⟩,fun c=>c.2⟩),rfl,rfl,rfl,rfl,rfl,trivial⟩,t3⟩
    ·refine mV L rfl (mV L rfl (swn (g:=40) rfl (decide_eq_false hs) L rfl (sw (V3 (decide_eq_false hs) L) t2 t0 ?_)))
     exact O1 ⟨⟨ob rfl (decide_eq_false (fun c=>hs c.1)).symm,rfl,rfl,rfl,rfl,rfl,trivial⟩,t3⟩
   refine D2 rfl (fun hs=>?_) (fun hs=>?_)
   ·have hs:=dt hs
    rw [if_pos hs.1,if_pos hs.2,T4,T4]
    have sx:=F0x hdx hs.1
    have sy:=F0x hdy hs.2
    rw [T4] at sx sy
    refine R1 (X1 ?_)
    refine exl (α:=(Nat×Nat)) (fun z=>[(7,vw (z.1:Int)),(9,vw (z.2:Int))]) (fun z=>[]) (fun z=>Nat.gcd z.1 z.2=Int.gcd A B∧z.1<18446744073709551616∧z.2<18446744073709551616) (fun z=>z.2) ((x,y)) (sl:=[(4,_)]) (hb:=[(4,_)]) ?_ ⟨oR,oR,rfl,trivial⟩ t1 ?_
    ·exact ⟨hg,by simp only; omega,by simp only; omega⟩
    intro z hz
    obtain ⟨u,v⟩:=z
    obtain ⟨hg2,hu,hv⟩:=hz
    simp only at hg2 hu hv
    dsimp only
    refine R1 (exr (mV L rfl (sw (X6 L) t2 t0 (zn [(4,_),(7,_),(9,_),(44,_)] [(4,_)] t4 t1 ?_))))
    refine D2 rfl (fun hf=>?_) (fun hf=>?_)
    ·have hf:=dt hf
     have hlt:=Nat.mod_lt u (show 0<v by omega)
     refine U1 (xq ?_)
     refine X1 (m0v rF ?_)
     refine mV L rfl (mV L rfl (mV L rfl (sw (c_r L oM (show _=((u % v:Nat):Int) by rw [V0r oM oM]; rfl)) t2 t0 ?_)))
     refine aV L rfl (aV L rfl ?_)
     refine O1 ⟨B5 [⟨[9],[],[45],[]⟩,⟨[7],[],[46],[]⟩,⟨[9],[],[47],[]⟩,⟨[46,47],[],[48],[]⟩,⟨[45],[],[7],[]⟩,⟨[48],[],[9],[]⟩] rF rF dC,?_⟩
     exact ⟨(v,u % v),⟨by rw [← n0p]; exact hg2,hv,by simp only; omega⟩,(by simp only; omega),E3 ⟨oR,oR,rfl,trivial⟩ t1⟩
    ·have hf:=df hf
     have hv0:v=0:=by omega
     subst hv0
     rw [Nat.gcd_zero_right] at hg2
     subst hg2
     refine L2 (xq ?_)
     refine exr (mV L rfl (cK hG hX cl129 hN (D9 false (Int.gcd A B:Nat) oM oM) L t2 (sb (U2 sz45 rF pa2 rfl pu2) t2 t1 ?_)))
     refine zn [(4,_)] [(4,_)] t1 t1 (V1 ?_)
     refine Q0 (.agg rfl rfl rfl ag45 sz45 (.cons (.cons .nil))) ?_
     rfl
   ·have hs:=df hs
    have ps:=v0s hdx hdy (H9 _) (H9 _) (by rw [T4]; omega)
    refine U1 (xq ?_)
    refine exr (sw (Z1 un45 rfl sz43 dC rX L) t1 t1 ?_)
    refine sw (Y1 ag43 rF rF L) t1 t1 ?_
    refine sw (Z1 un45 rfl sz43 dC rX L) t1 t1 ?_
    refine sw (Y1 ag43 rF rF L) t1 t1 ?_
    refine cK hG hX cl151 hN (v0x (j3 (x:Int).natAbs) (j3 (y:Int).natAbs) oM oM hdx hdy (H9 _) (H9 _) (by rw [T4]; omega)) L t2 ?_
    refine mV L rfl (sw (i4 rfl L) t1 t0 (sw (i4 rfl L) t1 t0 (aV L rfl (aV L rfl (zn [(4,_),(5,_),(6,_),(12,_)] [(4,_),(5,_),(6,_)] t4 t3 ?_)))))
    have pr:sg false (val (d0b (j3 (x:Int).natAbs) (j3 (y:Int).natAbs)))=((x % y:Nat):Int):=p1q x y hyp
    have md:=n7 false (d0b (j3 (x:Int).natAbs) (j3 (y:Int).natAbs)) oM ps.2.1
    rw [pr] at md
    have hml:=Nat.mod_lt x hyp
    refine m0v rF ?_
    refine lp2 ag45 sz45 L rfl rfl (mV L rfl (cK hG hX cl131 hN md L t2 (sb (U2 sz45 rF pa2 rfl pu2) t2 t1 ?_)))
    refine sb (U2 sz45 rF pa2 rfl pu2) t2 t1 ?_
    refine O1 ⟨B5 [⟨[6],[6],[59],[]⟩,⟨[12],[],[60],[]⟩,⟨[60],[],[61],[]⟩,⟨[5,59],[5],[],[5]⟩,⟨[6,61],[6],[],[6]⟩] rF rF dC,?_⟩
    exact ⟨(y,x % y),⟨by rw [← n0p]; exact hg,hy,by simp only; omega⟩,(by simp only; omega),E3 t3 t3⟩
  ·have he:=df he
   have hy0:y=0:=by
    have:(j3 (y:Int).natAbs).length=0:=by omega
    rw [q7] at this; omega
   subst hy0
   rw [Nat.gcd_zero_right] at hg
   subst hg
   refine L2 (xq ?_)
   refine exr (lp2 ag45 sz45 L rfl rfl (sb (U2 sz45 rF pa2 rfl pu2) t2 t1 ?_))
   refine zn [(4,_)] [(4,_)] t1 t1 (V1 ?_)
   refine Q0 (.agg rfl rfl rfl ag45 sz45 (.cons (.cons .nil))) ?_
   rfl
theorem P1w (a b:Int)(ha:nw a<99999999999)(hb:nw b<99999999999):Y2 E 135 [pZ a,pZ b] (pZ (Int.gcd a b:Int)):=by
 have:=y1z (decide (a<0)) (decide (b<0)) (j3 a.natAbs) (j3 b.natAbs) ha hb (U3 _) (U3 _)
 rwa [if_pos ⟨L3 a,L3 b⟩,D5,D5] at this
end Go.Proofs.YtjagfionflbjbaaGreat.N
namespace Go.Proofs.YtjagfionflbjbaaGreat.NumA
open Go
theorem Y0z {ws vs:List Int}{m k:Nat}(h:Wd ws)(h2:Wd vs)(ht2:Tr vs)(hm:vs.length=m+2)(hk:k+bl (vs.getD (vs.length - 1) 0).toNat=32)(hle:val vs≤val ws){W Dv:List Int}(hW:W=j3 (val ws*2 ^ k).toNat++[0,0])(hD:Dv=j3 (val vs*2 ^ k).toNat) :
  k<32∧0<val vs∧0<val Dv∧val Dv<4294967296 ^ (m+2)∧val Dv=val vs*2 ^ k∧Dv.length=m+2∧2147483648≤Dv.getD (m+1) 0∧val W=val ws*2 ^ k∧Wd W∧Wd Dv∧m+2≤W.length∧W.length≤ws.length+3 ∧
  W8 W (m+2) (val Dv) (W.length - (m+2),val (W.drop (W.length - (m+2))),[]):=by
 have hlen:=v0d h h2 ht2 hle
 obtain ⟨p1,p2,p3,p4,p5,p6,p7,p8,-⟩:=F0w h h2 ht2 hm hk hlen
 have hn:vs≠[]:=by intro e; rw [e] at hm; simp at hm
 obtain ⟨n1,n2,n3⟩:=g1s h2 ht2 hn hk
 have hp:(0:Int)<2 ^ k:=Int.pow_pos (by decide)
 have eD:Dv=E4 (m+2) (val vs*2 ^ k):=by
  rw [hD,← p5]
  have:=l9 (y6 (m+2) (val vs*2 ^ k)) (.inr (by rw [C3,show m+2 - 1=m+1 by omega]; omega))
  rw [this,p5]
 have vD:val Dv=val vs*2 ^ k:=by rw [eD,p5]
 have sw:=D0q h (Nat.le_of_lt n3)
 have vd:val (j3 (val ws*2 ^ k).toNat)=val ws*2 ^ k:=by rw [T4]; omega
 have vW:val W=val ws*2 ^ k:=by rw [hW,T6,vd]; simp [val]
 have wD:=U3 (val ws*2 ^ k).toNat
 have wW:Wd W:=by
  rw [hW]; refine wD.append fun w hw=>?_
  simp only [List.mem_cons,List.not_mem_nil,or_false,or_self] at hw; subst hw; decide
 have hl0:m+2≤(j3 (val ws*2 ^ k).toNat).length:=by
  have h3:val vs*2 ^ k≤val ws*2 ^ k:=Z0 hle (E1 hp)
  rw [hm,show m+2 - 1=m+1 by omega] at n1
  have h4:=l5 wD
  rw [vd] at h4
  by_cases c:m+2≤(j3 (val ws*2 ^ k).toNat).length
  ·exact c
  ·have h5:=y0r (show (j3 (val ws*2 ^ k).toNat).length≤m+1 by omega)
   have:=q0g (m+1)
   omega
 have hl1:(j3 (val ws*2 ^ k).toNat).length≤ws.length+1:=G0x sw.1 sw.2
 have hWl:W.length=(j3 (val ws*2 ^ k).toNat).length+2:=by rw [hW]; simp
 refine ⟨n3,p2,by omega,by omega,vD,by rw [eD,C3],by rw [eD]; exact p7,vW,wW,by rw [hD]; exact U3 _,by omega,by omega,?_⟩
 refine W8.start wW (by omega) ?_
 have e1:W.drop (W.length - (m+2))=(j3 (val ws*2 ^ k).toNat).drop ((j3 (val ws*2 ^ k).toNat).length - m)++[0,0]:=by
  rw [hWl,hW,List.drop_append_of_le_length (by omega)]
  congr 2; omega
 rw [e1,T6]
 have h6:=l5 (wD.drop ((j3 (val ws*2 ^ k).toNat).length - m))
 rw [List.length_drop] at h6
 have h7:=y0r (show (j3 (val ws*2 ^ k).toNat).length - ((j3 (val ws*2 ^ k).toNat).length - m)≤m+1 by omega)
 rw [hm,show m+2 - 1=m+1 by omega] at n1
 have:=q0g (m+1)
 have e2:val [0,0]=0:=by simp [val]
 rw [e2,Int.mul_zero]
 omega
structure K8 (win vs:List Int) (x:Int×List Int×Int):Prop where
 q:val win / val vs≤x.1∧x.1<4294967296
 len:x.2.1.length=win.length
 wd:Wd x.2.1
 b:x.2.2=0∨x.2.2=1
 eq:val x.2.1=val win - x.1*val vs+4294967296 ^ win.length*x.2.2
 iff:x.2.2=0↔x.1*val vs≤val win
theorem K8.start {win vs ys:List Int}{q c b:Int}(h:Wd win)(hl:vs.length<win.length)(h2:Wd vs)(hq:0≤q∧q<4294967296)(hQ:val win / val vs≤q)(ha:X8 win vs q (win.length,ys,c,b)):K8 win vs (q,ys,b):=by
 have h1:=ha.end_ h hl h2 hq
 exact ⟨⟨hQ,hq.2⟩,ha.len,ha.wd,ha.b,h1.2.1,h1.2.2⟩
theorem K8.more {win vs w1 ys:List Int}{q e:Int}(hw:Wd win)(hl:vs.length≤win.length)(h2:Wd vs)(hD:0<val vs)(ha:K8 win vs (q,w1,1))(hb:y9 w1 vs (win.length,ys,e)):K8 win vs (q - 1,ys,1 - e)∧0<q:=by
 have hnot:¬ q*val vs≤val win:=fun c=>by have:=ha.iff.2 c; simp only at this; omega
 have hq:=ha.q
 simp only at hq
 have hlt:val win / val vs<q:=by
  by_cases c:val win / val vs<q
  ·exact c
  ·have e:val win / val vs=q:=by omega
   exact absurd (by rw [← e]; exact Int.ediv_mul_le _ (by omega)) hnot
 have h0:=Int.ediv_nonneg (G2 hw) (E1 hD)
 have:=n1f hl h2 ha.eq ha.len ha.wd hw hb hnot
 have hc:=hb.c
 simp only at hc
 refine ⟨⟨by simp only; omega,hb.len,hb.wd,by simp only; omega,this.1,this.2⟩,by omega⟩
theorem K8.pos {win vs w1:List Int}{q:Int}(hw:Wd win)(hD:0<val vs)(ha:K8 win vs (q,w1,1)):0<q:=by
 have hnot:¬ q*val vs≤val win:=fun c=>by have:=ha.iff.2 c; simp only at this; omega
 have hq:=ha.q
 simp only at hq
 have h0:=Int.ediv_nonneg (G2 hw) (E1 hD)
 by_cases c:0<q
 ·exact c
 ·have e:q=0:=by omega
  rw [e,Int.zero_mul] at hnot
  exact absurd (G2 hw) hnot
theorem K8.done {win vs w1:List Int}{q:Int}(hw:Wd win)(hD:0<val vs)(ha:K8 win vs (q,w1,0)):q=val win / val vs∧w1=E4 win.length (val win % val vs):=by
 have hle:=ha.iff.1 rfl
 have hq:=ha.q
 have he:=ha.eq
 have hlen:=ha.len
 simp only at hle hq he hlen
 have h1:=(Int.le_ediv_iff_mul_le hD).2 hle
 have e1:q=val win / val vs:=by omega
 refine ⟨e1,?_⟩
 have e2:val w1=val win % val vs:=by
  rw [he,e1,Int.mul_zero,Int.add_zero]
  have:=Int.mul_ediv_add_emod (val win) (val vs)
  rw [Int.mul_comm] at this; omega
 rw [← e2,← hlen]; exact (j7 ha.wd).symm
end Go.Proofs.YtjagfionflbjbaaGreat.NumA
namespace Go.Proofs.YtjagfionflbjbaaGreat.SH
open Go Go.RowKit
section
variable {P:Program} {F:Fr} {d:Nat} {T:TypeId} {pos:String} {aft:Array Edge} {g:Option (Nat×Bool)} {t:TypeId}
end
end Go.Proofs.YtjagfionflbjbaaGreat.SH
namespace Go.Proofs.YtjagfionflbjbaaGreat.SH
open Go Go.RowKit
end Go.Proofs.YtjagfionflbjbaaGreat.SH
namespace Go.Proofs.YtjagfionflbjbaaGreat.SH
open Go Go.RowKit
section
variable {P:Program} {F:Fr} {d:Nat} {T:TypeId} {pos:String} {aft:Array Edge} {g:Option (Nat×Bool)} {t tx:TypeId}
variable {x y:Operand} {xT yT:TypeId} {s u:ByteArray}
end
end Go.Proofs.YtjagfionflbjbaaGreat.SH
namespace Go.Proofs.YtjagfionflbjbaaGreat.SH
open Go Go.RowKit
theorem w0j.data {E:Env}{f:FuncId}{args xs:List J2}{T:TypeId}{sz n:Nat}(h:w0j E f args T sz n xs):Y2 E f args (.sl n xs):=by
 intro ok w vals hG hrel
 refine (h ok w vals hG hrel).mono ?_
 rintro e w' ⟨b,cap,c,rfl,hn,hb,hH,hc,hl,hx,hbel⟩
 refine ⟨_,rfl,?_,hbel⟩
 simp only [Rel]
 refine ⟨some ⟨b,0,none⟩,cap,rfl,hn,I7.of (.inr hb) (Y4.of fun i y hy=>?_)⟩
 obtain ⟨u,h1,h2,h3⟩:=hx i y hy
 refine ⟨u,by rw [M7 hH,F1]; exact h1,h2,?_⟩
 exact Rel.mono (fun a ha hne=>⟨ha.1,rfl⟩) y u h3
end Go.Proofs.YtjagfionflbjbaaGreat.SH
set_option maxRecDepth 100000
set_option maxHeartbeats 4000000
namespace Go.Proofs.YtjagfionflbjbaaGreat.N
open Go Go.Proofs.YtjagfionflbjbaaGreat.SH Go.Proofs.YtjagfionflbjbaaGreat.NumA
open Go.Proofs.Tryz renaming call117→cl117,call118→cl118,call119→cl119,call120→cl120,call122→cl122,call142→cl142,call143→cl143,call144→cl144,call145→cl145,call146→cl146,call147→cl147,call154→cl154,call165→cl165,call166→cl166,call167→cl167,call168→cl168,call77→cl77,isAgg119→ag119,isAgg43→ag43,isAgg45→ag45,isAgg4→ag4,sizeOf119→sz119,sizeOf43→sz43,sizeOf45→sz45,sizeOf4→sz4,typeInfo119→ti119,underlying119→un119,underlying127→un127,underlying43→un43,underlying45→un45,underlying4→un4,zeroValue45→zv45
theorem J1a {xs ys win zs:List Int}{i j:Nat}(hx:xs.length=i)(hl:ys.length=j)(hj:j<win.length):(K4 (xs++((ys++win.drop j)++zs)))[i+j]? = some (.a (.int .u32 (win.getD j 0))):=by
 subst hx; exact v1c hl hj
theorem Q0d {xs ys win zs:List Int}{i j:Nat}(hx:xs.length=i)(hl:ys.length=j)(hj:j<win.length){d:Int}:(xs++((ys++win.drop j)++zs)).set (i+j) d=xs++(((ys++[d])++win.drop (j+1))++zs):=by
 subst hx; exact n0h hl hj d
theorem Y0p (ws vs:List Int)(hl:ws.length<900000000000)(hl2:vs.length<900000000000)(h:Wd ws)(h2:Wd vs)(ht:Tr ws)(ht2:Tr vs)(hv:0<val vs):Y2 E 154 [pW ws,pW vs] (.tup [pW (j3 (val ws / val vs).toNat),pW (j3 (val ws % val vs).toNat)]):=by
 refine j2 (xs:=[pW (j3 (val ws / val vs).toNat),pW (j3 (val ws % val vs).toNat)]) Tryz.func154 rfl Tryz.ntmps154 Tryz.results154 sM fun F hG hX0 hnt hdf P0=>?_
 obtain ⟨L,hX,hN⟩:=pro hnt hX0 hG
 have a0:=G2 h
 have q0:=Int.ediv_nonneg a0 (E1 hv)
 have r0:=Int.emod_nonneg (val ws) (show val vs≠0 by omega)
 have r1:=Int.emod_lt_of_pos (val ws) hv
 refine exr (aV L rfl (aV L rfl (zn [(0,_),(1,_)] [] t2 trivial (R1 (exr (mV L rfl (mV L rfl (cK hG hX cl143 hN (H0j ws vs oM oM h h2 ht ht2) L t2 (sw (d4 L) t2 t0 (zn [(0,_),(1,_),(22,_)] [] t3 trivial ?_))))))))))
 refine D2 rfl (fun hc=>?_) (fun hc=>?_)
 ·have hc:=dt hc
  rw [j0c] at hc
  refine exr (mV L rfl (aV L rfl (aV L rfl (zn [(4,_),(5,_)] [] t2 trivial (G4 [] (sl:=[(4,_),(5,_)]) (hb:=[]) (M3 hX0) ⟨⟨_,rfl,(.p .nil)⟩,⟨_,rfl,.same⟩,trivial⟩ t0 (V1 ?_))))))
  refine Y0 (.tmp rfl) (.tmp rfl) ?_
  rw [Int.ediv_eq_zero_of_lt a0 hc,Int.emod_eq_of_lt a0 hc,l9 h ht]; simp [X4,K4]
 ·have hc:=df hc
  have hge:val vs≤val ws:=by rw [j0c] at hc; omega
  have hlen:=v0d h h2 ht2 hge
  refine U1 (xq ?_)
  refine R1 (exr (mV L rfl (sw (R2 un43 L) t1 t0 (sw (c_e L) t2 t0 (zn [(0,_),(1,_),(26,_)] [] t3 trivial ?_)))))
  refine D2 rfl (fun h1=>?_) (fun h1=>?_)
  ·have h1:=dt h1
   have hl1:vs.length=1:=by omega
   have hv1:=k0q hl1
   have hvb:=k0r h2 oM
   have a1:=P0q ws (vs.getD 0 0) oM h oM
   rw [hv1] at a1
   refine exr (mV L rfl (mV L rfl (sw (ixJ un43 sz119 (j:=0) rfl oM sM L) t2 t0 ?_)))
   refine sw (v4 ag119 (by first | exact Z5 oM | rfl) L) t1 t0 ?_
   refine sw (y4 un119 un127 L (show _=val vs by rw [hv1]; exact P1j oM oM)) t1 t0 ?_
   refine cK hG hX cl165 hN a1 L t2 (sw (i4 rfl L) t1 t0 (sw (i4 rfl L) t1 t0 (aV L rfl (aV L rfl (zn [(4,_),(5,_)] [] t2 trivial (V1 ?_))))))
   refine Y0 (.tmp rfl) (.tmp rfl) ?_
   rfl
  ·have h1:=df h1
   have hvn:vs.length≠0:=by
    intro e
    rw [E0 e] at hv; simp [val] at hv
   obtain ⟨m,hm⟩:∃ m,vs.length=m+2:=⟨vs.length - 2,by omega⟩
   have htw:=h2.getD (vs.length - 1)
   have hbl:=F1h htw.2
   obtain ⟨k,hk⟩:∃ k:Nat,k+bl (vs.getD (vs.length - 1) 0).toNat=32:=⟨32 - bl (vs.getD (vs.length - 1) 0).toNat,by omega⟩
   have hbv:=b1y h2 ht2 (fun e=>by rw [e] at hm; simp at hm)
   obtain ⟨W,hW⟩:∃ W,W=j3 (val ws*2 ^ k).toNat++[0,0]:=⟨_,rfl⟩
   obtain ⟨Dv,hDe⟩:∃ Dv,Dv=j3 (val vs*2 ^ k).toNat:=⟨_,rfl⟩
   obtain ⟨k32,-,hDpos,hDlt,hDv,hDl,htop,hWv,hWd,hDwd,hWl,hWl2,hstart⟩:=Y0z h h2 ht2 hm hk hge hW hDe
   have hlW:(j3 (val ws*2 ^ k).toNat).length+2=W.length:=by rw [hW]; simp
   refine U1 (xq ?_)
   refine exr (mV L rfl (sw (R2 un43 L) t1 t0 (sw (Q0c L (w64 oM oM)) t2 t0 (mV L rfl (cK hG hX cl166 hN (N0k vs oM h2 ht2) L t1 (sw (q6 L (show _=(k:Int) by rw [hbv,show (32*(vs.length:Int) - (32*((vs.length:Int) - 1)+(bl (vs.getD (vs.length - 1) 0).toNat:Int)))=(k:Int) by omega]; exact w64 oM oM)) t2 t0 ?_))))))
   refine aV L rfl (zn [(0,_),(1,_),(6,_)] [] t3 trivial (exr (mV L rfl (mV L rfl (cK hG hX cl167 hN (m0h vs k oM h2 oM).data L t2 (aV L rfl (zn [(0,_),(6,_),(7,_)] [] t3 trivial ?_)))))))
   rw [← hDe]
   refine exr (mV L rfl (mV L rfl (swb (V0k (k:=46) hG hX cl167 rfl hN (m0h ws k oM h oM) (P0 _ rfl) L) t2 t0 ⟨rfl,rfl⟩ (sw (F4 (vs:=[_,_]) un43 ti119 rfl rfl dC dC rfl (M2 (.cons rfl .nil) rfl) rfl (.cons rfl (.atom rfl) rfl pu1 (.cons rfl (.atom rfl) rfl (.skip pu1) .nil)) (.cons (.cons .nil)) L) t2 t0 (swb (apP (sz:=1) un43 un43 ti119 rfl rfl rfl dC (by exact sM) oF sM rfl rfl rfl (by first | (simp [Tryz.t119]; done) | (simp [Tryz.t119]; omega)) oM (P0 _ rfl) L) t2 t1 t0 ?_)))))
   refine aV L rfl (zn [(5,_),(6,_),(7,_)] [(46,_)] t3 t1 ?_)
   rw [show K4 (j3 (val ws*2 ^ k).toNat)++[J2.a (Value.int IntKind.u32 0),J2.a (Value.int IntKind.u32 0)]=K4 W by rw [hW]; simp [K4]]
   rw [show (j3 (val ws*2 ^ k).toNat).length*1+2*1=W.length by omega,hlW]
   refine exr (mV L rfl (sw (R2 un43 L) t1 t0 (aV L rfl (zn [(5,_),(6,_),(7,_),(8,_)] [(46,_)] t4 t1 (exr (mV L rfl (sw (p0d un43 (by exact sM) L) t1 t1 ?_)))))))
   refine mV L rfl (sw (q6 L (w64 oM oM)) t2 t0 (swb (v0b (k:=55) un43 ti119 rfl rfl rfl rfl (show _=((W.length - (m+2):Nat):Int) by omega) (show _=((W.length - (m+2):Nat):Int) by omega) (Nat.le_refl _) (by simp [Tryz.t119]; omega) oM (P0 _ rfl) L) t2 t0 ⟨rfl,rfl⟩ ?_))
   refine aV L rfl (zn [(4,_),(5,_),(6,_),(7,_),(8,_)] [(46,_),(55,_)] t5 t2 (R1 (exr (mV L rfl (sw (p0d un43 (by exact sM) L) t1 t1 ?_)))))
   refine mV L rfl (sw (q6 L (w64 oM oM)) t2 t0 (sw (q6 L (w64 oM oM)) t2 t0 (aV L rfl (zn [(4,_),(5,_),(6,_),(7,_),(8,_),(9,_)] [(46,_),(55,_)] t6 t2 (X1 ?_)))))
   refine exl (α:=(Nat×Int×List Int)) (fun x=>[(9,vi ((x.1:Int) - 1))]) (fun x=>[(46,⟨119,1,.pure (K4 (G7 W (m+2) x.1 x.2.1))⟩),(55,⟨119,1,.pure (K4 (List.replicate x.1 0++x.2.2))⟩)]) (fun x=>W8 W (m+2) (val Dv) x) (fun x=>x.1) ((W.length - (m+2),val (W.drop (W.length - (m+2))),([]:List Int))) (sl:=[(4,_),(5,_),(6,_),(7,_),(8,_)]) (hb:=[]) ?_ ⟨oi oM rfl,rfl,rfl,rfl,rfl,rfl,trivial⟩ ⟨obl rfl (by rw [n0x hWd oM]),obl rfl (by rw [X9,List.append_nil]),trivial⟩ ?_
   ·exact hstart
   intro x hx
   obtain ⟨r,R,qs⟩:=x
   have hle:=hx.le
   have hr:=hx.r
   have hlq:=hx.len
   simp only at hle hr hlq
   dsimp only
   refine R1 (exr (mV L rfl (sw (b0p L) t2 t0 (zn [(4,_),(5,_),(6,_),(7,_),(8,_),(9,_),(62,_)] [(46,_),(55,_)] t7 t2 ?_))))
   refine D2 rfl (fun he=>?_) (fun he=>?_)
   ·have he:=dt he
    obtain ⟨i,rfl⟩:∃ i,r=i+1:=⟨r - 1,by omega⟩
    have ei:(((i+1:Nat):Int) - 1)=(i:Int):=by omega
    rw [ei]
    obtain ⟨w1,w2,w3,w4⟩:=hx.win hWd hDlt
    obtain ⟨win,hwin⟩:∃ win,win=W.getD i 0 :: E4 (m+2) R:=⟨_,rfl⟩
    rw [← hwin] at w1 w2 w3 w4
    obtain ⟨zs,hzs⟩:∃ zs:List Int,zs=List.replicate (W.length - (m+2) - (i+1)) 0:=⟨_,rfl⟩
    have hzl:zs.length=W.length - (m+2) - (i+1):=by rw [hzs,List.length_replicate]
    rw [B0x oM,← hwin,← hzs]
    obtain ⟨xs,hxs⟩:∃ xs,xs=W.take i:=⟨_,rfl⟩
    have hti:xs.length=i:=by rw [hxs]; simp; omega
    rw [← hxs]
    obtain ⟨-,g1,g2,g3,g4,g5⟩:=v0v w1 hDwd (n:=m) w2 hDl htop w4
    have hu0:=w1.getD (m+2)
    have hu1:=w1.getD (m+1)
    have hd1:=hDwd.getD (m+1)
    have key:=hx.next hWd hDpos w3
    obtain ⟨U,hU⟩:∃ U,U=win.getD (m+2) 0*4294967296+win.getD (m+1) 0:=⟨_,rfl⟩
    rw [← hU] at g4 g5
    have hUq0:0≤U / Dv.getD (m+1) 0:=Int.ediv_nonneg oM oM
    have hUq1:U / Dv.getD (m+1) 0≤U:=Int.ediv_le_self _ oM
    refine U1 (xq ?_)
    refine R1 (X1 (exd rF ?_))
    refine mV L rfl (mV L rfl (mV L rfl (sw (K3 L (w64 oM oM)) t2 t0 (sw (C6 un43 sz119 (by exact (by simp [s4 hle] <;> omega)) (j:=i+(m+2)) rO oM L) t2 t1 ?_))))
    refine sw (Y1 ag119 (by exact (by simp [s4 hle] <;> omega)) (g0m (y1k hti oM)) L) t1 t1 ?_
    refine sw (y4 un119 un127 L (J4 oM oM)) t1 t0 (sw (w0z L dC (H0a (c:=4294967296) rF (J4 oM oM))) t2 t0 ?_)
    refine mV L rfl (mV L rfl (mV L rfl (sw (K3 L (w64 oM oM)) t2 t0 (sw (q6 L (w64 oM oM)) t2 t0 (sw (C6 un43 sz119 (by exact (by simp [s4 hle] <;> omega)) (j:=i+(m+1)) rO oM L) t2 t1 ?_)))))
    refine sw (Y1 ag119 (by exact (by simp [s4 hle] <;> omega)) (g0m (y1k hti oM)) L) t1 t1 ?_
    refine sw (y4 un119 un127 L (J4 oM oM)) t1 t0 (sw (q0q L (F0j (b:=win.getD (m+2) 0) 32 rfl hu1.1 hu1.2 hu0.1 dC oM oM)) t2 t0 (aV L rfl ?_))
    refine O1 ⟨B5 [⟨[5],[],[65],[]⟩,⟨[9],[],[66],[]⟩,⟨[8],[],[67],[]⟩,⟨[66,67],[],[68],[]⟩,⟨[65,68],[46],[69],[]⟩,⟨[69],[46],[70],[]⟩,⟨[70],[],[71],[]⟩,⟨[71],[],[72],[]⟩,⟨[5],[],[73],[]⟩,⟨[9],[],[74],[]⟩,⟨[8],[],[75],[]⟩,⟨[74,75],[],[76],[]⟩,⟨[76],[],[77],[]⟩,⟨[73,77],[46],[78],[]⟩,⟨[78],[46],[79],[]⟩,⟨[79],[],[80],[]⟩,⟨[72,80],[],[81],[]⟩,⟨[81],[],[10],[]⟩] rF rF dC,[(4,_),(5,_),(6,_),(7,_),(8,_),(9,_),(10,vw U)],[(46,_),(55,_)],⟨rfl,rfl,rfl,rfl,rfl,rfl,oi oM rfl,trivial⟩,t2,?_⟩
    refine exr (mV L rfl (mV L rfl (mV L rfl (sw (q6 L (w64 oM oM)) t2 t0 (sw (ixJ un43 sz119 (j:=m+1) rO oM sM L) t2 t0 ?_)))))
    refine sw (v4 ag119 (by first | exact Z5 oM | rfl) L) t1 t0 ?_
    refine sw (y4 un119 un127 L (J4 oM oM)) t1 t0 (sw (c_q L oM (Q0r oM oM)) t2 t0 (aV L rfl (zn [(4,_),(5,_),(6,_),(7,_),(8,_),(9,_),(11,_)] [(46,_),(55,_)] t7 t2 (R1 (exr (mV L rfl (sw (X6 L) t2 t0 (zn [(4,_),(5,_),(6,_),(7,_),(8,_),(9,_),(11,_),(91,_)] [(46,_),(55,_)] t8 t2 ?_))))))))
    obtain ⟨q,hq⟩:∃ q,q=if 4294967295<U / Dv.getD (m+1) 0 then 4294967295 else U / Dv.getD (m+1) 0:=⟨_,rfl⟩
    have hqb:val win / val Dv≤q∧0≤q∧q<4294967296:=by rw [hq]; split <;> omega
    refine f0y (sl:=[(11,vw q)]) (sl0:=[(4,_),(5,_),(6,_),(7,_),(8,_),(9,_)]) (hb:=[]) (hb0:=[(46,_),(55,_)]) t6 t2 ?_ ?_
    ·refine D2 rfl (fun hg=>?_) (fun hg=>?_)
     ·have hg:=dt hg
      refine y3 (aV L rfl (O1 ?_))
      exact ⟨⟨oi (by rw [hq,if_pos hg]) rfl,oR,oR,oR,oR,oR,oR,trivial⟩,t2⟩
     ·have hg:=df hg
      refine U1 ?_
      exact ⟨⟨oi (by rw [hq,if_neg hg]) rfl,oR,oR,oR,oR,oR,oR,trivial⟩,t2⟩
    ·refine exr (aV L rfl (aV L rfl (zn [(4,_),(5,_),(6,_),(7,_),(8,_),(9,_),(11,_),(12,_),(13,_)] [(46,_),(55,_)] t9 t2 (R1 (exr (aV L rfl (zn [(4,_),(5,_),(6,_),(7,_),(8,_),(9,_),(11,_),(12,_),(13,_),(14,_)] [(46,_),(55,_)] t10 t2 (X1 ?_))))))))
     refine exl (α:=(Nat×List Int×Int×Int)) (fun y=>[(14,vi (y.1:Int)),(12,vw y.2.2.1),(13,vw y.2.2.2)]) (fun y=>[(46,⟨119,1,.pure (K4 (xs++((y.2.1++win.drop y.1)++zs)))⟩)]) (fun y=>X8 win Dv q y) (fun y=>win.length - y.1) (((0:Nat),([]:List Int),(0:Int),(0:Int))) (sl:=[(4,_),(5,_),(6,_),(7,_),(8,_),(9,_),(11,_)]) (hb:=[(55,_)]) ?_ ⟨oR,oR,oR,rfl,rfl,rfl,rfl,rfl,rfl,rfl,trivial⟩ ⟨obl rfl sM,rfl,trivial⟩ ?_
     ·exact X8.zero win Dv q
     intro y hy
     obtain ⟨j,ys,c,b⟩:=y
     have hylen:=hy.len
     have hyle:=hy.le
     have c0:=hy.c0
     have c1:=hy.c1
     have hb:=hy.b
     simp only at hylen hyle c0 c1 hb
     dsimp only
     have hu:=w1.getD j
     have hwd:=hDwd.getD j
     refine R1 (exr (mV L rfl (mV L rfl (sw (P1m L) t2 t0 (zn [(4,_),(5,_),(6,_),(7,_),(8,_),(9,_),(11,_),(12,_),(13,_),(14,_),(94,_)] [(46,_),(55,_)] t11 t2 ?_)))))
     refine D2 rfl (fun hf=>?_) (fun hf=>?_)
     ·have hf:=dt hf
      have tb:=P0f ⟨hqb.2.1,hqb.2.2⟩ hwd ⟨c0,c1⟩
      have mb:=g0d ⟨hqb.2.1,hqb.2.2⟩ hwd
      rw [Int.mul_comm] at mb
      obtain ⟨p,hp⟩:∃ p,p=q*Dv.getD j 0+c:=⟨_,rfl⟩
      have hp2:Dv.getD j 0*q+c=p:=by rw [hp,Int.mul_comm]
      rw [← hp] at tb
      have key2:=hy.next hDwd ⟨hqb.2.1,hqb.2.2⟩ oM hp rfl rfl hu
      refine U1 (xq ?_)
      refine R1 (X1 (exr (mV L rfl (mV L rfl (cK hG hX cl145 hN (v5 Dv oM hDwd j oM) L t2 (mV L rfl (sw (Q0c L (J4 oM oM)) t2 t0 (mV L rfl (sw (K3 L (J4 oM oM)) t2 t0 (aV L rfl ?_))))))))))
      refine O1 ⟨[(4,_),(5,_),(6,_),(7,_),(8,_),(9,_),(11,_),(13,_),(14,_),(15,vw p)],[(46,_),(55,_)],⟨rfl,rfl,rfl,rfl,rfl,rfl,rfl,rfl,rfl,oi hp2 rfl,trivial⟩,t2,?_⟩
      refine exr (mV L rfl (sw (v9 L dC (d0r (c:=4294967296) rF dC)) t2 t0 ?_))
      refine aV L rfl (zn [(4,_),(5,_),(6,_),(7,_),(8,_),(9,_),(11,_),(12,_),(13,_),(14,_),(15,_)] [(46,_),(55,_)] t11 t2 (exr (mV L rfl (mV L rfl (mV L rfl (sw (K3 L (w64 oM oM)) t2 t0 (sw (C6 un43 sz119 (by exact sO) (j:=i+j) rO oM L) t2 t1 ?_)))))))
      refine sw (Y1 ag119 (by exact sO) (g0m (J1a hti hylen oM)) L) t1 t1 ?_
      refine sw (y4 un119 un127 L (J4 oM oM)) t1 t0 (sw (K3 L (J4 oM oM)) t2 t0 (mV L rfl (sw (D1p L (H1w oM oM)) t2 t0 (sw (q6 L (J4 oM oM)) t2 t0 (mV L rfl (sw (q6 L (J4 oM oM)) t2 t0 (aV L rfl (zn [(4,_),(5,_),(6,_),(7,_),(8,_),(9,_),(11,_),(12,_),(14,_),(16,_)] [(46,_),(55,_)] t10 t2 (exr (mV L rfl (mV L rfl ?_)))))))))))
      refine mV L rfl (sw (K3 L (w64 oM oM)) t2 t0 (mV L rfl (sw (y4 un127 un119 L (show _=(win.getD j 0 - p % 4294967296 - b) % 4294967296 by rw [j8]; omega)) t1 t0 ?_)))
      refine sw (C6 un43 sz119 (by exact sO) (j:=i+j) rO oM L) t2 t1 ?_
      refine sb (b0n sz119 (by exact sO) (.atom rfl) oM) t2 t1 ?_
      refine zn [(4,_),(5,_),(6,_),(7,_),(8,_),(9,_),(11,_),(12,_),(14,_),(16,_)] [(46,_),(55,_)] t10 t2 (y3 (mV L rfl (sw (v9 L dC (d0r (c:=4294967296) rF dC)) t2 t0 ?_)))
      refine sw (q6 L D0h) t2 t0 (aV L rfl (O1 (y3 (mV L rfl (sw (K3 L (w64 oM oM)) t2 t0 (aV L rfl (O1 ?_)))))))
      exact ⟨(j+1,ys++[(win.getD j 0 - p % 4294967296 - b) % 4294967296],p / 4294967296,if win.getD j 0<p % 4294967296+b then 1 else 0),key2,(by simp only; omega),E3 ⟨oR,oR,oi (by simp only; split <;> omega) rfl,rfl,rfl,rfl,rfl,rfl,rfl,rfl,trivial⟩ ⟨obl rfl (by rw [o5,Q0d hti hylen oM]),rfl,trivial⟩⟩
     ·have hf:=df hf
      have hj:j=win.length:=by omega
      subst hj
      have hst:=K8.start w1 oM hDwd ⟨hqb.2.1,hqb.2.2⟩ hqb.1 hy
      have el:ys++win.drop win.length=ys:=by simp
      refine L2 (xq ?_)
      refine R1 (X1 ?_)
      refine exl (α:=(Int×List Int×Int)) (fun z=>[(11,vw z.1),(13,vw z.2.2)]) (fun z=>[(46,⟨119,1,.pure (K4 (xs++(z.2.1++zs)))⟩)]) (fun z=>K8 win Dv z) (fun z=>z.1.toNat) ((q,ys,b)) (sl:=[(4,_),(5,_),(6,_),(7,_),(8,_),(9,_)]) (hb:=[(55,_)]) ?_ ⟨oR,oR,rfl,rfl,rfl,rfl,rfl,rfl,trivial⟩ ⟨obl rfl (by rw [el]),rfl,trivial⟩ ?_
      ·exact hst
      intro z hz
      obtain ⟨q,v1,b⟩:=z
      have zlen:=hz.len
      have zwd:=hz.wd
      have zb:=hz.b
      have zq:=hz.q
      simp only at zlen zwd zb zq
      dsimp only
      refine R1 (exr (mV L rfl (sw (X6 L) t2 t0 (zn [(4,_),(5,_),(6,_),(7,_),(8,_),(9,_),(11,_),(13,_),(130,_)] [(46,_),(55,_)] t9 t2 ?_))))
      refine D2 rfl (fun hg=>?_) (fun hg=>?_)
      ·have hg:=dt hg
       have hb1:b=1:=by omega
       subst hb1
       have hqp:=hz.pos w1 hDpos
       refine U1 (xq ?_)
       refine X1 (exr (mV L rfl (sw (q6 L (J4 oM oM)) t2 t0 (aV L rfl (zn [(4,_),(5,_),(6,_),(7,_),(8,_),(9,_),(11,_),(13,_)] [(46,_),(55,_)] t8 t2 (exr (aV L rfl (zn [(4,_),(5,_),(6,_),(7,_),(8,_),(9,_),(11,_),(12,_),(13,_)] [(46,_),(55,_)] t9 t2 (R1 (exr (aV L rfl ?_)))))))))))
       refine zn [(4,_),(5,_),(6,_),(7,_),(8,_),(9,_),(11,_),(12,_),(13,_),(17,_)] [(46,_),(55,_)] t10 t2 (X1 ?_)
       refine exl (α:=(Nat×List Int×Int)) (fun y=>[(17,vi (y.1:Int)),(12,vw y.2.2)]) (fun y=>[(46,⟨119,1,.pure (K4 (xs++((y.2.1++v1.drop y.1)++zs)))⟩)]) (fun y=>y9 v1 Dv y) (fun y=>win.length - y.1) (((0:Nat),([]:List Int),(0:Int))) (sl:=[(4,_),(5,_),(6,_),(7,_),(8,_),(9,_),(11,_),(13,_)]) (hb:=[(55,_)]) ?_ ⟨oR,oR,rfl,rfl,rfl,rfl,rfl,rfl,rfl,rfl,trivial⟩ ⟨obl rfl sM,rfl,trivial⟩ ?_
       ·exact y9.zero v1 Dv
       intro y hy
       obtain ⟨j,us,e⟩:=y
       have hylen:=hy.len
       have hyle:=hy.le
       have hc:=hy.c
       simp only at hylen hyle hc
       dsimp only
       have hu:=zwd.getD j
       have hwd:=hDwd.getD j
       refine R1 (exr (mV L rfl (mV L rfl (sw (P1m L) t2 t0 (zn [(4,_),(5,_),(6,_),(7,_),(8,_),(9,_),(11,_),(12,_),(13,_),(17,_),(135,_)] [(46,_),(55,_)] t11 t2 ?_)))))
       refine D2 rfl (fun hf=>?_) (fun hf=>?_)
       ·have hf:=dt hf
        have key2:=hy.next zwd hDwd oM rfl
        refine U1 (xq ?_)
        refine R1 (X1 (exd rF ?_))
        refine mV L rfl (mV L rfl (mV L rfl (sw (K3 L (w64 oM oM)) t2 t0 (sw (C6 un43 sz119 (by exact sO) (j:=i+j) rO oM L) t2 t1 ?_))))
        refine sw (Y1 ag119 (by exact sO) (g0m (J1a hti hylen oM)) L) t1 t1 ?_
        refine sw (y4 un119 un127 L (J4 oM oM)) t1 t0 (mV L rfl (mV L rfl (cK hG hX cl145 hN (v5 Dv oM hDwd j oM) L t2 (sw (K3 L (J4 oM oM)) t2 t0 (mV L rfl (sw (K3 L (J4 oM oM)) t2 t0 (aV L rfl ?_)))))))
        refine O1 ⟨B5 [⟨[5],[],[138],[]⟩,⟨[9],[],[139],[]⟩,⟨[17],[],[140],[]⟩,⟨[139,140],[],[141],[]⟩,⟨[138,141],[46],[142],[]⟩,⟨[142],[46],[143],[]⟩,⟨[143],[],[144],[]⟩,⟨[7],[],[145],[]⟩,⟨[17],[],[146],[]⟩,⟨[145,146],[],[147],[]⟩,⟨[144,147],[],[148],[]⟩,⟨[12],[],[149],[]⟩,⟨[148,149],[],[150],[]⟩,⟨[150],[],[18],[]⟩] rF rF dC,[(4,_),(5,_),(6,_),(7,_),(8,_),(9,_),(11,_),(13,_),(17,_),(18,_)],[(46,_),(55,_)],t10,t2,?_⟩
        refine exr (mV L rfl (mV L rfl (mV L rfl (sw (K3 L (w64 oM oM)) t2 t0 (mV L rfl (sw (y4 un127 un119 L j8) t1 t0 (sw (C6 un43 sz119 (by exact sO) (j:=i+j) rO oM L) t2 t1 ?_)))))))
        refine sb (b0n sz119 (by exact sO) (.atom rfl) oM) t2 t1 ?_
        refine zn [(4,_),(5,_),(6,_),(7,_),(8,_),(9,_),(11,_),(13,_),(17,_),(18,_)] [(46,_),(55,_)] t10 t2 (y3 (mV L rfl (sw (v9 L dC (d0r (c:=4294967296) rF dC)) t2 t0 ?_)))
        refine aV L rfl (O1 (y3 (mV L rfl (sw (K3 L (w64 oM oM)) t2 t0 (aV L rfl (O1 ?_))))))
        exact ⟨(j+1,us++[(v1.getD j 0+Dv.getD j 0+e) % 4294967296],(v1.getD j 0+Dv.getD j 0+e) / 4294967296),key2,(by simp only; omega),E3 ⟨oR,oR,rfl,rfl,rfl,rfl,rfl,rfl,rfl,rfl,trivial⟩ ⟨obl rfl (by rw [o5,Q0d hti hylen oM]),rfl,trivial⟩⟩
       ·have hf:=df hf
        have hj:j=win.length:=by omega
        subst hj
        obtain ⟨lm,-⟩:=hz.more w1 oM hDwd hDpos hy
        have el:us++v1.drop win.length=us:=by rw [← zlen]; simp
        refine L2 (xq ?_)
        refine y3 (mV L rfl (mV L rfl (sw (q6 L (J4 oM oM)) t2 t0 (aV L rfl (O1 ?_)))))
        exact ⟨(q - 1,us,1 - e),lm,(by simp only; omega),E3 ⟨oR,oR,rfl,rfl,rfl,rfl,rfl,rfl,trivial⟩ ⟨obl rfl (by rw [el]),rfl,trivial⟩⟩
      ·have hg:=df hg
       have hb0:b=0:=by omega
       subst hb0
       obtain ⟨d1,d2⟩:=hz.done w1 hDpos
       have hrest:xs++(E4 win.length (val win % val Dv)++zs)=G7 W (m+2) i (val win % val Dv):=by
        rw [w2,hzs,hxs,w0p (Int.emod_nonneg _ oM) (by have:=Int.emod_lt_of_pos (val win) hDpos; omega) oM]
       rw [d2,hrest,d1]
       refine L2 (xq ?_)
       refine y3 (mV L rfl (mV L rfl (mV L rfl (sw (y4 un127 un119 L (w0w oM oM)) t1 t0 (sw (C6 un43 sz119 (by exact sO) (j:=i) rO oM L) t2 t1 ?_)))))
       refine sb (b0n sz119 (by exact sO) (.atom rfl) oM) t2 t1 ?_
       refine O1 (y3 (mV L rfl (sw (q6 L (w64 oM oM)) t2 t0 (aV L rfl (O1 ?_)))))
       exact ⟨(i,val win % val Dv,val win / val Dv :: qs),key,(by simp only; omega),E3 ⟨oR,rfl,rfl,rfl,rfl,rfl,trivial⟩ ⟨rfl,obl rfl (by rw [o5,q1f]),trivial⟩⟩
   ·have he:=df he
    have hr0:r=0:=by omega
    subst hr0
    have heq:=hx.eq
    have hqw:=hx.wd
    simp only [List.drop_zero] at heq hqw
    rw [hDv,hWv] at heq
    rw [hDv] at hr
    obtain ⟨pe1,pe2⟩:=V0y hv heq hr
    obtain ⟨X,hXe⟩:∃ X,X=G7 W (m+2) 0 R:=⟨_,rfl⟩
    have hXl:X.length=W.length:=by rw [hXe,s4 oM]
    have hXw:Wd X:=by rw [hXe]; exact J0p hWd
    have hXv:val X=R:=by
     rw [hXe,K0k,T6,n0g,Int.mul_zero,Int.add_zero,m6 hr.1 (by rw [hDv] at hDlt; omega)]
    rw [← hXe]
    simp only [List.replicate_zero,List.nil_append]
    refine L2 (xq ?_)
    refine G4 [46,55] (sl:=[(4,_),(5,_),(6,_)]) (hb:=[]) (M3 hX0) ⟨⟨_,rfl,(.ref rfl rfl (by exact sO) (by first | rfl | omega))⟩,⟨_,rfl,(.ref rfl rfl (by exact (by simp [s4 hle] <;> omega)) (by first | rfl | omega))⟩,⟨_,rfl,.same⟩,trivial⟩ t0 ?_
    have a1:Y2 E 147 [.sl (W.length - (m+2)) (K4 qs)] (pW (j3 (val ws / val vs).toNat)):=by
     have:=s6 qs oM
     rw [j6 hqw,pe1] at this
     rw [show W.length - (m+2)=qs.length by omega]; exact this
    have a2:Y2 E 147 [.sl W.length (K4 X)] (pW (j3 R.toNat)):=by
     have:=s6 X oM
     rw [j6 hXw,hXv] at this
     rw [← hXl]; exact this
    have dl:(j3 R.toNat).length≤m+2:=G0x hr.1 (by rw [hDv] at hDlt; omega)
    have a3:=G0j (j3 R.toNat) k oM (U3 _) oM
    rw [T4,show ((R.toNat:Nat):Int)=R by omega,pe2] at a3
    refine exr (mV L rfl (cK hG hX cl147 hN a1 L t1 (mV L rfl (cK hG hX cl147 hN a2 L t1 (mV L rfl (cK hG hX cl168 hN a3 L t2 (aV L rfl (aV L rfl (zn [(4,_),(5,_)] [] t2 trivial (V1 ?_))))))))))
    refine Y0 (.tmp rfl) (.tmp rfl) ?_
    rfl
theorem V0w {b c:Int}(h0:0≤c)(h1:c<b.natAbs):c % b=c:=by
 by_cases hb:0<b
 ·exact Int.emod_eq_of_lt h0 oM
 ·obtain ⟨d,rfl⟩:∃ d,b = -d:=⟨-b,by omega⟩
  rw [Int.emod_neg]; exact Int.emod_eq_of_lt h0 oM
theorem q0n {a b c:Int}(hb:b≠0)(h0:0≤c)(h1:c<b.natAbs):(a*b+c) / b=a∧(a*b+c) % b=c:=by
 have e1:(a*b+c) % b=c:=by
  rw [Int.add_comm,Int.add_mul_emod_self_right]; exact V0w h0 h1
 refine ⟨?_,e1⟩
 have:=Int.mul_ediv_add_emod (a*b+c) b
 rw [e1] at this
 have e2:b*((a*b+c) / b)=b*a:=by rw [Int.mul_comm b a]; omega
 exact Int.eq_of_mul_eq_mul_left hb e2
theorem j1y {x y:Int}(hy:y≠0):(0≤x.tmod y→x.tdiv y=x / y∧x.tmod y=x % y)∧(x.tmod y<0→x.tmod y+(if y<0 - y then 0 - y else y)=x % y∧(x - x % y).tdiv y=x / y)∧-(y.natAbs:Int)<x.tmod y∧x.tmod y<y.natAbs∧(x.tdiv y).natAbs≤x.natAbs∧(x / y).natAbs≤x.natAbs+1:=by
 have h1:=Int.mul_tdiv_add_tmod x y
 have h2:(x.tmod y).natAbs<y.natAbs:=by
  rw [Int.natAbs_tmod]; exact Nat.mod_lt _ oM
 have h3:=Int.natAbs_tdiv_le_natAbs x y
 have hmax:(if y<0 - y then 0 - y else y)=(y.natAbs:Int):=by split <;> omega
 have key1:0≤x.tmod y→x.tdiv y=x / y∧x.tmod y=x % y:=fun h=>by
  obtain ⟨e1,e2⟩:=q0n (a:=x.tdiv y) (b:=y) (c:=x.tmod y) hy h oM
  rw [show x.tdiv y*y+x.tmod y=x by rw [Int.mul_comm]; exact h1] at e1 e2
  exact ⟨e1.symm,e2.symm⟩
 have key2:x.tmod y<0→∃ a:Int,a.natAbs≤x.natAbs+1∧x=a*y+(x.tmod y+y.natAbs):=fun h=>by
  rcases (show y<0∨0<y by omega) with c | c
  ·refine ⟨x.tdiv y+1,by omega,?_⟩
   have e:(y.natAbs:Int) = -y:=by omega
   have e2:(x.tdiv y+1)*y=y*x.tdiv y+y:=by grind
   rw [e,e2]; omega
  ·refine ⟨x.tdiv y - 1,by omega,?_⟩
   have e:(y.natAbs:Int)=y:=by omega
   have e2:(x.tdiv y - 1)*y=y*x.tdiv y - y:=by grind
   rw [e,e2]; omega
 refine ⟨key1,fun h=>?_,by omega,by omega,h3,?_⟩
 ·obtain ⟨a,-,ha⟩:=key2 h
  clear key1 key2
  obtain ⟨e1,e2⟩:=q0n (a:=a) (b:=y) (c:=x.tmod y+y.natAbs) hy oM oM
  rw [← ha] at e1 e2
  refine ⟨by rw [hmax,e2],?_⟩
  rw [e2,e1,show x - (x.tmod y+(y.natAbs:Int))=a*y from Int.sub_eq_iff_eq_add.2 ha,Int.mul_tdiv_cancel _ hy]
 ·by_cases h:0≤x.tmod y
  ·rw [← (key1 h).1]; exact Nat.le_succ_of_le h3
  ·obtain ⟨a,hal,ha⟩:=key2 (Int.not_le.1 h)
   clear key1 key2
   obtain ⟨e1,-⟩:=q0n (a:=a) (b:=y) (c:=x.tmod y+y.natAbs) hy oM oM
   rw [← ha] at e1
   rw [e1]; exact hal
theorem k1p (m n:Bool)(ws vs:List Int)(hl:ws.length<99999999999)(hl2:vs.length<99999999999)(h:Wd ws)(h2:Wd vs):Y2 E 146 [pI m ws,pI n vs] (.tup [pZ (dQ m n ws vs),pZ (dR m n ws vs),vZ (dE m n ws vs)]):=by
 refine j2 (xs:=[pZ (dQ m n ws vs),pZ (dR m n ws vs),vZ (dE m n ws vs)]) Tryz.func146 rfl Tryz.ntmps146 Tryz.results146 sM fun F hG hX0 hnt hdf P0=>?_
 obtain ⟨L,hX,hN⟩:=pro hnt hX0 hG
 refine exr (swb (R3 (k:=2) (n:=2) pa2 rfl rfl (P0 _ rfl) L) t1 t0 ⟨rfl,rfl⟩ (swb (R3 (k:=3) (n:=2) pa2 rfl rfl (P0 _ rfl) L) t1 t0 ⟨rfl,rfl⟩ (swb (T3 (k:=4) (n:=2) zv45 (.cons rfl (.cons rfl .nil)) rfl (P0 _ rfl) L) t0 t0 ⟨rfl,rfl⟩ (swb (T3 (k:=5) (n:=2) zv45 (.cons rfl (.cons rfl .nil)) rfl (P0 _ rfl) L) t0 t0 ⟨rfl,rfl⟩ (aV L rfl (zn [(2,_),(3,_),(4,_),(5,_)] [(2,_),(3,_),(4,_),(5,_)] t4 t4 (R1 ?_)))))))
 refine exm (sl:=[(22,vb (decide (¬ (P2 m ws=true∧P2 n vs=true))))]) (sl0:=[(2,_),(3,_),(4,_),(5,_)]) (hb:=[]) (hb0:=[(2,_),(3,_),(4,_),(5,_)]) t4 t4 ?_ ?_
 ·by_cases hca:P2 m ws=true
  ·refine lp2 ag45 sz45 L rfl rfl (cK hG hX cl77 hN (J5 m ws oM) L t1 (sw (P3 L) t1 t0 (mV L rfl (swg (g:=18) rfl (by simp [hca]) (l6 ag45 sz45 rF (by exact al2) rfl L) rfl t1 t1 ?_))))
   refine swg (g:=18) rfl (by simp [hca]) (c_c hG hX cl77 rfl hN (J5 n vs oM) L) rfl t1 t0 ?_
   refine swg (g:=18) rfl (by simp [hca]) (P3 L) rfl t1 t0 ?_
   refine sw (V3 (by simp [hca]) L) t2 t0 ?_
   exact O1 ⟨⟨ob rfl (by simp [hca]),rfl,rfl,rfl,rfl,trivial⟩,t4⟩
  ·refine lp2 ag45 sz45 L rfl rfl (cK hG hX cl77 hN (J5 m ws oM) L t1 (sw (P3 L) t1 t0 (mV L rfl (swn (g:=18) rfl (by simp [hca]) L rfl ?_))))
   refine swn (g:=18) rfl (by simp [hca]) L rfl ?_
   refine swn (g:=18) rfl (by simp [hca]) L rfl ?_
   refine sw (m4 (by simp [hca]) L) t2 t0 ?_
   exact O1 ⟨⟨ob rfl (by simp [hca]),rfl,rfl,rfl,rfl,trivial⟩,t4⟩
 refine D2 rfl (fun hc=>?_) (fun hc=>?_)
 ·have hc:=dt hc
  refine exd rF ?_
  refine sw (Y7 (l6 ag45 sz45 rF (by exact al2) rfl L) (.agg (.cons .same (.cons .nil .nil)))) t1 t1 ?_
  refine sw (Y7 (l6 ag45 sz45 rF (by exact al2) rfl L) (.agg (.cons .same (.cons .nil .nil)))) t1 t1 ?_
  refine sb (U2 sz45 rF pa2 rfl pu2) t2 t1 ?_
  refine sb (U2 sz45 rF pa2 rfl pu2) t2 t1 ?_
  refine aV L rfl ?_
  refine O1 ⟨B5 [⟨[4],[4],[23],[]⟩,⟨[5],[5],[24],[]⟩,⟨[4,23],[4],[],[4]⟩,⟨[5,24],[5],[],[5]⟩,⟨[],[],[6],[]⟩] rF rF dC,[(4,_),(5,_),(6,_)],[(4,_),(5,_)],t3,t2,?_⟩
  refine V1 ?_
  refine P1 (.agg rfl rfl rfl ag45 sz45 (.cons (.cons .nil))) (.agg rfl rfl rfl ag45 sz45 (.cons (.cons .nil))) (.tmp rfl) ?_
  rw [dQ,dR,dE,if_neg hc,if_neg (fun hh=>hc ⟨hh.1,hh.2.1⟩),if_neg hc,D8]; rfl
 ·have hc:=Decidable.not_not.1 (df hc)
  have ht:=(P5 hc.1).1
  have ht2:=(P5 hc.2).1
  refine U1 (xq ?_)
  refine R1 (exr (sw (Z1 un45 rfl sz43 dC rX L) t1 t1 ?_))
  refine sw (Y1 ag43 rF rF L) t1 t1 ?_
  refine sw (R2 un43 L) t1 t0 (sw (c_e L) t2 t0 (zn [(2,_),(3,_),(4,_),(5,_),(28,_)] [(2,_),(3,_),(4,_),(5,_)] t5 t4 ?_))
  refine D2 rfl (fun hz=>?_) (fun hz=>?_)
  ·have hz:=dt hz
   have e:vs=[]:=E0 oM
   subst e
   have e0:sg n (val [])=0:=by cases n <;> rfl
   refine exd rF ?_
   refine sw (Y7 (l6 ag45 sz45 rF (by exact al2) rfl L) (.agg (.cons .same (.cons .nil .nil)))) t1 t1 ?_
   refine sw (Y7 (l6 ag45 sz45 rF (by exact al2) rfl L) (.agg (.cons .same (.cons .nil .nil)))) t1 t1 ?_
   refine sb (U2 sz45 rF pa2 rfl pu2) t2 t1 ?_
   refine sb (U2 sz45 rF pa2 rfl pu2) t2 t1 ?_
   refine aV L rfl ?_
   refine O1 ⟨B5 [⟨[4],[4],[29],[]⟩,⟨[5],[5],[30],[]⟩,⟨[4,29],[4],[],[4]⟩,⟨[5,30],[5],[],[5]⟩,⟨[],[],[6],[]⟩] rF rF dC,[(4,_),(5,_),(6,_)],[(4,_),(5,_)],t3,t2,?_⟩
   refine V1 ?_
   refine P1 (.agg rfl rfl rfl ag45 sz45 (.cons (.cons .nil))) (.agg rfl rfl rfl ag45 sz45 (.cons (.cons .nil))) (.tmp rfl) ?_
   rw [dQ,dR,dE,if_pos hc,if_neg (fun hh=>hh.2.2 rfl),if_pos hc,if_pos (show ([]:List Int).length=0 from rfl),e0,Int.ediv_zero,D8]; rfl
  ·have hz:=df hz
   have hv:=g1a h2 ht2 oM
   have a0:=G2 h
   have r0:=Int.emod_nonneg (val ws) (show val vs≠0 by omega)
   have q0:=Int.ediv_nonneg a0 (E1 hv)
   have r1:=Int.emod_lt_of_pos (val ws) hv
   have q1:=Int.ediv_le_self (val vs) a0
   have dsg:=D1b (m:=m) (n:=n) a0 hv
   have hQ:dQ m n ws vs=sg m (val ws) / sg n (val vs):=by rw [dQ,if_pos hc]
   have hR:dR m n ws vs=sg m (val ws) % sg n (val vs):=by rw [dR,if_pos ⟨hc.1,hc.2,by omega⟩]
   have hE:dE m n ws vs=0:=by rw [dE,if_pos hc,if_neg oM]
   rw [hQ,hR,hE]
   refine U1 (xq ?_)
   refine exr (lp2 ag45 sz45 L rfl rfl (cK hG hX cl118 hN (L8 m ws oM h ht) L t1 (mV L rfl (sw (i4 rfl L) t1 t0 (sw (i4 rfl L) t1 t0 (aV L rfl (aV L rfl (zn [(2,_),(3,_),(4,_),(5,_),(7,_),(8,_)] [(2,_),(3,_),(4,_),(5,_)] t6 t4 (exr (lp2 ag45 sz45 L rfl rfl (cK hG hX cl118 hN (L8 n vs oM h2 ht2) L t1 ?_)))))))))))
   refine mV L rfl (sw (i4 rfl L) t1 t0 (sw (i4 rfl L) t1 t0 (aV L rfl (aV L rfl (zn [(2,_),(3,_),(4,_),(5,_),(7,_),(8,_),(9,_),(10,_)] [(2,_),(3,_),(4,_),(5,_)] t8 t4 (R1 ?_))))))
   refine exm (sl:=[(44,vb (decide (val ws<4611686018427387904∧val vs<4611686018427387904)))]) (sl0:=[(2,_),(3,_),(4,_),(5,_),(7,_),(9,_)]) (hb:=[]) (hb0:=[(2,_),(3,_),(4,_),(5,_)]) t6 t4 ?_ ?_
   ·by_cases hs1:val ws<4611686018427387904
    ·refine mV L rfl (mV L rfl (gV (g:=42) rfl (decide_eq_true hs1) L rfl rfl (sw (m4 (decide_eq_true hs1) L) t2 t0 ?_)))
     exact O1 ⟨⟨ob rfl (v7 ⟨fun c=>⟨hs1,c⟩,fun c=>c.2⟩),rfl,rfl,rfl,rfl,rfl,rfl,trivial⟩,t4⟩
    ·refine mV L rfl (mV L rfl (swn (g:=42) rfl (decide_eq_false hs1) L rfl (sw (V3 (decide_eq_false hs1) L) t2 t0 ?_)))
     exact O1 ⟨⟨ob rfl (decide_eq_false (fun c=>hs1 c.1)).symm,rfl,rfl,rfl,rfl,rfl,rfl,trivial⟩,t4⟩
   refine D2 rfl (fun hs=>?_) (fun hs=>?_)
   ·have hs:=dt hs
    rw [if_pos hs.1,if_pos hs.2]
    obtain ⟨x,hx⟩:∃ x,x=sg m (val ws):=⟨_,rfl⟩
    obtain ⟨y,hy⟩:∃ y,y=sg n (val vs):=⟨_,rfl⟩
    have bx:x.natAbs<4611686018427387904:=by rw [hx]; unfold sg; split <;> omega
    have by':y.natAbs<4611686018427387904∧y≠0:=by rw [hy]; unfold sg; split <;> omega
    rw [← hx,← hy]
    obtain ⟨p1,p2,p3,p4,p5,p6⟩:=j1y (x:=x) by'.2
    have m0:=Int.emod_nonneg x by'.2
    have m1:=Int.emod_lt x by'.2
    refine exd rF ?_
    refine mV L rfl (mV L rfl (sw (c_q L by'.2 (show _=x.tdiv y from w64 oM oM)) t2 t0 (mV L rfl (mV L rfl (sw (c_r L by'.2 rfl) t2 t0 (aV L rfl (aV L rfl ?_)))))))
    refine O1 ⟨B5 [⟨[7],[],[45],[]⟩,⟨[9],[],[46],[]⟩,⟨[45,46],[],[47],[]⟩,⟨[7],[],[48],[]⟩,⟨[9],[],[49],[]⟩,⟨[48,49],[],[50],[]⟩,⟨[47],[],[11],[]⟩,⟨[50],[],[12],[]⟩] rF rF dC,[(4,_),(5,_),(7,_),(9,_),(11,_),(12,_)],[(4,_),(5,_)],t6,t2,?_⟩
    refine R1 (exr (mV L rfl (sw (d4 L) t2 t0 (zn [(4,_),(5,_),(7,_),(9,_),(11,_),(12,_),(52,_)] [(4,_),(5,_)] t7 t2 ?_))))
    refine f0y (sl:=[(11,vi (x / y)),(12,vi (x % y))]) (sl0:=[(4,_),(5,_)]) (hb:=[]) (hb0:=[(4,_),(5,_)]) t2 t2 ?_ ?_
    ·refine D2 rfl (fun ht=>?_) (fun ht=>?_)
     ·have ht:=dt ht
      obtain ⟨e1,e2⟩:=p2 ht
      refine exr (mV L rfl (mV L rfl (mV L rfl (sw (j1n L (show _=0 - y from w64 oM oM)) t1 t0 (sw (M1q L) t2 t0 (sw (K3 L (show _=x % y by rw [e1]; exact w64 oM oM)) t2 t0 ?_))))))
      refine aV L rfl (zn [(4,_),(5,_),(7,_),(9,_),(12,_)] [(4,_),(5,_)] t5 t2 (y3 (mV L rfl (mV L rfl (sw (q6 L (show _=x - x % y from w64 oM oM)) t2 t0 (mV L rfl (sw (c_q L by'.2 (show _=x / y by rw [e2]; exact w64 oM oM)) t2 t0 ?_)))))))
      refine aV L rfl (O1 ?_)
      exact ⟨⟨oR,oR,oR,oR,trivial⟩,t2⟩
     ·have ht:=df ht
      obtain ⟨e1,e2⟩:=p1 oM
      refine U1 ?_
      exact ⟨⟨oi e1 rfl,oi e2 rfl,oR,oR,trivial⟩,t2⟩
    ·refine exr (mV L rfl (cK hG hX cl119 hN (b0k (x / y) oM oM) L t1 (mV L rfl (cK hG hX cl119 hN (b0k (x % y) oM oM) L t1 (sb (U2 sz45 rF pa2 rfl pu2) t2 t1 ?_)))))
     refine sb (U2 sz45 rF pa2 rfl pu2) t2 t1 ?_
     refine aV L rfl (zn [(4,_),(5,_),(6,_)] [(4,_),(5,_)] t3 t2 (V1 ?_))
     refine P1 (.agg rfl rfl rfl ag45 sz45 (.cons (.cons .nil))) (.agg rfl rfl rfl ag45 sz45 (.cons (.cons .nil))) (.tmp rfl) ?_
     rfl
   ·have hs:=df hs
    have dq1:(j3 (val ws / val vs).toNat).length≤ws.length:=G0x q0 (by have:=l5 h; omega)
    have dr1:(j3 (val ws % val vs).toNat).length≤vs.length:=G0x r0 (by have:=l5 h2; omega)
    have vq:val (j3 (val ws / val vs).toNat)=val ws / val vs:=by rw [T4]; omega
    have vr:val (j3 (val ws % val vs).toNat)=val ws % val vs:=by rw [T4]; omega
    rw [dsg.1,dsg.2]
    refine U1 (xq ?_)
    refine exr (sw (Z1 un45 rfl sz43 dC rX L) t1 t1 ?_)
    refine sw (Y1 ag43 rF rF L) t1 t1 ?_
    refine sw (Z1 un45 rfl sz43 dC rX L) t1 t1 ?_
    refine sw (Y1 ag43 rF rF L) t1 t1 ?_
    refine cK hG hX cl154 hN (Y0p ws vs oM oM h h2 ht ht2 hv) L t2 (mV L rfl (sw (i4 rfl L) t1 t0 (sw (i4 rfl L) t1 t0 (aV L rfl (aV L rfl (zn [(2,_),(3,_),(4,_),(5,_),(13,_),(14,_)] [(2,_),(3,_),(4,_),(5,_)] t6 t4 (R1 ?_)))))))
    refine exm (sl:=[(82,vb (decide (m=true∧val ws % val vs≠0)))]) (sl0:=[(2,_),(3,_),(4,_),(5,_),(13,_),(14,_)]) (hb:=[]) (hb0:=[(2,_),(3,_),(4,_),(5,_)]) t6 t4 ?_ ?_
    ·by_cases hm:m=true
     ·refine sw (Z1 un45 rfl sz4 dC rX L) t1 t1 ?_
      refine sw (Y1 ag4 rF rF L) t1 t1 ?_
      refine mV L rfl (gV (g:=78) rfl hm L rfl rfl (swg (g:=78) rfl hm (R2 un43 L) rfl t1 t0 (swg (g:=78) rfl hm (X6 L) rfl t2 t0 (sw (m4 hm L) t2 t0 ?_))))
      exact O1 ⟨⟨ob rfl (v7 (by have:=q7 (n:=(val ws % val vs).toNat); simp only [hm,true_and]; omega)),rfl,rfl,rfl,rfl,rfl,rfl,trivial⟩,t4⟩
     ·refine sw (Z1 un45 rfl sz4 dC rX L) t1 t1 ?_
      refine sw (Y1 ag4 rF rF L) t1 t1 ?_
      refine mV L rfl (swn (g:=78) rfl (by simpa using hm) L rfl ?_)
      refine swn (g:=78) rfl (by simpa using hm) L rfl ?_
      refine swn (g:=78) rfl (by simpa using hm) L rfl ?_
      refine sw (V3 (by simpa using hm) L) t2 t0 ?_
      exact O1 ⟨⟨ob rfl (decide_eq_false (fun c=>hm c.1)).symm,rfl,rfl,rfl,rfl,rfl,rfl,trivial⟩,t4⟩
    refine D2 rfl (fun hd=>?_) (fun hd=>?_)
    ·have hd:=dt hd
     rw [if_pos hd,if_pos hd]
     have a1:=J0n (j3 (val ws / val vs).toNat) [1] oM sM (U3 _) (fun w hw=>by rw [List.mem_singleton] at hw; subst hw; decide)
     rw [vq,show val [1]=1 by simp [val]] at a1
     have a2:=q0f vs (j3 (val ws % val vs).toNat) oM dr1 h2 (U3 _) oM
     rw [vr] at a2
     have l1:(j3 (val ws / val vs+1).toNat).length≤ws.length+1:=G0x oM (by have:=l5 h; have:=y0r (show ws.length≤ws.length+1 by omega); have:=w1k ws.length; have:=q0g ws.length; omega)
     have l2:(j3 (val vs - val ws % val vs).toNat).length≤vs.length:=G0x oM (by have:=l5 h2; omega)
     have a3:=v6 (m != n) (j3 (val ws / val vs+1).toNat) oM (U3 _)
     rw [T4,show (((val ws / val vs+1).toNat:Nat):Int)=val ws / val vs+1 by omega] at a3
     have a4:=v6 false (j3 (val vs - val ws % val vs).toNat) oM (U3 _)
     rw [T4,show (((val vs - val ws % val vs).toNat:Nat):Int)=val vs - val ws % val vs by omega] at a4
     refine m0v rF ?_
     refine mV L rfl (sw (F4 (vs:=[_]) un43 ti119 rfl rfl dC dC rfl (M2 (.cons rfl .nil) rfl) rfl (.cons rfl (.atom rfl) rfl pu1 .nil) (.cons .nil) L) t1 t0 (cK hG hX cl142 hN a1 L t2 (sw (Z1 un45 rfl sz43 dC rX L) t1 t1 ?_)))
     refine sw (Y1 ag43 rF rF L) t1 t1 ?_
     refine mV L rfl (cK hG hX cl144 hN a2 L t2 (aV L rfl (aV L rfl ?_)))
     refine O1 ⟨B5 [⟨[13],[],[83],[]⟩,⟨[],[],[84],[]⟩,⟨[83,84],[],[85],[]⟩,⟨[3],[3],[86],[]⟩,⟨[86],[3],[87],[]⟩,⟨[14],[],[88],[]⟩,⟨[87,88],[],[89],[]⟩,⟨[85],[],[13],[]⟩,⟨[89],[],[14],[]⟩] rF rF dC,?_⟩
     refine exr (sw (Z1 un45 rfl sz4 dC rX L) t1 t1 ?_)
     refine sw (Y1 ag4 rF rF L) t1 t1 ?_
     refine sw (Z1 un45 rfl sz4 dC rX L) t1 t1 ?_
     refine sw (Y1 ag4 rF rF L) t1 t1 ?_
     refine sw (v0h un4 L) t2 t0 (mV L rfl (cK hG hX cl122 hN a3 L t2 (mV L rfl (cK hG hX cl122 hN a4 L t2 (sb (U2 sz45 rF pa2 rfl pu2) t2 t1 ?_)))))
     refine sb (U2 sz45 rF pa2 rfl pu2) t2 t1 ?_
     refine aV L rfl (zn [(4,_),(5,_),(6,_)] [(4,_),(5,_)] t3 t2 (V1 ?_))
     refine P1 (.agg rfl rfl rfl ag45 sz45 (.cons (.cons .nil))) (.agg rfl rfl rfl ag45 sz45 (.cons (.cons .nil))) (.tmp rfl) ?_
     rfl
    ·have hd:=df hd
     rw [if_neg hd,if_neg hd]
     have a3:=v6 (m != n) (j3 (val ws / val vs).toNat) oM (U3 _)
     rw [vq] at a3
     have a4:=v6 false (j3 (val ws % val vs).toNat) oM (U3 _)
     rw [vr] at a4
     refine U1 (xq ?_)
     refine exr (sw (Z1 un45 rfl sz4 dC rX L) t1 t1 ?_)
     refine sw (Y1 ag4 rF rF L) t1 t1 ?_
     refine sw (Z1 un45 rfl sz4 dC rX L) t1 t1 ?_
     refine sw (Y1 ag4 rF rF L) t1 t1 ?_
     refine sw (v0h un4 L) t2 t0 (mV L rfl (cK hG hX cl122 hN a3 L t2 (mV L rfl (cK hG hX cl122 hN a4 L t2 (sb (U2 sz45 rF pa2 rfl pu2) t2 t1 ?_)))))
     refine sb (U2 sz45 rF pa2 rfl pu2) t2 t1 ?_
     refine aV L rfl (zn [(4,_),(5,_),(6,_)] [(4,_),(5,_)] t3 t2 (V1 ?_))
     refine P1 (.agg rfl rfl rfl ag45 sz45 (.cons (.cons .nil))) (.agg rfl rfl rfl ag45 sz45 (.cons (.cons .nil))) (.tmp rfl) ?_
     rfl
theorem J1c (a b:Int)(ha:nw a<99999999999)(hb:nw b<99999999999)(h0:b≠0):Y2 E 146 [pZ a,pZ b] (.tup [pZ (a / b),pZ (a % b),vZ 0]):=by
 have:=k1p (decide (a<0)) (decide (b<0)) (j3 a.natAbs) (j3 b.natAbs) ha hb (U3 _) (U3 _)
 have hl:(j3 b.natAbs).length≠0:=by rw [Ne,q7]; omega
 rwa [dQ,dR,dE,if_pos ⟨L3 a,L3 b⟩,if_pos ⟨L3 a,L3 b,hl⟩,if_pos ⟨L3 a,L3 b⟩,if_neg hl,D5,D5] at this
theorem F0q (a b:Int)(ha:nw a<999999999999)(hb:nw b<999999999999):Y2 E 83 [pZ a,pZ b] (pZ (a*b)):=by
 have:=d1w (decide (a<0)) (decide (b<0)) (j3 a.natAbs) (j3 b.natAbs) (by unfold nw at ha; omega) (by unfold nw at hb; omega) (U3 _) (U3 _)
 rwa [if_pos ⟨L3 a,L3 b⟩,D5,D5] at this
theorem N0j (a:Int)(ha:nw a<999999999999):Y2 E 78 [pZ a] (vZ a.sign):=by
 have:=b1w (decide (a<0)) (j3 a.natAbs) (by unfold nw at ha; omega) (U3 _)
 rwa [if_pos (L3 a),D5] at this
theorem f1p (a b:Int)(ha:nw a<99999999999)(hb:nw b<99999999999)(h0:b≠0):Y2 E 121 [pZ a,pZ b] (pZ (a / b)):=by
 refine j2 (xs:=[pZ (a / b)]) Tryz.func121 rfl Tryz.ntmps121 Tryz.results121 sM fun F hG hX0 hnt hdf P0=>?_
 obtain ⟨L,hX,hN⟩:=pro hnt hX0 hG
 refine exr (swb (R3 (k:=2) (n:=2) pa2 rfl rfl (P0 _ rfl) L) t1 t0 ⟨rfl,rfl⟩ (swb (R3 (k:=3) (n:=2) pa2 rfl rfl (P0 _ rfl) L) t1 t0 ⟨rfl,rfl⟩ (swb (T3 (k:=4) (n:=2) zv45 (.cons rfl (.cons rfl .nil)) rfl (P0 _ rfl) L) t0 t0 ⟨rfl,rfl⟩ (zn [(2,_),(3,_),(4,_)] [(2,_),(3,_),(4,_)] t3 t3 (exr (lp2 ag45 sz45 L rfl rfl (lp2 ag45 sz45 L rfl rfl (cK hG hX cl146 hN (J1c a b ha hb h0) L t2 (mV L rfl (sw (i4 rfl L) t1 t0 (sw (i4 rfl L) t1 t0 ?_)))))))))))
 refine sw (i4 rfl L) t1 t0 (swb (T3 (k:=5) (n:=2) zv45 (.cons rfl (.cons rfl .nil)) rfl (P0 _ rfl) L) t0 t0 ⟨rfl,rfl⟩ (swb (T3 (k:=6) (n:=2) zv45 (.cons rfl (.cons rfl .nil)) rfl (P0 _ rfl) L) t0 t0 ⟨rfl,rfl⟩ (sb (U2 sz45 rF pa2 rfl pu2) t2 t1 ?_)))
 refine sb (U2 sz45 rF pa2 rfl pu2) t2 t1 ?_
 refine aV L rfl (zn [(4,_),(5,_)] [(4,_),(5,_)] t2 t2 (exr (lp2 ag45 sz45 L rfl rfl (sb (U2 sz45 rF pa2 rfl pu2) t2 t1 ?_))))
 refine zn [(4,_)] [(4,_)] t1 t1 (V1 ?_)
 refine Q0 (.agg rfl rfl rfl ag45 sz45 (.cons (.cons .nil))) ?_
 rfl
theorem V1h (a b:Int)(ha:nw a<99999999999)(hb:nw b<99999999999)(h0:b≠0):Y2 E 120 [pZ a,pZ b] (pZ (a % b)):=by
 refine j2 (xs:=[pZ (a % b)]) Tryz.func120 rfl Tryz.ntmps120 Tryz.results120 sM fun F hG hX0 hnt hdf P0=>?_
 obtain ⟨L,hX,hN⟩:=pro hnt hX0 hG
 refine exr (swb (R3 (k:=2) (n:=2) pa2 rfl rfl (P0 _ rfl) L) t1 t0 ⟨rfl,rfl⟩ (swb (R3 (k:=3) (n:=2) pa2 rfl rfl (P0 _ rfl) L) t1 t0 ⟨rfl,rfl⟩ (swb (T3 (k:=4) (n:=2) zv45 (.cons rfl (.cons rfl .nil)) rfl (P0 _ rfl) L) t0 t0 ⟨rfl,rfl⟩ (zn [(2,_),(3,_),(4,_)] [(2,_),(3,_),(4,_)] t3 t3 (exr (lp2 ag45 sz45 L rfl rfl (lp2 ag45 sz45 L rfl rfl (cK hG hX cl146 hN (J1c a b ha hb h0) L t2 (mV L rfl (sw (i4 rfl L) t1 t0 (sw (i4 rfl L) t1 t0 ?_)))))))))))
 refine sw (i4 rfl L) t1 t0 (swb (T3 (k:=5) (n:=2) zv45 (.cons rfl (.cons rfl .nil)) rfl (P0 _ rfl) L) t0 t0 ⟨rfl,rfl⟩ (swb (T3 (k:=6) (n:=2) zv45 (.cons rfl (.cons rfl .nil)) rfl (P0 _ rfl) L) t0 t0 ⟨rfl,rfl⟩ (sb (U2 sz45 rF pa2 rfl pu2) t2 t1 ?_)))
 refine sb (U2 sz45 rF pa2 rfl pu2) t2 t1 ?_
 refine aV L rfl (zn [(4,_),(6,_)] [(4,_),(6,_)] t2 t2 (exr (lp2 ag45 sz45 L rfl rfl (sb (U2 sz45 rF pa2 rfl pu2) t2 t1 ?_))))
 refine zn [(4,_)] [(4,_)] t1 t1 (V1 ?_)
 refine Q0 (.agg rfl rfl rfl ag45 sz45 (.cons (.cons .nil))) ?_
 rfl
theorem J1b (x:Nat)(hx:nw (x:Int)<999999999999):Y2 E 118 [pZ (x:Int)] (.tup [vZ (if x<4611686018427387904 then (x:Int) else 0),bZ (decide (x<4611686018427387904))]):=by
 have:=L8 (decide ((x:Int)<0)) (j3 (x:Int).natAbs) (by unfold nw at hx; omega) (U3 _) (H9 _)
 rw [D5,T4] at this
 have e:(((x:Int).natAbs:Nat):Int)=(x:Int):=by omega
 rw [e] at this
 have e2:decide ((x:Int)<4611686018427387904)=decide (x<4611686018427387904):=v7 oM
 rw [e2] at this
 by_cases c:x<4611686018427387904
 ·rw [if_pos oM] at this; rwa [if_pos c]
 ·rw [if_neg oM] at this; rwa [if_neg c]
theorem m1b (m n:Bool)(ws vs:List Int)(hl:ws.length<9999999999)(hl2:vs.length<9999999999)(h:Wd ws)(h2:Wd vs):Y2 E 80 [pI m ws,pI n vs] (pZ (if P2 m ws=true∧P2 n vs=true then (Int.gcd (sg m (val ws)) (sg n (val vs)):Int) else 0)):=by
 refine j2 (xs:=[pZ (if P2 m ws=true∧P2 n vs=true then (Int.gcd (sg m (val ws)) (sg n (val vs)):Int) else 0)]) Tryz.func80 rfl Tryz.ntmps80 Tryz.results80 sM fun F hG hX0 hnt hdf P0=>?_
 obtain ⟨L,hX,hN⟩:=pro hnt hX0 hG
 refine exr (swb (R3 (k:=2) (n:=2) pa2 rfl rfl (P0 _ rfl) L) t1 t0 ⟨rfl,rfl⟩ (swb (R3 (k:=3) (n:=2) pa2 rfl rfl (P0 _ rfl) L) t1 t0 ⟨rfl,rfl⟩ (swb (T3 (k:=4) (n:=2) zv45 (.cons rfl (.cons rfl .nil)) rfl (P0 _ rfl) L) t0 t0 ⟨rfl,rfl⟩ (zn [(2,_),(3,_),(4,_)] [(2,_),(3,_),(4,_)] t3 t3 (R1 ?_)))))
 refine exm (sl:=[(18,vb (decide (¬ (P2 m ws=true∧P2 n vs=true))))]) (sl0:=[(2,_),(3,_),(4,_)]) (hb:=[]) (hb0:=[(2,_),(3,_),(4,_)]) t3 t3 ?_ ?_
 ·by_cases hca:P2 m ws=true
  ·refine lp2 ag45 sz45 L rfl rfl (cK hG hX cl77 hN (J5 m ws oM) L t1 (sw (P3 L) t1 t0 (mV L rfl (swg (g:=14) rfl (by simp [hca]) (l6 ag45 sz45 rF (by exact al2) rfl L) rfl t1 t1 ?_))))
   refine swg (g:=14) rfl (by simp [hca]) (c_c hG hX cl77 rfl hN (J5 n vs oM) L) rfl t1 t0 ?_
   refine swg (g:=14) rfl (by simp [hca]) (P3 L) rfl t1 t0 ?_
   refine sw (V3 (by simp [hca]) L) t2 t0 ?_
   exact O1 ⟨⟨ob rfl (by simp [hca]),rfl,rfl,rfl,trivial⟩,t3⟩
  ·refine lp2 ag45 sz45 L rfl rfl (cK hG hX cl77 hN (J5 m ws oM) L t1 (sw (P3 L) t1 t0 (mV L rfl (swn (g:=14) rfl (by simp [hca]) L rfl ?_))))
   refine swn (g:=14) rfl (by simp [hca]) L rfl ?_
   refine swn (g:=14) rfl (by simp [hca]) L rfl ?_
   refine sw (m4 (by simp [hca]) L) t2 t0 ?_
   exact O1 ⟨⟨ob rfl (by simp [hca]),rfl,rfl,rfl,trivial⟩,t3⟩
 refine D2 rfl (fun hc=>?_) (fun hc=>?_)
 ·have hc:=dt hc
  refine exr (sw (Y7 (E6 (vs:=[]) un45 zv45 (.cons rfl (.cons rfl .nil)) ((y2.cons sz4 (y2.cons sz43 y2.nil))).to rfl .nil (.cons (.cons .nil)) L) (.agg (.cons .same (.cons .nil .nil)))) t0 t0 (sb (U2 sz45 rF pa2 rfl pu2) t2 t1 ?_))
  refine zn [(4,_)] [(4,_)] t1 t1 (V1 ?_)
  refine Q0 (.agg rfl rfl rfl ag45 sz45 (.cons (.cons .nil))) ?_
  rw [if_neg hc,D8]; rfl
 ·have hc:=Decidable.not_not.1 (df hc)
  have ab:=J0h m ws oM h
  have ab2:=J0h n vs oM h2
  rw [if_pos hc.1] at ab
  rw [if_pos hc.2] at ab2
  have na:=n0c (m:=m) h
  have nb:=n0c (m:=n) h2
  rw [if_pos hc]
  obtain ⟨A,hA⟩:∃ A,A=sg m (val ws):=⟨_,rfl⟩
  obtain ⟨B,hB⟩:∃ B,B=sg n (val vs):=⟨_,rfl⟩
  rw [← hA] at ab na ⊢
  rw [← hB] at ab2 nb ⊢
  refine U1 (xq ?_)
  refine exd rF ?_
  refine lp2 ag45 sz45 L rfl rfl (cK hG hX cl117 hN ab L t1 (lp2 ag45 sz45 L rfl rfl (cK hG hX cl117 hN ab2 L t1 (swb (T3 (k:=5) (n:=2) zv45 (.cons rfl (.cons rfl .nil)) rfl (P0 _ rfl) L) t0 t0 ⟨rfl,rfl⟩ (swb (T3 (k:=6) (n:=2) zv45 (.cons rfl (.cons rfl .nil)) rfl (P0 _ rfl) L) t0 t0 ⟨rfl,rfl⟩ (sb (U2 sz45 rF pa2 rfl pu2) t2 t1 ?_))))))
  refine sb (U2 sz45 rF pa2 rfl pu2) t2 t1 ?_
  refine O1 ⟨aok rfl rfl,[(4,_),(5,_),(6,_)],[(4,_),(5,_),(6,_)],t3,t3,?_⟩
  refine R1 (X1 ?_)
  refine exl (α:=(Nat×Nat)) (fun x=>[]) (fun x=>[(5,bI (x.1:Int)),(6,bI (x.2:Int))]) (fun x=>Nat.gcd x.1 x.2=Int.gcd A B∧x.1≤max A.natAbs B.natAbs∧x.2≤max A.natAbs B.natAbs) (fun x=>x.2) ((A.natAbs,B.natAbs)) (sl:=[(4,_),(5,_),(6,_)]) (hb:=[(4,_)]) ?_ t3 t3 ?_
  ·exact ⟨rfl,Nat.le_max_left _ _,Nat.le_max_right _ _⟩
  intro x hx
  obtain ⟨x,y⟩:=x
  obtain ⟨hg,hx,hy⟩:=hx
  simp only at hg hx hy
  dsimp only
  have hnx:nw (x:Int)<9999999999:=by
   rcases (show x≤A.natAbs∨x≤B.natAbs by omega) with c | c
   ·have:=F8 (a:=(x:Int)) (b:=A) (by simpa using c); omega
   ·have:=F8 (a:=(x:Int)) (b:=B) (by simpa using c); omega
  have hny:nw (y:Int)<9999999999:=by
   rcases (show y≤A.natAbs∨y≤B.natAbs by omega) with c | c
   ·have:=F8 (a:=(y:Int)) (b:=A) (by simpa using c); omega
   ·have:=F8 (a:=(y:Int)) (b:=B) (by simpa using c); omega
  refine R1 (exr (sw (Z1 un45 rfl sz43 dC rX L) t1 t1 ?_))
  refine sw (Y1 ag43 rF rF L) t1 t1 ?_
  refine sw (R2 un43 L) t1 t0 (sw (X6 L) t2 t0 (zn [(4,_),(5,_),(6,_),(27,_)] [(4,_),(5,_),(6,_)] t4 t3 ?_))
  refine D2 rfl (fun he=>?_) (fun he=>?_)
  ·have he:=dt he
   have hyp:0<y:=by
    by_cases c:y=0
    ·subst c; simp [X4] at he
    ·omega
   refine U1 (xq ?_)
   refine X1 (exr (lp2 ag45 sz45 L rfl rfl (cK hG hX cl118 hN (J1b x oM) L t1 (mV L rfl (sw (i4 rfl L) t1 t0 (sw (i4 rfl L) t1 t0 (aV L rfl (aV L rfl (zn [(4,_),(5,_),(6,_),(7,_),(8,_)] [(4,_),(5,_),(6,_)] t5 t3 (exr (lp2 ag45 sz45 L rfl rfl ?_)))))))))))
   refine cK hG hX cl118 hN (J1b y oM) L t1 (mV L rfl (sw (i4 rfl L) t1 t0 (sw (i4 rfl L) t1 t0 (aV L rfl (aV L rfl (zn [(4,_),(5,_),(6,_),(7,_),(8,_),(9,_),(10,_)] [(4,_),(5,_),(6,_)] t7 t3 (R1 ?_)))))))
   refine exm (sl:=[(41,vb (decide (x<4611686018427387904∧y<4611686018427387904)))]) (sl0:=[(4,_),(5,_),(6,_),(7,_),(9,_)]) (hb:=[]) (hb0:=[(4,_),(5,_),(6,_)]) t5 t3 ?_ ?_
   ·by_cases hs:x<4611686018427387904
    ·refine mV L rfl (mV L rfl (gV (g:=39) rfl (decide_eq_true hs) L rfl rfl (sw (m4 (decide_eq_true hs) L) t2 t0 ?_)))
     exact O1 ⟨⟨ob rfl (v7 ⟨fun c=>⟨hs,c⟩,fun c=>c.2⟩),rfl,rfl,rfl,rfl,rfl,trivial⟩,t3⟩
    ·refine mV L rfl (mV L rfl (swn (g:=39) rfl (decide_eq_false hs) L rfl (sw (V3 (decide_eq_false hs) L) t2 t0 ?_)))
     exact O1 ⟨⟨ob rfl (decide_eq_false (fun c=>hs c.1)).symm,rfl,rfl,rfl,rfl,rfl,trivial⟩,t3⟩
   refine D2 rfl (fun hs=>?_) (fun hs=>?_)
   ·have hs:=dt hs
    rw [if_pos hs.1,if_pos hs.2]
    refine R1 (X1 ?_)
    refine exl (α:=(Nat×Nat)) (fun z=>[(7,vi (z.1:Int)),(9,vi (z.2:Int))]) (fun z=>[]) (fun z=>Nat.gcd z.1 z.2=Int.gcd A B∧z.1<4611686018427387904∧z.2<4611686018427387904) (fun z=>z.2) ((x,y)) (sl:=[(4,_)]) (hb:=[(4,_)]) ?_ ⟨oR,oR,rfl,trivial⟩ t1 ?_
    ·exact ⟨hg,by simp only; omega,by simp only; omega⟩
    intro z hz
    obtain ⟨u,v⟩:=z
    obtain ⟨hg2,hu,hv⟩:=hz
    simp only at hg2 hu hv
    dsimp only
    refine R1 (exr (mV L rfl (sw (X6 L) t2 t0 (zn [(4,_),(7,_),(9,_),(43,_)] [(4,_)] t4 t1 ?_))))
    refine D2 rfl (fun hf=>?_) (fun hf=>?_)
    ·have hf:=dt hf
     have hlt:=Nat.mod_lt u (show 0<v by omega)
     refine U1 (xq ?_)
     refine X1 (m0v rF ?_)
     refine mV L rfl (mV L rfl (mV L rfl (sw (c_r L oM (show _=((u % v:Nat):Int) by rw [Int.tmod_eq_emod_of_nonneg oM]; rfl)) t2 t0 ?_)))
     refine aV L rfl (aV L rfl ?_)
     refine O1 ⟨B5 [⟨[9],[],[44],[]⟩,⟨[7],[],[45],[]⟩,⟨[9],[],[46],[]⟩,⟨[45,46],[],[47],[]⟩,⟨[44],[],[7],[]⟩,⟨[47],[],[9],[]⟩] rF rF dC,?_⟩
     exact ⟨(v,u % v),⟨by rw [← n0p]; exact hg2,hv,by simp only; omega⟩,(by simp only; omega),E3 ⟨oR,oR,rfl,trivial⟩ t1⟩
    ·have hf:=df hf
     have hv0:v=0:=by omega
     subst hv0
     rw [Nat.gcd_zero_right] at hg2
     subst hg2
     refine L2 (xq ?_)
     refine exr (mV L rfl (cK hG hX cl119 hN (b0k (Int.gcd A B:Nat) oM oM) L t1 (sb (U2 sz45 rF pa2 rfl pu2) t2 t1 ?_)))
     refine zn [(4,_)] [(4,_)] t1 t1 (V1 ?_)
     refine Q0 (.agg rfl rfl rfl ag45 sz45 (.cons (.cons .nil))) ?_
     rfl
   ·have hs:=df hs
    have hml:=Nat.mod_lt x hyp
    refine U1 (xq ?_)
    refine m0v rF ?_
    refine lp2 ag45 sz45 L rfl rfl (lp2 ag45 sz45 L rfl rfl (lp2 ag45 sz45 L rfl rfl (cK hG hX cl120 hN (V1h (x:Int) (y:Int) oM oM oM) L t2 (sb (U2 sz45 rF pa2 rfl pu2) t2 t1 ?_))))
    refine sb (U2 sz45 rF pa2 rfl pu2) t2 t1 ?_
    refine O1 ⟨B5 [⟨[6],[6],[50],[]⟩,⟨[5],[5],[51],[]⟩,⟨[6],[6],[52],[]⟩,⟨[51,52],[],[53],[]⟩,⟨[5,50],[5],[],[5]⟩,⟨[6,53],[6],[],[6]⟩] rF rF dC,?_⟩
    exact ⟨(y,x % y),⟨by rw [← n0p]; exact hg,hy,by simp only; omega⟩,(by simp only; omega),E3 t3 t3⟩
  ·have he:=df he
   have hy0:y=0:=by
    have:(j3 (y:Int).natAbs).length=0:=by omega
    rw [q7] at this; omega
   subst hy0
   rw [Nat.gcd_zero_right] at hg
   subst hg
   refine L2 (xq ?_)
   refine exr (lp2 ag45 sz45 L rfl rfl (sb (U2 sz45 rF pa2 rfl pu2) t2 t1 ?_))
   refine zn [(4,_)] [(4,_)] t1 t1 (V1 ?_)
   refine Q0 (.agg rfl rfl rfl ag45 sz45 (.cons (.cons .nil))) ?_
   rfl
theorem J1p (a b:Int)(ha:nw a<9999999999)(hb:nw b<9999999999):Y2 E 80 [pZ a,pZ b] (pZ (Int.gcd a b:Int)):=by
 have:=m1b (decide (a<0)) (decide (b<0)) (j3 a.natAbs) (j3 b.natAbs) ha hb (U3 _) (U3 _)
 rwa [if_pos ⟨L3 a,L3 b⟩,D5,D5] at this
end Go.Proofs.YtjagfionflbjbaaGreat.N
namespace Go.Proofs.YtjagfionflbjbaaGreat.NumA
open Go
theorem p1s {a b:Int}(hb:b≠0):nw (Int.gcd a b:Int)≤nw b:=by
 have:Int.gcd a b≤b.natAbs:=Nat.le_of_dvd (by omega) (Nat.gcd_dvd_right _ _)
 exact F8 (by simpa using this)
end Go.Proofs.YtjagfionflbjbaaGreat.NumA
namespace Go.Proofs.YtjagfionflbjbaaGreat.NumA
open Go
theorem m0z:nw 1=1:=by simp [nw,j0g,X4]
end Go.Proofs.YtjagfionflbjbaaGreat.NumA
namespace Go.Proofs.YtjagfionflbjbaaGreat.NumA
open Go
end Go.Proofs.YtjagfionflbjbaaGreat.NumA
namespace Go.Proofs.YtjagfionflbjbaaGreat.NumA
open Go
open Go.Lib
end Go.Proofs.YtjagfionflbjbaaGreat.NumA
namespace Go.Proofs.YtjagfionflbjbaaGreat.NumA
open Go
open Go.Lib
end Go.Proofs.YtjagfionflbjbaaGreat.NumA
namespace Go.Proofs.YtjagfionflbjbaaGreat.NumA
open Go
def qw (a:Rat):Nat:=max (nw a.num) (nw a.den)
theorem n5 (a:Rat):nw a.num≤qw a:=Nat.le_max_left _ _
theorem I5 (a:Rat):nw (a.den:Int)≤qw a:=Nat.le_max_right _ _
def h0d (n d:Int):Int:=if d<0 then -(Int.gcd n d:Int) else Int.gcd n d
theorem d0g {n d:Int}(h:d≠0):(Rat.divInt n d).num=n / h0d n d:=by
 rw [Rat.num_divInt,h0d,Int.gcd_comm]
 rcases Int.lt_trichotomy d 0 with h0 | h0 | h0
 ·rw [if_pos h0,Int.sign_eq_neg_one_of_neg h0,Int.ediv_neg,Int.neg_one_mul]
  rw [Int.neg_ediv_of_dvd (Int.gcd_dvd_left ..)]
 ·exact absurd h0 h
 ·rw [if_neg (by omega),Int.sign_eq_one_of_pos h0,Int.one_mul]
theorem b0z {n d:Int}(h:d≠0):((Rat.divInt n d).den:Int)=d / h0d n d:=by
 rw [Rat.den_divInt,if_neg h,h0d,Int.gcd_comm,Int.natCast_ediv]
 rcases Int.lt_trichotomy d 0 with h0 | h0 | h0
 ·rw [if_pos h0,Int.ediv_neg,show ((d.natAbs:Nat):Int) = -d by omega,Int.neg_ediv_of_dvd (Int.gcd_dvd_right ..)]
 ·exact absurd h0 h
 ·rw [if_neg (by omega),show ((d.natAbs:Nat):Int)=d by omega]
theorem Y0f {n d:Int}(h:d≠0):qw (Rat.divInt n d)≤max (nw n) (nw d):=by
 unfold qw
 rw [d0g h,b0z h]
 have h1:nw (n / h0d n d)≤nw n:=F8 (Int.natAbs_ediv_le_natAbs ..)
 have h2:nw (d / h0d n d)≤nw d:=F8 (Int.natAbs_ediv_le_natAbs ..)
 omega
theorem O8 (a:Rat):(a.den:Int)≠0:=by have:=a.den_nz; omega
theorem P0m (a:Rat):Rat.divInt a.num a.den=a:=by rw [Rat.divInt_ofNat,Rat.mkRat_self]
theorem H0k (a b:Rat):Rat.divInt (a.num*b.den+b.num*a.den) (a.den*b.den)=a+b:=by
 have:=Rat.divInt_add_divInt a.num b.num (O8 a) (O8 b)
 rw [P0m,P0m] at this
 exact this.symm
theorem w1s (a b:Rat):Rat.divInt (a.num*b.num) (a.den*b.den)=a*b:=by
 have:=Rat.divInt_mul_divInt a.num b.num (d₁:=a.den) (d₂:=b.den)
 rw [P0m,P0m] at this
 exact this.symm
theorem H1s (a:Rat):Rat.divInt a.den a.num=a⁻¹:=(Rat.inv_def a).symm
theorem D1a {a:Rat}:a.num≠0↔a≠0:=by rw [Ne,Rat.num_eq_zero]
theorem B1w (a b:Rat):qw (a+b)≤qw a+qw b+1:=by
 rw [← H0k]
 have h1:=Y0f (n:=a.num*b.den+b.num*a.den) (d:=a.den*b.den) (Int.mul_ne_zero (O8 a) (O8 b))
 have h2:=d1r (a.num*b.den) (b.num*a.den)
 have h3:=K7 a.num b.den
 have h4:=K7 b.num a.den
 have h5:=K7 a.den b.den
 have:=n5 a; have:=n5 b; have:=I5 a; have:=I5 b
 omega
theorem Z9 (a b:Rat):qw (a*b)≤qw a+qw b:=by
 rw [← w1s]
 have h1:=Y0f (n:=a.num*b.num) (d:=a.den*b.den) (Int.mul_ne_zero (O8 a) (O8 b))
 have h3:=K7 a.num b.num
 have h5:=K7 a.den b.den
 have:=n5 a; have:=n5 b; have:=I5 a; have:=I5 b
 omega
theorem M0r (a:Rat):qw (-a)=qw a:=by unfold qw; rw [Rat.neg_num,Rat.neg_den,v1m]
theorem J1z (a b:Rat):qw (a - b)≤qw a+qw b+1:=by rw [Rat.sub_eq_add_neg,← M0r b]; exact B1w a (-b)
theorem q1r {a:Rat}(h:a≠0):qw a⁻¹≤qw a:=by
 rw [← H1s]
 have h1:=Y0f (n:=a.den) (d:=a.num) (D1a.2 h)
 unfold qw; unfold qw at h1; omega
theorem M1j {a b:Rat}(h:b≠0):qw (a / b)≤qw a+qw b:=by
 rw [Rat.div_def]; have:=Z9 a b⁻¹; have:=q1r h; omega
theorem P0b:qw 0=1:=by simp [qw,m0z,g1n.2]
theorem F0g:qw 1=1:=by simp [qw,m0z]
def q0d (a b:Rat):Int:=if a<b then -1 else if b<a then 1 else 0
theorem v1q (a b:Rat):X7 (a.num*b.den) (b.num*a.den)=q0d a b:=by
 unfold X7 q0d
 simp only [Rat.lt_iff]
theorem v1f (a:Rat):a.num.sign=q0d a 0:=by
 rw [← v1q]
 unfold X7
 simp only [Rat.zero_num,Rat.zero_den,Int.zero_mul,Int.natCast_one,Int.mul_one]
 rcases Int.lt_trichotomy a.num 0 with h | h | h
 ·rw [if_pos h,Int.sign_eq_neg_one_of_neg h]
 ·rw [h,if_neg (by omega),if_neg (by omega)]; rfl
 ·rw [if_neg (by omega),if_pos h,Int.sign_eq_one_of_pos h]
theorem G1y (a:Rat):a.num.sign=0↔a=0:=by rw [Int.sign_eq_zero_iff_zero,Rat.num_eq_zero]
theorem Q1p {a b:Rat}(h1:a.num=b.num)(h2:(a.den:Int)=b.den):a=b:=Rat.ext h1 (by omega)
theorem b7 (n:Int):Rat.divInt n 1=(n:Rat):=by
 refine Q1p ?_ ?_
 ·rw [d0g (by decide)]; simp [h0d]
 ·rw [b0z (by decide)]; simp [h0d]
theorem g1r {n d:Int}(h:d≠0):h0d n d≠0:=by
 have:Int.gcd n d≠0:=by rw [Ne,Int.gcd_eq_zero_iff]; exact fun hh=>h hh.2
 unfold h0d; split <;> omega
theorem h1n {n d:Int}(h:d≠0):nw (h0d n d)≤nw d:=by
 have:=p1s (a:=n) h
 unfold h0d; split
 ·rwa [v1m]
 ·exact this
theorem W0g {n d:Int}(h:Int.gcd n d=1)(h0:¬ d<0):h0d n d=1:=by rw [h0d,if_neg h0,h]; rfl
end Go.Proofs.YtjagfionflbjbaaGreat.NumA
set_option maxRecDepth 100000
set_option maxHeartbeats 4000000
namespace Go.Proofs.YtjagfionflbjbaaGreat.N
open Go Go.Proofs.YtjagfionflbjbaaGreat.SH Go.Proofs.YtjagfionflbjbaaGreat.NumA
open Go.Proofs.Tryz renaming call100→cl100,call101→cl101,call102→cl102,call105→cl105,call108→cl108,call109→cl109,call110→cl110,call111→cl111,call112→cl112,call113→cl113,call114→cl114,call115→cl115,call116→cl116,call119→cl119,call121→cl121,call125→cl125,call128→cl128,call130→cl130,call134→cl134,call135→cl135,call137→cl137,call140→cl140,call148→cl148,call152→cl152,call49→cl49,call56→cl56,call62→cl62,call67→cl67,call76→cl76,call77→cl77,call78→cl78,call79→cl79,call80→cl80,call81→cl81,call82→cl82,call83→cl83,call88→cl88,isAgg119→ag119,isAgg43→ag43,isAgg45→ag45,isAgg47→ag47,isAgg4→ag4,sizeOf119→sz119,sizeOf43→sz43,sizeOf45→sz45,sizeOf47→sz47,sizeOf4→sz4,underlying43→un43,underlying45→un45,underlying47→un47,zeroValue45→zv45,zeroValue47→zv47
@[reducible] def pR (m:Bool)(ws:List Int)(n:Bool)(vs:List Int):J2:=.agg [.a (.bool m),.sl ws.length (K4 ws),.a (.bool n),.sl vs.length (K4 vs)]
@[reducible] def pN (n d:Int):J2:=pR (decide (n<0)) (j3 n.natAbs) (decide (d<0)) (j3 d.natAbs)
@[reducible] def pQ (a:Rat):J2:=pN a.num a.den
theorem cN {a:Rat}{n d:Int}(h1:a.num=n)(h2:(a.den:Int)=d):pN n d=pQ a:=by subst h1 h2; rfl
theorem p1g (n:Int):n=1↔(j3 n.natAbs).length=1∧(j3 n.natAbs).getD 0 0=1∧¬ n<0:=by
 constructor
 ·rintro rfl; refine ⟨m0z,?_,by decide⟩
  have:val (j3 1)=1:=T4 1
  have h1:(j3 1).length=1:=m0z
  show (j3 1).getD 0 0=1
  match j3 1,h1,this with
  | [w],_,h=>simpa [val] using h
 ·rintro ⟨h1,h2,h3⟩
  have h4:=T4 n.natAbs
  match e:j3 n.natAbs,h1 with
  | [w],_ =>
   rw [e] at h2 h4
   simp only [val,List.getD_cons_zero] at h2 h4
   omega
theorem Q1q (n:Int):((j3 n.natAbs).length≠1∧n≠1)∨((j3 n.natAbs).length=1∧(j3 n.natAbs).getD 0 0≠1∧n≠1)∨((j3 n.natAbs).length=1∧(j3 n.natAbs).getD 0 0=1∧(n=1↔¬ n<0)):=by
 have:=p1g n
 by_cases h1:(j3 n.natAbs).length=1
 ·by_cases h2:(j3 n.natAbs).getD 0 0=1
  ·exact .inr (.inr ⟨h1,h2,by rw [this]; simp only [h1,h2,true_and]⟩)
  ·exact .inr (.inl ⟨h1,h2,fun h=>h2 (this.1 h).2.1⟩)
 ·exact .inl ⟨h1,fun h=>h1 (this.1 h).1⟩
theorem g0s (n:Int)(h:nw n<999999999999):Y2 E 113 [pZ n] (bZ (decide (n=1))):=by
 refine j2 (xs:=[bZ (decide (n=1))]) Tryz.func113 rfl Tryz.ntmps113 Tryz.results113 sM fun F hG hX0 hnt hdf P0=>?_
 obtain ⟨L,hX,hN⟩:=pro hnt hX0 hG
 unfold nw at h
 refine exr (swb (R3 (k:=1) (n:=2) pa2 rfl rfl (P0 _ rfl) L) t1 t0 ⟨rfl,rfl⟩ (aV L rfl (zn [(1,_)] [(1,_)] t1 t1 ?_)))
 refine exm (sl:=[(2,vb (decide (n=1)))]) (sl0:=[]) (hb:=[]) (hb0:=[]) t0 t0 ?_ ?_
 ·rcases Q1q n with ⟨h1,h2⟩ | ⟨h1,h2,h3⟩ | ⟨h1,h2,h3⟩
  ·refine sw (Z1 un45 rfl sz43 dC rX L) t1 t1 ?_
   refine sw (Y1 ag43 rF rF L) t1 t1 ?_
   refine sw (R2 un43 L) t1 t0 (sw (c_e L) t2 t0 (mV L rfl (swn (g:=7) rfl sO L rfl (swn (g:=7) rfl sO L rfl (swn (g:=7) rfl sO L rfl (swn (g:=7) rfl sO L rfl (swn (g:=7) rfl sO L rfl (sw (V3 sO L) t2 t0 (mV L rfl (swn (g:=14) rfl rfl L rfl (swn (g:=14) rfl rfl L rfl ?_)))))))))))
   refine swn (g:=14) rfl rfl L rfl (sw (V3 rfl L) t2 t0 (aV L rfl ?_))
   exact O1 ⟨⟨ob rfl (by simp [h2]),trivial⟩,trivial⟩
  ·refine sw (Z1 un45 rfl sz43 dC rX L) t1 t1 ?_
   refine sw (Y1 ag43 rF rF L) t1 t1 ?_
   refine sw (R2 un43 L) t1 t0 (sw (c_e L) t2 t0 (mV L rfl (swg (g:=7) rfl sO (Z1 un45 rfl sz43 dC rX L) rfl t1 t1 ?_)))
   refine swg (g:=7) rfl sO (Y1 ag43 rF rF L) rfl t1 t1 ?_
   refine swg (g:=7) rfl sO (ixJ un43 sz119 (j:=0) rfl oM sM L) rfl t2 t0 ?_
   refine swg (g:=7) rfl sO (v4 ag119 (by first | exact Z5 oM | rfl) L) rfl t1 t0 ?_
   refine swg (g:=7) rfl sO (c_e L) rfl t2 t0 (sw (m4 sO L) t2 t0 (mV L rfl (swn (g:=14) rfl (by simpa using h2) L rfl ?_)))
   refine swn (g:=14) rfl (by simpa using h2) L rfl ?_
   refine swn (g:=14) rfl (by simpa using h2) L rfl ?_
   refine sw (V3 (by simpa using h2) L) t2 t0 ?_
   refine aV L rfl ?_
   exact O1 ⟨⟨ob rfl (by simp [h3]),trivial⟩,trivial⟩
  ·refine sw (Z1 un45 rfl sz43 dC rX L) t1 t1 ?_
   refine sw (Y1 ag43 rF rF L) t1 t1 ?_
   refine sw (R2 un43 L) t1 t0 (sw (c_e L) t2 t0 (mV L rfl (swg (g:=7) rfl sO (Z1 un45 rfl sz43 dC rX L) rfl t1 t1 ?_)))
   refine swg (g:=7) rfl sO (Y1 ag43 rF rF L) rfl t1 t1 ?_
   refine swg (g:=7) rfl sO (ixJ un43 sz119 (j:=0) rfl oM sM L) rfl t2 t0 ?_
   refine swg (g:=7) rfl sO (v4 ag119 (by first | exact Z5 oM | rfl) L) rfl t1 t0 ?_
   refine swg (g:=7) rfl sO (c_e L) rfl t2 t0 (sw (m4 sO L) t2 t0 (mV L rfl (swg (g:=14) rfl (by simpa using h2) (Z1 un45 rfl sz4 dC rX L) rfl t1 t1 ?_)))
   refine swg (g:=14) rfl (by simpa using h2) (Y1 ag4 rF rF L) rfl t1 t1 ?_
   refine swg (g:=14) rfl (by simpa using h2) (P3 L) rfl t1 t0 ?_
   refine sw (m4 (by simpa using h2) L) t2 t0 ?_
   refine aV L rfl ?_
   exact O1 ⟨⟨ob rfl (by rw [v7 h3]; exact (decide_not ..).symm),trivial⟩,trivial⟩
 refine V1 ?_
 refine Q0 (.tmp rfl) ?_
 rfl
theorem V0c  : Y2 E 128 [] (pZ 1):=by
 refine j2 (xs:=[pZ 1]) Tryz.func128 rfl Tryz.ntmps128 Tryz.results128 sM fun F hG hX0 hnt hdf P0=>?_
 obtain ⟨L,hX,hN⟩:=pro hnt hX0 hG
 refine exr (swb (T3 (k:=0) (n:=2) zv45 (.cons rfl (.cons rfl .nil)) rfl (P0 _ rfl) L) t0 t0 ⟨rfl,rfl⟩ (zn [(0,_)] [(0,_)] t1 t1 (exr (cK hG hX cl101 hN (M0n 1 dC dC) L t1 (sb (U2 sz45 rF pa2 rfl pu2) t2 t1 ?_)))))
 refine zn [(0,_)] [(0,_)] t1 t1 (V1 ?_)
 refine Q0 (.agg rfl rfl rfl ag45 sz45 (.cons (.cons .nil))) ?_
 rfl
theorem M0k (a b:Int)(ha:nw a<99999999999)(hb:nw b<99999999999)(h0:b≠0):Y2 E 137 [pZ a,pZ b] (pZ (a / b)):=by
 refine j2 (xs:=[pZ (a / b)]) Tryz.func137 rfl Tryz.ntmps137 Tryz.results137 sM fun F hG hX0 hnt hdf P0=>?_
 obtain ⟨L,hX,hN⟩:=pro hnt hX0 hG
 refine exr (swb (R3 (k:=2) (n:=2) pa2 rfl rfl (P0 _ rfl) L) t1 t0 ⟨rfl,rfl⟩ (swb (R3 (k:=3) (n:=2) pa2 rfl rfl (P0 _ rfl) L) t1 t0 ⟨rfl,rfl⟩ (swb (T3 (k:=4) (n:=2) zv45 (.cons rfl (.cons rfl .nil)) rfl (P0 _ rfl) L) t0 t0 ⟨rfl,rfl⟩ (zn [(2,_),(3,_),(4,_)] [(2,_),(3,_),(4,_)] t3 t3 (exr (lp2 ag45 sz45 L rfl rfl (lp2 ag45 sz45 L rfl rfl (cK hG hX cl152 hN (V1p a b oM oM h0) L t2 (mV L rfl (sw (i4 rfl L) t1 t0 (sw (i4 rfl L) t1 t0 ?_)))))))))))
 refine sw (i4 rfl L) t1 t0 (swb (T3 (k:=5) (n:=2) zv45 (.cons rfl (.cons rfl .nil)) rfl (P0 _ rfl) L) t0 t0 ⟨rfl,rfl⟩ (swb (T3 (k:=6) (n:=2) zv45 (.cons rfl (.cons rfl .nil)) rfl (P0 _ rfl) L) t0 t0 ⟨rfl,rfl⟩ (sb (U2 sz45 rF pa2 rfl pu2) t2 t1 ?_)))
 refine sb (U2 sz45 rF pa2 rfl pu2) t2 t1 ?_
 refine aV L rfl (zn [(4,_),(5,_)] [(4,_),(5,_)] t2 t2 (exr (lp2 ag45 sz45 L rfl rfl (sb (U2 sz45 rF pa2 rfl pu2) t2 t1 ?_))))
 refine zn [(4,_)] [(4,_)] t1 t1 (V1 ?_)
 refine Q0 (.agg rfl rfl rfl ag45 sz45 (.cons (.cons .nil))) ?_
 rfl
theorem J1j (a:Int):a.sign = -1∧a<0∨a.sign=0∧a=0∨a.sign=1∧0<a:=by
 rcases Int.lt_trichotomy a 0 with h | h | h
 ·exact .inl ⟨Int.sign_eq_neg_one_of_neg h,h⟩
 ·exact .inr (.inl ⟨by rw [h]; rfl,h⟩)
 ·exact .inr (.inr ⟨Int.sign_eq_one_of_pos h,h⟩)
theorem gz {n d:Int}(h0:d≠0):(Int.gcd n d:Int)≠0:=by
 intro h; exact h0 (Int.gcd_eq_zero_iff.1 (show Int.gcd n d=0 by omega)).2
theorem gn {n d:Int}{k:Nat}(h0:d≠0)(hd:nw d<k):nw (Int.gcd n d:Int)<k:=Nat.lt_of_le_of_lt (p1s h0) hd
theorem gs {n d:Int}(h0:d≠0):¬ (Int.gcd n d:Int).sign=0:=by rw [Int.sign_eq_zero_iff_zero]; exact gz h0
theorem sg0 {d:Int}:(d.sign<0)=(d<0):=by
 rcases J1j d with h | h | h <;> (rw [h.1]; simp <;> omega)
theorem sgn {n d:Int}(h:d<0):h0d n d = -(Int.gcd n d:Int):=by rw [h0d,if_pos h]
theorem sgp {n d:Int}(h:¬ d<0):h0d n d=Int.gcd n d:=by rw [h0d,if_neg h]
theorem q1y (n d:Int)(h0:d≠0)(hn:nw n<90000000000)(hd:nw d<90000000000):Y2 E 110 [pZ n,pZ d] (pQ (Rat.divInt n d)):=by
 refine j2 (xs:=[pQ (Rat.divInt n d)]) Tryz.func110 rfl Tryz.ntmps110 Tryz.results110 sM fun F hG hX0 hnt hdf P0=>?_
 obtain ⟨L,hX,hN⟩:=pro hnt hX0 hG
 have hg:=gn (n:=n) h0 hd
 have hs:=g1r (n:=n) h0
 have hw:=h1n (n:=n) h0
 refine exr (swb (R3 (k:=2) (n:=2) pa2 rfl rfl (P0 _ rfl) L) t1 t0 ⟨rfl,rfl⟩ (swb (R3 (k:=3) (n:=2) pa2 rfl rfl (P0 _ rfl) L) t1 t0 ⟨rfl,rfl⟩ (swb (T3 (k:=4) (n:=4) zv47 (.cons rfl (.cons rfl (.cons rfl (.cons rfl .nil)))) rfl (P0 _ rfl) L) t0 t0 ⟨rfl,rfl⟩ (zn [(2,_),(3,_),(4,_)] [(2,_),(3,_),(4,_)] t3 t3 (R1 (exr (lp2 ag45 sz45 L rfl rfl (cK hG hX cl113 hN (g0s d oM) L t1 (zn [(2,_),(3,_),(4,_),(7,_)] [(2,_),(3,_),(4,_)] t4 t3 ?_)))))))))
 refine D2 rfl (fun h1=>?_) (fun h1=>?_)
 ·have h1:=dt h1
  refine exr (lp2 ag45 sz45 L rfl rfl (lp2 ag45 sz45 L rfl rfl (sw (E6 (vs:=[_,_]) un47 zv47 (.cons rfl (.cons rfl (.cons rfl (.cons rfl .nil)))) ((y2.cons sz45 (y2.cons sz45 y2.nil))).to rfl (.cons rfl pa2 rfl pu2 (.cons rfl pa2 rfl (.skip (.skip pu2)) .nil)) (.cons (.cons (.cons (.cons .nil)))) L) t2 t0 (sb (U2 sz47 rF pa4 rfl pu4) t2 t1 ?_))))
  refine zn [(4,_)] [(4,_)] t1 t1 (V1 ?_)
  refine Q0 (.agg rfl rfl rfl ag47 sz47 (.cons (.cons (.cons (.cons .nil))))) ?_
  exact congrArg (· :: []) (cN (by rw [h1,b7]; rfl) (by rw [h1,b7]; rfl))
 ·refine U1 (xq ?_)
  refine exr (lp2 ag45 sz45 L rfl rfl (lp2 ag45 sz45 L rfl rfl (cK hG hX cl135 hN (P1w n d oM oM) L t2 (swb (T3 (k:=5) (n:=2) zv45 (.cons rfl (.cons rfl .nil)) rfl (P0 _ rfl) L) t0 t0 ⟨rfl,rfl⟩ (sb (U2 sz45 rF pa2 rfl pu2) t2 t1 ?_)))))
  refine zn [(2,_),(3,_),(4,_),(5,_)] [(2,_),(3,_),(4,_),(5,_)] t4 t4 (R1 ?_)
  refine exm (sl:=[(20,vb (decide ((Int.gcd n d:Int)=1∧¬ d<0)))]) (sl0:=[(2,_),(3,_),(4,_),(5,_)]) (hb:=[]) (hb0:=[(2,_),(3,_),(4,_),(5,_)]) t4 t4 ?_ ?_
  ·by_cases hg1:(Int.gcd n d:Int)=1
   ·refine lp2 ag45 sz45 L rfl rfl (cK hG hX cl113 hN (g0s (Int.gcd n d:Int) oM) L t1 (mV L rfl (swg (g:=16) rfl (by simp [hg1]) (Z1 un45 rfl sz4 dC rX L) rfl t1 t1 ?_)))
    refine swg (g:=16) rfl (by simp [hg1]) (Y1 ag4 rF rF L) rfl t1 t1 ?_
    refine swg (g:=16) rfl (by simp [hg1]) (P3 L) rfl t1 t0 ?_
    refine sw (m4 (by simp [hg1]) L) t2 t0 ?_
    exact O1 ⟨⟨ob rfl (by simp only [hg1,true_and]; exact (decide_not ..).symm),rfl,rfl,rfl,rfl,trivial⟩,t4⟩
   ·refine lp2 ag45 sz45 L rfl rfl (cK hG hX cl113 hN (g0s (Int.gcd n d:Int) oM) L t1 (mV L rfl (swn (g:=16) rfl (by simp [hg1]) L rfl ?_)))
    refine swn (g:=16) rfl (by simp [hg1]) L rfl ?_
    refine swn (g:=16) rfl (by simp [hg1]) L rfl ?_
    refine sw (V3 (by simp [hg1]) L) t2 t0 ?_
    exact O1 ⟨⟨ob rfl (by simp [hg1]),rfl,rfl,rfl,rfl,trivial⟩,t4⟩
  refine D2 rfl (fun h2=>?_) (fun h2=>?_)
  ·have h2:=dt h2
   have hh:=W0g (n:=n) (d:=d) oM h2.2
   refine exr (lp2 ag45 sz45 L rfl rfl (lp2 ag45 sz45 L rfl rfl (sw (E6 (vs:=[_,_]) un47 zv47 (.cons rfl (.cons rfl (.cons rfl (.cons rfl .nil)))) ((y2.cons sz45 (y2.cons sz45 y2.nil))).to rfl (.cons rfl pa2 rfl pu2 (.cons rfl pa2 rfl (.skip (.skip pu2)) .nil)) (.cons (.cons (.cons (.cons .nil)))) L) t2 t0 (sb (U2 sz47 rF pa4 rfl pu4) t2 t1 ?_))))
   refine zn [(4,_)] [(4,_)] t1 t1 (V1 ?_)
   refine Q0 (.agg rfl rfl rfl ag47 sz47 (.cons (.cons (.cons (.cons .nil))))) ?_
   exact congrArg (· :: []) (cN (by rw [d0g h0,hh,Int.ediv_one]) (by rw [b0z h0,hh,Int.ediv_one]))
  ·refine U1 (xq ?_)
   refine R1 (exr (lp2 ag45 sz45 L rfl rfl (cK hG hX cl134 hN (V0n (Int.gcd n d:Int) oM) L t1 (sw (c_e L) t2 t0 (zn [(2,_),(3,_),(4,_),(5,_),(26,_)] [(2,_),(3,_),(4,_),(5,_)] t5 t4 ?_)))))
   refine D2 rfl (fun h3=>?_) (fun h3=>?_)
   ·exact absurd (dt h3) (gs h0)
   ·refine U1 (xq ?_)
    refine R1 (exr (lp2 ag45 sz45 L rfl rfl (cK hG hX cl134 hN (V0n d oM) L t1 (sw (d4 L) t2 t0 (zn [(2,_),(3,_),(4,_),(5,_),(30,_)] [(2,_),(3,_),(4,_),(5,_)] t5 t4 ?_)))))
    refine D2 rfl (fun h4=>?_) (fun h4=>?_)
    ·have h4:=dt h4
     rw [sg0] at h4
     rw [sgn h4] at hs hw
     refine y3 (lp2 ag45 sz45 L rfl rfl (cK hG hX cl102 hN (Q1g (Int.gcd n d:Int) oM) L t1 (sb (U2 sz45 rF pa2 rfl pu2) t2 t1 ?_)))
     refine O1 (exd rF ?_)
     refine lp2 ag45 sz45 L rfl rfl (lp2 ag45 sz45 L rfl rfl (cK hG hX cl137 hN (M0k n (-(Int.gcd n d:Int)) oM oM hs) L t2 (lp2 ag45 sz45 L rfl rfl (lp2 ag45 sz45 L rfl rfl (cK hG hX cl137 hN (M0k d (-(Int.gcd n d:Int)) oM oM hs) L t2 (sw (E6 (vs:=[_,_]) un47 zv47 (.cons rfl (.cons rfl (.cons rfl (.cons rfl .nil)))) ((y2.cons sz45 (y2.cons sz45 y2.nil))).to rfl (.cons rfl pa2 rfl pu2 (.cons rfl pa2 rfl (.skip (.skip pu2)) .nil)) (.cons (.cons (.cons (.cons .nil)))) L) t2 t0 (sb (U2 sz47 rF pa4 rfl pu4) t2 t1 ?_)))))))
     refine O1 ⟨B5 [⟨[2],[2],[33],[]⟩,⟨[5],[5],[34],[]⟩,⟨[33,34],[],[35],[]⟩,⟨[3],[3],[36],[]⟩,⟨[5],[5],[37],[]⟩,⟨[36,37],[],[38],[]⟩,⟨[35,38],[],[39],[]⟩,⟨[4,39],[4],[],[4]⟩] rF rF dC,[(4,_)],[(4,_)],t1,t1,?_⟩
     refine V1 ?_
     refine Q0 (.agg rfl rfl rfl ag47 sz47 (.cons (.cons (.cons (.cons .nil))))) ?_
     exact congrArg (· :: []) (cN (by rw [d0g h0,sgn h4]) (by rw [b0z h0,sgn h4]))
    ·have h4:=df h4
     rw [sg0] at h4
     rw [sgp h4] at hs hw
     refine U1 (xq ?_)
     refine exd rF ?_
     refine lp2 ag45 sz45 L rfl rfl (lp2 ag45 sz45 L rfl rfl (cK hG hX cl137 hN (M0k n (Int.gcd n d:Int) oM oM hs) L t2 (lp2 ag45 sz45 L rfl rfl (lp2 ag45 sz45 L rfl rfl (cK hG hX cl137 hN (M0k d (Int.gcd n d:Int) oM oM hs) L t2 (sw (E6 (vs:=[_,_]) un47 zv47 (.cons rfl (.cons rfl (.cons rfl (.cons rfl .nil)))) ((y2.cons sz45 (y2.cons sz45 y2.nil))).to rfl (.cons rfl pa2 rfl pu2 (.cons rfl pa2 rfl (.skip (.skip pu2)) .nil)) (.cons (.cons (.cons (.cons .nil)))) L) t2 t0 (sb (U2 sz47 rF pa4 rfl pu4) t2 t1 ?_)))))))
     refine O1 ⟨B5 [⟨[2],[2],[33],[]⟩,⟨[5],[5],[34],[]⟩,⟨[33,34],[],[35],[]⟩,⟨[3],[3],[36],[]⟩,⟨[5],[5],[37],[]⟩,⟨[36,37],[],[38],[]⟩,⟨[35,38],[],[39],[]⟩,⟨[4,39],[4],[],[4]⟩] rF rF dC,[(4,_)],[(4,_)],t1,t1,?_⟩
     refine V1 ?_
     refine Q0 (.agg rfl rfl rfl ag47 sz47 (.cons (.cons (.cons (.cons .nil))))) ?_
     exact congrArg (· :: []) (cN (by rw [d0g h0,sgp h4]) (by rw [b0z h0,sgp h4]))
theorem J1n {a b:Prop}(h:¬ (a∧b)):¬ a∨(a∧¬ b):=by
 by_cases ha:a
 ·exact .inr ⟨ha,fun hb=>h ⟨ha,hb⟩⟩
 ·exact .inl ha
theorem sgt {d:Int}:0<d.sign↔0<d:=by
 rcases J1j d with h | h | h <;> (rw [h.1]; simp <;> omega)
theorem V1z {a b:Int}:X7 a b=0↔a=b:=by unfold X7; repeat' split <;> omega
theorem gn1 (a:Int){b:Int}(h:0<b)(hb:nw b<1000000000):nw (Int.gcd a b:Int)<999999999999:=Nat.lt_of_lt_of_le (gn (Int.ne_of_gt h) hb) dC
theorem v0j (a:Rat)(ha:qw a<1000000000):Y2 E 56 [pQ a] (pQ (-a)):=by
 refine j2 (xs:=[pQ (-a)]) Tryz.func56 rfl Tryz.ntmps56 Tryz.results56 sM fun F hG hX0 hnt hdf P0=>?_
 obtain ⟨L,hX,hN⟩:=pro hnt hX0 hG
 have h1:=n5 a
 refine exr (swb (R3 (k:=1) (n:=4) pa4 rfl rfl (P0 _ rfl) L) t1 t0 ⟨rfl,rfl⟩ (swb (T3 (k:=2) (n:=4) zv47 (.cons rfl (.cons rfl (.cons rfl (.cons rfl .nil)))) rfl (P0 _ rfl) L) t0 t0 ⟨rfl,rfl⟩ (zn [(1,_),(2,_)] [(1,_),(2,_)] t2 t2 (exd rF ?_))))
 refine sw (Z1 un47 rfl sz45 dC rX L) t1 t1 ?_
 refine lp2 ag45 sz45 L rfl rfl (cK hG hX cl102 hN (Q1g a.num oM) L t1 (sw (Z1 un47 rfl sz45 dC rX L) t1 t1 ?_))
 refine lp2 ag45 sz45 L rfl rfl (sw (E6 (vs:=[_,_]) un47 zv47 (.cons rfl (.cons rfl (.cons rfl (.cons rfl .nil)))) ((y2.cons sz45 (y2.cons sz45 y2.nil))).to rfl (.cons rfl pa2 rfl pu2 (.cons rfl pa2 rfl (.skip (.skip pu2)) .nil)) (.cons (.cons (.cons (.cons .nil)))) L) t2 t0 (sb (U2 sz47 rF pa4 rfl pu4) t2 t1 ?_))
 refine O1 ⟨B5 [⟨[1],[1],[3],[]⟩,⟨[3],[1],[4],[]⟩,⟨[4],[],[5],[]⟩,⟨[1],[1],[6],[]⟩,⟨[6],[1],[7],[]⟩,⟨[5,7],[],[8],[]⟩,⟨[2,8],[2],[],[2]⟩] rF rF dC,[(2,_)],[(2,_)],t1,t1,?_⟩
 refine V1 ?_
 refine Q0 (.agg rfl rfl rfl ag47 sz47 (.cons (.cons (.cons (.cons .nil))))) ?_
 exact congrArg (· :: []) (cN rfl rfl)
theorem w0c (n:Int):Y2 E 100 [pZ n] (pQ (n:Rat)):=by
 refine j2 (xs:=[pQ (n:Rat)]) Tryz.func100 rfl Tryz.ntmps100 Tryz.results100 sM fun F hG hX0 hnt hdf P0=>?_
 obtain ⟨L,hX,hN⟩:=pro hnt hX0 hG
 refine exr (swb (R3 (k:=1) (n:=2) pa2 rfl rfl (P0 _ rfl) L) t1 t0 ⟨rfl,rfl⟩ (swb (T3 (k:=2) (n:=4) zv47 (.cons rfl (.cons rfl (.cons rfl (.cons rfl .nil)))) rfl (P0 _ rfl) L) t0 t0 ⟨rfl,rfl⟩ (zn [(1,_),(2,_)] [(1,_),(2,_)] t2 t2 (exd rF ?_))))
 refine lp2 ag45 sz45 L rfl rfl (cK hG hX cl128 hN V0c L t0 (sw (E6 (vs:=[_,_]) un47 zv47 (.cons rfl (.cons rfl (.cons rfl (.cons rfl .nil)))) ((y2.cons sz45 (y2.cons sz45 y2.nil))).to rfl (.cons rfl pa2 rfl pu2 (.cons rfl pa2 rfl (.skip (.skip pu2)) .nil)) (.cons (.cons (.cons (.cons .nil)))) L) t2 t0 (sb (U2 sz47 rF pa4 rfl pu4) t2 t1 ?_)))
 refine O1 ⟨B5 [⟨[1],[1],[3],[]⟩,⟨[],[],[4],[]⟩,⟨[3,4],[],[5],[]⟩,⟨[2,5],[2],[],[2]⟩] rF rF dC,[(2,_)],[(2,_)],t1,t1,?_⟩
 refine V1 ?_
 refine Q0 (.agg rfl rfl rfl ag47 sz47 (.cons (.cons (.cons (.cons .nil))))) ?_
 exact congrArg (· :: []) (cN rfl rfl)
theorem y0v (a:Rat)(ha:qw a<1000000000):Y2 E 108 [pQ a] (vZ (q0d a 0)):=by
 refine j2 (xs:=[vZ (q0d a 0)]) Tryz.func108 rfl Tryz.ntmps108 Tryz.results108 sM fun F hG hX0 hnt hdf P0=>?_
 obtain ⟨L,hX,hN⟩:=pro hnt hX0 hG
 have h1:=n5 a
 refine exr (swb (R3 (k:=1) (n:=4) pa4 rfl rfl (P0 _ rfl) L) t1 t0 ⟨rfl,rfl⟩ (aV L rfl (zn [(1,_)] [(1,_)] t1 t1 (exr (sw (Z1 un47 rfl sz45 dC rX L) t1 t1 ?_)))))
 refine lp2 ag45 sz45 L rfl rfl (cK hG hX cl134 hN (V0n a.num oM) L t1 (aV L rfl (zn [(2,_)] [] t1 trivial (V1 ?_))))
 refine Q0 (.tmp rfl) ?_
 rw [v1f]
theorem y8 (a b:Rat)(ha:qw a<1000000000)(hb:qw b<1000000000):Y2 E 67 [pQ a,pQ b] (pQ (a*b)):=by
 refine j2 (xs:=[pQ (a*b)]) Tryz.func67 rfl Tryz.ntmps67 Tryz.results67 sM fun F hG hX0 hnt hdf P0=>?_
 obtain ⟨L,hX,hN⟩:=pro hnt hX0 hG
 have h1:=n5 a
 have h2:=n5 b
 have h3:=I5 a
 have h4:=I5 b
 have h5:=K7 a.num b.num
 have h6:=K7 a.den b.den
 refine exr (swb (R3 (k:=2) (n:=4) pa4 rfl rfl (P0 _ rfl) L) t1 t0 ⟨rfl,rfl⟩ (swb (R3 (k:=3) (n:=4) pa4 rfl rfl (P0 _ rfl) L) t1 t0 ⟨rfl,rfl⟩ (swb (T3 (k:=4) (n:=4) zv47 (.cons rfl (.cons rfl (.cons rfl (.cons rfl .nil)))) rfl (P0 _ rfl) L) t0 t0 ⟨rfl,rfl⟩ (zn [(2,_),(3,_),(4,_)] [(2,_),(3,_),(4,_)] t3 t3 (exd rF ?_)))))
 refine sw (Z1 un47 rfl sz45 dC rX L) t1 t1 ?_
 refine lp2 ag45 sz45 L rfl rfl (sw (Z1 un47 rfl sz45 dC rX L) t1 t1 ?_)
 refine lp2 ag45 sz45 L rfl rfl (cK hG hX cl111 hN (d1s a.num b.num oM oM) L t2 (sw (Z1 un47 rfl sz45 dC rX L) t1 t1 ?_))
 refine lp2 ag45 sz45 L rfl rfl (sw (Z1 un47 rfl sz45 dC rX L) t1 t1 ?_)
 refine lp2 ag45 sz45 L rfl rfl (cK hG hX cl111 hN (d1s a.den b.den oM oM) L t2 (cK hG hX cl110 hN (q1y (a.num*b.num) (a.den*b.den) (Int.mul_ne_zero (O8 a) (O8 b)) oM oM) L t2 (sb (U2 sz47 rF pa4 rfl pu4) t2 t1 ?_)))
 refine O1 ⟨B5 [⟨[2],[2],[5],[]⟩,⟨[5],[2],[6],[]⟩,⟨[3],[3],[7],[]⟩,⟨[7],[3],[8],[]⟩,⟨[6,8],[],[9],[]⟩,⟨[2],[2],[10],[]⟩,⟨[10],[2],[11],[]⟩,⟨[3],[3],[12],[]⟩,⟨[12],[3],[13],[]⟩,⟨[11,13],[],[14],[]⟩,⟨[9,14],[],[15],[]⟩,⟨[4,15],[4],[],[4]⟩] rF rF dC,[(4,_)],[(4,_)],t1,t1,?_⟩
 refine V1 ?_
 refine Q0 (.agg rfl rfl rfl ag47 sz47 (.cons (.cons (.cons (.cons .nil))))) ?_
 rw [w1s]
theorem K0p (a b:Rat)(ha:qw a<1000000000)(hb:qw b<1000000000):Y2 E 112 [pQ a,pQ b] (pQ (a+b)):=by
 refine j2 (xs:=[pQ (a+b)]) Tryz.func112 rfl Tryz.ntmps112 Tryz.results112 sM fun F hG hX0 hnt hdf P0=>?_
 obtain ⟨L,hX,hN⟩:=pro hnt hX0 hG
 have h1:=n5 a
 have h2:=n5 b
 have h3:=I5 a
 have h4:=I5 b
 have h5:=K7 a.num b.den
 have h6:=K7 b.num a.den
 have h7:=K7 a.den b.den
 have h8:=d1r (a.num*b.den) (b.num*a.den)
 refine exr (swb (R3 (k:=2) (n:=4) pa4 rfl rfl (P0 _ rfl) L) t1 t0 ⟨rfl,rfl⟩ (swb (R3 (k:=3) (n:=4) pa4 rfl rfl (P0 _ rfl) L) t1 t0 ⟨rfl,rfl⟩ (swb (T3 (k:=4) (n:=4) zv47 (.cons rfl (.cons rfl (.cons rfl (.cons rfl .nil)))) rfl (P0 _ rfl) L) t0 t0 ⟨rfl,rfl⟩ (zn [(2,_),(3,_),(4,_)] [(2,_),(3,_),(4,_)] t3 t3 (R1 ?_)))))
 refine exm (sl:=[(12,vb (decide ((a.den:Int)=1∧(b.den:Int)=1)))]) (sl0:=[(2,_),(3,_),(4,_)]) (hb:=[]) (hb0:=[(2,_),(3,_),(4,_)]) t3 t3 ?_ ?_
 ·by_cases hd:(a.den:Int)=1
  ·refine sw (Z1 un47 rfl sz45 dC rX L) t1 t1 ?_
   refine lp2 ag45 sz45 L rfl rfl (cK hG hX cl113 hN (g0s a.den oM) L t1 (mV L rfl (swg (g:=8) rfl (by simpa using hd) (Z1 un47 rfl sz45 dC rX L) rfl t1 t1 ?_)))
   refine swg (g:=8) rfl (by simpa using hd) (l6 ag45 sz45 rF (by exact al2) rfl L) rfl t1 t1 ?_
   refine swg (g:=8) rfl (by simpa using hd) (c_c hG hX cl113 rfl hN (g0s b.den oM) L) rfl t1 t0 ?_
   refine sw (m4 (by simpa using hd) L) t2 t0 ?_
   exact O1 ⟨⟨ob rfl (by simp only [hd,true_and]),rfl,rfl,rfl,trivial⟩,t3⟩
  ·refine sw (Z1 un47 rfl sz45 dC rX L) t1 t1 ?_
   refine lp2 ag45 sz45 L rfl rfl (cK hG hX cl113 hN (g0s a.den oM) L t1 (mV L rfl (swn (g:=8) rfl (by simpa using hd) L rfl ?_)))
   refine swn (g:=8) rfl (by simpa using hd) L rfl ?_
   refine swn (g:=8) rfl (by simpa using hd) L rfl ?_
   refine sw (V3 (by simpa using hd) L) t2 t0 ?_
   exact O1 ⟨⟨ob rfl (by simp only [hd,false_and]; rfl),rfl,rfl,rfl,trivial⟩,t3⟩
 refine D2 rfl (fun hc=>?_) (fun hc=>?_)
 ·have hc:=dt hc
  refine exr (sw (Z1 un47 rfl sz45 dC rX L) t1 t1 ?_)
  refine lp2 ag45 sz45 L rfl rfl (sw (Z1 un47 rfl sz45 dC rX L) t1 t1 ?_)
  refine lp2 ag45 sz45 L rfl rfl (cK hG hX cl140 hN (P1b a.num b.num oM oM) L t2 (cK hG hX cl100 hN (w0c (a.num+b.num)) L t1 (sb (U2 sz47 rF pa4 rfl pu4) t2 t1 ?_)))
  refine zn [(4,_)] [(4,_)] t1 t1 (V1 ?_)
  refine Q0 (.agg rfl rfl rfl ag47 sz47 (.cons (.cons (.cons (.cons .nil))))) ?_
  rw [← H0k,hc.1,hc.2,Int.mul_one,Int.mul_one,Int.mul_one,b7]
 ·refine U1 (xq ?_)
  refine exd rF ?_
  refine sw (Z1 un47 rfl sz45 dC rX L) t1 t1 ?_
  refine lp2 ag45 sz45 L rfl rfl (sw (Z1 un47 rfl sz45 dC rX L) t1 t1 ?_)
  refine lp2 ag45 sz45 L rfl rfl (cK hG hX cl111 hN (d1s a.num b.den oM oM) L t2 (sw (Z1 un47 rfl sz45 dC rX L) t1 t1 ?_))
  refine lp2 ag45 sz45 L rfl rfl (sw (Z1 un47 rfl sz45 dC rX L) t1 t1 ?_)
  refine lp2 ag45 sz45 L rfl rfl (cK hG hX cl111 hN (d1s b.num a.den oM oM) L t2 (cK hG hX cl140 hN (P1b (a.num*b.den) (b.num*a.den) oM oM) L t2 (sw (Z1 un47 rfl sz45 dC rX L) t1 t1 ?_)))
  refine lp2 ag45 sz45 L rfl rfl (sw (Z1 un47 rfl sz45 dC rX L) t1 t1 ?_)
  refine lp2 ag45 sz45 L rfl rfl (cK hG hX cl111 hN (d1s a.den b.den oM oM) L t2 (cK hG hX cl110 hN (q1y (a.num*b.den+b.num*a.den) (a.den*b.den) (Int.mul_ne_zero (O8 a) (O8 b)) oM oM) L t2 (sb (U2 sz47 rF pa4 rfl pu4) t2 t1 ?_)))
  refine O1 ⟨B5 [⟨[2],[2],[19],[]⟩,⟨[19],[2],[20],[]⟩,⟨[3],[3],[21],[]⟩,⟨[21],[3],[22],[]⟩,⟨[20,22],[],[23],[]⟩,⟨[3],[3],[24],[]⟩,⟨[24],[3],[25],[]⟩,⟨[2],[2],[26],[]⟩,⟨[26],[2],[27],[]⟩,⟨[25,27],[],[28],[]⟩,⟨[23,28],[],[29],[]⟩,⟨[2],[2],[30],[]⟩,⟨[30],[2],[31],[]⟩,⟨[3],[3],[32],[]⟩,⟨[32],[3],[33],[]⟩,⟨[31,33],[],[34],[]⟩,⟨[29,34],[],[35],[]⟩,⟨[4,35],[4],[],[4]⟩] rF rF dC,[(4,_)],[(4,_)],t1,t1,?_⟩
  refine V1 ?_
  refine Q0 (.agg rfl rfl rfl ag47 sz47 (.cons (.cons (.cons (.cons .nil))))) ?_
  rw [H0k]
theorem j1d (a b:Rat)(ha:qw a<1000000000)(hb:qw b<1000000000):Y2 E 127 [pQ a,pQ b] (pQ (a - b)):=by
 refine j2 (xs:=[pQ (a - b)]) Tryz.func127 rfl Tryz.ntmps127 Tryz.results127 sM fun F hG hX0 hnt hdf P0=>?_
 obtain ⟨L,hX,hN⟩:=pro hnt hX0 hG
 refine exr (swb (R3 (k:=2) (n:=4) pa4 rfl rfl (P0 _ rfl) L) t1 t0 ⟨rfl,rfl⟩ (swb (R3 (k:=3) (n:=4) pa4 rfl rfl (P0 _ rfl) L) t1 t0 ⟨rfl,rfl⟩ (swb (T3 (k:=4) (n:=4) zv47 (.cons rfl (.cons rfl (.cons rfl (.cons rfl .nil)))) rfl (P0 _ rfl) L) t0 t0 ⟨rfl,rfl⟩ (zn [(2,_),(3,_),(4,_)] [(2,_),(3,_),(4,_)] t3 t3 (exd rF ?_)))))
 refine lp4 ag47 sz47 L rfl rfl (lp4 ag47 sz47 L rfl rfl (cK hG hX cl56 hN (v0j b hb) L t1 (cK hG hX cl112 hN (K0p a (-b) ha (by rw [M0r]; exact hb)) L t2 ?_)))
 refine sb (U2 sz47 rF pa4 rfl pu4) t2 t1 ?_
 refine O1 ⟨B5 [⟨[2],[2],[5],[]⟩,⟨[3],[3],[6],[]⟩,⟨[6],[],[7],[]⟩,⟨[5,7],[],[8],[]⟩,⟨[4,8],[4],[],[4]⟩] rF rF dC,[(4,_)],[(4,_)],t1,t1,?_⟩
 refine V1 ?_
 refine Q0 (.agg rfl rfl rfl ag47 sz47 (.cons (.cons (.cons (.cons .nil))))) ?_
 rw [← Rat.sub_eq_add_neg]
theorem j1w (a:Rat)(ha:qw a<1000000000)(h0:a≠0):Y2 E 109 [pQ a] (pQ a⁻¹):=by
 refine j2 (xs:=[pQ a⁻¹]) Tryz.func109 rfl Tryz.ntmps109 Tryz.results109 sM fun F hG hX0 hnt hdf P0=>?_
 obtain ⟨L,hX,hN⟩:=pro hnt hX0 hG
 have h1:=n5 a
 have h3:=I5 a
 refine exr (swb (R3 (k:=1) (n:=4) pa4 rfl rfl (P0 _ rfl) L) t1 t0 ⟨rfl,rfl⟩ (swb (T3 (k:=2) (n:=4) zv47 (.cons rfl (.cons rfl (.cons rfl (.cons rfl .nil)))) rfl (P0 _ rfl) L) t0 t0 ⟨rfl,rfl⟩ (zn [(1,_),(2,_)] [(1,_),(2,_)] t2 t2 (exr (sw (Z1 un47 rfl sz45 dC rX L) t1 t1 ?_)))))
 refine lp2 ag45 sz45 L rfl rfl (sw (Z1 un47 rfl sz45 dC rX L) t1 t1 ?_)
 refine lp2 ag45 sz45 L rfl rfl (cK hG hX cl110 hN (q1y a.den a.num (D1a.2 h0) oM oM) L t2 (sb (U2 sz47 rF pa4 rfl pu4) t2 t1 ?_))
 refine zn [(2,_)] [(2,_)] t1 t1 (V1 ?_)
 refine Q0 (.agg rfl rfl rfl ag47 sz47 (.cons (.cons (.cons (.cons .nil))))) ?_
 rw [H1s]
theorem v0k (a b:Rat)(ha:qw a<1000000000)(hb:qw b<1000000000)(h0:b≠0):Y2 E 66 [pQ a,pQ b] (.tup [pQ (a / b),vZ 0]):=by
 refine j2 (xs:=[pQ (a / b),vZ 0]) Tryz.func66 rfl Tryz.ntmps66 Tryz.results66 sM fun F hG hX0 hnt hdf P0=>?_
 obtain ⟨L,hX,hN⟩:=pro hnt hX0 hG
 have hi:=q1r h0
 refine exr (swb (R3 (k:=2) (n:=4) pa4 rfl rfl (P0 _ rfl) L) t1 t0 ⟨rfl,rfl⟩ (swb (R3 (k:=3) (n:=4) pa4 rfl rfl (P0 _ rfl) L) t1 t0 ⟨rfl,rfl⟩ (swb (T3 (k:=4) (n:=4) zv47 (.cons rfl (.cons rfl (.cons rfl (.cons rfl .nil)))) rfl (P0 _ rfl) L) t0 t0 ⟨rfl,rfl⟩ (aV L rfl (zn [(2,_),(3,_),(4,_)] [(2,_),(3,_),(4,_)] t3 t3 (R1 (exr (lp4 ag47 sz47 L rfl rfl (cK hG hX cl108 hN (y0v b hb) L t1 (sw (c_e L) t2 t0 (zn [(2,_),(3,_),(4,_),(8,_)] [(2,_),(3,_),(4,_)] t4 t3 ?_)))))))))))
 refine D2 rfl (fun hc=>?_) (fun hc=>?_)
 ·have hc:=dt hc
  rw [← v1f,G1y] at hc
  exact absurd hc h0
 ·refine U1 (xq ?_)
  refine exd rF ?_
  refine lp4 ag47 sz47 L rfl rfl (lp4 ag47 sz47 L rfl rfl (cK hG hX cl109 hN (j1w b hb h0) L t1 (cK hG hX cl67 hN (y8 a b⁻¹ ha oM) L t2 (sb (U2 sz47 rF pa4 rfl pu4) t2 t1 ?_))))
  refine aV L rfl ?_
  refine O1 ⟨B5 [⟨[2],[2],[10],[]⟩,⟨[3],[3],[11],[]⟩,⟨[11],[],[12],[]⟩,⟨[10,12],[],[13],[]⟩,⟨[4,13],[4],[],[4]⟩,⟨[],[],[5],[]⟩] rF rF dC,[(4,_),(5,_)],[(4,_)],t2,t1,?_⟩
  refine V1 ?_
  refine Y0 (.agg rfl rfl rfl ag47 sz47 (.cons (.cons (.cons (.cons .nil))))) (.tmp rfl) ?_
  rw [← Rat.div_def]
theorem k1y (a b:Rat)(ha:qw a<1000000000)(hb:qw b<1000000000):Y2 E 69 [pQ a,pQ b] (vZ (q0d a b)):=by
 refine j2 (xs:=[vZ (q0d a b)]) Tryz.func69 rfl Tryz.ntmps69 Tryz.results69 sM fun F hG hX0 hnt hdf P0=>?_
 obtain ⟨L,hX,hN⟩:=pro hnt hX0 hG
 have h1:=n5 a
 have h2:=n5 b
 have h3:=I5 a
 have h4:=I5 b
 have h5:=K7 a.num b.den
 have h6:=K7 b.num a.den
 refine exr (swb (R3 (k:=2) (n:=4) pa4 rfl rfl (P0 _ rfl) L) t1 t0 ⟨rfl,rfl⟩ (swb (R3 (k:=3) (n:=4) pa4 rfl rfl (P0 _ rfl) L) t1 t0 ⟨rfl,rfl⟩ (aV L rfl (zn [(2,_),(3,_)] [(2,_),(3,_)] t2 t2 (R1 ?_)))))
 refine exm (sl:=[(12,vb (decide ((a.den:Int)=1∧(b.den:Int)=1)))]) (sl0:=[(2,_),(3,_)]) (hb:=[]) (hb0:=[(2,_),(3,_)]) t2 t2 ?_ ?_
 ·by_cases hd:(a.den:Int)=1
  ·refine sw (Z1 un47 rfl sz45 dC rX L) t1 t1 ?_
   refine lp2 ag45 sz45 L rfl rfl (cK hG hX cl113 hN (g0s a.den oM) L t1 (mV L rfl (swg (g:=8) rfl (by simpa using hd) (Z1 un47 rfl sz45 dC rX L) rfl t1 t1 ?_)))
   refine swg (g:=8) rfl (by simpa using hd) (l6 ag45 sz45 rF (by exact al2) rfl L) rfl t1 t1 ?_
   refine swg (g:=8) rfl (by simpa using hd) (c_c hG hX cl113 rfl hN (g0s b.den oM) L) rfl t1 t0 ?_
   refine sw (m4 (by simpa using hd) L) t2 t0 ?_
   exact O1 ⟨⟨ob rfl (by simp only [hd,true_and]),rfl,rfl,trivial⟩,t2⟩
  ·refine sw (Z1 un47 rfl sz45 dC rX L) t1 t1 ?_
   refine lp2 ag45 sz45 L rfl rfl (cK hG hX cl113 hN (g0s a.den oM) L t1 (mV L rfl (swn (g:=8) rfl (by simpa using hd) L rfl ?_)))
   refine swn (g:=8) rfl (by simpa using hd) L rfl ?_
   refine swn (g:=8) rfl (by simpa using hd) L rfl ?_
   refine sw (V3 (by simpa using hd) L) t2 t0 ?_
   exact O1 ⟨⟨ob rfl (by simp only [hd,false_and]; rfl),rfl,rfl,trivial⟩,t2⟩
 refine D2 rfl (fun hc=>?_) (fun hc=>?_)
 ·have hc:=dt hc
  refine exr (sw (Z1 un47 rfl sz45 dC rX L) t1 t1 ?_)
  refine lp2 ag45 sz45 L rfl rfl (sw (Z1 un47 rfl sz45 dC rX L) t1 t1 ?_)
  refine lp2 ag45 sz45 L rfl rfl (cK hG hX cl114 hN (M1f a.num b.num oM oM) L t2 (aV L rfl (zn [(4,_)] [] t1 trivial (V1 ?_))))
  refine Q0 (.tmp rfl) ?_
  rw [← v1q,hc.1,hc.2,Int.mul_one,Int.mul_one]
 ·refine U1 (xq ?_)
  refine exd rF ?_
  refine sw (Z1 un47 rfl sz45 dC rX L) t1 t1 ?_
  refine lp2 ag45 sz45 L rfl rfl (sw (Z1 un47 rfl sz45 dC rX L) t1 t1 ?_)
  refine lp2 ag45 sz45 L rfl rfl (cK hG hX cl111 hN (d1s a.num b.den oM oM) L t2 (sw (Z1 un47 rfl sz45 dC rX L) t1 t1 ?_))
  refine lp2 ag45 sz45 L rfl rfl (sw (Z1 un47 rfl sz45 dC rX L) t1 t1 ?_)
  refine lp2 ag45 sz45 L rfl rfl (cK hG hX cl111 hN (d1s b.num a.den oM oM) L t2 (cK hG hX cl114 hN (M1f (a.num*b.den) (b.num*a.den) oM oM) L t2 (aV L rfl ?_)))
  refine O1 ⟨B5 [⟨[2],[2],[18],[]⟩,⟨[18],[2],[19],[]⟩,⟨[3],[3],[20],[]⟩,⟨[20],[3],[21],[]⟩,⟨[19,21],[],[22],[]⟩,⟨[3],[3],[23],[]⟩,⟨[23],[3],[24],[]⟩,⟨[2],[2],[25],[]⟩,⟨[25],[2],[26],[]⟩,⟨[24,26],[],[27],[]⟩,⟨[22,27],[],[28],[]⟩,⟨[28],[],[4],[]⟩] rF rF dC,[(4,_)],[],t1,trivial,?_⟩
  refine V1 ?_
  refine Q0 (.tmp rfl) ?_
  rw [v1q]
theorem M1g (m n:Bool)(ws vs:List Int)(hl:ws.length<1000000000)(hl2:vs.length<1000000000)(hn:¬ (P2 m ws=true∧P2 n vs=true)):Y2 E 107 [pR m ws n vs] (bZ false):=by
 refine j2 (xs:=[bZ false]) Tryz.func107 rfl Tryz.ntmps107 Tryz.results107 sM fun F hG hX0 hnt hdf P0=>?_
 obtain ⟨L,hX,hN⟩:=pro hnt hX0 hG
 refine exr (swb (R3 (k:=1) (n:=4) pa4 rfl rfl (P0 _ rfl) L) t1 t0 ⟨rfl,rfl⟩ (aV L rfl (zn [(1,_)] [(1,_)] t1 t1 ?_)))
 refine exm (sl:=[(2,vb false)]) (sl0:=[]) (hb:=[]) (hb0:=[]) t0 t0 ?_ ?_
 ·rcases J1n hn with h1 | ⟨h1,h2⟩
  ·refine sw (Z1 un47 rfl sz45 dC rX L) t1 t1 ?_
   refine lp2 ag45 sz45 L rfl rfl (cK hG hX cl130 hN (E9 m ws oM) L t1 (mV L rfl (swn (g:=6) rfl (by simpa using h1) L rfl ?_)))
   refine swn (g:=6) rfl (by simpa using h1) L rfl ?_
   refine swn (g:=6) rfl (by simpa using h1) L rfl ?_
   refine sw (V3 (by simpa using h1) L) t2 t0 ?_
   refine mV L rfl (swn (g:=11) rfl rfl L rfl (swn (g:=11) rfl rfl L rfl (swn (g:=11) rfl rfl L rfl (swn (g:=11) rfl rfl L rfl (sw (V3 rfl L) t2 t0 (mV L rfl (swn (g:=17) rfl rfl L rfl (swn (g:=17) rfl rfl L rfl (swn (g:=17) rfl rfl L rfl (swn (g:=17) rfl rfl L rfl (swn (g:=17) rfl rfl L rfl ?_)))))))))))
   refine swn (g:=17) rfl rfl L rfl (swn (g:=17) rfl rfl L rfl (swn (g:=17) rfl rfl L rfl (sw (V3 rfl L) t2 t0 (aV L rfl ?_))))
   exact O1 ⟨⟨ob rfl rfl,trivial⟩,trivial⟩
  ·refine sw (Z1 un47 rfl sz45 dC rX L) t1 t1 ?_
   refine lp2 ag45 sz45 L rfl rfl (cK hG hX cl130 hN (E9 m ws oM) L t1 (mV L rfl (swg (g:=6) rfl h1 (Z1 un47 rfl sz45 dC rX L) rfl t1 t1 ?_)))
   refine swg (g:=6) rfl h1 (l6 ag45 sz45 rF (by exact al2) rfl L) rfl t1 t1 ?_
   refine swg (g:=6) rfl h1 (c_c hG hX cl130 rfl hN (E9 n vs oM) L) rfl t1 t0 (sw (m4 h1 L) t2 t0 (mV L rfl (swn (g:=11) rfl (by simpa using h2) L rfl ?_)))
   refine swn (g:=11) rfl (by simpa using h2) L rfl ?_
   refine swn (g:=11) rfl (by simpa using h2) L rfl ?_
   refine swn (g:=11) rfl (by simpa using h2) L rfl ?_
   refine sw (V3 (by simpa using h2) L) t2 t0 ?_
   refine mV L rfl (swn (g:=17) rfl rfl L rfl (swn (g:=17) rfl rfl L rfl (swn (g:=17) rfl rfl L rfl (swn (g:=17) rfl rfl L rfl (swn (g:=17) rfl rfl L rfl (swn (g:=17) rfl rfl L rfl (swn (g:=17) rfl rfl L rfl (swn (g:=17) rfl rfl L rfl (sw (V3 rfl L) t2 t0 (aV L rfl ?_))))))))))
   exact O1 ⟨⟨ob rfl rfl,trivial⟩,trivial⟩
 refine V1 ?_
 refine Q0 (.tmp rfl) ?_
 rfl
theorem P1c (a b:Int)(ha:nw a<1000000000)(hb:nw b<1000000000):Y2 E 107 [pN a b] (bZ (decide (0<b∧(Int.gcd a b:Int)=1))):=by
 refine j2 (xs:=[bZ (decide (0<b∧(Int.gcd a b:Int)=1))]) Tryz.func107 rfl Tryz.ntmps107 Tryz.results107 sM fun F hG hX0 hnt hdf P0=>?_
 obtain ⟨L,hX,hN⟩:=pro hnt hX0 hG
 refine exr (swb (R3 (k:=1) (n:=4) pa4 rfl rfl (P0 _ rfl) L) t1 t0 ⟨rfl,rfl⟩ (aV L rfl (zn [(1,_)] [(1,_)] t1 t1 ?_)))
 refine exm (sl:=[(2,vb (decide (0<b∧(Int.gcd a b:Int)=1)))]) (sl0:=[]) (hb:=[]) (hb0:=[]) t0 t0 ?_ ?_
 ·by_cases h1:0<b
  ·refine sw (Z1 un47 rfl sz45 dC rX L) t1 t1 ?_
   refine lp2 ag45 sz45 L rfl rfl (cK hG hX cl130 hN (isZ a oM) L t1 (mV L rfl (swg (g:=6) rfl rfl (Z1 un47 rfl sz45 dC rX L) rfl t1 t1 ?_)))
   refine swg (g:=6) rfl rfl (l6 ag45 sz45 rF (by exact al2) rfl L) rfl t1 t1 ?_
   refine swg (g:=6) rfl rfl (c_c hG hX cl130 rfl hN (isZ b oM) L) rfl t1 t0 (sw (m4 rfl L) t2 t0 (mV L rfl (swg (g:=11) rfl rfl (Z1 un47 rfl sz45 dC rX L) rfl t1 t1 ?_)))
   refine swg (g:=11) rfl rfl (l6 ag45 sz45 rF (by exact al2) rfl L) rfl t1 t1 ?_
   refine swg (g:=11) rfl rfl (c_c hG hX cl134 rfl hN (V0n b oM) L) rfl t1 t0 (swg (g:=11) rfl rfl (X6 L) rfl t2 t0 (sw (m4 rfl L) t2 t0 (mV L rfl (swg (g:=17) rfl (decide_eq_true (sgt.2 h1)) (Z1 un47 rfl sz45 dC rX L) rfl t1 t1 ?_))))
   refine swg (g:=17) rfl (decide_eq_true (sgt.2 h1)) (l6 ag45 sz45 rF (by exact al2) rfl L) rfl t1 t1 ?_
   refine swg (g:=17) rfl (decide_eq_true (sgt.2 h1)) (Z1 un47 rfl sz45 dC rX L) rfl t1 t1 ?_
   refine swg (g:=17) rfl (decide_eq_true (sgt.2 h1)) (l6 ag45 sz45 rF (by exact al2) rfl L) rfl t1 t1 ?_
   refine swg (g:=17) rfl (decide_eq_true (sgt.2 h1)) (c_c hG hX cl135 rfl hN (P1w a b oM oM) L) rfl t2 t0 (swg (g:=17) rfl (decide_eq_true (sgt.2 h1)) (c_c hG hX cl128 rfl hN V0c L) rfl trivial trivial (swg (g:=17) rfl (decide_eq_true (sgt.2 h1)) (c_c hG hX cl114 rfl hN (M1f (Int.gcd a b:Int) 1 (gn1 a h1 hb) (by rw [m0z]; decide)) L) rfl t2 t0 ?_))
   refine swg (g:=17) rfl (decide_eq_true (sgt.2 h1)) (c_e L) rfl t2 t0 (sw (m4 (decide_eq_true (sgt.2 h1)) L) t2 t0 (aV L rfl ?_))
   exact O1 ⟨⟨ob rfl (by rw [v7 (and_iff_right h1)]; exact v7 V1z),trivial⟩,trivial⟩
  ·refine sw (Z1 un47 rfl sz45 dC rX L) t1 t1 ?_
   refine lp2 ag45 sz45 L rfl rfl (cK hG hX cl130 hN (isZ a oM) L t1 (mV L rfl (swg (g:=6) rfl rfl (Z1 un47 rfl sz45 dC rX L) rfl t1 t1 ?_)))
   refine swg (g:=6) rfl rfl (l6 ag45 sz45 rF (by exact al2) rfl L) rfl t1 t1 ?_
   refine swg (g:=6) rfl rfl (c_c hG hX cl130 rfl hN (isZ b oM) L) rfl t1 t0 (sw (m4 rfl L) t2 t0 (mV L rfl (swg (g:=11) rfl rfl (Z1 un47 rfl sz45 dC rX L) rfl t1 t1 ?_)))
   refine swg (g:=11) rfl rfl (l6 ag45 sz45 rF (by exact al2) rfl L) rfl t1 t1 ?_
   refine swg (g:=11) rfl rfl (c_c hG hX cl134 rfl hN (V0n b oM) L) rfl t1 t0 (swg (g:=11) rfl rfl (X6 L) rfl t2 t0 (sw (m4 rfl L) t2 t0 (mV L rfl (swn (g:=17) rfl (decide_eq_false (mt sgt.1 h1)) L rfl (swn (g:=17) rfl (decide_eq_false (mt sgt.1 h1)) L rfl (swn (g:=17) rfl (decide_eq_false (mt sgt.1 h1)) L rfl (swn (g:=17) rfl (decide_eq_false (mt sgt.1 h1)) L rfl (swn (g:=17) rfl (decide_eq_false (mt sgt.1 h1)) L rfl (swn (g:=17) rfl (decide_eq_false (mt sgt.1 h1)) L rfl (swn (g:=17) rfl (decide_eq_false (mt sgt.1 h1)) L rfl (swn (g:=17) rfl (decide_eq_false (mt sgt.1 h1)) L rfl ?_)))))))))))
   refine sw (V3 (decide_eq_false (mt sgt.1 h1)) L) t2 t0 (aV L rfl ?_)
   exact O1 ⟨⟨ob rfl (decide_eq_false (fun h=>h1 h.1)).symm,trivial⟩,trivial⟩
 refine V1 ?_
 refine Q0 (.tmp rfl) ?_
 rfl
theorem P1d (a:Int)(ha:nw a<999999999999):Y2 E 105 [pZ a] (pZ (-a)):=by
 have:=m1k (decide (a<0)) (j3 a.natAbs) (by unfold nw at ha; omega) (U3 _)
 rwa [if_pos (L3 a),D5] at this
theorem H1r (a b:Int)(ha:nw a<999999999999)(hb:nw b<999999999999):Y2 E 116 [pZ a,pZ b] (pZ (a+b)):=by
 have:=b1x (decide (a<0)) (decide (b<0)) (j3 a.natAbs) (j3 b.natAbs) (by unfold nw at ha; omega) (by unfold nw at hb; omega) (U3 _) (U3 _)
 rwa [if_pos ⟨L3 a,L3 b⟩,D5,D5] at this
theorem m1f (a:Int)(ha:nw a<999999999999):Y2 E 77 [pZ a] (bZ true):=by
 have:=J5 (decide (a<0)) (j3 a.natAbs) (by unfold nw at ha; omega)
 rwa [L3 a] at this
theorem v1a {a b:Int}:((decide (a<0))=decide (b<0)∧j3 a.natAbs=j3 b.natAbs)↔a=b:=by
 constructor
 ·rintro ⟨h1,h2⟩
  have:=congrArg val h2
  rw [T4,T4] at this
  have h1:a<0↔b<0:=by simpa using h1
  omega
 ·rintro rfl; exact ⟨rfl,rfl⟩
theorem N1b (a b:Int)(ha:nw a<999999999999)(hb:nw b<999999999999):Y2 E 79 [pZ a,pZ b] (bZ (decide (a=b))):=by
 have:=d1h (decide (a<0)) (decide (b<0)) (j3 a.natAbs) (j3 b.natAbs) (by unfold nw at ha; omega) (by unfold nw at hb; omega)
 rwa [v7 v1a] at this
theorem k0j (n:Int)(h:nw n<999999999999):Y2 E 115 [pZ n] (bZ (decide (n=1))):=by
 refine j2 (xs:=[bZ (decide (n=1))]) Tryz.func115 rfl Tryz.ntmps115 Tryz.results115 sM fun F hG hX0 hnt hdf P0=>?_
 obtain ⟨L,hX,hN⟩:=pro hnt hX0 hG
 unfold nw at h
 refine exr (swb (R3 (k:=1) (n:=2) pa2 rfl rfl (P0 _ rfl) L) t1 t0 ⟨rfl,rfl⟩ (aV L rfl (zn [(1,_)] [(1,_)] t1 t1 ?_)))
 refine exm (sl:=[(2,vb (decide (n=1)))]) (sl0:=[]) (hb:=[]) (hb0:=[]) t0 t0 ?_ ?_
 ·rcases Q1q n with ⟨h1,h2⟩ | ⟨h1,h2,h3⟩ | ⟨h1,h2,h3⟩
  ·refine sw (Z1 un45 rfl sz43 dC rX L) t1 t1 ?_
   refine sw (Y1 ag43 rF rF L) t1 t1 ?_
   refine sw (R2 un43 L) t1 t0 (sw (c_e L) t2 t0 (mV L rfl (swn (g:=7) rfl sO L rfl (swn (g:=7) rfl sO L rfl (swn (g:=7) rfl sO L rfl (swn (g:=7) rfl sO L rfl (swn (g:=7) rfl sO L rfl (sw (V3 sO L) t2 t0 (mV L rfl (swn (g:=14) rfl rfl L rfl (swn (g:=14) rfl rfl L rfl ?_)))))))))))
   refine swn (g:=14) rfl rfl L rfl (sw (V3 rfl L) t2 t0 (aV L rfl ?_))
   exact O1 ⟨⟨ob rfl (by simp [h2]),trivial⟩,trivial⟩
  ·refine sw (Z1 un45 rfl sz43 dC rX L) t1 t1 ?_
   refine sw (Y1 ag43 rF rF L) t1 t1 ?_
   refine sw (R2 un43 L) t1 t0 (sw (c_e L) t2 t0 (mV L rfl (swg (g:=7) rfl sO (Z1 un45 rfl sz43 dC rX L) rfl t1 t1 ?_)))
   refine swg (g:=7) rfl sO (Y1 ag43 rF rF L) rfl t1 t1 ?_
   refine swg (g:=7) rfl sO (ixJ un43 sz119 (j:=0) rfl oM sM L) rfl t2 t0 ?_
   refine swg (g:=7) rfl sO (v4 ag119 (by first | exact Z5 oM | rfl) L) rfl t1 t0 ?_
   refine swg (g:=7) rfl sO (c_e L) rfl t2 t0 (sw (m4 sO L) t2 t0 (mV L rfl (swn (g:=14) rfl (by simpa using h2) L rfl ?_)))
   refine swn (g:=14) rfl (by simpa using h2) L rfl ?_
   refine swn (g:=14) rfl (by simpa using h2) L rfl ?_
   refine sw (V3 (by simpa using h2) L) t2 t0 ?_
   refine aV L rfl ?_
   exact O1 ⟨⟨ob rfl (by simp [h3]),trivial⟩,trivial⟩
  ·refine sw (Z1 un45 rfl sz43 dC rX L) t1 t1 ?_
   refine sw (Y1 ag43 rF rF L) t1 t1 ?_
   refine sw (R2 un43 L) t1 t0 (sw (c_e L) t2 t0 (mV L rfl (swg (g:=7) rfl sO (Z1 un45 rfl sz43 dC rX L) rfl t1 t1 ?_)))
   refine swg (g:=7) rfl sO (Y1 ag43 rF rF L) rfl t1 t1 ?_
   refine swg (g:=7) rfl sO (ixJ un43 sz119 (j:=0) rfl oM sM L) rfl t2 t0 ?_
   refine swg (g:=7) rfl sO (v4 ag119 (by first | exact Z5 oM | rfl) L) rfl t1 t0 ?_
   refine swg (g:=7) rfl sO (c_e L) rfl t2 t0 (sw (m4 sO L) t2 t0 (mV L rfl (swg (g:=14) rfl (by simpa using h2) (Z1 un45 rfl sz4 dC rX L) rfl t1 t1 ?_)))
   refine swg (g:=14) rfl (by simpa using h2) (Y1 ag4 rF rF L) rfl t1 t1 ?_
   refine swg (g:=14) rfl (by simpa using h2) (P3 L) rfl t1 t0 ?_
   refine sw (m4 (by simpa using h2) L) t2 t0 ?_
   refine aV L rfl ?_
   exact O1 ⟨⟨ob rfl (by rw [v7 h3]; exact (decide_not ..).symm),trivial⟩,trivial⟩
 refine V1 ?_
 refine Q0 (.tmp rfl) ?_
 rfl
theorem k1n  : Y2 E 81 [] (pZ 1):=by
 refine j2 (xs:=[pZ 1]) Tryz.func81 rfl Tryz.ntmps81 Tryz.results81 sM fun F hG hX0 hnt hdf P0=>?_
 obtain ⟨L,hX,hN⟩:=pro hnt hX0 hG
 refine exr (swb (T3 (k:=0) (n:=2) zv45 (.cons rfl (.cons rfl .nil)) rfl (P0 _ rfl) L) t0 t0 ⟨rfl,rfl⟩ (zn [(0,_)] [(0,_)] t1 t1 (exr (cK hG hX cl119 hN (b0k 1 dC dC) L t1 (sb (U2 sz45 rF pa2 rfl pu2) t2 t1 ?_)))))
 refine zn [(0,_)] [(0,_)] t1 t1 (V1 ?_)
 refine Q0 (.agg rfl rfl rfl ag45 sz45 (.cons (.cons .nil))) ?_
 rfl
theorem b1b (n d:Int)(h0:d≠0)(hn:nw n<9000000000)(hd:nw d<9000000000):Y2 E 82 [pZ n,pZ d] (pQ (Rat.divInt n d)):=by
 refine j2 (xs:=[pQ (Rat.divInt n d)]) Tryz.func82 rfl Tryz.ntmps82 Tryz.results82 sM fun F hG hX0 hnt hdf P0=>?_
 obtain ⟨L,hX,hN⟩:=pro hnt hX0 hG
 have hg:=gn (n:=n) h0 hd
 have hs:=g1r (n:=n) h0
 have hw:=h1n (n:=n) h0
 refine exr (swb (R3 (k:=2) (n:=2) pa2 rfl rfl (P0 _ rfl) L) t1 t0 ⟨rfl,rfl⟩ (swb (R3 (k:=3) (n:=2) pa2 rfl rfl (P0 _ rfl) L) t1 t0 ⟨rfl,rfl⟩ (swb (T3 (k:=4) (n:=4) zv47 (.cons rfl (.cons rfl (.cons rfl (.cons rfl .nil)))) rfl (P0 _ rfl) L) t0 t0 ⟨rfl,rfl⟩ (zn [(2,_),(3,_),(4,_)] [(2,_),(3,_),(4,_)] t3 t3 (R1 (exr (lp2 ag45 sz45 L rfl rfl (cK hG hX cl115 hN (k0j d oM) L t1 (zn [(2,_),(3,_),(4,_),(7,_)] [(2,_),(3,_),(4,_)] t4 t3 ?_)))))))))
 refine D2 rfl (fun h1=>?_) (fun h1=>?_)
 ·have h1:=dt h1
  refine exr (lp2 ag45 sz45 L rfl rfl (lp2 ag45 sz45 L rfl rfl (sw (E6 (vs:=[_,_]) un47 zv47 (.cons rfl (.cons rfl (.cons rfl (.cons rfl .nil)))) ((y2.cons sz45 (y2.cons sz45 y2.nil))).to rfl (.cons rfl pa2 rfl pu2 (.cons rfl pa2 rfl (.skip (.skip pu2)) .nil)) (.cons (.cons (.cons (.cons .nil)))) L) t2 t0 (sb (U2 sz47 rF pa4 rfl pu4) t2 t1 ?_))))
  refine zn [(4,_)] [(4,_)] t1 t1 (V1 ?_)
  refine Q0 (.agg rfl rfl rfl ag47 sz47 (.cons (.cons (.cons (.cons .nil))))) ?_
  exact congrArg (· :: []) (cN (by rw [h1,b7]; rfl) (by rw [h1,b7]; rfl))
 ·refine U1 (xq ?_)
  refine exr (lp2 ag45 sz45 L rfl rfl (lp2 ag45 sz45 L rfl rfl (cK hG hX cl80 hN (J1p n d oM oM) L t2 (swb (T3 (k:=5) (n:=2) zv45 (.cons rfl (.cons rfl .nil)) rfl (P0 _ rfl) L) t0 t0 ⟨rfl,rfl⟩ (sb (U2 sz45 rF pa2 rfl pu2) t2 t1 ?_)))))
  refine zn [(2,_),(3,_),(4,_),(5,_)] [(2,_),(3,_),(4,_),(5,_)] t4 t4 (R1 ?_)
  refine exm (sl:=[(20,vb (decide ((Int.gcd n d:Int)=1∧¬ d<0)))]) (sl0:=[(2,_),(3,_),(4,_),(5,_)]) (hb:=[]) (hb0:=[(2,_),(3,_),(4,_),(5,_)]) t4 t4 ?_ ?_
  ·by_cases hg1:(Int.gcd n d:Int)=1
   ·refine lp2 ag45 sz45 L rfl rfl (cK hG hX cl115 hN (k0j (Int.gcd n d:Int) oM) L t1 (mV L rfl (swg (g:=16) rfl (by simp [hg1]) (Z1 un45 rfl sz4 dC rX L) rfl t1 t1 ?_)))
    refine swg (g:=16) rfl (by simp [hg1]) (Y1 ag4 rF rF L) rfl t1 t1 ?_
    refine swg (g:=16) rfl (by simp [hg1]) (P3 L) rfl t1 t0 ?_
    refine sw (m4 (by simp [hg1]) L) t2 t0 ?_
    exact O1 ⟨⟨ob rfl (by simp only [hg1,true_and]; exact (decide_not ..).symm),rfl,rfl,rfl,rfl,trivial⟩,t4⟩
   ·refine lp2 ag45 sz45 L rfl rfl (cK hG hX cl115 hN (k0j (Int.gcd n d:Int) oM) L t1 (mV L rfl (swn (g:=16) rfl (by simp [hg1]) L rfl ?_)))
    refine swn (g:=16) rfl (by simp [hg1]) L rfl ?_
    refine swn (g:=16) rfl (by simp [hg1]) L rfl ?_
    refine sw (V3 (by simp [hg1]) L) t2 t0 ?_
    exact O1 ⟨⟨ob rfl (by simp [hg1]),rfl,rfl,rfl,rfl,trivial⟩,t4⟩
  refine D2 rfl (fun h2=>?_) (fun h2=>?_)
  ·have h2:=dt h2
   have hh:=W0g (n:=n) (d:=d) oM h2.2
   refine exr (lp2 ag45 sz45 L rfl rfl (lp2 ag45 sz45 L rfl rfl (sw (E6 (vs:=[_,_]) un47 zv47 (.cons rfl (.cons rfl (.cons rfl (.cons rfl .nil)))) ((y2.cons sz45 (y2.cons sz45 y2.nil))).to rfl (.cons rfl pa2 rfl pu2 (.cons rfl pa2 rfl (.skip (.skip pu2)) .nil)) (.cons (.cons (.cons (.cons .nil)))) L) t2 t0 (sb (U2 sz47 rF pa4 rfl pu4) t2 t1 ?_))))
   refine zn [(4,_)] [(4,_)] t1 t1 (V1 ?_)
   refine Q0 (.agg rfl rfl rfl ag47 sz47 (.cons (.cons (.cons (.cons .nil))))) ?_
   exact congrArg (· :: []) (cN (by rw [d0g h0,hh,Int.ediv_one]) (by rw [b0z h0,hh,Int.ediv_one]))
  ·refine U1 (xq ?_)
   refine R1 (exr (lp2 ag45 sz45 L rfl rfl (cK hG hX cl78 hN (N0j d oM) L t1 (sw (d4 L) t2 t0 (zn [(2,_),(3,_),(4,_),(5,_),(26,_)] [(2,_),(3,_),(4,_),(5,_)] t5 t4 ?_)))))
   refine D2 rfl (fun h4=>?_) (fun h4=>?_)
   ·have h4:=dt h4
    rw [sg0] at h4
    rw [sgn h4] at hs hw
    refine y3 (lp2 ag45 sz45 L rfl rfl (cK hG hX cl105 hN (P1d (Int.gcd n d:Int) oM) L t1 (sb (U2 sz45 rF pa2 rfl pu2) t2 t1 ?_)))
    refine O1 (exd rF ?_)
    refine lp2 ag45 sz45 L rfl rfl (lp2 ag45 sz45 L rfl rfl (cK hG hX cl121 hN (f1p n (-(Int.gcd n d:Int)) oM oM hs) L t2 (lp2 ag45 sz45 L rfl rfl (lp2 ag45 sz45 L rfl rfl (cK hG hX cl121 hN (f1p d (-(Int.gcd n d:Int)) oM oM hs) L t2 (sw (E6 (vs:=[_,_]) un47 zv47 (.cons rfl (.cons rfl (.cons rfl (.cons rfl .nil)))) ((y2.cons sz45 (y2.cons sz45 y2.nil))).to rfl (.cons rfl pa2 rfl pu2 (.cons rfl pa2 rfl (.skip (.skip pu2)) .nil)) (.cons (.cons (.cons (.cons .nil)))) L) t2 t0 (sb (U2 sz47 rF pa4 rfl pu4) t2 t1 ?_)))))))
    refine O1 ⟨B5 [⟨[2],[2],[29],[]⟩,⟨[5],[5],[30],[]⟩,⟨[29,30],[],[31],[]⟩,⟨[3],[3],[32],[]⟩,⟨[5],[5],[33],[]⟩,⟨[32,33],[],[34],[]⟩,⟨[31,34],[],[35],[]⟩,⟨[4,35],[4],[],[4]⟩] rF rF dC,[(4,_)],[(4,_)],t1,t1,?_⟩
    refine V1 ?_
    refine Q0 (.agg rfl rfl rfl ag47 sz47 (.cons (.cons (.cons (.cons .nil))))) ?_
    exact congrArg (· :: []) (cN (by rw [d0g h0,sgn h4]) (by rw [b0z h0,sgn h4]))
   ·have h4:=df h4
    rw [sg0] at h4
    rw [sgp h4] at hs hw
    refine U1 (xq ?_)
    refine exd rF ?_
    refine lp2 ag45 sz45 L rfl rfl (lp2 ag45 sz45 L rfl rfl (cK hG hX cl121 hN (f1p n (Int.gcd n d:Int) oM oM hs) L t2 (lp2 ag45 sz45 L rfl rfl (lp2 ag45 sz45 L rfl rfl (cK hG hX cl121 hN (f1p d (Int.gcd n d:Int) oM oM hs) L t2 (sw (E6 (vs:=[_,_]) un47 zv47 (.cons rfl (.cons rfl (.cons rfl (.cons rfl .nil)))) ((y2.cons sz45 (y2.cons sz45 y2.nil))).to rfl (.cons rfl pa2 rfl pu2 (.cons rfl pa2 rfl (.skip (.skip pu2)) .nil)) (.cons (.cons (.cons (.cons .nil)))) L) t2 t0 (sb (U2 sz47 rF pa4 rfl pu4) t2 t1 ?_)))))))
    refine O1 ⟨B5 [⟨[2],[2],[29],[]⟩,⟨[5],[5],[30],[]⟩,⟨[29,30],[],[31],[]⟩,⟨[3],[3],[32],[]⟩,⟨[5],[5],[33],[]⟩,⟨[32,33],[],[34],[]⟩,⟨[31,34],[],[35],[]⟩,⟨[4,35],[4],[],[4]⟩] rF rF dC,[(4,_)],[(4,_)],t1,t1,?_⟩
    refine V1 ?_
    refine Q0 (.agg rfl rfl rfl ag47 sz47 (.cons (.cons (.cons (.cons .nil))))) ?_
    exact congrArg (· :: []) (cN (by rw [d0g h0,sgp h4]) (by rw [b0z h0,sgp h4]))
theorem Y0q (a b:Rat)(ha:qw a<1000000000)(hb:qw b<1000000000):Y2 E 37 [pQ a,pQ b] (pQ (a*b)):=by
 refine j2 (xs:=[pQ (a*b)]) Tryz.func37 rfl Tryz.ntmps37 Tryz.results37 sM fun F hG hX0 hnt hdf P0=>?_
 obtain ⟨L,hX,hN⟩:=pro hnt hX0 hG
 have h1:=n5 a
 have h2:=n5 b
 have h3:=I5 a
 have h4:=I5 b
 have h5:=K7 a.num b.num
 have h6:=K7 a.den b.den
 refine exr (swb (R3 (k:=2) (n:=4) pa4 rfl rfl (P0 _ rfl) L) t1 t0 ⟨rfl,rfl⟩ (swb (R3 (k:=3) (n:=4) pa4 rfl rfl (P0 _ rfl) L) t1 t0 ⟨rfl,rfl⟩ (swb (T3 (k:=4) (n:=4) zv47 (.cons rfl (.cons rfl (.cons rfl (.cons rfl .nil)))) rfl (P0 _ rfl) L) t0 t0 ⟨rfl,rfl⟩ (zn [(2,_),(3,_),(4,_)] [(2,_),(3,_),(4,_)] t3 t3 (exd rF ?_)))))
 refine sw (Z1 un47 rfl sz45 dC rX L) t1 t1 ?_
 refine lp2 ag45 sz45 L rfl rfl (sw (Z1 un47 rfl sz45 dC rX L) t1 t1 ?_)
 refine lp2 ag45 sz45 L rfl rfl (cK hG hX cl83 hN (F0q a.num b.num oM oM) L t2 (sw (Z1 un47 rfl sz45 dC rX L) t1 t1 ?_))
 refine lp2 ag45 sz45 L rfl rfl (sw (Z1 un47 rfl sz45 dC rX L) t1 t1 ?_)
 refine lp2 ag45 sz45 L rfl rfl (cK hG hX cl83 hN (F0q a.den b.den oM oM) L t2 (cK hG hX cl82 hN (b1b (a.num*b.num) (a.den*b.den) (Int.mul_ne_zero (O8 a) (O8 b)) oM oM) L t2 (sb (U2 sz47 rF pa4 rfl pu4) t2 t1 ?_)))
 refine O1 ⟨B5 [⟨[2],[2],[5],[]⟩,⟨[5],[2],[6],[]⟩,⟨[3],[3],[7],[]⟩,⟨[7],[3],[8],[]⟩,⟨[6,8],[],[9],[]⟩,⟨[2],[2],[10],[]⟩,⟨[10],[2],[11],[]⟩,⟨[3],[3],[12],[]⟩,⟨[12],[3],[13],[]⟩,⟨[11,13],[],[14],[]⟩,⟨[9,14],[],[15],[]⟩,⟨[4,15],[4],[],[4]⟩] rF rF dC,[(4,_)],[(4,_)],t1,t1,?_⟩
 refine V1 ?_
 refine Q0 (.agg rfl rfl rfl ag47 sz47 (.cons (.cons (.cons (.cons .nil))))) ?_
 rw [w1s]
theorem f1d (a b:Rat)(ha:qw a<1000000000)(hb:qw b<1000000000):Y2 E 76 [pQ a,pQ b] (pQ (a+b)):=by
 refine j2 (xs:=[pQ (a+b)]) Tryz.func76 rfl Tryz.ntmps76 Tryz.results76 sM fun F hG hX0 hnt hdf P0=>?_
 obtain ⟨L,hX,hN⟩:=pro hnt hX0 hG
 have h1:=n5 a
 have h2:=n5 b
 have h3:=I5 a
 have h4:=I5 b
 have h5:=K7 a.num b.den
 have h6:=K7 b.num a.den
 have h7:=K7 a.den b.den
 have h8:=d1r (a.num*b.den) (b.num*a.den)
 refine exr (swb (R3 (k:=2) (n:=4) pa4 rfl rfl (P0 _ rfl) L) t1 t0 ⟨rfl,rfl⟩ (swb (R3 (k:=3) (n:=4) pa4 rfl rfl (P0 _ rfl) L) t1 t0 ⟨rfl,rfl⟩ (swb (T3 (k:=4) (n:=4) zv47 (.cons rfl (.cons rfl (.cons rfl (.cons rfl .nil)))) rfl (P0 _ rfl) L) t0 t0 ⟨rfl,rfl⟩ (zn [(2,_),(3,_),(4,_)] [(2,_),(3,_),(4,_)] t3 t3 (R1 ?_)))))
 refine exm (sl:=[(12,vb (decide ((a.den:Int)=1∧(b.den:Int)=1)))]) (sl0:=[(2,_),(3,_),(4,_)]) (hb:=[]) (hb0:=[(2,_),(3,_),(4,_)]) t3 t3 ?_ ?_
 ·by_cases hd:(a.den:Int)=1
  ·refine sw (Z1 un47 rfl sz45 dC rX L) t1 t1 ?_
   refine lp2 ag45 sz45 L rfl rfl (cK hG hX cl115 hN (k0j a.den oM) L t1 (mV L rfl (swg (g:=8) rfl (by simpa using hd) (Z1 un47 rfl sz45 dC rX L) rfl t1 t1 ?_)))
   refine swg (g:=8) rfl (by simpa using hd) (l6 ag45 sz45 rF (by exact al2) rfl L) rfl t1 t1 ?_
   refine swg (g:=8) rfl (by simpa using hd) (c_c hG hX cl115 rfl hN (k0j b.den oM) L) rfl t1 t0 ?_
   refine sw (m4 (by simpa using hd) L) t2 t0 ?_
   exact O1 ⟨⟨ob rfl (by simp only [hd,true_and]),rfl,rfl,rfl,trivial⟩,t3⟩
  ·refine sw (Z1 un47 rfl sz45 dC rX L) t1 t1 ?_
   refine lp2 ag45 sz45 L rfl rfl (cK hG hX cl115 hN (k0j a.den oM) L t1 (mV L rfl (swn (g:=8) rfl (by simpa using hd) L rfl ?_)))
   refine swn (g:=8) rfl (by simpa using hd) L rfl ?_
   refine swn (g:=8) rfl (by simpa using hd) L rfl ?_
   refine sw (V3 (by simpa using hd) L) t2 t0 ?_
   exact O1 ⟨⟨ob rfl (by simp only [hd,false_and]; rfl),rfl,rfl,rfl,trivial⟩,t3⟩
 refine D2 rfl (fun hc=>?_) (fun hc=>?_)
 ·have hc:=dt hc
  refine exd rF ?_
  refine sw (Z1 un47 rfl sz45 dC rX L) t1 t1 ?_
  refine lp2 ag45 sz45 L rfl rfl (sw (Z1 un47 rfl sz45 dC rX L) t1 t1 ?_)
  refine lp2 ag45 sz45 L rfl rfl (cK hG hX cl116 hN (H1r a.num b.num oM oM) L t2 (sw (Z1 un47 rfl sz45 dC rX L) t1 t1 ?_))
  refine lp2 ag45 sz45 L rfl rfl (sw (E6 (vs:=[_,_]) un47 zv47 (.cons rfl (.cons rfl (.cons rfl (.cons rfl .nil)))) ((y2.cons sz45 (y2.cons sz45 y2.nil))).to rfl (.cons rfl pa2 rfl pu2 (.cons rfl pa2 rfl (.skip (.skip pu2)) .nil)) (.cons (.cons (.cons (.cons .nil)))) L) t2 t0 (sb (U2 sz47 rF pa4 rfl pu4) t2 t1 ?_))
  refine O1 ⟨B5 [⟨[2],[2],[13],[]⟩,⟨[13],[2],[14],[]⟩,⟨[3],[3],[15],[]⟩,⟨[15],[3],[16],[]⟩,⟨[14,16],[],[17],[]⟩,⟨[2],[2],[18],[]⟩,⟨[18],[2],[19],[]⟩,⟨[17,19],[],[20],[]⟩,⟨[4,20],[4],[],[4]⟩] rF rF dC,[(4,_)],[(4,_)],t1,t1,?_⟩
  refine V1 ?_
  refine Q0 (.agg rfl rfl rfl ag47 sz47 (.cons (.cons (.cons (.cons .nil))))) ?_
  exact congrArg (· :: []) (cN (by rw [← H0k,hc.1,hc.2,Int.mul_one,Int.mul_one,Int.mul_one,b7]; rfl) (by rw [← H0k,hc.1,hc.2,Int.mul_one,Int.mul_one,Int.mul_one,b7]; rfl))
 ·refine U1 (xq ?_)
  refine exd rF ?_
  refine sw (Z1 un47 rfl sz45 dC rX L) t1 t1 ?_
  refine lp2 ag45 sz45 L rfl rfl (sw (Z1 un47 rfl sz45 dC rX L) t1 t1 ?_)
  refine lp2 ag45 sz45 L rfl rfl (cK hG hX cl83 hN (F0q a.num b.den oM oM) L t2 (sw (Z1 un47 rfl sz45 dC rX L) t1 t1 ?_))
  refine lp2 ag45 sz45 L rfl rfl (sw (Z1 un47 rfl sz45 dC rX L) t1 t1 ?_)
  refine lp2 ag45 sz45 L rfl rfl (cK hG hX cl83 hN (F0q b.num a.den oM oM) L t2 (cK hG hX cl116 hN (H1r (a.num*b.den) (b.num*a.den) oM oM) L t2 (sw (Z1 un47 rfl sz45 dC rX L) t1 t1 ?_)))
  refine lp2 ag45 sz45 L rfl rfl (sw (Z1 un47 rfl sz45 dC rX L) t1 t1 ?_)
  refine lp2 ag45 sz45 L rfl rfl (cK hG hX cl83 hN (F0q a.den b.den oM oM) L t2 (cK hG hX cl82 hN (b1b (a.num*b.den+b.num*a.den) (a.den*b.den) (Int.mul_ne_zero (O8 a) (O8 b)) oM oM) L t2 (sb (U2 sz47 rF pa4 rfl pu4) t2 t1 ?_)))
  refine O1 ⟨B5 [⟨[2],[2],[21],[]⟩,⟨[21],[2],[22],[]⟩,⟨[3],[3],[23],[]⟩,⟨[23],[3],[24],[]⟩,⟨[22,24],[],[25],[]⟩,⟨[3],[3],[26],[]⟩,⟨[26],[3],[27],[]⟩,⟨[2],[2],[28],[]⟩,⟨[28],[2],[29],[]⟩,⟨[27,29],[],[30],[]⟩,⟨[25,30],[],[31],[]⟩,⟨[2],[2],[32],[]⟩,⟨[32],[2],[33],[]⟩,⟨[3],[3],[34],[]⟩,⟨[34],[3],[35],[]⟩,⟨[33,35],[],[36],[]⟩,⟨[31,36],[],[37],[]⟩,⟨[4,37],[4],[],[4]⟩] rF rF dC,[(4,_)],[(4,_)],t1,t1,?_⟩
  refine V1 ?_
  refine Q0 (.agg rfl rfl rfl ag47 sz47 (.cons (.cons (.cons (.cons .nil))))) ?_
  rw [H0k]
theorem G1k (m n:Bool)(ws vs:List Int)(hl:ws.length<1000000000)(hl2:vs.length<1000000000)(hn:¬ (P2 m ws=true∧P2 n vs=true)):Y2 E 36 [pR m ws n vs] (bZ false):=by
 refine j2 (xs:=[bZ false]) Tryz.func36 rfl Tryz.ntmps36 Tryz.results36 sM fun F hG hX0 hnt hdf P0=>?_
 obtain ⟨L,hX,hN⟩:=pro hnt hX0 hG
 refine exr (swb (R3 (k:=1) (n:=4) pa4 rfl rfl (P0 _ rfl) L) t1 t0 ⟨rfl,rfl⟩ (aV L rfl (zn [(1,_)] [(1,_)] t1 t1 ?_)))
 refine exm (sl:=[(2,vb false)]) (sl0:=[]) (hb:=[]) (hb0:=[]) t0 t0 ?_ ?_
 ·rcases J1n hn with h1 | ⟨h1,h2⟩
  ·refine sw (Z1 un47 rfl sz45 dC rX L) t1 t1 ?_
   refine lp2 ag45 sz45 L rfl rfl (cK hG hX cl77 hN (J5 m ws oM) L t1 (mV L rfl (swn (g:=6) rfl (by simpa using h1) L rfl ?_)))
   refine swn (g:=6) rfl (by simpa using h1) L rfl ?_
   refine swn (g:=6) rfl (by simpa using h1) L rfl ?_
   refine sw (V3 (by simpa using h1) L) t2 t0 ?_
   refine mV L rfl (swn (g:=11) rfl rfl L rfl (swn (g:=11) rfl rfl L rfl (swn (g:=11) rfl rfl L rfl (swn (g:=11) rfl rfl L rfl (sw (V3 rfl L) t2 t0 (mV L rfl (swn (g:=17) rfl rfl L rfl (swn (g:=17) rfl rfl L rfl (swn (g:=17) rfl rfl L rfl (swn (g:=17) rfl rfl L rfl (swn (g:=17) rfl rfl L rfl ?_)))))))))))
   refine swn (g:=17) rfl rfl L rfl (swn (g:=17) rfl rfl L rfl (sw (V3 rfl L) t2 t0 (aV L rfl ?_)))
   exact O1 ⟨⟨ob rfl rfl,trivial⟩,trivial⟩
  ·refine sw (Z1 un47 rfl sz45 dC rX L) t1 t1 ?_
   refine lp2 ag45 sz45 L rfl rfl (cK hG hX cl77 hN (J5 m ws oM) L t1 (mV L rfl (swg (g:=6) rfl h1 (Z1 un47 rfl sz45 dC rX L) rfl t1 t1 ?_)))
   refine swg (g:=6) rfl h1 (l6 ag45 sz45 rF (by exact al2) rfl L) rfl t1 t1 ?_
   refine swg (g:=6) rfl h1 (c_c hG hX cl77 rfl hN (J5 n vs oM) L) rfl t1 t0 (sw (m4 h1 L) t2 t0 (mV L rfl (swn (g:=11) rfl (by simpa using h2) L rfl ?_)))
   refine swn (g:=11) rfl (by simpa using h2) L rfl ?_
   refine swn (g:=11) rfl (by simpa using h2) L rfl ?_
   refine swn (g:=11) rfl (by simpa using h2) L rfl ?_
   refine sw (V3 (by simpa using h2) L) t2 t0 ?_
   refine mV L rfl (swn (g:=17) rfl rfl L rfl (swn (g:=17) rfl rfl L rfl (swn (g:=17) rfl rfl L rfl (swn (g:=17) rfl rfl L rfl (swn (g:=17) rfl rfl L rfl (swn (g:=17) rfl rfl L rfl (swn (g:=17) rfl rfl L rfl (sw (V3 rfl L) t2 t0 (aV L rfl ?_)))))))))
   exact O1 ⟨⟨ob rfl rfl,trivial⟩,trivial⟩
 refine V1 ?_
 refine Q0 (.tmp rfl) ?_
 rfl
theorem K1x (a b:Int)(ha:nw a<1000000000)(hb:nw b<1000000000):Y2 E 36 [pN a b] (bZ (decide (0<b∧(Int.gcd a b:Int)=1))):=by
 refine j2 (xs:=[bZ (decide (0<b∧(Int.gcd a b:Int)=1))]) Tryz.func36 rfl Tryz.ntmps36 Tryz.results36 sM fun F hG hX0 hnt hdf P0=>?_
 obtain ⟨L,hX,hN⟩:=pro hnt hX0 hG
 refine exr (swb (R3 (k:=1) (n:=4) pa4 rfl rfl (P0 _ rfl) L) t1 t0 ⟨rfl,rfl⟩ (aV L rfl (zn [(1,_)] [(1,_)] t1 t1 ?_)))
 refine exm (sl:=[(2,vb (decide (0<b∧(Int.gcd a b:Int)=1)))]) (sl0:=[]) (hb:=[]) (hb0:=[]) t0 t0 ?_ ?_
 ·by_cases h1:0<b
  ·refine sw (Z1 un47 rfl sz45 dC rX L) t1 t1 ?_
   refine lp2 ag45 sz45 L rfl rfl (cK hG hX cl77 hN (m1f a oM) L t1 (mV L rfl (swg (g:=6) rfl rfl (Z1 un47 rfl sz45 dC rX L) rfl t1 t1 ?_)))
   refine swg (g:=6) rfl rfl (l6 ag45 sz45 rF (by exact al2) rfl L) rfl t1 t1 ?_
   refine swg (g:=6) rfl rfl (c_c hG hX cl77 rfl hN (m1f b oM) L) rfl t1 t0 (sw (m4 rfl L) t2 t0 (mV L rfl (swg (g:=11) rfl rfl (Z1 un47 rfl sz45 dC rX L) rfl t1 t1 ?_)))
   refine swg (g:=11) rfl rfl (l6 ag45 sz45 rF (by exact al2) rfl L) rfl t1 t1 ?_
   refine swg (g:=11) rfl rfl (c_c hG hX cl78 rfl hN (N0j b oM) L) rfl t1 t0 (swg (g:=11) rfl rfl (X6 L) rfl t2 t0 (sw (m4 rfl L) t2 t0 (mV L rfl (swg (g:=17) rfl (decide_eq_true (sgt.2 h1)) (Z1 un47 rfl sz45 dC rX L) rfl t1 t1 ?_))))
   refine swg (g:=17) rfl (decide_eq_true (sgt.2 h1)) (l6 ag45 sz45 rF (by exact al2) rfl L) rfl t1 t1 ?_
   refine swg (g:=17) rfl (decide_eq_true (sgt.2 h1)) (Z1 un47 rfl sz45 dC rX L) rfl t1 t1 ?_
   refine swg (g:=17) rfl (decide_eq_true (sgt.2 h1)) (l6 ag45 sz45 rF (by exact al2) rfl L) rfl t1 t1 ?_
   refine swg (g:=17) rfl (decide_eq_true (sgt.2 h1)) (c_c hG hX cl80 rfl hN (J1p a b oM oM) L) rfl t2 t0 (swg (g:=17) rfl (decide_eq_true (sgt.2 h1)) (c_c hG hX cl81 rfl hN k1n L) rfl trivial trivial (swg (g:=17) rfl (decide_eq_true (sgt.2 h1)) (c_c hG hX cl79 rfl hN (N1b (Int.gcd a b:Int) 1 (gn1 a h1 hb) (by rw [m0z]; decide)) L) rfl t2 t0 ?_))
   refine sw (m4 (decide_eq_true (sgt.2 h1)) L) t2 t0 (aV L rfl ?_)
   exact O1 ⟨⟨ob rfl (by rw [v7 (and_iff_right h1)]),trivial⟩,trivial⟩
  ·refine sw (Z1 un47 rfl sz45 dC rX L) t1 t1 ?_
   refine lp2 ag45 sz45 L rfl rfl (cK hG hX cl77 hN (m1f a oM) L t1 (mV L rfl (swg (g:=6) rfl rfl (Z1 un47 rfl sz45 dC rX L) rfl t1 t1 ?_)))
   refine swg (g:=6) rfl rfl (l6 ag45 sz45 rF (by exact al2) rfl L) rfl t1 t1 ?_
   refine swg (g:=6) rfl rfl (c_c hG hX cl77 rfl hN (m1f b oM) L) rfl t1 t0 (sw (m4 rfl L) t2 t0 (mV L rfl (swg (g:=11) rfl rfl (Z1 un47 rfl sz45 dC rX L) rfl t1 t1 ?_)))
   refine swg (g:=11) rfl rfl (l6 ag45 sz45 rF (by exact al2) rfl L) rfl t1 t1 ?_
   refine swg (g:=11) rfl rfl (c_c hG hX cl78 rfl hN (N0j b oM) L) rfl t1 t0 (swg (g:=11) rfl rfl (X6 L) rfl t2 t0 (sw (m4 rfl L) t2 t0 (mV L rfl (swn (g:=17) rfl (decide_eq_false (mt sgt.1 h1)) L rfl (swn (g:=17) rfl (decide_eq_false (mt sgt.1 h1)) L rfl (swn (g:=17) rfl (decide_eq_false (mt sgt.1 h1)) L rfl (swn (g:=17) rfl (decide_eq_false (mt sgt.1 h1)) L rfl (swn (g:=17) rfl (decide_eq_false (mt sgt.1 h1)) L rfl (swn (g:=17) rfl (decide_eq_false (mt sgt.1 h1)) L rfl (swn (g:=17) rfl (decide_eq_false (mt sgt.1 h1)) L rfl (sw (V3 (decide_eq_false (mt sgt.1 h1)) L) t2 t0 ?_)))))))))))
   refine aV L rfl ?_
   exact O1 ⟨⟨ob rfl (decide_eq_false (fun h=>h1 h.1)).symm,trivial⟩,trivial⟩
 refine V1 ?_
 refine Q0 (.tmp rfl) ?_
 rfl
theorem d1n (n d:Int)(h0:d≠0)(hn:nw n<9000000000)(hd:nw d<9000000000):Y2 E 125 [pZ n,pZ d] (.tup [pQ (Rat.divInt n d),vZ 0]):=by
 refine j2 (xs:=[pQ (Rat.divInt n d),vZ 0]) Tryz.func125 rfl Tryz.ntmps125 Tryz.results125 sM fun F hG hX0 hnt hdf P0=>?_
 obtain ⟨L,hX,hN⟩:=pro hnt hX0 hG
 refine exr (swb (R3 (k:=2) (n:=2) pa2 rfl rfl (P0 _ rfl) L) t1 t0 ⟨rfl,rfl⟩ (swb (R3 (k:=3) (n:=2) pa2 rfl rfl (P0 _ rfl) L) t1 t0 ⟨rfl,rfl⟩ (swb (T3 (k:=4) (n:=4) zv47 (.cons rfl (.cons rfl (.cons rfl (.cons rfl .nil)))) rfl (P0 _ rfl) L) t0 t0 ⟨rfl,rfl⟩ (aV L rfl (zn [(2,_),(3,_),(4,_)] [(2,_),(3,_),(4,_)] t3 t3 (R1 (exr (lp2 ag45 sz45 L rfl rfl (cK hG hX cl77 hN (m1f n oM) L t1 (sw (P3 L) t1 t0 (mV L rfl ?_)))))))))))
 refine swg (g:=9) rfl rfl (l6 ag45 sz45 rF (by exact al2) rfl L) rfl t1 t1 ?_
 refine swg (g:=9) rfl rfl (c_c hG hX cl77 rfl hN (m1f d oM) L) rfl t1 t0 (swg (g:=9) rfl rfl (P3 L) rfl t1 t0 (sw (V3 rfl L) t2 t0 (zn [(2,_),(3,_),(4,_),(13,_)] [(2,_),(3,_),(4,_)] t4 t3 ?_)))
 refine D2 rfl (fun hc=>?_) (fun hc=>?_)
 ·cases hc
 ·refine U1 (xq ?_)
  refine R1 (exr (lp2 ag45 sz45 L rfl rfl (cK hG hX cl78 hN (N0j d oM) L t1 (sw (c_e L) t2 t0 (zn [(2,_),(3,_),(4,_),(17,_)] [(2,_),(3,_),(4,_)] t4 t3 ?_)))))
  refine D2 rfl (fun hz=>?_) (fun hz=>?_)
  ·have hz:=dt hz
   exact absurd (Int.sign_eq_zero_iff_zero.1 hz) h0
  ·refine U1 (xq ?_)
   refine exr (lp2 ag45 sz45 L rfl rfl (lp2 ag45 sz45 L rfl rfl (cK hG hX cl82 hN (b1b n d h0 hn hd) L t2 (sb (U2 sz47 rF pa4 rfl pu4) t2 t1 ?_))))
   refine aV L rfl (zn [(4,_),(5,_)] [(4,_)] t2 t1 (V1 ?_))
   refine Y0 (.agg rfl rfl rfl ag47 sz47 (.cons (.cons (.cons (.cons .nil))))) (.tmp rfl) ?_
   rfl
theorem Q1k {n:Int}(h : -9223372036854775808≤n)(h1:n<9223372036854775808):nw n≤2:=B0p oM
theorem j1f (n d:Int)(h : -9223372036854775808≤n)(h1:n<9223372036854775808)(h2 : -9223372036854775808≤d)(h3:d<9223372036854775808)(h0:d≠0):Y2 E 88 [vZ n,vZ d] (.tup [pQ (Rat.divInt n d),vZ 0]):=by
 refine j2 (xs:=[pQ (Rat.divInt n d),vZ 0]) Tryz.func88 rfl Tryz.ntmps88 Tryz.results88 sM fun F hG hX0 hnt hdf P0=>?_
 obtain ⟨L,hX,hN⟩:=pro hnt hX0 hG
 have k1:=Q1k h h1
 have k2:=Q1k h2 h3
 refine exr (swb (T3 (k:=4) (n:=4) zv47 (.cons rfl (.cons rfl (.cons rfl (.cons rfl .nil)))) rfl (P0 _ rfl) L) t0 t0 ⟨rfl,rfl⟩ (aV L rfl (zn [(0,_),(1,_),(4,_)] [(4,_)] t3 t1 (exr (mV L rfl (cK hG hX cl119 hN (b0k n h h1) L t1 (mV L rfl (cK hG hX cl119 hN (b0k d h2 h3) L t1 (cK hG hX cl125 hN (d1n n d h0 oM oM) L t2 (sw (i4 rfl L) t1 t0 (sw (i4 rfl L) t1 t0 ?_)))))))))))
 refine sb (U2 sz47 rF pa4 rfl pu4) t2 t1 ?_
 refine aV L rfl (zn [(4,_),(5,_)] [(4,_)] t2 t1 (V1 ?_))
 refine Y0 (.agg rfl rfl rfl ag47 sz47 (.cons (.cons (.cons (.cons .nil))))) (.tmp rfl) ?_
 rfl
theorem d0j (n:Int)(h : -9223372036854775808≤n)(h1:n<9223372036854775808):Y2 E 49 [vZ n] (pQ (n:Rat)):=by
 refine j2 (xs:=[pQ (n:Rat)]) Tryz.func49 rfl Tryz.ntmps49 Tryz.results49 sM fun F hG hX0 hnt hdf P0=>?_
 obtain ⟨L,hX,hN⟩:=pro hnt hX0 hG
 refine exr (swb (T3 (k:=2) (n:=4) zv47 (.cons rfl (.cons rfl (.cons rfl (.cons rfl .nil)))) rfl (P0 _ rfl) L) t0 t0 ⟨rfl,rfl⟩ (zn [(0,_),(2,_)] [(2,_)] t2 t1 (exr (mV L rfl (cK hG hX cl88 hN (j1f n 1 h h1 dC dC dC) L t2 (mV L rfl (sw (i4 rfl L) t1 t0 (sw (i4 rfl L) t1 t0 (swb (T3 (k:=3) (n:=4) zv47 (.cons rfl (.cons rfl (.cons rfl (.cons rfl .nil)))) rfl (P0 _ rfl) L) t0 t0 ⟨rfl,rfl⟩ (sb (U2 sz47 rF pa4 rfl pu4) t2 t1 ?_))))))))))
 refine aV L rfl (zn [(2,_),(3,_)] [(2,_),(3,_)] t2 t2 (exr (lp4 ag47 sz47 L rfl rfl (sb (U2 sz47 rF pa4 rfl pu4) t2 t1 ?_))))
 refine zn [(2,_)] [(2,_)] t1 t1 (V1 ?_)
 refine Q0 (.agg rfl rfl rfl ag47 sz47 (.cons (.cons (.cons (.cons .nil))))) ?_
 rw [b7]
theorem Y0b  : Y2 E 60 [] (pQ 0):=by
 refine j2 (xs:=[pQ 0]) Tryz.func60 rfl Tryz.ntmps60 Tryz.results60 sM fun F hG hX0 hnt hdf P0=>?_
 obtain ⟨L,hX,hN⟩:=pro hnt hX0 hG
 refine exr (swb (T3 (k:=0) (n:=4) zv47 (.cons rfl (.cons rfl (.cons rfl (.cons rfl .nil)))) rfl (P0 _ rfl) L) t0 t0 ⟨rfl,rfl⟩ (zn [(0,_)] [(0,_)] t1 t1 (exr (cK hG hX cl49 hN (d0j 0 dC dC) L t1 (sb (U2 sz47 rF pa4 rfl pu4) t2 t1 ?_)))))
 refine zn [(0,_)] [(0,_)] t1 t1 (V1 ?_)
 refine Q0 (.agg rfl rfl rfl ag47 sz47 (.cons (.cons (.cons (.cons .nil))))) ?_
 rfl
theorem d1f  : Y2 E 61 [] (pQ 1):=by
 refine j2 (xs:=[pQ 1]) Tryz.func61 rfl Tryz.ntmps61 Tryz.results61 sM fun F hG hX0 hnt hdf P0=>?_
 obtain ⟨L,hX,hN⟩:=pro hnt hX0 hG
 refine exr (swb (T3 (k:=0) (n:=4) zv47 (.cons rfl (.cons rfl (.cons rfl (.cons rfl .nil)))) rfl (P0 _ rfl) L) t0 t0 ⟨rfl,rfl⟩ (zn [(0,_)] [(0,_)] t1 t1 (exr (cK hG hX cl49 hN (d0j 1 dC dC) L t1 (sb (U2 sz47 rF pa4 rfl pu4) t2 t1 ?_)))))
 refine zn [(0,_)] [(0,_)] t1 t1 (V1 ?_)
 refine Q0 (.agg rfl rfl rfl ag47 sz47 (.cons (.cons (.cons (.cons .nil))))) ?_
 rfl
end Go.Proofs.YtjagfionflbjbaaGreat.N
namespace Go.Proofs.YtjagfionflbjbaaGreat.NumA
open Go
def L4 (p:Nat→Bool):Nat→Nat→Int
 | _,0=>-1
 | a,n+1=>if p a=true then a else L4 p (a+1) n
theorem f0v {p:Nat→Bool}:∀ {n a:Nat},¬ L4 p a n<0→a≤(L4 p a n).toNat∧(L4 p a n).toNat<a+n∧p (L4 p a n).toNat=true∧((L4 p a n).toNat:Int)=L4 p a n
 | 0,a,h=>by simp [L4] at h
 | n+1,a,h=>by
  simp only [L4] at h ⊢
  by_cases e:p a=true
  ·simp only [e,if_true]; exact ⟨by omega,by omega,by simpa using e,by omega⟩
  ·rw [if_neg e] at h ⊢
   obtain ⟨h1,h2,h3,h4⟩:=f0v h
   exact ⟨by omega,by omega,h3,h4⟩
theorem b0s {p:Nat→Bool}:∀ {n a:Nat},L4 p a n<0→∀ i,a≤i→i<a+n→p i=false
 | 0,a,h,i,h1,h2=>by omega
 | n+1,a,h,i,h1,h2=>by
  simp only [L4] at h
  by_cases e:p a=true
  ·rw [if_pos e] at h; omega
  ·rw [if_neg e] at h
   by_cases e2:i=a
   ·subst e2; simpa using e
   ·exact b0s h i (by omega) (by omega)
abbrev Mq:=List (List Rat)
def ent (m:Mq)(i j:Nat):Rat:=(m.getD i []).getD j 0
def L5 (m:Mq)(i k:Nat):Mq:=(m.set i (m.getD k [])).set k (m.getD i [])
def Z7 (m:Mq)(i k:Nat)(c:Rat):Mq:=m.set i (List.zipWith (fun a b=>a - c*b) (m.getD i []) (m.getD k []))
def nzI (m:Mq)(c i:Nat):Bool:=!decide ((m.getD i []).getD c 0=0)
def h0f (m:Mq)(p c i:Nat):Bool:=decide (i≠p) && nzI m c i
def J9 (m:Mq)(p c i:Nat):Nat:=((List.range i).filter (h0f m p c)).length
def G5 (m:Mq)(p c:Nat):List Nat:=(List.range m.length).filter (h0f m p c)
def I6 (m x:Mq)(p c k:Nat):Mq:=((G5 m p c).take k).foldl (fun M i=>Z7 M i p ((m.getD i []).getD c 0)) x
def n0n (m x:Mq)(p c:Nat):Mq:=I6 m x p c (G5 m p c).length
structure ESt where
 m:Mq
 b:Mq
 pv:List Nat
 det:Rat
def f0d (m:Mq)(c p:Nat):Int:=L4 (nzI m c) p (m.length - p)
def swapped (m:Mq)(i p:Nat):Mq:=if i=p then m else L5 m i p
def M5 (m:Mq)(p c:Nat):Rat:=(m.getD p []).getD c 0
def G9 (m:Mq)(p:Nat)(q:Rat):Mq:=m.set p ((m.getD p []).map (· * q))
def stp (m b:Mq)(pv:List Nat)(det:Rat)(i c:Nat):ESt :=
 let p:=pv.length
 let m1:=swapped m i p
 let b1:=swapped b i p
 let m2:=G9 m1 p (1 / M5 m1 p c)
 let b2:=G9 b1 p (1 / M5 m1 p c)
 ⟨n0n m2 m2 p c,n0n m2 b2 p c,pv++[c],(if i=p then det else -det)*M5 m1 p c⟩
def F9 (s:ESt)(c:Nat):ESt :=
 if s.pv.length<s.m.length then
  if f0d s.m c s.pv.length<0 then s
  else stp s.m s.b s.pv s.det (f0d s.m c s.pv.length).toNat c
 else s
def ech (m b:Mq)(c:Nat):ESt:=(List.range c).foldl F9 ⟨m,b,[],1⟩
theorem m9 (m b:Mq)(c:Nat):ech m b (c+1)=F9 (ech m b c) c:=by simp [ech,List.range_succ]
def RC (n c:Nat)(m:Mq):Prop:=m.length=n∧∀ r∈m,r.length=c
theorem k0h {m:Mq}{i:Nat}(hi:i<m.length):m.getD i []∈m:=by simp [f0,hi]
theorem RC.get {n c i:Nat}{m:Mq}(h:RC n c m)(hi:i<n):(m.getD i []).length=c:=h.2 _ (k0h (by rw [h.1]; exact hi))
theorem RC.set {n c i:Nat}{m:Mq}{r:List Rat}(h:RC n c m)(hr:r.length=c):RC n c (m.set i r):=by
 refine ⟨by rw [List.length_set,h.1],fun q hq=>?_⟩
 rcases List.mem_or_eq_of_mem_set hq with hq | rfl
 ·exact h.2 q hq
 ·exact hr
theorem RC.take {n c i p:Nat}{q:Rat}{m:Mq}(h:RC n c m)(hi:i<n)(hp:p<n):RC n c (Z7 m i p q):=h.set (by rw [List.length_zipWith,h.get hi,h.get hp]; omega)
theorem RC.swap {n c i k:Nat}{m:Mq}(h:RC n c m)(hi:i<n)(hk:k<n):RC n c (L5 m i k):=(h.set (h.get hk)).set (h.get hi)
theorem RC.scl {n c p:Nat}{q:Rat}{m:Mq}(h:RC n c m)(hp:p<n):RC n c (G9 m p q):=h.set (by rw [O0,h.get hp])
theorem RC.swapped {n cc i p:Nat}{m:Mq}(h:RC n cc m)(hi:i<n)(hp:p<n):RC n cc (swapped m i p):=by
 unfold Go.Proofs.YtjagfionflbjbaaGreat.NumA.swapped; split; exact h; exact h.swap hi hp
theorem q9 {m:Mq}{p c i:Nat}:i∈G5 m p c↔i<m.length∧i≠p∧(m.getD i []).getD c 0≠0:=by
 simp only [G5,List.mem_filter,List.mem_range,h0f,nzI,j0,decide_eq_true_eq,Bool.not_eq_true',decide_eq_false_iff_not]
theorem f0r {m x:Mq}{p c k:Nat}(h:k<(G5 m p c).length):I6 m x p c (k+1)=Z7 (I6 m x p c k) ((G5 m p c).getD k 0) p ((m.getD ((G5 m p c).getD k 0) []).getD c 0):=by
 rw [I6,I1,show (G5 m p c)[k]?.toList=[(G5 m p c).getD k 0] by simp [f0,h],List.foldl_append]; rfl
theorem e9 {l:List Nat}{k:Nat}(h:k<l.length):l.getD k 0∈l:=by simp [f0,h]
theorem j0b {n cc:Nat}{m x:Mq}{p c:Nat}(hm:m.length=n)(h:RC n cc x)(hp:p<n):∀ k,k≤(G5 m p c).length→RC n cc (I6 m x p c k)
 | 0,_=>by simpa [I6] using h
 | k+1,hk=>by
  rw [f0r (by omega)]
  exact (j0b hm h hp k (by omega)).take (by have:=(q9.1 (e9 (show k<(G5 m p c).length by omega))).1; rw [← hm]; exact this) hp
theorem q1d {m:Mq}{i p j:Nat}{q:Rat}(hi:i<m.length):(Z7 m i p q).getD j []=if j=i then List.zipWith (fun a b=>a - q*b) (m.getD i []) (m.getD p []) else m.getD j []:=by
 rw [Z7,f0,List.getElem?_set]
 by_cases e:i=j
 ·subst e; simp [hi]
 ·rw [if_neg e,if_neg (Ne.symm e),f0]
theorem m0f {m:Mq}{p c:Nat}:(G5 m p c).Nodup:=List.Nodup.sublist List.filter_sublist List.nodup_range
theorem f0c {m x:Mq}{p c j n cc:Nat}(hm:m.length=n)(h:RC n cc x)(hp:p<n):∀ k,k≤(G5 m p c).length→(I6 m x p c k).getD j []=if j∈(G5 m p c).take k then List.zipWith (fun a b=>a - ((m.getD j []).getD c 0)*b) (x.getD j []) (x.getD p []) else x.getD j []
 | 0,_=>by simp [I6]
 | k+1,hk=>by
  have hk':k<(G5 m p c).length:=by omega
  have ih:=fun j'=>f0c (c:=c) (j:=j') hm h hp k (by omega)
  have hpn:p ∉ (G5 m p c).take k:=fun hh=>(q9.1 (List.mem_of_mem_take hh)).2.1 rfl
  have hnd:=m0f (m:=m) (p:=p) (c:=c)
  have hnk:(G5 m p c).getD k 0 ∉ (G5 m p c).take k:=fun hh=>by
   obtain ⟨i,hi,he⟩:=List.getElem_of_mem hh
   simp only [J0] at hi
   rw [List.getElem_take,f0,J1 hk',Option.getD_some] at he
   have:=(List.getElem_inj hnd).1 he
   omega
  rw [f0r hk',q1d (by rw [(j0b hm h hp k (by omega)).1,← hm]; exact (q9.1 (e9 hk')).1),I1,show (G5 m p c)[k]?.toList=[(G5 m p c).getD k 0] by simp [f0,hk']]
  by_cases e:j=(G5 m p c).getD k 0
  ·rw [if_pos e,ih,if_neg hnk,ih p,if_neg hpn,if_pos (by rw [e]; simp),e]
  ·rw [if_neg e,ih]
   simp only [List.mem_append,List.mem_singleton,e,or_false]
theorem g1w {m:Mq}{i j:Nat}(h:m.length≤i):ent m i j=0:=by
 have g:m.getD i []=(m[i]?).getD []:=f0 ..
 rw [ent,g,List.getElem?_eq_none h]; rfl
theorem G1r {u v:List Rat}{q:Rat}{j:Nat}(h:v.length=u.length):(List.zipWith (fun a b=>a - q*b) u v).getD j 0=u.getD j 0 - q*v.getD j 0:=by
 simp only [f0,List.getElem?_zipWith]
 by_cases e:j<u.length
 ·have e2:j<v.length:=by omega
  simp [e,e2]
 ·have e2:¬ j<v.length:=by omega
  simp [e,e2]; grind
theorem Q0z {m x:Mq}{p c n cc:Nat}(hm:m.length=n)(h:RC n cc x)(hp:p<n){k j:Nat}(hk:k<n):ent (n0n m x p c) k j=if k=p then ent x p j else ent x k j - ent m k c*ent x p j:=by
 rw [ent,n0n,f0c hm h hp _ (Nat.le_refl _),I0]
 by_cases e:k=p
 ·rw [if_neg (fun hh=>(q9.1 hh).2.1 e),if_pos e,e]; rfl
 ·rw [if_neg e]
  by_cases e2:(m.getD k []).getD c 0=0
  ·rw [if_neg (fun hh=>(q9.1 hh).2.2 e2)]; simp only [ent,e2]; grind
  ·rw [if_pos (q9.2 ⟨by omega,e,e2⟩),G1r (by rw [h.get hk,h.get hp])]; rfl
theorem g1j {n cc:Nat}{m x:Mq}{p c:Nat}(hm:m.length=n)(h:RC n cc x)(hp:p<n):RC n cc (n0n m x p c):=j0b hm h hp _ (Nat.le_refl _)
theorem d0f {m:Mq}{p k j n cc:Nat}{q:Rat}(h:RC n cc m)(hp:p<n):ent (G9 m p q) k j=if k=p then ent m p j*q else ent m k j:=by
 have g:(G9 m p q).getD k []=((m.set p ((m.getD p []).map (· * q)))[k]?).getD []:=by rw [G9,f0]
 rw [ent,g,List.getElem?_set]
 by_cases e:p=k
 ·subst e
  rw [if_pos rfl,if_pos (by rw [h.1]; exact hp),if_pos rfl,Option.getD_some,ent]
  simp only [f0,List.getElem?_map]
  cases ((m[p]?.getD [])[j]?) <;> simp [Rat.zero_mul]
 ·rw [if_neg e,if_neg (Ne.symm e),← f0]; rfl
theorem Y5 {m:Mq}{i p k j n:Nat}(hm:m.length=n)(hi:i<n)(hp:p<n):ent (swapped m i p) k j=ent m (if k=p then i else if k=i then p else k) j:=by
 unfold swapped
 by_cases e:i=p
 ·subst e
  rw [if_pos rfl]
  by_cases e2:k=i
  ·rw [if_pos e2,e2]
  ·rw [if_neg e2,if_neg e2]
 ·have g:(L5 m i p).getD k []=(((m.set i (m.getD p [])).set p (m.getD i []))[k]?).getD []:=by rw [L5,f0]
  rw [if_neg e,ent,g,List.getElem?_set,List.length_set]
  by_cases ue1:p=k
  ·subst ue1; rw [if_pos rfl,if_pos (by omega),if_pos rfl]; rfl
  ·rw [if_neg ue1,if_neg (Ne.symm ue1),List.getElem?_set]
   by_cases e2:i=k
   ·subst e2; rw [if_pos rfl,if_pos (by omega),if_pos rfl]; rfl
   ·rw [if_neg e2,if_neg (Ne.symm e2),← f0]; rfl
theorem n0q {m:Mq}{c p:Nat}(h:¬ f0d m c p<0)(hp:p<m.length):p≤(f0d m c p).toNat∧(f0d m c p).toNat<m.length∧nzI m c (f0d m c p).toNat=true∧((f0d m c p).toNat:Int)=f0d m c p:=by
 obtain ⟨h1,h2,h3,h4⟩:=f0v h
 exact ⟨h1,by unfold f0d; omega,h3,h4⟩
theorem w1v {n cc d i c:Nat}{m b:Mq}{pv:List Nat}{det:Rat}(h:RC n cc m)(hb:RC n d b)(hp:pv.length<n)(hi:i<n):RC n cc (stp m b pv det i c).m∧RC n d (stp m b pv det i c).b:=by
 have h2:=(h.swapped hi hp).scl (q:=1 / M5 (swapped m i pv.length) pv.length c) hp
 have h3:=(hb.swapped hi hp).scl (q:=1 / M5 (swapped m i pv.length) pv.length c) hp
 exact ⟨g1j h2.1 h2 hp,g1j h2.1 h3 hp⟩
theorem P0v {n cc i c:Nat}{m b:Mq}{pv:List Nat}{det:Rat}(h:RC n cc m)(hp:pv.length<n)(hi:i<n){k j:Nat}(hk:k<n) :
  ent (stp m b pv det i c).m k j=if k=pv.length then ent m i j*(1 / ent m i c) else ent m (if k=i then pv.length else k) j - ent m (if k=i then pv.length else k) c*(ent m i j*(1 / ent m i c)):=by
 have hl:M5 (swapped m i pv.length) pv.length c=ent m i c:=by
  have:=Y5 (k:=pv.length) (j:=c) h.1 hi hp
  rw [if_pos rfl] at this; exact this
 have h1:=h.swapped hi hp
 have h2:=h1.scl (q:=1 / M5 (swapped m i pv.length) pv.length c) hp
 simp only [stp]
 rw [Q0z h2.1 h2 hp hk,d0f h1 hp,d0f h1 hp,if_pos rfl,Y5 h.1 hi hp,if_pos rfl,hl,d0f h1 hp]
 by_cases e:k=pv.length
 ·rw [if_pos e,if_pos e]
 ·rw [if_neg e,if_neg e,if_neg e,if_neg e,Y5 h.1 hi hp,Y5 h.1 hi hp,if_neg e]
theorem q1h {n cc d i c:Nat}{m b:Mq}{pv:List Nat}{det:Rat}(h:RC n cc m)(hb:RC n d b)(hp:pv.length<n)(hi:i<n){k j:Nat}(hk:k<n) :
  ent (stp m b pv det i c).b k j=if k=pv.length then ent b i j*(1 / ent m i c) else ent b (if k=i then pv.length else k) j - ent m (if k=i then pv.length else k) c*(ent b i j*(1 / ent m i c)):=by
 have hl:M5 (swapped m i pv.length) pv.length c=ent m i c:=by
  have:=Y5 (k:=pv.length) (j:=c) h.1 hi hp
  rw [if_pos rfl] at this; exact this
 have h1:=h.swapped hi hp
 have h2:=h1.scl (q:=1 / M5 (swapped m i pv.length) pv.length c) hp
 have g1:=hb.swapped hi hp
 have gg2:=g1.scl (q:=1 / M5 (swapped m i pv.length) pv.length c) hp
 simp only [stp]
 rw [Q0z h2.1 gg2 hp hk,d0f g1 hp,d0f g1 hp,if_pos rfl,Y5 hb.1 hi hp,if_pos rfl,hl,d0f h1 hp]
 by_cases e:k=pv.length
 ·rw [if_pos e,if_pos e]
 ·rw [if_neg e,if_neg e,if_neg e,if_neg e,Y5 hb.1 hi hp,Y5 h.1 hi hp,if_neg e]
def sN:Nat→(Nat→Rat)→Rat
 | 0,_=>0
 | n+1,f=>sN n f+f n
theorem G0c {f g:Nat→Rat}:∀ {n},(∀ k,k<n→f k=g k)→sN n f=sN n g
 | 0,_=>rfl
 | n+1,h=>by simp only [sN]; rw [G0c fun k hk=>h k (by omega),h n (by omega)]
theorem y1n {f g:Nat→Rat}:∀ n,sN n (fun k=>f k+g k)=sN n f+sN n g
 | 0=>by simp [sN]; grind
 | n+1=>by simp only [sN]; rw [y1n n]; grind
theorem Y0y {c:Rat}{f:Nat→Rat}:∀ n,sN n (fun k=>c*f k)=c*sN n f
 | 0=>by simp [sN]
 | n+1=>by simp only [sN]; rw [Y0y n]; grind
def rvl (c:Nat)(m:Mq)(x:Nat→Rat)(i:Nat):Rat:=sN c fun j=>ent m i j*x j
end Go.Proofs.YtjagfionflbjbaaGreat.NumA
namespace Go.Proofs.YtjagfionflbjbaaGreat.NumA
open Go
theorem q1p {c i k p:Nat}{m m':Mq}{a:Rat}{x:Nat→Rat}(h:∀ j,j<c→ent m' i j=ent m k j - a*ent m p j):rvl c m' x i=rvl c m x k - a*rvl c m x p:=by
 have:rvl c m' x i=rvl c m x k+(-a)*rvl c m x p:=by
  rw [rvl,rvl,rvl,← Y0y,← y1n]; exact G0c fun j hj=>by rw [h j hj]; grind
 rw [this]; grind
theorem q1s {c i k:Nat}{m m':Mq}{a:Rat}{x:Nat→Rat}(h:∀ j,j<c→ent m' i j=ent m k j*a):rvl c m' x i=rvl c m x k*a:=by
 have:rvl c m' x i=a*rvl c m x k:=by
  rw [rvl,rvl,← Y0y]; exact G0c fun j hj=>by rw [h j hj]; grind
 rw [this]; grind
def jvl (cc d:Nat)(m b:Mq)(x y:Nat→Rat)(k:Nat):Rat:=rvl cc m x k+rvl d b y k
def JZ (n cc d:Nat)(m b:Mq)(x y:Nat→Rat):Prop:=∀ k,k<n→jvl cc d m b x y k=0
theorem K1n {n cc d i c:Nat}{m b:Mq}{pv:List Nat}{det:Rat}{x y:Nat→Rat}(h:RC n cc m)(hb:RC n d b)(hp:pv.length<n)(hi:i<n)(hl:ent m i c≠0) :
  JZ n cc d (stp m b pv det i c).m (stp m b pv det i c).b x y↔JZ n cc d m b x y:=by
 have hP:jvl cc d (stp m b pv det i c).m (stp m b pv det i c).b x y pv.length=jvl cc d m b x y i*(1 / ent m i c):=by
  have a1:rvl cc (stp m b pv det i c).m x pv.length=rvl cc m x i*(1 / ent m i c):=q1s fun j _=>by rw [P0v h hp hi hp,if_pos rfl]
  have a2:rvl d (stp m b pv det i c).b y pv.length=rvl d b y i*(1 / ent m i c):=q1s fun j _=>by rw [q1h h hb hp hi hp,if_pos rfl]
  rw [jvl,jvl,a1,a2]; grind
 have hK:∀ k,k<n→k≠pv.length→jvl cc d (stp m b pv det i c).m (stp m b pv det i c).b x y k=jvl cc d m b x y (if k=i then pv.length else k) - ent m (if k=i then pv.length else k) c*(1 / ent m i c)*jvl cc d m b x y i:=by
  intro k hk hne
  have a1:rvl cc (stp m b pv det i c).m x k=rvl cc m x (if k=i then pv.length else k) - ent m (if k=i then pv.length else k) c*(1 / ent m i c)*rvl cc m x i:=q1p fun j _=>by rw [P0v h hp hi hk,if_neg hne]; grind
  have a2:rvl d (stp m b pv det i c).b y k=rvl d b y (if k=i then pv.length else k) - ent m (if k=i then pv.length else k) c*(1 / ent m i c)*rvl d b y i:=q1p fun j _=>by rw [q1h h hb hp hi hk,if_neg hne]; grind
  rw [jvl,jvl,jvl,a1,a2]; grind
 have h1:ent m i c*(1 / ent m i c)=1:=by rw [Rat.div_def,Rat.one_mul]; exact Rat.mul_inv_cancel _ hl
 constructor
 ·intro hz
  have hi0:jvl cc d m b x y i=0:=by
   have:=hz _ hp
   rw [hP] at this
   have h2:jvl cc d m b x y i*(1 / ent m i c)*ent m i c=0:=by rw [this]; grind
   grind
  intro k hk
  by_cases e:k=i
  ·rw [e]; exact hi0
  ·by_cases e2:k=pv.length
   ·have:=hz i hi
    by_cases e3:i=pv.length
    ·rw [e2,← e3]; exact hi0
    ·rw [hK i hi e3,if_pos rfl,hi0] at this
     rw [e2]; grind
   ·have:=hz k hk
    rw [hK k hk e2,if_neg e,hi0] at this
    grind
 ·intro hz k hk
  by_cases e:k=pv.length
  ·rw [e,hP,hz i hi]; grind
  ·rw [hK k hk e,hz i hi,hz _ (by split <;> omega)]; grind
structure M1k (n c:Nat) (pv:List Nat) (m:Mq):Prop where
 le:pv.length≤n
 lt:∀ p∈pv,p<c
 asc:pv.Pairwise (· < ·)
 one:∀ i,i<pv.length→∀ k,k<n→ent m k (pv.getD i 0)=if k=i then 1 else 0
 lo:∀ i,i<pv.length→∀ j,j<pv.getD i 0→ent m i j=0
 zr:∀ i,pv.length≤i→i<n→∀ j,j<c→ent m i j=0
theorem W0c {l:List Nat}{a i:Nat}:(l++[a]).getD i 0=if i<l.length then l.getD i 0 else if i=l.length then a else 0:=by
 simp only [f0,List.getElem?_append]
 split
 ·rfl
 ·split
  ·rename_i h; rw [h]; simp
  ·rename_i h1 h2
   rw [List.getElem?_eq_none (by simp; omega)]; rfl
theorem P0r {m b:Mq}{pv:List Nat}{det:Rat}{i c:Nat}:(stp m b pv det i c).pv=pv++[c]:=rfl
theorem v1r {n cc i c:Nat}{m b:Mq}{pv:List Nat}{det:Rat}(h:RC n cc m)(hp:pv.length<n)(hi:i<n)(hpi:pv.length≤i)(hl:ent m i c≠0)(hR:M1k n c pv m):M1k n (c+1) (stp m b pv det i c).pv (stp m b pv det i c).m:=by
 have h1:ent m i c*(1 / ent m i c)=1:=by rw [Rat.div_def,Rat.one_mul]; exact Rat.mul_inv_cancel _ hl
 have hlow:∀ k,k<n→∀ j,j<c→ent (stp m b pv det i c).m k j=if k<pv.length then ent m k j else 0:=by
  intro k hk j hj
  rw [P0v h hp hi hk,hR.zr i hpi hi j hj]
  by_cases e:k=pv.length
  ·rw [if_pos e,if_neg (by omega)]; grind
  ·rw [if_neg e]
   by_cases e2:k<pv.length
   ·rw [if_pos e2,if_neg (show ¬ k=i by omega)]; grind
   ·rw [if_neg e2,hR.zr (if k=i then pv.length else k) (by split <;> omega) (by split <;> omega) j hj]; grind
 have hat:∀ k,k<n→ent (stp m b pv det i c).m k c=if k=pv.length then 1 else 0:=by
  intro k hk
  rw [P0v h hp hi hk]
  by_cases e:k=pv.length
  ·rw [if_pos e,if_pos e,h1]
  ·rw [if_neg e,if_neg e,h1]; grind
 rw [P0r]
 refine ⟨by simp; omega,fun p hm=>?_,?_,fun a ha k hk=>?_,fun a ha j hj=>?_,fun a ha hn j hj=>?_⟩
 ·rcases List.mem_append.1 hm with hm | hm
  ·have:=hR.lt p hm; omega
  ·simp at hm; omega
 ·rw [List.pairwise_append]
  exact ⟨hR.asc,by simp,fun a ha b' hb'=>by simp at hb'; subst hb'; exact hR.lt a ha⟩
 ·simp only [K1,D1,List.length_nil] at ha
  rw [W0c]
  by_cases e:a<pv.length
  ·rw [if_pos e,hlow k hk _ (hR.lt _ (e9 e))]
   by_cases e2:k<pv.length
   ·rw [if_pos e2,hR.one a e k hk]
   ·rw [if_neg e2,if_neg (by omega)]
  ·rw [if_neg e,if_pos (by omega),hat k hk]
   have:a=pv.length:=by omega
   rw [this]
 ·simp only [K1,D1,List.length_nil] at ha
  rw [W0c] at hj
  by_cases e:a<pv.length
  ·rw [if_pos e] at hj
   rw [hlow a (by omega) j (by have:=hR.lt _ (e9 e); omega),if_pos e,hR.lo a e j hj]
  ·rw [if_neg e,if_pos (by omega)] at hj
   rw [hlow a (by omega) j hj,if_neg e]
 ·simp only [K1,D1,List.length_nil] at ha
  by_cases e:j<c
  ·rw [hlow a hn j e,if_neg (by omega)]
  ·have:j=c:=by omega
   rw [this,hat a hn,if_neg (by omega)]
theorem D7 {n cc d:Nat}{m b:Mq}(h:RC n cc m)(hb:RC n d b):∀ c,c≤cc→RC n cc (ech m b c).m∧RC n d (ech m b c).b∧M1k n c (ech m b c).pv (ech m b c).m∧∀ x y,JZ n cc d (ech m b c).m (ech m b c).b x y↔JZ n cc d m b x y
 | 0,_=>⟨h,hb,⟨Nat.zero_le _,by simp [ech],by simp [ech],by simp [ech],by simp [ech],by simp⟩,fun _ _=>Iff.rfl⟩
 | c+1,hc=>by
  obtain ⟨h1,h2,h3,h4⟩:=D7 h hb c (by omega)
  rw [m9]
  obtain ⟨s,hsz⟩:∃ s,s=ech m b c:=⟨_,rfl⟩
  rw [← hsz] at h1 h2 h3 h4 ⊢
  unfold F9
  by_cases e:s.pv.length<s.m.length
  ·rw [if_pos e]
   by_cases e2:f0d s.m c s.pv.length<0
   ·rw [if_pos e2]
    refine ⟨h1,h2,⟨h3.le,fun p hp=>by have:=h3.lt p hp; omega,h3.asc,h3.one,h3.lo,fun i hi hn j hj=>?_⟩,h4⟩
    by_cases e3:j<c
    ·exact h3.zr i hi hn j e3
    ·obtain rfl:j=c:=by omega
     have:=b0s e2 i hi (by rw [h1.1]; omega)
     simpa [nzI,ent] using this
   ·rw [if_neg e2]
    obtain ⟨p1,p2,p3,p4⟩:=n0q e2 e
    have hl:ent s.m (f0d s.m c s.pv.length).toNat c≠0:=by simpa [nzI,ent] using p3
    rw [h1.1] at e p2
    obtain ⟨g1,gg2⟩:=w1v (c:=c) (det:=s.det) h1 h2 e p2
    exact ⟨g1,gg2,v1r h1 e p2 p1 hl h3,fun x y=>(K1n h1 h2 e p2 hl).trans (h4 x y)⟩
  ·rw [if_neg e]
   rw [h1.1] at e
   exact ⟨h1,h2,⟨h3.le,fun p hp=>by have:=h3.lt p hp; omega,h3.asc,h3.one,h3.lo,fun i hi hn j hj=>by omega⟩,h4⟩
end Go.Proofs.YtjagfionflbjbaaGreat.NumA
namespace Go.Proofs.YtjagfionflbjbaaGreat.NumA
open Go
end Go.Proofs.YtjagfionflbjbaaGreat.NumA
namespace Go.Proofs.YtjagfionflbjbaaGreat.NumA
open Go
def G0v (pv:List Nat)(g:Nat→Rat)(x:List Rat)(k:Nat):List Rat:=(List.range k).foldl (fun v i=>v.set (pv.getD i 0) (g i)) x
theorem v0c {pv:List Nat}{g:Nat→Rat}{x:List Rat}{k:Nat}:G0v pv g x (k+1)=(G0v pv g x k).set (pv.getD k 0) (g k):=by simp [G0v,List.range_succ]
@[simp] theorem w0f {pv:List Nat}{g:Nat→Rat}{x:List Rat}:∀ {k:Nat},(G0v pv g x k).length=x.length
 | 0=>rfl
 | k+1=>by rw [v0c,List.length_set,w0f]
def zsQ (n:Nat):List Rat:=List.replicate n 0
@[simp] theorem d1g {n:Nat}:(zsQ n).length=n:=by simp [zsQ]
def d0k (c:Nat)(pv:List Nat)(m:Mq)(f:Nat):List Rat:=G0v pv (fun i=>-(ent m i f)) ((zsQ c).set f 1) pv.length
def R8 (c:Nat)(pv:List Nat):List Nat:=(List.range c).filter fun f=>!pv.contains f
def Y0x (c:Nat)(pv:List Nat)(m:Mq):Mq:=(R8 c pv).map (d0k c pv m)
theorem M1m {l:List Nat}{t:Nat}(h:t∈l):∃ i,i<l.length∧l.getD i 0=t:=by
 obtain ⟨i,hi,e⟩:=List.getElem_of_mem h
 exact ⟨i,hi,by simp [f0,hi,e]⟩
def m5 (b:List Rat):Mq:=(List.range b.length).map fun i=>((zsQ (b.length+1)).set 0 (b.getD i 0)).set (i+1) 1
theorem y1w {b:List Rat}{i:Nat}(h:i<b.length):(m5 b).getD i []=((zsQ (b.length+1)).set 0 (b.getD i 0)).set (i+1) 1:=by simp [m5,f0,h]
theorem G1b {b:List Rat}{n:Nat}(hn:b.length=n):RC n (n+1) (m5 b):=by
 subst hn
 refine ⟨by simp [m5],fun r hr=>?_⟩
 simp only [m5,G0] at hr
 obtain ⟨i,_,rfl⟩:=hr
 simp
def V1c (c:Nat)(pv:List Nat)(g:Nat→Rat):List Rat:=G0v pv g (zsQ c) pv.length
def P4 (n:Nat):Mq:=(List.range n).map fun i=>(zsQ n).set i 1
theorem B1r {n:Nat}:RC n n (P4 n):=by
 refine ⟨by simp [P4],fun r hr=>?_⟩
 simp only [P4,G0] at hr
 obtain ⟨i,_,rfl⟩:=hr
 simp
end Go.Proofs.YtjagfionflbjbaaGreat.NumA
namespace Go.Proofs.YtjagfionflbjbaaGreat.NumA
open Go
def n1b (n:Nat)(m b:Mq):Rat:=if (ech m b n).pv.length<n then 0 else (ech m b n).det
end Go.Proofs.YtjagfionflbjbaaGreat.NumA
namespace Go.Proofs.YtjagfionflbjbaaGreat.NumA
open Go
def CDM (B:Nat)(m b:Mq):Prop:=∃ d:Nat,0<d∧d≤2 ^ B∧(∀ i j,∃ z:Int,ent m i j*(d:Rat)=(z:Rat)∧z.natAbs≤2 ^ B)∧∀ i j,∃ z:Int,ent b i j*(d:Rat)=(z:Rat)∧z.natAbs≤2 ^ B
def hsz (B:Nat)(a:Rat):Prop:=a.num.natAbs≤2 ^ B∧a.den≤2 ^ B
theorem J1d {B d:Nat}{a:Rat}{z:Int}(hd:0<d)(hB:d≤2 ^ B)(h:a*(d:Rat)=(z:Rat))(hz:z.natAbs≤2 ^ B):hsz B a:=by
 have hden:(a.den:Rat)≠0:=by
  have:=a.den_nz
  intro h0
  exact this (by exact_mod_cast h0)
 have ue1:(a.num:Rat)=a*(a.den:Rat):=by
  have:=Rat.num_divInt_den a
  have h2:a=(a.num:Rat) / (a.den:Rat):=by rw [← Rat.intCast_natCast,← Rat.divInt_eq_div,this]
  rw [Rat.div_def] at h2
  have h3:(a.den:Rat)⁻¹*(a.den:Rat)=1:=Rat.inv_mul_cancel _ hden
  grind
 have e2:a.num*(d:Int)=z*(a.den:Int):=by
  have:((a.num*(d:Int):Int):Rat)=((z*(a.den:Int):Int):Rat):=by
   rw [Rat.intCast_mul,Rat.intCast_mul,Rat.intCast_natCast,Rat.intCast_natCast,ue1,← h]; grind
  exact_mod_cast this
 have e3:a.num.natAbs*d=z.natAbs*a.den:=by
  have:=congrArg Int.natAbs e2
  simpa [Int.natAbs_mul] using this
 have hdvd:a.den ∣ d:=by
  have:a.den ∣ a.num.natAbs*d:=⟨z.natAbs,by rw [e3,Nat.mul_comm]⟩
  exact (Nat.Coprime.dvd_of_dvd_mul_left a.reduced.symm this)
 obtain ⟨k,hk⟩:=hdvd
 have hk0:0<k:=by
  rcases Nat.eq_zero_or_pos k with h0 | h0
  ·subst h0; omega
  ·exact h0
 have e4:a.num.natAbs*k=z.natAbs:=by
  rw [hk] at e3
  have hdn:0<a.den:=a.den_pos
  have:a.den*(a.num.natAbs*k)=a.den*z.natAbs:=by
   rw [← Nat.mul_assoc,Nat.mul_comm a.den,Nat.mul_assoc,e3,Nat.mul_comm]
  exact Nat.eq_of_mul_eq_mul_left hdn this
 refine ⟨Nat.le_trans ?_ hz,Nat.le_trans ?_ hB⟩
 ·rw [← e4]; exact Nat.le_mul_of_pos_right _ hk0
 ·rw [hk]; exact Nat.le_mul_of_pos_right _ hk0
theorem CDM.m {B:Nat}{m b:Mq}(h:CDM B m b)(i j:Nat):hsz B (ent m i j):=by
 obtain ⟨d,h1,h2,h3,_⟩:=h
 obtain ⟨z,hz,hb⟩:=h3 i j
 exact J1d h1 h2 hz hb
theorem CDM.b {B:Nat}{m b:Mq}(h:CDM B m b)(i j:Nat):hsz B (ent b i j):=by
 obtain ⟨d,h1,h2,_,h3⟩:=h
 obtain ⟨z,hz,hb⟩:=h3 i j
 exact J1d h1 h2 hz hb
theorem p0c {a b:Nat}(h:a≤b):2 ^ a≤2 ^ b:=Nat.pow_le_pow_right (by decide) h
theorem CDM.mono {B C:Nat}{m b:Mq}(h:CDM B m b)(hBC:B≤C):CDM C m b:=by
 obtain ⟨d,h1,h2,h3,h4⟩:=h
 exact ⟨d,h1,Nat.le_trans h2 (p0c hBC),fun i j=>let ⟨z,a,b⟩:=h3 i j; ⟨z,a,Nat.le_trans b (p0c hBC)⟩,fun i j=>let ⟨z,a,b⟩:=h4 i j; ⟨z,a,Nat.le_trans b (p0c hBC)⟩⟩
theorem y0n {a b B:Nat}(ha:a≤2 ^ B)(hb:b≤2 ^ B):a*b≤2 ^ (2*B):=by
 rw [show 2*B=B+B by omega,Nat.pow_add]; exact Nat.mul_le_mul ha hb
theorem G1d (z:Int):∃ s:Int,s.natAbs=1∧((z.natAbs:Int))=s*z:=by
 by_cases h:z<0
 ·exact ⟨-1,rfl,by omega⟩
 ·exact ⟨1,rfl,by omega⟩
theorem F1q {z:Int}{a d:Rat}(h:a*d=(z:Rat))(ha:a≠0)(hd:d≠0):z≠0:=by
 intro h0
 rw [h0] at h
 rcases Rat.mul_eq_zero.1 (h.trans (by rfl)) with h | h
 ·exact ha h
 ·exact hd h
theorem N1d {n cc d i c B:Nat}{m b:Mq}{pv:List Nat}{det:Rat}(h:RC n cc m)(hb:RC n d b)(hp:pv.length<n)(hi:i<n)(hl:ent m i c≠0)(hC:CDM B m b) :
  CDM (2*B+1) (stp m b pv det i c).m (stp m b pv det i c).b:=by
 obtain ⟨DF,hD0,hDB,hm,hbb⟩:=hC
 obtain ⟨zp,hzp,hzpB⟩:=hm i c
 have hDne:(DF:Rat)≠0:=fun h0=>by
  have:DF=0:=by exact_mod_cast h0
  omega
 have hz0:zp≠0:=F1q hzp hl hDne
 obtain ⟨s,hs1,hs2⟩:=G1d zp
 have hq:ent m i c*(1 / ent m i c)=1:=by rw [Rat.div_def,Rat.one_mul]; exact Rat.mul_inv_cancel _ hl
 obtain ⟨q,hqq⟩:∃ q,q=1 / ent m i c:=⟨_,rfl⟩
 have hcast:((DF*zp.natAbs:Nat):Rat)=(DF:Rat)*((s:Rat)*(zp:Rat)):=by
  rw [Rat.natCast_mul]
  congr 1
  rw [← Rat.intCast_mul,← hs2]; rfl
 have h2:(2:Nat) ^ (2*B+1)=2 ^ (2*B)+2 ^ (2*B):=by rw [Nat.pow_succ]; omega
 have step : ∀ {y : Mq} {dd : Nat}, RC n dd y → (∀ i j, ∃ z : Int, ent y i j * (DF : Rat) = (z : Rat) ∧ z.natAbs ≤ 2 ^ B) → ∀ {y' : Mq}, RC n dd y' → (∀ k j, k < n → ent y' k j = if k = pv.length then ent y i j * q else ent y (if k = i then pv.length else k) j - ent m (if k = i then pv.length else k) c * (ent y i j * q)) →
   ∀ k j,∃ z:Int,ent y' k j*((DF*zp.natAbs:Nat):Rat)=(z:Rat)∧z.natAbs≤2 ^ (2*B+1):=by
  intro y dd hy hyz y' hy' he k j
  by_cases hk:k<n
  ·rw [he k j hk,hcast]
   obtain ⟨zi,ue1,b1⟩:=hyz i j
   rw [← hqq] at hq
   by_cases e:k=pv.length
   ·rw [if_pos e]
    refine ⟨s*zi*DF,?_,?_⟩
    ·rw [Rat.intCast_mul,Rat.intCast_mul,Rat.intCast_natCast,← ue1,← hzp]; grind
    ·rw [Int.natAbs_mul,Int.natAbs_mul,hs1,Nat.one_mul,Int.natAbs_natCast,h2]
     have:=y0n b1 hDB; omega
   ·rw [if_neg e]
    obtain ⟨zk,e2,b2⟩:=hyz (if k=i then pv.length else k) j
    obtain ⟨zc,e3,b3⟩:=hm (if k=i then pv.length else k) c
    refine ⟨s*(zk*zp - zc*zi),?_,?_⟩
    ·rw [Rat.intCast_mul,Rat.intCast_sub,Rat.intCast_mul,Rat.intCast_mul,← ue1,← e2,← e3,← hzp]; grind
    ·rw [Int.natAbs_mul,hs1,Nat.one_mul,h2]
     have h3:=Int.natAbs_sub_le (zk*zp) (zc*zi)
     rw [Int.natAbs_mul,Int.natAbs_mul] at h3
     have:=y0n b2 hzpB
     have:=y0n b3 b1
     omega
  ·rw [g1w (by rw [hy'.1]; omega)]
   exact ⟨0,by rw [Rat.zero_mul]; rfl,Nat.zero_le _⟩
 obtain ⟨g1,gg2⟩:=w1v (c:=c) (det:=det) h hb hp hi
 refine ⟨DF*zp.natAbs,Nat.mul_pos hD0 (by omega),?_,step h hm g1 fun k j hk=>?_,step hb hbb gg2 fun k j hk=>?_⟩
 ·rw [h2]; have:=y0n hDB hzpB; omega
 ·rw [hqq]; exact P0v h hp hi hk
 ·rw [hqq]; exact q1h h hb hp hi hk
def k0y (B k:Nat):Nat:=2 ^ k*(B+1) - 1
theorem k1g {B k:Nat}:k0y B (k+1)=2*k0y B k+1:=by
 unfold k0y
 have:0<2 ^ k*(B+1):=Nat.mul_pos (Nat.two_pow_pos k) (by omega)
 rw [Nat.pow_succ,show 2 ^ k*2*(B+1)=2*(2 ^ k*(B+1)) by rw [Nat.mul_comm (2 ^ k),Nat.mul_assoc]]; omega
theorem H0x {B k l:Nat}(h:k≤l):k0y B k≤k0y B l:=by
 unfold k0y
 have:2 ^ k*(B+1)≤2 ^ l*(B+1):=V0 _ (p0c h)
 omega
theorem w1a {n cc d B:Nat}{m b:Mq}(h:RC n cc m)(hb:RC n d b)(hC:CDM B m b):∀ c,c≤cc→CDM (k0y B (ech m b c).pv.length) (ech m b c).m (ech m b c).b
 | 0,_=>by simpa [ech,k0y] using hC
 | c+1,hc=>by
  obtain ⟨h1,h2,_,_⟩:=D7 h hb c (by omega)
  have ih:=w1a h hb hC c (by omega)
  rw [m9]
  obtain ⟨s,hsz⟩:∃ s,s=ech m b c:=⟨_,rfl⟩
  rw [← hsz] at h1 h2 ih ⊢
  unfold F9
  by_cases e:s.pv.length<s.m.length
  ·rw [if_pos e]
   by_cases e2:f0d s.m c s.pv.length<0
   ·rw [if_pos e2]; exact ih
   ·rw [if_neg e2]
    obtain ⟨p1,p2,p3,p4⟩:=n0q e2 e
    have hl:ent s.m (f0d s.m c s.pv.length).toNat c≠0:=by simpa [nzI,ent] using p3
    rw [h1.1] at e p2
    rw [P0r,K1,D1,List.length_nil,F1,k1g]
    exact N1d h1 h2 e p2 hl ih
  ·rw [if_neg e]; exact ih
theorem G1s {n cc d B N c:Nat}{m b:Mq}(h:RC n cc m)(hb:RC n d b)(hC:CDM B m b)(hc:c≤cc)(hN:n≤N):CDM (k0y B N) (ech m b c).m (ech m b c).b :=
 (w1a h hb hC c hc).mono (H0x (Nat.le_trans (D7 h hb c hc).2.2.1.le hN))
theorem y1r {n cc d:Nat}{m b:Mq}(h:RC n cc m)(hb:RC n d b){c:Nat}(hc:c<cc):(ech m b (c+1)).det=(ech m b c).det∨(ech m b c).pv.length<n∧(ech m b (c+1)).pv.length=(ech m b c).pv.length+1∧∃ i,i<n∧((ech m b (c+1)).det=(ech m b c).det*ent (ech m b c).m i c∨(ech m b (c+1)).det = -(ech m b c).det*ent (ech m b c).m i c):=by
 obtain ⟨h1,h2,_,_⟩:=D7 h hb c (by omega)
 rw [m9]
 obtain ⟨s,hsz⟩:∃ s,s=ech m b c:=⟨_,rfl⟩
 rw [← hsz] at h1 h2 ⊢
 unfold F9
 by_cases e:s.pv.length<s.m.length
 ·rw [if_pos e]
  by_cases e2:f0d s.m c s.pv.length<0
  ·rw [if_pos e2]; exact .inl rfl
  ·rw [if_neg e2]
   obtain ⟨p1,p2,p3,p4⟩:=n0q e2 e
   rw [h1.1] at e p2
   have hld:M5 (swapped s.m (f0d s.m c s.pv.length).toNat s.pv.length) s.pv.length c=ent s.m (f0d s.m c s.pv.length).toNat c:=by
    have:=Y5 (k:=s.pv.length) (j:=c) h1.1 p2 e
    rw [if_pos rfl] at this; exact this
   refine .inr ⟨e,by rw [P0r]; simp,_,p2,?_⟩
   simp only [stp]
   rw [hld]
   split
   ·exact .inl rfl
   ·exact .inr rfl
 ·rw [if_neg e]; exact .inl rfl
theorem cdl {b:Nat}:∀ {l:List Rat},(∀ a∈l,hsz b a)→∃ d:Nat,0<d∧d≤2 ^ (b*l.length)∧∀ a∈l,∃ z:Int,a*(d:Rat)=(z:Rat)∧z.natAbs≤2 ^ (b*l.length)
 | [],_=>⟨1,by decide,by simp,by simp⟩
 | a :: l,h=>by
  obtain ⟨d,h1,h2,h3⟩:=cdl (l:=l) fun x hx=>h x (by simp [hx])
  obtain ⟨g1,gg2⟩:=h a (by simp)
  have e:2 ^ (b*(a :: l).length)=2 ^ (b*l.length)*2 ^ b:=by rw [D1,Nat.mul_add,Nat.mul_one,Nat.pow_add]
  refine ⟨d*a.den,Nat.mul_pos h1 a.den_pos,by rw [e]; exact Nat.mul_le_mul h2 gg2,fun x hx=>?_⟩
  rcases List.mem_cons.1 hx with rfl | hx
  ·refine ⟨x.num*d,?_,by rw [Int.natAbs_mul,Int.natAbs_natCast,e,Nat.mul_comm]; exact Nat.mul_le_mul h2 g1⟩
   have hden:(x.den:Rat)≠0:=fun h0=>x.den_nz (by exact_mod_cast h0)
   have ue1:(x.num:Rat)=x*(x.den:Rat):=by
    have:=Rat.num_divInt_den x
    have h2:x=(x.num:Rat) / (x.den:Rat):=by rw [← Rat.intCast_natCast,← Rat.divInt_eq_div,this]
    rw [Rat.div_def] at h2
    have h3:(x.den:Rat)⁻¹*(x.den:Rat)=1:=Rat.inv_mul_cancel _ hden
    grind
   rw [Rat.natCast_mul,Rat.intCast_mul,Rat.intCast_natCast,ue1]; grind
  ·obtain ⟨z,z1,z2⟩:=h3 x hx
   refine ⟨z*a.den,by rw [Rat.natCast_mul,Rat.intCast_mul,Rat.intCast_natCast,← z1]; grind,by rw [Int.natAbs_mul,Int.natAbs_natCast,e]; exact Nat.mul_le_mul z2 gg2⟩
theorem p0j {m:Mq}{i j:Nat}:ent m i j=0∨∃ r∈m,ent m i j∈r:=by
 by_cases hi:i<m.length
 ·by_cases hj:j<(m.getD i []).length
  ·refine .inr ⟨_,k0h hi,?_⟩
   have:ent m i j=(m.getD i [])[j]:=by
    have e:∀ (r:List Rat) (h:j<r.length),r.getD j 0=r[j]:=fun r h=>by simp [f0,h]
    exact e _ hj
   rw [this]; exact List.getElem_mem _
  ·have e:∀ (r:List Rat),¬ j<r.length→r.getD j 0=0:=fun r h=>by simp [f0,show r.length≤j by omega]
   exact .inl (e _ hj)
 ·exact .inl (g1w (by omega))
theorem B1q {n c:Nat}:∀ {m:Mq},RC n c m→m.flatten.length=n*c:=by
 intro m
 induction m generalizing n with
 | nil=>rintro ⟨rfl,_⟩; simp
 | cons r m ih =>
  rintro ⟨rfl,h⟩
  rw [List.flatten_cons,K1,ih (n:=m.length) ⟨rfl,fun x hx=>h x (by simp [hx])⟩,h r (by simp),D1,Nat.add_mul,Nat.one_mul,Nat.add_comm]
theorem K1c {B:Nat}{m b:Mq}{l:List Rat}(h:∃ d:Nat,0<d∧d≤2 ^ B∧∀ a∈l,∃ z:Int,a*(d:Rat)=(z:Rat)∧z.natAbs≤2 ^ B)(hm:∀ i j,ent m i j=0∨ent m i j=1∨ent m i j∈l)(hb:∀ i j,ent b i j=0∨ent b i j=1∨ent b i j∈l):CDM B m b:=by
 obtain ⟨d,h1,h2,h3⟩:=h
 have key:∀ a:Rat,(a=0∨a=1∨a∈l)→∃ z:Int,a*(d:Rat)=(z:Rat)∧z.natAbs≤2 ^ B:=by
  rintro a (rfl | rfl | h)
  ·exact ⟨0,by rw [Rat.zero_mul]; rfl,Nat.zero_le _⟩
  ·exact ⟨d,by rw [Rat.one_mul,Rat.intCast_natCast],by simpa using h2⟩
  ·exact h3 a h
 exact ⟨d,h1,h2,fun i j=>key _ (hm i j),fun i j=>key _ (hb i j)⟩
end Go.Proofs.YtjagfionflbjbaaGreat.NumA
namespace Go.Proofs.YtjagfionflbjbaaGreat.SH
open Go Go.RowKit
def B0a (P:Program)(F:Fr)(ops:Array Oper)(o:Oper)(S S':St):Prop :=
 ∀ a w,Sat F S a w→∀ (Q:Exit→Act→World→Prop) (K:Act→World→Prop),(∀ a' w',Sat F S' a' w'→K a' w') →
  if Region.wanted o (yielded ops a.tmps) then o.wp P a w K Q∨(∀ n,o.wpIn (fen F) n P a w K Q) else K (a.put o.dst undef) w
inductive g0f (P:Program) (F:Fr) (ops:Array Oper):List Oper→St→(St→Prop)→Prop
 | nil {S:St} {K:St→Prop}:K S→g0f P F ops [] S K
 | cons {o:Oper} {os:List Oper} {S S1:St} {K:St→Prop}:B0a P F ops o S S1→g0f P F ops os S1 K→g0f P F ops (o :: os) S K
theorem p1p {P:Program}{F:Fr}{ops:Array Oper}{Q:Exit→Act→World→Prop}(hnd:∀ o∈ops.toList,∀ c,o.op≠.defer c)(m:Nat){K:St→Prop}(hQ:∀ S' a w,K S'→Sat F S' a w→Q .normal a w):∀ {os:List Oper} {S:St} {n:Nat},g0f P F ops os S K →
  (∀ j,os[j]? = ops[n+j]?)→∀ a w,Sat F S a w→wpOpsIn (fen F) m P ops Q ((List.range os.length).map (n + ·)) a w:=by
 intro os S n h
 induction h generalizing n with
 | nil hK=>intro _ a w hS; exact hQ _ a w hK hS
 | @cons o os S S1 K hop _ ih =>
  intro hj a w hS
  have h0:ops[n]? = some o:=by have:=hj 0; simpa using this.symm
  rw [D1,List.range_succ_eq_map,R0,List.map_map,Nat.add_zero,wpOpsIn_cons]
  refine M0j h0 (hnd o (M1 (by rw [Array.getElem?_toList]; exact h0))) (hop a w hS Q _ fun a' w' h'=>?_)
  have:=ih hQ (n:=n+1) (fun j=>by have:=hj (j+1); simp only [List.getElem?_cons_succ] at this; rw [this]; congr 1; omega) a' w' h'
  have e:(fun x=>n+1+x)=((fun x=>n+x) ∘ Nat.succ):=by funext x; simp; omega
  rwa [e] at this
section
variable {P:Program} {F:Fr} {Q:Exit→St→Prop} {S:St}
theorem B0w {id:Nat}{l:List Oper}{K:St→Prop}(h:g0f P F l.toArray l S K)(hQ:∀ S',K S'→Q .normal S')(hnd:d0h l=true:=by rfl):l4 P F (.region id l.toArray false) S Q:=⟨fun m a w hS=>by
 refine wpIn_region ?_
 have:=p1p (by simpa using k0f hnd) m (Q:=fun e a' w'=>(∃ S',Q e S'∧Sat F S' a' w')∨(e = .ret∧F.esc a' w')) (fun S' a w hK hS=>.inl ⟨S',hQ S' hK,hS⟩) h (n:=0) (fun j=>by simp) a w hS
 simpa using this⟩
theorem k0w {id:Nat}{l:List Oper}{y:Code}(h:g0f P F l.toArray l S fun S1=>∃ sl hb,e7 S1 sl∧T5 S1 hb∧l4 P F y ⟨sl,hb⟩ Q)(hnd:d0h l=true:=by rfl):l4 P F (.seq (.region id l.toArray false) y) S Q :=
 R1 (B0w h (fun _ ⟨_,_,h1,h2,hn⟩=>hn.weak (E3 h1 h2)) hnd)
theorem D0b {id:Nat}{l:List Oper}(h:g0f P F l.toArray l S fun S1=>Q .normal S1)(hnd:d0h l=true:=by rfl):l4 P F (.region id l.toArray false) S Q:=B0w h (fun _ h=>h) hnd
end
section
variable {P:Program} {F:Fr} {ops:Array Oper} {sl:List (Nat×PV)} {hb:List (Nat×Blk)} {op:Op} {T:TypeId} {pos:String} {aft:Array Edge} {os:List Oper} {dst:Option Nat} {rs:List (Operand×PV)} {rb:List (Nat×Blk)} {fr:Option Nat} {K:St→Prop}
theorem nsw {d:Nat}{v:PV}(hc:O2 P F ⟨dst,op,T,pos,aft,none⟩ ⟨rs,rb,none,[(d,v)],[]⟩)(h1:v8 ⟨sl,hb⟩ rs)(h2:J6 ⟨sl,hb⟩ rb)(hn:g0f P F ops os ⟨(d,v) :: sl,hb⟩ K):g0f P F ops (⟨dst,op,T,pos,aft,none⟩ :: os) ⟨sl,hb⟩ K :=
 .cons (fun a w hS Q K' hK=>C7 rfl hc _ a w hS (H7 h1 h2 trivial) Q K' hK) hn
theorem nsb {k:Nat}{B:Blk}(hc:O2 P F ⟨dst,op,T,pos,aft,none⟩ ⟨rs,rb,none,[],[(k,B)]⟩)(h1:v8 ⟨sl,hb⟩ rs)(h2:J6 ⟨sl,hb⟩ rb)(hn:g0f P F ops os ⟨sl,(k,B) :: hb⟩ K):g0f P F ops (⟨dst,op,T,pos,aft,none⟩ :: os) ⟨sl,hb⟩ K :=
 .cons (fun a w hS Q K' hK=>C7 rfl hc _ a w hS (H7 h1 h2 trivial) Q K' hK) hn
theorem D1r {d k:Nat}{v:PV}{B:Blk}(hc:O2 P F ⟨dst,op,T,pos,aft,none⟩ ⟨rs,rb,fr,[(d,v)],[(k,B)]⟩)(h1:v8 ⟨sl,hb⟩ rs)(h2:J6 ⟨sl,hb⟩ rb)(h3:g0n ⟨sl,hb⟩ fr)(hn:g0f P F ops os ⟨(d,v) :: sl,(k,B) :: hb⟩ K):g0f P F ops (⟨dst,op,T,pos,aft,none⟩ :: os) ⟨sl,hb⟩ K :=
 .cons (fun a w hS Q K' hK=>C7 rfl hc _ a w hS (H7 h1 h2 h3) Q K' hK) hn
end
mutual
def PV.only (ks:List Nat):PV→Bool
 | .p _=>true
 | .at_ j _ _=>ks.contains j
 | .im _ _=>true
 | .ref j _ _ _=>ks.contains j
 | .agg xs=>PV.onlyL ks xs
 | .tup xs=>PV.onlyL ks xs
 | .clo _ f c=>PV.onlyL ks f && PV.onlyL ks c
 | .ifc _ x=>x.only ks
 | .dead=>true
def PV.onlyL (ks:List Nat):List PV→Bool
 | []=>true
 | x :: xs=>x.only ks && PV.onlyL ks xs
end
mutual
theorem PV.only_free {ks:List Nat}{k:Nat}(hk:ks.contains k=false):∀ x:PV,x.only ks=true→x.free k=true
 | .p _,_=>rfl
 | .at_ j _ _,h=>by
  simp only [PV.only] at h; simp only [PV.free]
  have:j≠k:=fun e=>by rw [e,hk] at h; cases h
  simpa using this
 | .im _ _,_=>rfl
 | .ref j _ _ _,h=>by
  simp only [PV.only] at h; simp only [PV.free]
  have:j≠k:=fun e=>by rw [e,hk] at h; cases h
  simpa using this
 | .agg xs,h=>by simp only [PV.only] at h; simp only [PV.free]; exact PV.onlyL_free hk xs h
 | .tup xs,h=>by simp only [PV.only] at h; simp only [PV.free]; exact PV.onlyL_free hk xs h
 | .clo _ f c,h=>by
  simp only [PV.only,j0] at h; simp only [PV.free,j0]
  exact ⟨PV.onlyL_free hk f h.1,PV.onlyL_free hk c h.2⟩
 | .ifc _ x,h=>by simp only [PV.only] at h; simp only [PV.free]; exact PV.only_free hk x h
 | .dead,_=>rfl
theorem PV.onlyL_free {ks:List Nat}{k:Nat}(hk:ks.contains k=false):∀ xs:List PV,PV.onlyL ks xs=true→PV.freeL k xs=true
 | [],_=>rfl
 | x :: xs,h=>by
  simp only [PV.onlyL,j0] at h; simp only [PV.freeL,j0]
  exact ⟨PV.only_free hk x h.1,PV.onlyL_free hk xs h.2⟩
end
theorem PV.only_mem {ks:List Nat}{k:Nat}{x:PV}(h:x.only ks=true)(hk:x.free k=false):k∈ks:=by
 cases e:ks.contains k with
 | true=>simpa using e
 | false=>rw [PV.only_free e x h] at hk; cases hk
def Cells.only (ks:List Nat):Cells→Bool
 | .pure _=>true
 | .mix vs=>PV.onlyL ks vs
theorem Cells.only_get {ks:List Nat}{c:Cells}{i:Nat}{x:PV}(h:c.only ks=true)(hx:c.get i=some x):x.only ks=true:=by
 cases c with
 | pure xs =>
  simp only [Cells.get,M0] at hx
  obtain ⟨y,_,rfl⟩:=hx; rfl
 | mix vs =>
  simp only [Cells.only] at h
  have:∀ (l:List PV) (i:Nat),PV.onlyL ks l=true→l[i]? = some x→x.only ks=true:=by
   intro l
   induction l with
   | nil=>intro i _ h; simp at h
   | cons y l ih =>
    intro i hl hi
    simp only [PV.onlyL,j0] at hl
    cases i with
    | zero =>
      obtain rfl : y = x := by simpa using hi
      exact hl.1
    | succ i=>exact ih i hl.2 (by simpa using hi)
  exact this vs i h hx
def Cells.ren (κ:Nat→Nat):Cells→Cells
 | .pure xs=>.pure xs
 | .mix vs=>.mix (vs.map (PV.ren κ))
def Blk.ren (κ:Nat→Nat)(B:Blk):Blk:=⟨B.T,B.sz,B.cs.ren κ⟩
theorem Cells.ren_len (κ:Nat→Nat)(c:Cells):(c.ren κ).len=c.len:=by cases c <;> simp [Cells.ren,Cells.len]
theorem Cells.ren_get (κ:Nat→Nat)(c:Cells)(i:Nat):(c.ren κ).get i=(c.get i).map (PV.ren κ):=by
 cases c with
 | pure xs=>simp only [Cells.ren,Cells.get,Option.map_map]; congr 1
 | mix vs=>simp [Cells.ren,Cells.get]
end Go.Proofs.YtjagfionflbjbaaGreat.SH
namespace Go.Proofs.YtjagfionflbjbaaGreat.SH
open Go Go.RowKit
mutual
theorem P0j {β β0:Nat→Option Blk}{ρ:Nat→Nat}{ok:Nat→Prop}{Hp:Nat→Option Obj}{κ:Nat→Nat}(hH:∀ j B,β0 j=some B→∃ B',β (κ j)=some B'∧B'.sz=B.sz∧B'.cs.len=B.cs.len):∀ (x:PV) (v:Value),K2 β ρ ok Hp (x.ren κ) v→K2 β0 (fun j=>ρ (κ j)) ok Hp x v
 | .p x,v,h=>by simpa only [PV.ren,K2] using h
 | .at_ k o t,v,h=>by
  simp only [PV.ren,K2] at h ⊢
  intro B hB
  obtain ⟨B',h1,h2,h3⟩:=hH k B hB
  rw [← h3]; exact h B' h1
 | .im xs o,v,h=>by simpa only [PV.ren,K2] using h
 | .ref k o n t,v,h=>by
  simp only [PV.ren,K2] at h ⊢
  refine ⟨h.1,fun B hB=>?_⟩
  obtain ⟨B',h1,h2,h3⟩:=hH k B hB
  rw [← h3,← h2]; exact h.2 B' h1
 | .agg xs,v,h=>by
  simp only [PV.ren,K2] at h ⊢
  obtain ⟨cs,h1,h2,h3⟩:=h
  exact ⟨cs,h1,k0a hH xs cs h2,h3⟩
 | .tup xs,v,h=>by
  simp only [PV.ren,K2] at h ⊢
  obtain ⟨cs,h1,h2⟩:=h
  exact ⟨cs,h1,k0a hH xs cs h2⟩
 | .clo f a b,v,h=>by
  simp only [PV.ren,K2] at h ⊢
  obtain ⟨fs,cs,h1,h2,h3⟩:=h
  exact ⟨fs,cs,h1,k0a hH a fs h2,k0a hH b cs h3⟩
 | .ifc t x,v,h=>by
  simp only [PV.ren,K2] at h ⊢
  obtain ⟨y,h1,h2⟩:=h
  exact ⟨y,h1,P0j hH x y h2⟩
 | .dead,_,_=>by simp [K2]
theorem k0a {β β0:Nat→Option Blk}{ρ:Nat→Nat}{ok:Nat→Prop}{Hp:Nat→Option Obj}{κ:Nat→Nat}(hH:∀ j B,β0 j=some B→∃ B',β (κ j)=some B'∧B'.sz=B.sz∧B'.cs.len=B.cs.len):∀ (xs:List PV) (vs:List Value),D3 β ρ ok Hp (PV.renL κ xs) vs→D3 β0 (fun j=>ρ (κ j)) ok Hp xs vs
 | [],v,h=>by simpa only [PV.renL,D3] using h
 | x :: xs,vs,h=>by
  simp only [PV.renL,D3] at h ⊢
  obtain ⟨v,r,h1,h2,h3⟩:=h
  exact ⟨v,r,h1,P0j hH x v h2,k0a hH xs r h3⟩
end
mutual
theorem D0c {β β0:Nat→Option Blk}{ρ ρ0:Nat→Nat}{ok:Nat→Prop}{Hp:Nat→Option Obj}{κ:Nat→Nat}{K:Nat→Prop}(hH:∀ j,K j→∀ B',β (κ j)=some B'→∃ B,β0 j=some B∧B'.sz=B.sz∧B'.cs.len=B.cs.len∧ρ (κ j)=ρ0 j):∀ (x:PV) (v:Value),(∀ k,x.free k=false→K k)→K2 β0 ρ0 ok Hp x v→K2 β ρ ok Hp (x.ren κ) v
 | .p x,v,_,h=>by simpa only [PV.ren,K2] using h
 | .at_ k o t,v,hf,h=>by
  simp only [PV.ren,K2] at h ⊢
  intro B' hB'
  obtain ⟨B,h1,h2,h3,h4⟩:=hH k (hf k (by simp [PV.free])) B' hB'
  rw [h3,h4]; exact h B h1
 | .im xs o,v,_,h=>by simpa only [PV.ren,K2] using h
 | .ref k o n t,v,hf,h=>by
  simp only [PV.ren,K2] at h ⊢
  refine ⟨h.1,fun B' hB'=>?_⟩
  obtain ⟨B,h1,h2,h3,h4⟩:=hH k (hf k (by simp [PV.free])) B' hB'
  rw [h3,h4,h2]; exact h.2 B h1
 | .agg xs,v,hf,h=>by
  simp only [PV.ren,K2] at h ⊢
  obtain ⟨cs,h1,h2,h3⟩:=h
  exact ⟨cs,h1,n0y hH xs cs (fun k hk=>hf k (by simpa [PV.free] using hk)) h2,h3⟩
 | .tup xs,v,hf,h=>by
  simp only [PV.ren,K2] at h ⊢
  obtain ⟨cs,h1,h2⟩:=h
  exact ⟨cs,h1,n0y hH xs cs (fun k hk=>hf k (by simpa [PV.free] using hk)) h2⟩
 | .clo f a b,v,hf,h=>by
  simp only [PV.ren,K2] at h ⊢
  obtain ⟨fs,cs,h1,h2,h3⟩:=h
  exact ⟨fs,cs,h1,n0y hH a fs (fun k hk=>hf k (by simp [PV.free,hk])) h2,n0y hH b cs (fun k hk=>hf k (by simp [PV.free,hk])) h3⟩
 | .ifc t x,v,hf,h=>by
  simp only [PV.ren,K2] at h ⊢
  obtain ⟨y,h1,h2⟩:=h
  exact ⟨y,h1,D0c hH x y (fun k hk=>hf k (by simpa [PV.free] using hk)) h2⟩
 | .dead,_,_,_=>by simp [PV.ren,K2]
theorem n0y {β β0:Nat→Option Blk}{ρ ρ0:Nat→Nat}{ok:Nat→Prop}{Hp:Nat→Option Obj}{κ:Nat→Nat}{K:Nat→Prop}(hH:∀ j,K j→∀ B',β (κ j)=some B'→∃ B,β0 j=some B∧B'.sz=B.sz∧B'.cs.len=B.cs.len∧ρ (κ j)=ρ0 j):∀ (xs:List PV) (vs:List Value),(∀ k,PV.freeL k xs=false→K k)→D3 β0 ρ0 ok Hp xs vs→D3 β ρ ok Hp (PV.renL κ xs) vs
 | [],v,_,h=>by simpa only [PV.renL,D3] using h
 | x :: xs,vs,hf,h=>by
  simp only [PV.renL,D3] at h ⊢
  obtain ⟨v,r,h1,h2,h3⟩:=h
  exact ⟨v,r,h1,D0c hH x v (fun k hk=>hf k (by simp [PV.freeL,hk])) h2,n0y hH xs r (fun k hk=>hf k (by simp [PV.freeL,hk])) h3⟩
end
def okG (ok:Nat→Prop)(w:World)(H':List (Nat×Blk))(ρ':Nat→Nat)(b:Nat):Prop:=(ok b∨w.heap.size≤b)∧∀ j,H'.lookup j≠none→b≠ρ' j
structure Q1z (E:Env) (st:Nat→Bool) (ok:Nat→Prop) (ρ:Nat→Nat) (w:World) (H H':List (Nat×Blk)) (r:PV) (v:Value) (ρ':Nat→Nat) (w':World):Prop where
 res:K2 (lk H') ρ' (okG ok w H' ρ') (hp w') r v
 blk:∀ j B',H'.lookup j=some B'→j0h (lk H') ρ' (okG ok w H' ρ') (hp w') j B'
 inj:∀ j j',H'.lookup j≠none→H'.lookup j'≠none→ρ' j=ρ' j'→j=j'
 old:∀ j,H'.lookup j≠none→H.lookup j≠none→(∃ i,H.lookup i≠none∧ρ' j=ρ i)∨w.heap.size≤ρ' j
 new:∀ j,H'.lookup j≠none→H.lookup j=none→w.heap.size≤ρ' j
 stay:∀ j,H'.lookup j≠none→H.lookup j≠none→st j=true→ρ' j=ρ j∧∀ c T,hp w (ρ j)=some (.cells c T (0,0))→∃ c' T',hp w' (ρ j)=some (.cells c' T' (0,0))∧c'.size=c.size
 os:w'.os=w.os
 tape:w'.tape=w.tape
 output:w'.output=w.output
 size:w.heap.size≤w'.heap.size
 frame:∀ b,b<w.heap.size→(∀ j,H.lookup j≠none→b≠ρ j)→w'.heap[b]? = w.heap[b]?
def I4 (E:Env)(st:Nat→Bool)(f:FuncId)(args:List PV)(H H':List (Nat×Blk))(r:PV):Prop :=
 ∀ (ok:Nat→Prop) (ρ:Nat→Nat) (w:World) (vals:List Value),E.G w →
  (∀ j B,H.lookup j=some B→j0h (lk H) ρ ok (hp w) j B∧E.ng≤ρ j∧¬ ok (ρ j)) →
  (∀ j j',H.lookup j≠none→H.lookup j'≠none→ρ j=ρ j'→j=j')→D3 (lk H) ρ ok (hp w) args vals →
  Calls E.P f vals.toArray w fun e w'=>∃ v ρ',e = .returned v∧Q1z E st ok ρ w H H' r v ρ' w'
theorem J3 {l:List (Nat×Blk)}{j:Nat}(h:l.lookup j≠none):∃ B,l.lookup j=some B:=j1.1 h
structure GFr (E:Env) (st:Nat→Bool) (H:List (Nat×Blk)) (n:Nat) (F:Fr):Prop where
 g:E.G F.w0
 x:∀ b,F.X b→E.ng≤b
 nt:F.nt=n
 df:F.df=[]
 p0:∀ k,H.lookup k=none→F.pin k=none
 ps:∀ k,st k=false→F.pin k=none
 lo:∀ k,F.lo k=(H.lookup k).isNone
 ro:F.ro=none
theorem J0q {E:Env}{st:Nat→Bool}{f:FuncId}{fn:Func}{c:Code}{args:List PV}{H H':List (Nat×Blk)}{r:PV}{n:Nat}{Q:Exit→St→Prop}(hf:E.P.funcs[f]? = some fn)(hb:fn.body=some c)(hn:fn.ntmps=n)(hle:args.length≤n)
  (hQ:∀ e S,Q e S→(e = .normal∨e = .ret)∧T5 S H'∧∀ F ρ tmps w',b5 F ρ S ⟨tmps,[]⟩ w'→∃ v,(results fn tmps).run E.P w' = .ok v w'∧K2 S.blk ρ (okI F S.blk ρ) (hp w') r v)
  (h:∀ F:Fr,GFr E st H n F→l4 E.P F c ⟨i3 0 args,H⟩ Q):I4 E st f args H H' r:=by
 intro ok ρ w vals hG hH hinj hrel
 have hvl:=F5 hrel
 let F:Fr:=⟨w,ok,fun b=>∃ j,H.lookup j≠none∧b=ρ j,n,[],fun j=>if H.lookup j≠none∧st j=true then match hp w (ρ j) with | some (.cells c _ _)=>some (ρ j,c.size) | _=>none else none,none,fun _ _=>False,fun k=>(H.lookup k).isNone⟩
 have hpin:∀ j B c,st j=true→H.lookup j=some B→hp w (ρ j)=some (.cells c B.T (0,0))→F.pin j=some (ρ j,c.size):=fun j B c hf hj hc=>by
  simp only [F]
  rw [if_pos ⟨by simp [hj],hf⟩,hc]
 have hcarry:Carry ok (okI F (lk H) ρ) (hp w) (hp w):=fun b hb _=>⟨⟨.inl hb,fun k hk e=>by obtain ⟨B,hB⟩:=J3 hk; exact (hH k B hB).2.2 (e ▸ hb)⟩,rfl⟩
 have hkeep:b0q (fun _=>True) (lk H) (lk H) ρ ρ (hp w) (hp w):=fun k _ B hB=>⟨B,hB,rfl,Nat.le_refl _,fun _=>⟨rfl,fun c T fr hc=>⟨c,T,fr,hc,rfl⟩⟩⟩
 have hS:b5 F ρ ⟨i3 0 args,H⟩ { tmps:=vals.toArray++Array.replicate (fn.ntmps - vals.toArray.size) undef,defers:=[] } w:=by
  refine ⟨fun t v ht=>?_,fun k B hB=>?_,hinj,⟨rfl,rfl,rfl,Nat.le_refl _,fun _ _ _=>rfl⟩,?_,g0z.nil rfl,fun j b m hj hS=>?_⟩
  ·obtain ⟨j,rfl,hx⟩:=e8 ht
   obtain ⟨u,hu,hru⟩:=L6 hrel hx
   refine ⟨u,?_,K2.mono hcarry hkeep v u (fun _ _=>trivial) hru⟩
   rw [F1,Array.getElem?_append_left (by have:=(i1.1 hu).1; simpa using this)]
   simpa using hu
  ·obtain ⟨⟨c,h1,h2,h3⟩,h4,h5⟩:=hH k B hB
   have hB':H.lookup k=some B:=hB
   refine ⟨c,h1,.inl ⟨⟨k,by simp [hB'],rfl⟩,by simp [F,hB']⟩,h2,fun i x hx=>?_⟩
   obtain ⟨u,hu,ho,hru⟩:=h3 i x hx
   exact ⟨u,hu,ho,K2.mono hcarry hkeep x u (fun _ _=>trivial) hru⟩
  ·simp [F,hn]; omega
  ·obtain ⟨B,hB⟩:=J3 (l:=H) (j:=j) hS
   obtain ⟨⟨c,h1,_⟩,_⟩:=hH j B hB
   have hjf:st j=true:=by
    by_cases hjf:st j=true
    ·exact hjf
    ·simp only [F] at hj; rw [if_neg (fun h=>hjf h.2)] at hj; cases hj
   rw [hpin j B c hjf hB h1] at hj
   injection hj with hj
   injection hj with hj1 hj2
   subst hj1 hj2
   exact ⟨rfl,c,B.T,h1,rfl⟩
 refine Y8 hf hb rfl rfl (fun _ _ h=>h) ⟨ρ,hS⟩ (h F ⟨hG,fun b ⟨j,hj,e⟩=>by obtain ⟨B,hB⟩:=J3 hj; subst e; exact (hH j B hB).2.1,rfl,rfl,fun k hk2=>by simp only [F]; rw [if_neg (fun h=>h.1 hk2)],fun k hk2=>by simp only [F]; rw [if_neg (fun h=>by rw [h.2] at hk2; cases hk2)],fun _=>rfl,rfl⟩) fun e S' hq=>⟨(hQ e S' hq).1,fun ρ' tmps w' hS'=>?_⟩
 obtain ⟨-,hHB,hres⟩:=hQ e S' hq
 obtain ⟨v,hv,hrv⟩:=hres F ρ' tmps w' hS'
 have hsb:∀ j B',H'.lookup j=some B'→S'.blk j=some B':=fun j B' hj=>hHB.all j B' hj
 have hcar:Carry (okI F S'.blk ρ') (okG ok w H' ρ') (hp w') (hp w'):=fun b hb _=>⟨⟨hb.1,fun j hj e=>by
  obtain ⟨B',hB'⟩:=J3 hj
  exact hb.2 j (by simp [hsb j B' hB']) e⟩,rfl⟩
 have hkp:∀ K:Nat→Prop,b0q K S'.blk (lk H') ρ' ρ' (hp w') (hp w'):=fun K k _ B hB=>⟨B,hsb k B hB,rfl,Nat.le_refl _,fun _=>⟨rfl,fun c T fr hc=>⟨c,T,fr,hc,rfl⟩⟩⟩
 refine ⟨v,hv,v,ρ',rfl,K2.mono (K:=fun _=>True) hcar (hkp _) r v (fun _ _=>trivial) hrv,fun j B' hj=>?_,fun j j' h1 h2 e=>?_,fun j h1 h2=>?_,fun j h1 h2=>?_,fun j h1 h2 h3=>?_,hS'.frame.os,hS'.frame.tape,hS'.frame.output,hS'.frame.size,fun b hb hx=>hS'.frame.block b hb (fun ⟨j,hj,e⟩=>hx j hj e)⟩
 ·obtain ⟨c',f1,_,f3,f4⟩:=hS'.blks j B' (hsb j B' hj)
  refine ⟨c',f1,f3,fun i x hx=>?_⟩
  obtain ⟨u,hu,ho,hru⟩:=f4 i x hx
  exact ⟨u,hu,ho,K2.mono (K:=fun _=>True) hcar (hkp _) x u (fun _ _=>trivial) hru⟩
 ·obtain ⟨B,hB⟩:=J3 h1
  obtain ⟨B',hB'⟩:=J3 h2
  exact hS'.inj j j' (by simp [hsb j B hB]) (by simp [hsb j' B' hB']) e
 ·obtain ⟨B,hB⟩:=J3 h1
  obtain ⟨_,_,f2,_⟩:=hS'.blks j B (hsb j B hB)
  rcases f2 with ⟨⟨i,hi,e⟩,_⟩ | f2
  ·exact .inl ⟨i,hi,e⟩
  ·exact .inr f2
 ·obtain ⟨B,hB⟩:=J3 h1
  obtain ⟨_,_,f2,_⟩:=hS'.blks j B (hsb j B hB)
  rcases f2 with ⟨_,f2⟩ | f2
  ·simp only [F,h2] at f2; cases f2
  ·exact f2
 ·obtain ⟨B',hB'⟩:=J3 h1
  obtain ⟨B,hB⟩:=J3 h2
  obtain ⟨⟨c,g1,_⟩,_⟩:=hH j B hB
  obtain ⟨e1,c',T',e2,e3⟩:=hS'.pin j _ _ (hpin j B c h3 hB g1) (by simp [hsb j B' hB'])
  refine ⟨e1,fun c2 T2 hc2=>⟨c',T',e2,?_⟩⟩
  rw [g1] at hc2
  injection hc2 with hc2
  injection hc2 with hc2
  rw [e3,hc2]
theorem q0h {E:Env}{st:Nat→Bool}{f:FuncId}{fn:Func}{c:Code}{args:List PV}{H H':List (Nat×Blk)}{r:PV}{t0 n:Nat}(hf:E.P.funcs[f]? = some fn)(hb:fn.body=some c)(hn:fn.ntmps=n)(hr:fn.results = #[.tmp t0])(hle:args.length≤n)
  (h:∀ F:Fr,GFr E st H n F→l4 E.P F c ⟨i3 0 args,H⟩ (fun e S=>(e = .normal∨e = .ret)∧S.slot t0=some r∧T5 S H')):I4 E st f args H H' r :=
 J0q hf hb hn hle (fun e S hq=>⟨hq.1,hq.2.2,fun F ρ tmps w' hS'=>by
  obtain ⟨v,hu,hrv⟩:=hS'.slots t0 r hq.2.1
  refine ⟨v,?_,hrv⟩
  have e:results fn tmps=(do let vs ← [ResultVar.tmp t0].toArray.mapM (d8 tmps); pure (if h:vs.size=1 then vs[0] else .tuple vs)):=by
   unfold results
   rw [hr]
   rfl
  have hm:([ResultVar.tmp t0].toArray.mapM (d8 tmps)).run E.P w' = .ok #[v] w':=by
   rw [List.mapM_toArray]
   simp [List.mapM_cons,d8,Array.getD_eq_getD_getElem?,hu]
  rw [e]
  simp only [Sem.run_bind,hm,Result.andThen_ok,Sem.run_pure]
  rfl⟩) h
theorem n4 {E:Env}{st:Nat→Bool}{f:FuncId}{fn:Func}{c:Code}{args:List PV}{H H':List (Nat×Blk)}{xs:List J2}{rs:List ResultVar}{n:Nat}(hf:E.P.funcs[f]? = some fn)(hb:fn.body=some c)(hn:fn.ntmps=n)(hr:fn.results=rs.toArray)(hle:args.length≤n)
  (h:∀ F:Fr,GFr E st H n F→l4 E.P F c ⟨i3 0 args,H⟩ (fun e S=>(e = .normal∨e = .ret)∧U4 E.P S rs xs∧T5 S H')):I4 E st f args H H' (.p (w0k xs)) :=
 J0q hf hb hn hle (fun e S hq=>⟨hq.1,hq.2.2,fun F ρ tmps w' hS'=>by
  obtain ⟨v,hv,hrv⟩:=h0r hS' hr hq.2.1
  exact ⟨v,hv,by simpa only [K2] using hrv⟩⟩) h
def D0r (st:Nat→Bool)(S S':St)(κ:Nat→Nat)(H H':List (Nat×Blk))(k:Nat):Prop :=
 S'.blk k=none∨(S'.blk k=S.blk k∧∀ j,(H.lookup j≠none∨H'.lookup j≠none)→κ j≠k)∨∃ j B0 B1,κ j=k∧st j=true∧H.lookup j=some B0∧H'.lookup j=some B1∧B1.sz=B0.sz∧B1.cs.len=B0.cs.len
structure w1y (st:Nat→Bool) (F:Fr) (S S':St) (κ:Nat→Nat) (H H':List (Nat×Blk)) (r:PV) (d:Nat):Prop where
 h1:∀ j B,H.lookup j=some B→S.blk (κ j)=some (B.ren κ)
 inj:∀ j j',(H.lookup j≠none∨H'.lookup j≠none)→(H.lookup j'≠none∨H'.lookup j'≠none)→κ j=κ j'→j=j'
 lo:∀ i j,H.lookup i≠none→H.lookup j≠none→H'.lookup j≠none→st j=false→F.lo (κ i)=false→F.lo (κ j)=false
 blk:∀ k B',S'.blk k=some B'→(∃ j B,κ j=k∧H'.lookup j=some B∧B'=B.ren κ)∨(S.blk k=some B'∧(∀ j,(H.lookup j≠none∨H'.lookup j≠none)→κ j≠k)∧∀ i x,B'.cs.get i=some x→∀ q,x.free q=false→D0r st S S' κ H H' q)
 slot:∀ t v,S'.slot t=some v→(t=d∧v=r.ren κ)∨(t≠d∧S.slot t=some v∧∀ q,v.free q=false→D0r st S S' κ H H' q)
 res:∀ q,r.free q=false→H'.lookup q≠none
 cont:∀ j B,H'.lookup j=some B→∀ i x,B.cs.get i=some x→∀ q,x.free q=false→H'.lookup q≠none
 pin:∀ j,H'.lookup j≠none→F.pin (κ j)≠none→H.lookup j≠none∧st j=true
open Classical in
theorem Q0k {E:Env}{st:Nat→Bool}{F:Fr}(hG:E.G F.w0)(hX:∀ b,F.X b→E.ng≤b)(hng:E.ng≤F.w0.heap.size){d:Nat}{f:FuncId}{o:Oper}{xs:List PV}{S S':St}{H H':List (Nat×Blk)}{r:PV}(κ:Nat→Nat)(hs:I4 E st f xs H H' r)(hd:o.dst=some d)(hlt:d<F.nt)
  (hargs:∀ ρ a w,b5 F ρ S a w→∃ vals:List Value,(execOp a.eval o).run E.P w = .ok (.enter f vals.toArray) w∧D3 S.blk ρ (okI F S.blk ρ) (hp w) (PV.renL κ xs) vals)
  (C:w1y st F S S' κ H H' r d):∀ a w,Sat F S a w→∀ (Q:Exit→Act→World→Prop) (K:Act→World→Prop),(∀ a' w',Sat F S' a' w'→K a' w')→o.wp E.P a w K Q:=by
 intro a w ⟨ρ,h⟩ Q K hK
 obtain ⟨vals,hrun,hvals⟩:=hargs ρ a w h
 unfold Oper.wp
 rw [hrun]
 simp only [Oper.upon]
 have hne:∀ k,S.blk k≠none→ρ k<w.heap.size:=fun k hk=>by
  obtain ⟨B,hB⟩:=j1.1 hk
  obtain ⟨c,e1,_⟩:=h.blks k B hB; exact World.size_lt e1
 have hSH:∀ j,H.lookup j≠none→S.blk (κ j)≠none:=fun j hj=>by
  obtain ⟨B,hB⟩:=J3 hj; rw [C.h1 j B hB]; simp
 have hrel:D3 (lk H) (fun j=>ρ (κ j)) (okI F S.blk ρ) (hp w) xs vals:=k0a (fun j B hB=>⟨B.ren κ,C.h1 j B hB,rfl,Cells.ren_len κ B.cs⟩) xs _ hvals
 have hGw:E.G w:=E.stab F.w0 w hG fun b hb=>h.frame.block b (by omega) (fun hx=>by have:=hX b hx; omega)
 have hpre:∀ j B,H.lookup j=some B→j0h (lk H) (fun j=>ρ (κ j)) (okI F S.blk ρ) (hp w) j B∧E.ng≤ρ (κ j)∧¬ okI F S.blk ρ (ρ (κ j)):=fun j B hj=>by
  have hB:=C.h1 j B hj
  obtain ⟨c,e1,e2,e3,e4⟩:=h.blks (κ j) _ hB
  refine ⟨⟨c,e1,by rw [← Cells.ren_len κ]; exact e3,fun i x hx=>?_⟩,?_,fun hok=>hok.2 (κ j) (by simp [hB]) rfl⟩
  ·obtain ⟨u,hu,ho,hru⟩:=e4 i (x.ren κ) (by show (B.cs.ren κ).get i=_; rw [Cells.ren_get,hx]; rfl)
   exact ⟨u,hu,ho,P0j (fun j B hB=>⟨B.ren κ,C.h1 j B hB,rfl,Cells.ren_len κ B.cs⟩) x u hru⟩
  ·rcases e2 with e2 | e2
   ·exact hX _ e2.1
   ·omega
 refine Calls.mono (hs (okI F S.blk ρ) (fun j=>ρ (κ j)) w _ hGw hpre (fun j j' hj hj' e=>C.inj j j' (.inl hj) (.inl hj') (h.inj _ _ (hSH j hj) (hSH j' hj') e)) hrel) fun e w' ⟨v,ρ',he,hp'⟩=>?_
 subst he
 let ρn:Nat→Nat:=fun k=>if hh:∃ j,κ j=k∧H'.lookup j≠none then ρ' (Classical.choose hh) else ρ k
 have n1:∀ j,H'.lookup j≠none→ρn (κ j)=ρ' j:=fun j hj=>by
  have hh:∃ i,κ i=κ j∧H'.lookup i≠none:=⟨j,rfl,hj⟩
  simp only [ρn,dif_pos hh]
  have:=Classical.choose_spec hh
  rw [C.inj _ j (.inr this.2) (.inr hj) this.1]
 have n2:∀ k,(∀ j,H'.lookup j≠none→κ j≠k)→ρn k=ρ k:=fun k hk=>by
  simp only [ρn]; rw [dif_neg (fun ⟨j,h1,h2⟩=>hk j h2 h1)]
 have hother:∀ b,b<w.heap.size→(∀ j,H.lookup j≠none→b≠ρ (κ j))→hp w' b=hp w b:=fun b hb hn=>hp'.frame b hb hn
 have hplace:∀ j,H'.lookup j≠none→(∃ i,H.lookup i≠none∧ρ' j=ρ (κ i))∨w.heap.size≤ρ' j:=fun j hj=>by
  by_cases hj':H.lookup j=none
  ·exact .inr (hp'.new j hj hj')
  ·exact hp'.old j hj hj'
 have hkept:∀ k B,S.blk k=some B→(∀ j,(H.lookup j≠none∨H'.lookup j≠none)→κ j≠k)→ρn k=ρ k∧hp w' (ρ k)=hp w (ρ k):=fun k B hB hk=>by
  refine ⟨n2 k fun j hj=>hk j (.inr hj),hother _ (hne k (by simp [hB])) fun j hj e=>hk j (.inl hj) (h.inj _ _ (hSH j hj) (by simp [hB]) e.symm)⟩
 have hown:∀ b,okI F S.blk ρ b→b<w.heap.size→∀ k,S'.blk k≠none→b≠ρn k:=fun b hb hbs k hk e=>by
  obtain ⟨B',hB'⟩:=j1.1 hk
  rcases C.blk k B' hB' with ⟨j,B,rfl,hj,_⟩ | ⟨hB,hk2,_⟩
  ·rw [n1 j (by simp [hj])] at e
   rcases hplace j (by simp [hj]) with ⟨i,hi,e2⟩ | e2
   ·exact hb.2 (κ i) (hSH i hi) (by rw [e,e2])
   ·omega
  ·rw [(hkept k B' hB hk2).1] at e
   exact hb.2 k (by simp [hB]) e
 have hcar:Carry (okI F S.blk ρ) (okI F S'.blk ρn) (hp w) (hp w'):=fun b hb hne'=>by
  have hbs:b<w.heap.size:=by
   obtain ⟨o,ho⟩:=j1.1 hne'; exact World.size_lt ho
  exact ⟨⟨hb.1,hown b hb hbs⟩,hother b hbs fun j hj e=>hb.2 (κ j) (hSH j hj) e⟩
 have hcar2:Carry (okG (okI F S.blk ρ) w H' ρ') (okI F S'.blk ρn) (hp w') (hp w'):=fun b hb _=>by
  refine ⟨⟨?_,fun k hk e=>?_⟩,rfl⟩
  ·rcases hb.1 with hb1 | hb1
   ·exact hb1.1
   ·exact .inr (Nat.le_trans h.frame.size hb1)
  ·obtain ⟨B',hB'⟩:=j1.1 hk
   rcases C.blk k B' hB' with ⟨j,B,rfl,hj,_⟩ | ⟨hB,hk2,_⟩
   ·rw [n1 j (by simp [hj])] at e; exact hb.2 j (by simp [hj]) e
   ·rw [(hkept k B' hB hk2).1] at e
    rcases hb.1 with hb1 | hb1
    ·exact hb1.2 k (by simp [hB]) e
    ·have:=hne k (by simp [hB]); omega
 have hren:∀ j,H'.lookup j≠none→∀ B',S'.blk (κ j)=some B'→∃ B,lk H' j=some B∧B'.sz=B.sz∧B'.cs.len=B.cs.len∧ρn (κ j)=ρ' j:=fun j hj B' hB'=>by
  rcases C.blk _ B' hB' with ⟨i,B,e1,hi,rfl⟩ | ⟨_,hk2,_⟩
  ·obtain rfl:=C.inj i j (.inr (by simp [hi])) (.inr hj) e1
   exact ⟨B,hi,rfl,Cells.ren_len κ B.cs,n1 i hj⟩
  ·exact absurd rfl (hk2 j (.inr hj))
 have hput:∀ t,t≠d→(a.put o.dst v).tmps[t]? = a.tmps[t]?:=fun t ht=>by
  rw [hd]; simp only [Act.put]; rw [Array.getElem?_setIfInBounds_ne (Ne.symm ht)]
 have hkeep:b0q (D0r st S S' κ H H') S.blk S'.blk ρ ρn (hp w) (hp w'):=fun k hst B' hB'=>by
  rcases hst with h0 | ⟨h0,hk2⟩ | ⟨j,B0,B1,rfl,hf,g0,g1,g2,g3⟩
  ·rw [h0] at hB'; cases hB'
  ·rw [h0] at hB'
   obtain ⟨e1,e2⟩:=hkept k B' hB' hk2
   exact ⟨B',hB',rfl,Nat.le_refl _,fun _=>⟨e1,fun c T fr hc=>⟨c,T,fr,by rw [e2]; exact hc,rfl⟩⟩⟩
  ·rcases C.blk _ B' hB' with ⟨i,B,e1,hi,rfl⟩ | ⟨_,hk2,_⟩
   ·obtain rfl:=C.inj i j (.inr (by simp [hi])) (.inr (by simp [g1])) e1
    rw [g1] at hi; injection hi with hi; subst hi
    obtain ⟨s1,s2⟩:=hp'.stay i (by simp [g1]) (by simp [g0]) hf
    refine ⟨B0.ren κ,C.h1 i B0 g0,g2,by show (B0.cs.ren κ).len≤(B1.cs.ren κ).len; rw [Cells.ren_len,Cells.ren_len]; omega,fun _=>⟨(n1 i (by simp [g1])).trans s1,fun c T fr hc=>?_⟩⟩
    obtain ⟨c0,e1',_⟩:=h.blks (κ i) _ (C.h1 i B0 g0)
    have hc':=hc
    rw [e1'] at hc'
    injection hc' with hc'
    injection hc' with q1 q2 q3
    subst q1
    obtain ⟨c',T',r1,r2⟩:=s2 _ _ e1'
    exact ⟨c',T',(0,0),r1,r2⟩
   ·exact absurd rfl (hk2 j (.inr (by simp [g1])))
 show K (a.put o.dst v) w'
 refine hK _ _ ⟨ρn,h.upd (S':=S') (Kp:=D0r st S S' κ H H') ⟨hp'.os.trans h.frame.os,hp'.tape.trans h.frame.tape,hp'.output.trans h.frame.output,Nat.le_trans h.frame.size hp'.size,fun b hb hx=>?_⟩ (by simp [hd,Act.put,h.nt]) (by simp [hd,Act.put]) hcar hkeep (fun k k' h1 h2 e=>?_) (fun j b n hj hS=>?_) (fun t v' ht=>?_) (fun k B' hB'=>?_)⟩
 ·rw [hp'.frame b (Nat.lt_of_lt_of_le hb h.frame.size) fun j hj e=>?_]
  ·exact h.frame.block b hb hx
  ·obtain ⟨B,hB⟩:=J3 hj
   obtain ⟨_,_,e2,_⟩:=h.blks (κ j) _ (C.h1 j B hB)
   subst e
   rcases e2 with e2 | e2
   ·exact hx e2.1
   ·omega
 ·obtain ⟨B,hB⟩:=j1.1 h1
  obtain ⟨B',hB'⟩:=j1.1 h2
  rcases C.blk k B hB with ⟨j,C1,rfl,hj,_⟩ | ⟨g1,g2,_⟩ <;> rcases C.blk k' B' hB' with ⟨j',C2,rfl,hj',_⟩ | ⟨g1',g2',_⟩
  ·rw [n1 j (by simp [hj]),n1 j' (by simp [hj'])] at e
   rw [hp'.inj j j' (by simp [hj]) (by simp [hj']) e]
  ·rw [n1 j (by simp [hj]),(hkept k' B' g1' g2').1] at e
   rcases hplace j (by simp [hj]) with ⟨i,hi,e2⟩ | e2
   ·exact absurd (h.inj (κ i) k' (hSH i hi) (by simp [g1']) (by rw [← e2,e])) (g2' i (.inl hi))
   ·have:=hne k' (by simp [g1']); omega
  ·rw [n1 j' (by simp [hj']),(hkept k B g1 g2).1] at e
   rcases hplace j' (by simp [hj']) with ⟨i,hi,e2⟩ | e2
   ·exact absurd (h.inj (κ i) k (hSH i hi) (by simp [g1]) (by rw [← e2,e])) (g2 i (.inl hi))
   ·have:=hne k (by simp [g1]); omega
  ·rw [(hkept k B g1 g2).1,(hkept k' B' g1' g2').1] at e
   exact h.inj k k' (by simp [g1]) (by simp [g1']) e
 ·obtain ⟨B',hB'⟩:=j1.1 hS
  rcases C.blk j B' hB' with ⟨i,B,rfl,hi,_⟩ | ⟨g1,g2,_⟩
  ·obtain ⟨q1,q2⟩:=C.pin i (by simp [hi]) (by simp [hj])
   obtain ⟨s1,s2⟩:=hp'.stay i (by simp [hi]) q1 q2
   exact ⟨hSH i q1,(n1 i (by simp [hi])).trans s1,s2⟩
  ·obtain ⟨e1,e2⟩:=hkept j B' g1 g2
   exact ⟨by simp [g1],e1,fun c T hc=>⟨c,T,by rw [e2]; exact hc,rfl⟩⟩
 ·rcases C.slot t v' ht with ⟨rfl,rfl⟩ | ⟨h1,h2,h3⟩
  ·refine .inr ⟨v,?_,?_⟩
   ·rw [hd]; simp only [Act.put]; rw [Array.getElem?_setIfInBounds_self_of_lt (by rw [h.nt]; exact hlt)]
   ·exact K2.mono (K:=fun _=>True) hcar2 (fun k _ B hB=>⟨B,hB,rfl,Nat.le_refl _,fun _=>⟨rfl,fun c T fr hc=>⟨c,T,fr,hc,rfl⟩⟩⟩) _ v (fun _ _=>trivial) (D0c (K:=fun q=>H'.lookup q≠none) hren r v C.res hp'.res)
  ·exact .inl ⟨h2,hput t h1,h3⟩
 ·rcases C.blk k B' hB' with ⟨j,B,rfl,hj,rfl⟩ | ⟨g1,g2,g3⟩
  ·obtain ⟨c,f1,f2,f3⟩:=hp'.blk j B hj
   refine .inr ⟨c,by rw [n1 j (by simp [hj])]; exact f1,?_,by show (B.cs.ren κ).len≤_; rw [Cells.ren_len]; exact f2,fun i x hx=>?_⟩
   ·rw [n1 j (by simp [hj])]
    by_cases hjH:H.lookup j=none
    ·exact .inr (Nat.le_trans h.frame.size (hp'.new j (by simp [hj]) hjH))
    ·rcases hp'.old j (by simp [hj]) hjH with ⟨i,hi,e2⟩ | e2
     ·obtain ⟨Bi,hBi⟩:=J3 hi
      obtain ⟨Bj,hBj⟩:=J3 hjH
      by_cases hf:st j=true
      ·rw [(hp'.stay j (by simp [hj]) hjH hf).1]
       obtain ⟨_,_,q2,_⟩:=h.blks (κ j) _ (C.h1 j Bj hBj)
       exact q2
      ·rw [e2]
       obtain ⟨_,_,q2,_⟩:=h.blks (κ i) _ (C.h1 i Bi hBi)
       rcases q2 with ⟨q2,q3⟩ | q2
       ·exact .inl ⟨q2,C.lo i j hi hjH (by simp [hj]) (by simpa using hf) q3⟩
       ·exact .inr q2
     ·exact .inr (Nat.le_trans h.frame.size e2)
   ·have hx':(B.cs.ren κ).get i=some x:=hx
    rw [Cells.ren_get,M0] at hx'
    obtain ⟨y,hy,rfl⟩:=hx'
    obtain ⟨u,hu,ho,hru⟩:=f3 i y hy
    exact ⟨u,hu,ho,K2.mono (K:=fun _=>True) hcar2 (fun k _ B hB=>⟨B,hB,rfl,Nat.le_refl _,fun _=>⟨rfl,fun c T fr hc=>⟨c,T,fr,hc,rfl⟩⟩⟩) _ u (fun _ _=>trivial) (D0c (K:=fun q=>H'.lookup q≠none) hren y u (C.cont j B hj i y hy) hru)⟩
  ·obtain ⟨e1,e2⟩:=hkept k B' g1 g2
   exact .inl ⟨g1,e1,e2,g3⟩
theorem J1r {E:Env}{st:Nat→Bool}{F:Fr}(hG:E.G F.w0)(hX:∀ b,F.X b→E.ng≤b)(hng:E.ng≤F.w0.heap.size){ops:Array Oper}{d:Nat}{f:FuncId}{o:Oper}{xs:List PV}{S S':St}{H H':List (Nat×Blk)}{r:PV}(κ:Nat→Nat)(hs:I4 E st f xs H H' r)(hd:o.dst=some d)(hg:o.guard=none)(hlt:d<F.nt)
  (hargs:∀ ρ a w,b5 F ρ S a w→∃ vals:List Value,(execOp a.eval o).run E.P w = .ok (.enter f vals.toArray) w∧D3 S.blk ρ (okI F S.blk ρ) (hp w) (PV.renL κ xs) vals)
  (C:w1y st F S S' κ H H' r d):B0a E.P F ops o S S':=by
 intro a w h Q K hK
 have hw:Region.wanted o (yielded ops a.tmps)=true:=by simp [Region.wanted,hg]
 rw [if_pos hw]
 exact .inl (Q0k hG hX hng κ hs hd hlt hargs C a w h Q K hK)
end Go.Proofs.YtjagfionflbjbaaGreat.SH
namespace Go.Proofs.YtjagfionflbjbaaGreat.SH
open Go Go.RowKit
theorem b5.move {F F':Fr}{ρ ρ':Nat→Nat}{S S':St}{a a':Act}{w w':World}{Kp:Nat→Prop}(h:b5 F ρ S a w)(hfr:B0d F' w')(hnt:a'.tmps.size=F'.nt)(hdf:g0z F' a'.defers w')
  (hc:Carry (okI F S.blk ρ) (okI F' S'.blk ρ') (hp w) (hp w')) (hk:b0q Kp S.blk S'.blk ρ ρ' (hp w) (hp w'))
  (hinj:∀ k k',S'.blk k≠none→S'.blk k'≠none→ρ' k=ρ' k'→k=k')
  (hpin:∀ j b n,F'.pin j=some (b,n)→S'.blk j≠none→ρ' j=b∧∃ c T,hp w' b=some (.cells c T (0,0))∧c.size=n)
  (hs:∀ t v,S'.slot t=some v→(S.slot t=some v∧a'.tmps[t]? = a.tmps[t]?∧∀ k,v.free k=false→Kp k)∨∃ u,a'.tmps[t]? = some u∧K2 S'.blk ρ' (okI F' S'.blk ρ') (hp w') v u)
  (hb:∀ k B,S'.blk k=some B→(S.blk k=some B∧ρ' k=ρ k∧hp w' (ρ k)=hp w (ρ k)∧((F'.X (ρ k)∧F'.lo k=false)∨F'.w0.heap.size≤ρ k)∧∀ i x,B.cs.get i=some x→∀ j,x.free j=false→Kp j) ∨
   ∃ c,hp w' (ρ' k)=some (.cells c B.T (0,0))∧((F'.X (ρ' k)∧F'.lo k=false)∨F'.w0.heap.size≤ρ' k)∧B.cs.len≤c.size∧∀ i x,B.cs.get i=some x→∃ u,c[i]? = some u∧u.oneCell'=true∧K2 S'.blk ρ' (okI F' S'.blk ρ') (hp w') x u) :
  b5 F' ρ' S' a' w' where
 slots t v ht:=by
  rcases hs t v ht with ⟨h1,h2,h3⟩ | h
  ·obtain ⟨u,hu,hr⟩:=h.slots t v h1
   exact ⟨u,by rw [h2]; exact hu,K2.mono hc hk v u h3 hr⟩
  ·exact h
 blks k B hB:=by
  rcases hb k B hB with ⟨h1,h2,h3,h5,h4⟩ | h
  ·obtain ⟨c,e1,e2,e3,e4⟩:=h.blks k B h1
   refine ⟨c,by rw [h2,h3]; exact e1,by rw [h2]; exact h5,e3,fun i x hx=>?_⟩
   obtain ⟨u,hu,h1c,hr⟩:=e4 i x hx
   exact ⟨u,hu,h1c,K2.mono hc hk x u (h4 i x hx) hr⟩
  ·exact h
 inj:=hinj
 frame:=hfr
 nt:=hnt
 df:=hdf
 pin:=hpin
theorem b5.weakR {F:Fr}{ρ:Nat→Nat}{S S':St}{a:Act}{w:World}(h:b5 F ρ S a w)(hle:S'.le S):b5 F ρ S' a w:=by
 have hne:∀ k,S'.blk k≠none→S.blk k≠none∧ρ k=ρ k:=fun k hk=>by
  obtain ⟨B,hB⟩:=j1.1 hk
  exact ⟨by rw [hle.2 k B hB]; simp,rfl⟩
 exact h.upd (Kp:=fun _=>True) h.frame h.nt rfl (fun b hb' _=>⟨p0w hne hb',rfl⟩) (fun k _ B' hB'=>⟨B',hle.2 k B' hB',rfl,Nat.le_refl _,fun _=>⟨rfl,fun c T fr hc=>⟨c,T,fr,hc,rfl⟩⟩⟩)
  (fun k k' h1 h2 h3=>h.inj k k' (hne k h1).1 (hne k' h2).1 h3) (fun j _ _ _ hj=>⟨(hne j hj).1,rfl,fun c T hc=>⟨c,T,hc,rfl⟩⟩) (fun t v ht=>.inl ⟨hle.1 t v ht,rfl,fun _ _=>trivial⟩) (fun k B hB=>.inl ⟨hle.2 k B hB,rfl,rfl,fun _ _ _ _ _=>trivial⟩)
structure XFr (E:Env) (H:List (Nat×Blk)) (n:Nat) (F:Fr):Prop where
 g:E.G F.w0
 x:∀ b,F.X b→E.ng≤b
 nt:F.nt=n
 df:F.df=[]
 p0:∀ q,H.lookup q=none→F.pin q=none
 lo:∀ q,F.lo q=(H.lookup q).isNone
 ng:E.ng≤F.w0.heap.size
def Yields (P:Program)(F:Fr)(l n:Nat)(encs:Nat→J2×J2)(H:Nat→List (Nat×Blk)):Prop :=
 ∀ k,k<n→∀ (d:Nat) (fo o1 o2:Operand) (ts:Array TypeId) (T:TypeId) (pos:String) (aft:Array Edge) (g:Option (Nat×Bool)),d<F.nt →
  ∀ S a w,Sat F S a w→Ann.holds ⟨[(fo,.clo (.yield l) [] []),(o1,.p (encs k).1),(o2,.p (encs k).2)],H k,none,[(d,.p (.a (.bool true)))],H (k+1)⟩ S→∀ (Q:Exit→Act→World→Prop) (K:Act→World→Prop),
   (∀ a' w',Sat F (S.app ⟨[(fo,.clo (.yield l) [] []),(o1,.p (encs k).1),(o2,.p (encs k).2)],H k,none,[(d,.p (.a (.bool true)))],H (k+1)⟩) a' w'→K a' w')→∀ m,Oper.wpIn (fen F) m P ⟨some d,.call ⟨.value fo,#[o1,o2],ts⟩,T,pos,aft,g⟩ a w K Q
def mkL (fid:FuncId)(tmps:Array Value)(p1 p2:Nat)(asx bd:Code)(D:Nat)(st:LoopState)(pe:Option Code):Loop:={ state:=st,pending:=pe,fn:=fid,tmps:=tmps,params:=#[p1,p2],assign:=asx,body:=bd,defers:=D }
theorem O3 {l:List (Nat×Blk)}{j:Nat}{B:Blk}(h:l.lookup j=some B):(j,B)∈l:=by
 induction l with
 | nil=>simp at h
 | cons p l ih =>
  obtain ⟨s,u⟩:=p
  rw [i0] at h
  split at h
  ·rename_i e; injection h with h; subst h; simp [beq_iff_eq.1 e]
  ·simp [ih h]
def P9 (FI:Fr)(nt:Nat)(S:St)(ρ:Nat→Nat)(W W0:World)(l:Nat)(Hk:List (Nat×Blk)):Fr :=
 ⟨W0,fun b=>okI FI S.blk ρ b∧b<W.heap.size,fun b=>∃ q,Hk.lookup q≠none∧b=ρ q,nt,[],fun q=>if Hk.lookup q≠none then match hp W (ρ q) with | some (.cells c _ _)=>some (ρ q,c.size) | _=>none else none,some l,fun _ _=>False,fun q=>(Hk.lookup q).isNone⟩
structure N1z (FI:Fr) (l D:Nat) (L:Loop) (H:Nat→List (Nat×Blk)) (n:Nat):Prop where
 ro:FI.ro=none
 loop:FI.w0.heap[l]? = some (.loop L)
 lX:¬ FI.X l
 lok:¬ FI.okA l
 llt:l<FI.w0.heap.size
 pin:∀ k,k≤n→∀ q B,(H k).lookup q=some B→∃ b m,FI.pin q=some (b,m)
 keys:∀ k,k<n→∀ q,(H (k+1)).lookup q≠none↔(H k).lookup q≠none
 same:∀ k,k<n→∀ q B B',(H k).lookup q=some B→(H (k+1)).lookup q=some B'→B'.sz=B.sz∧B'.cs.len=B.cs.len
 lo:∀ k,k≤n→∀ q,(H k).lookup q≠none→FI.lo q=false
 cont:∀ k,k≤n→∀ j B,(H k).lookup j=some B→∀ i x,B.cs.get i=some x→∀ q,x.free q=false→(H k).lookup q≠none
theorem h1w {E:Env}{FI:Fr}{nt l D p1 p2 n:Nat}{fid:FuncId}{tmps0:Array Value}{asx bd:Code}{encs:Nat→J2×J2}{H:Nat→List (Nat×Blk)}{sl:List (Nat×PV)}(I:N1z FI l D (mkL fid tmps0 p1 p2 asx bd D .ready none) H n)
  (hG:E.G FI.w0) (hx:∀ b,FI.X b→E.ng≤b) (hng:E.ng≤FI.w0.heap.size) (hlng:E.ng≤l) (ht0:tmps0.size=nt) (hlt:p1<nt∧p2<nt)
  (hout:∀ k,k≤n→∀ ρ S a W,b5 FI ρ S a W→(∀ q B,(H k).lookup q=some B→S.blk q=some B)→∀ t v,sl.lookup t=some v→∃ u,tmps0[t]? = some u∧K2 (lk (H k)) ρ (okI FI S.blk ρ) (hp W) v u)
  (hround:∀ k,k<n→∃ S1,(∀ F',XFr E (H k) nt F'→l4 E.P F' asx ⟨(p2,.p (encs k).2) :: (p1,.p (encs k).1) :: sl,H k⟩ (fun e S'=>e = .normal∧S1.le S')) ∧
   (∀ F',XFr E (H k) nt F'→l4 E.P F' bd S1 (fun e S'=>e = .normal∧T5 S' (H (k+1))))):Yields E.P FI l n encs H:=by
 intro k hk d fo o1 o2 ts T pos aft g hd S a W ⟨ρ,h⟩ hA Q K hK m
 obtain ⟨S1,has,hbd⟩:=hround k hk
 have hSH:∀ q B,(H k).lookup q=some B→S.blk q=some B:=fun q B hq=>hA.rb (q,B) (O3 hq)
 have hSH':∀ q,(H k).lookup q≠none→S.blk q≠none:=fun q hq=>by obtain ⟨B,hB⟩:=J3 hq; rw [hSH q B hB]; simp
 have hne:∀ q,S.blk q≠none→ρ q<W.heap.size:=fun q hq=>by
  obtain ⟨B,hB⟩:=j1.1 hq
  obtain ⟨c,e1,_⟩:=h.blks q B hB; exact World.size_lt e1
 have hsz:=h.frame.size
 have hlW:W.heap[l]? = some (.loop (mkL fid tmps0 p1 p2 asx bd D .ready none)):=(h.frame.block l I.llt I.lX).trans I.loop
 have hlown:∀ q,S.blk q≠none→ρ q≠l:=fun q hq e=>by
  obtain ⟨B,hB⟩:=j1.1 hq
  obtain ⟨c,e1,_⟩:=h.blks q B hB
  have:hp W l=some (.loop (mkL fid tmps0 p1 p2 asx bd D .ready none)):=hlW
  rw [e,this] at e1; cases e1
 have hlok:∀ β ρ',¬ okI FI β ρ' l:=fun β ρ' hb=>by
  rcases hb.1 with hb | hb
  ·exact I.lok hb
  ·have:=I.llt; omega
 have ef:a.eval fo = .func (.yield l) #[] #[]:=by
  have:=Z4 h (hA.rs (fo,.clo (.yield l) [] []) (by simp))
  simp only [K2,D3] at this
  obtain ⟨fs,cs,h3,rfl,rfl⟩:=this
  exact h3
 have r1:=Z4 h (hA.rs (o1,.p (encs k).1) (by simp))
 have r2:=Z4 h (hA.rs (o2,.p (encs k).2) (by simp))
 simp only [K2] at r1 r2
 obtain ⟨v1,hv1⟩:∃ v,v=a.eval o1:=⟨_,rfl⟩
 obtain ⟨v2,hv2⟩:∃ v,v=a.eval o2:=⟨_,rfl⟩
 rw [← hv1] at r1
 rw [← hv2] at r2
 obtain ⟨FR,hFR⟩:∃ FR,FR=P9 FI nt S ρ W W l (H k):=⟨_,rfl⟩
 have hGW:E.G W:=E.stab FI.w0 W hG fun b hb=>h.frame.block b (by omega) (fun hx'=>by have:=hx b hx'; omega)
 have hXng:∀ q,(H k).lookup q≠none→E.ng≤ρ q:=fun q hq=>by
  obtain ⟨B,hB⟩:=J3 hq
  obtain ⟨_,_,e2,_⟩:=h.blks q B (hSH q B hB)
  rcases e2 with e2 | e2
  ·exact hx _ e2.1
  ·omega
 have hXF:∀ W0:World,E.G W0→E.ng≤W0.heap.size→XFr E (H k) nt (P9 FI nt S ρ W W0 l (H k)):=fun W0 h1 h2=>⟨h1,fun b ⟨q,hq,e⟩=>e ▸ hXng q hq,rfl,rfl,fun q hq=>by simp only [P9]; rw [if_neg (by simp [hq])],fun _=>rfl,h2⟩
 have hnH:∀ (β:Nat→Option Blk) (hβ:∀ q,β q≠none→S.blk q≠none) b,okI FI S.blk ρ b→b<W.heap.size→∀ W0,okI (P9 FI nt S ρ W W0 l (H k)) β ρ b:=fun β hβ b hb hbs W0=>⟨.inl ⟨hb,hbs⟩,fun q hq=>hb.2 q (hβ q hq)⟩
 have hs1:b5 FR ρ ⟨(p2,.p (encs k).2) :: (p1,.p (encs k).1) :: sl,H k⟩ ⟨(tmps0.setIfInBounds p1 v1).setIfInBounds p2 v2,[]⟩ W:=by
  rw [hFR]
  have hcar:Carry (okI FI S.blk ρ) (okI (P9 FI nt S ρ W W l (H k)) (lk (H k)) ρ) (hp W) (hp W):=fun b hb hne'=>⟨hnH _ (fun q hq=>hSH' q hq) b hb (by obtain ⟨o,ho⟩:=j1.1 hne'; exact World.size_lt ho) W,rfl⟩
  have hkp:b0q (fun _=>True) S.blk (lk (H k)) ρ ρ (hp W) (hp W):=fun q _ B hB=>⟨B,hSH q B hB,rfl,Nat.le_refl _,fun _=>⟨rfl,fun c T fr hc=>⟨c,T,fr,hc,rfl⟩⟩⟩
  refine h.move (S':=⟨(p2,.p (encs k).2) :: (p1,.p (encs k).1) :: sl,H k⟩) (Kp:=fun _=>True) ⟨rfl,rfl,rfl,Nat.le_refl _,fun _ _ _=>rfl⟩ (by simp [P9,ht0]) (g0z.nil rfl) hcar hkp (fun q q' h1 h2 e=>h.inj q q' (hSH' q h1) (hSH' q' h2) e) (fun j b m hj hS=>?_) (fun t v ht=>.inr ?_) (fun q B hB=>.inl ⟨hSH q B hB,rfl,rfl,.inl ⟨⟨q,by have hB':(H k).lookup q=some B:=hB; simp [hB'],rfl⟩,by have hB':(H k).lookup q=some B:=hB; simp [P9,hB']⟩,fun _ _ _ _ _=>trivial⟩)
  ·simp only [P9] at hj
   have hS':(H k).lookup j≠none:=hS
   rw [if_pos hS'] at hj
   obtain ⟨B,hB⟩:=J3 hS'
   obtain ⟨c,e1,_⟩:=h.blks j B (hSH j B hB)
   rw [e1] at hj
   injection hj with hj; injection hj with hj1 hj2
   subst hj1 hj2
   exact ⟨rfl,c,B.T,e1,rfl⟩
  ·simp only [St.slot,i0] at ht
   split at ht
   ·rename_i e; injection ht with ht; subst ht
    obtain rfl:t=p2:=by simpa using e
    exact ⟨v2,by rw [Array.getElem?_setIfInBounds_self_of_lt (by simp [ht0]; exact hlt.2)],by simp only [K2]; exact Rel.mono hcar _ _ r2⟩
   ·rename_i e2
    have e2:t≠p2:=by simpa using e2
    split at ht
    ·rename_i e; injection ht with ht; subst ht
     obtain rfl:t=p1:=by simpa using e
     exact ⟨v1,by rw [Array.getElem?_setIfInBounds_ne (Ne.symm e2),Array.getElem?_setIfInBounds_self_of_lt (by rw [ht0]; exact hlt.1)],by simp only [K2]; exact Rel.mono hcar _ _ r1⟩
    ·rename_i e1
     have e1:t≠p1:=by simpa using e1
     obtain ⟨u,hu,hr⟩:=hout k (by omega) ρ S a W h hSH t v ht
     exact ⟨u,by rw [Array.getElem?_setIfInBounds_ne (Ne.symm e2),Array.getElem?_setIfInBounds_ne (Ne.symm e1)]; exact hu,K2.mono (K:=fun _=>True) hcar (fun q _ B hB=>⟨B,hB,rfl,Nat.le_refl _,fun _=>⟨rfl,fun c T fr hc=>⟨c,T,fr,hc,rfl⟩⟩⟩) v u (fun _ _=>trivial) hr⟩
 have hyr:(Instr.yield l #[v1,v2]).run E.P W = .ok (.round l fid ((tmps0.setIfInBounds p1 v1).setIfInBounds p2 v2) asx bd) W:=by
  have:=run_yield (P:=E.P) (args:=#[v1,v2]) hlW (by rfl)
  simpa [mkL] using this
 have hfw:fen FI=Fence.wide:=by simp [fen,I.ro,Fence.wide]
 unfold Oper.wpIn
 refine ⟨fun f _=>trivial,?_⟩
 rw [Oper.semAt_eq _ _ _ (by intro c e; cases e)]
 have hexec:(execOp a.eval ⟨some d,.call ⟨.value fo,#[o1,o2],ts⟩,T,pos,aft,g⟩).run E.P W = .ok (.round l fid ((tmps0.setIfInBounds p1 v1).setIfInBounds p2 v2) asx bd) W:=by
  simp [execOp,resolve,ef,← hv1,← hv2,Deferred.ofValue,invoke,hyr]
 rw [hexec,Oper.uponIn_round,hfw]
 refine ⟨fun hh=>by simp [Fence.wide] at hh,?_⟩
 refine roundIn_of_wpIn trivial ?_
 have hA1:=(has FR (by rw [hFR]; exact hXF W hGW (by omega))).run (m - 1) _ W ⟨ρ,hs1⟩
 rw [show fen FR=Fence.wide.inRound l by rw [hFR]; rfl] at hA1
 refine wpIn_mono hA1 fun ex a1 w1 hq=>?_
 obtain ⟨S',⟨he,hle1⟩,ρ1,hsa⟩:=hq.resolve_right (fun h=>by rw [hFR] at h; exact h.2)
 subst he
 have hsa:=hsa.weakR hle1
 have hRl:∀ W0:World,¬ (P9 FI nt S ρ W W0 l (H k)).X l:=fun W0 ⟨q,hq,e⟩=>hlown q (hSH' q hq) e.symm
 have hw0:FR.w0=W:=by rw [hFR]; rfl
 have hl1:w1.heap[l]? = some (.loop (mkL fid tmps0 p1 p2 asx bd D .ready none)):=(hsa.frame.block l (by rw [hw0]; exact World.size_lt hlW) (by rw [hFR]; exact hRl W)).trans (by rw [hw0]; exact hlW)
 obtain ⟨W0b,hW0b⟩:∃ W0b,W0b=W.putObj l (.loop (mkL fid tmps0 p1 p2 asx bd D .busy none)):=⟨_,rfl⟩
 obtain ⟨w2,hw2⟩:∃ w2,w2=w1.putObj l (.loop (mkL fid tmps0 p1 p2 asx bd D .busy none)):=⟨_,rfl⟩
 have hbeg:(Instr.beginRound l).run E.P w1 = .ok () w2:=by rw [hw2]; exact run_beginRound hl1 rfl
 have hszb:W0b.heap.size=W.heap.size:=by rw [hW0b]; simp
 have hob:∀ b,b≠l→W0b.heap[b]? = W.heap[b]?:=fun b hb=>by rw [hW0b]; exact World.putObj_heap_other hb
 have ho2:∀ b,b≠l→w2.heap[b]? = w1.heap[b]?:=fun b hb=>by rw [hw2]; exact World.putObj_heap_other hb
 obtain ⟨FB,hFB⟩:∃ FB,FB=P9 FI nt S ρ W W0b l (H k):=⟨_,rfl⟩
 have hlR:∀ β ρ',¬ okI FR β ρ' l:=fun β ρ' hb=>by
  rw [hFR] at hb
  rcases hb.1 with hb | hb
  ·exact hlok _ _ hb.1
  ·have:=World.size_lt hlW; have:W.heap.size≤l:=hb; omega
 have hl1own:∀ q B,S1.blk q=some B→ρ1 q≠l:=fun q B hB e=>by
  obtain ⟨c,e1,_⟩:=hsa.blks q B hB
  have:hp w1 l=some (.loop (mkL fid tmps0 p1 p2 asx bd D .ready none)):=hl1
  rw [e,this] at e1; cases e1
 have hs2:b5 FB ρ1 S1 a1 w2:=by
  obtain ⟨Ds,d1,d2,d3⟩:=hsa.df
  have hfr:=hsa.frame
  rw [hFB]
  refine hsa.move (Kp:=fun _=>True) ⟨?_,?_,?_,?_,fun b hb hx'=>?_⟩ (by rw [hsa.nt,hFR]; rfl) ⟨Ds,by rw [d1,hFR]; rfl,d2,fun D' hD'=>?_⟩ (fun b hb _=>⟨⟨?_,hb.2⟩,ho2 b (fun e=>hlR _ _ (e ▸ hb))⟩) (fun q _ B hB=>⟨B,hB,rfl,Nat.le_refl _,fun _=>⟨rfl,fun c T fr hc=>⟨c,T,fr,(ho2 _ (hl1own q B hB)).trans hc,rfl⟩⟩⟩) hsa.inj (fun j b n hj hS=>?_) (fun t v ht=>.inl ⟨ht,rfl,fun _ _=>trivial⟩) (fun q B hB=>.inl ⟨hB,rfl,ho2 _ (hl1own q B hB),?_,fun _ _ _ _ _=>trivial⟩)
  ·rw [hw2]; show w1.os=W0b.os; rw [hfr.os,hw0,hW0b]; rfl
  ·rw [hw2]; show w1.tape=W0b.tape; rw [hfr.tape,hw0,hW0b]; rfl
  ·rw [hw2]; show w1.output=W0b.output; rw [hfr.output,hw0,hW0b]; rfl
  ·show W0b.heap.size≤w2.heap.size; rw [hszb,hw2]; have:=hfr.size; rw [hw0] at this; simpa using this
  ·show w2.heap[b]? = W0b.heap[b]?
   by_cases eb:b=l
   ·subst eb; rw [hw2,hW0b,World.putObj_heap_same (World.size_lt hl1),World.putObj_heap_same (World.size_lt hlW)]
   ·rw [ho2 b eb,hob b eb]
    have hb':b<W0b.heap.size:=hb
    have:=hfr.block b (by rw [hw0]; omega) (by rw [hFR]; exact hx')
    rw [hw0] at this; exact this
  ·obtain ⟨q1,q2⟩:=d3 D' hD'
   refine ⟨by show W0b.heap.size≤D'; rw [hszb]; rw [hw0] at q1; exact q1,(ho2 D' (fun e=>?_)).trans q2⟩
   rw [e,hl1] at q2; cases q2
  ·rcases hb.1 with hb1 | hb1
   ·rw [hFR] at hb1; exact .inl hb1
   ·rw [hw0] at hb1; exact .inr (by show W0b.heap.size≤b; omega)
  ·have hj':FR.pin j=some (b,n):=by rw [hFR]; exact hj
   obtain ⟨q1,c,T,q2,q3⟩:=hsa.pin j b n hj' hS
   obtain ⟨B,hB⟩:=j1.1 hS
   exact ⟨q1,c,T,(ho2 b (by rw [← q1]; exact hl1own j B hB)).trans q2,q3⟩
  ·obtain ⟨_,_,q2,_⟩:=hsa.blks q B hB
   rcases q2 with q2 | q2
   ·rw [hFR] at q2; exact .inl q2
   ·rw [hw0] at q2; exact .inr (by show W0b.heap.size≤_; omega)
 refine ⟨w2,hbeg,?_⟩
 have hGb:E.G W0b:=E.stab W W0b hGW fun b hb=>hob b (fun e=>by omega)
 have hB1:=(hbd FB (by rw [hFB]; exact hXF W0b hGb (by omega))).run (m - 1) a1 w2 ⟨ρ1,hs2⟩
 rw [show fen FB=Fence.wide.inRound l by rw [hFB]; rfl] at hB1
 refine wpIn_mono hB1 fun ex a3 w3 hq=>?_
 obtain ⟨S3,⟨he,hHB⟩,ρ3,hs3⟩:=hq.resolve_right (fun h=>by rw [hFB] at h; exact h.2)
 subst he
 have hw0b:FB.w0=W0b:=by rw [hFB]; rfl
 have hl3:w3.heap[l]? = some (.loop (mkL fid tmps0 p1 p2 asx bd D .busy none)):=(hs3.frame.block l (by rw [hw0b,hszb]; exact World.size_lt hlW) (by rw [hFB]; exact hRl W0b)).trans (by rw [hw0b,hW0b]; exact World.putObj_heap_same (World.size_lt hlW))
 obtain ⟨w4,hw4⟩:∃ w4,w4=w3.putObj l (.loop (mkL fid tmps0 p1 p2 asx bd D .ready none)):=⟨_,rfl⟩
 have hend:(Instr.endRound l none).run E.P w3 = .ok (.bool true) w4:=by rw [hw4]; exact run_endRound none hl3
 have ho4:∀ b,b≠l→w4.heap[b]? = w3.heap[b]?:=fun b hb=>by rw [hw4]; exact World.putObj_heap_other hb
 have hfr3:=hs3.frame
 refine ⟨_,_,hend,?_⟩
 refine hK _ _ ⟨ρ,?_⟩
 have hS3:∀ q B,(H (k+1)).lookup q=some B→S3.blk q=some B:=fun q B hq=>hHB.all q B hq
 have hplace:∀ q,(H (k+1)).lookup q≠none→ρ3 q=ρ q∧∀ c T,hp W (ρ q)=some (.cells c T (0,0))→∃ c' T',hp w3 (ρ q)=some (.cells c' T' (0,0))∧c'.size=c.size:=fun q hq=>by
  have hq0:=(I.keys k hk q).1 hq
  obtain ⟨B0,hB0⟩:=J3 hq0
  obtain ⟨B1,hB1⟩:=J3 hq
  obtain ⟨c,e1,_⟩:=h.blks q B0 (hSH q B0 hB0)
  have hp0:FB.pin q=some (ρ q,c.size):=by rw [hFB]; simp only [P9]; rw [if_pos hq0,e1]
  obtain ⟨q1,c',T',q2,q3⟩:=hs3.pin q _ _ hp0 (by rw [hS3 q B1 hB1]; simp)
  refine ⟨q1,fun c2 T2 h2=>⟨c',T',q2,?_⟩⟩
  rw [e1] at h2; injection h2 with h2; injection h2 with h2; rw [q3,h2]
 have hkeep:∀ q,(H k).lookup q=none→S.blk q≠none→hp w4 (ρ q)=hp W (ρ q):=fun q hq hS=>by
  have hl':=hlown q hS
  refine (ho4 _ hl').trans ((hfr3.block _ (by rw [hw0b,hszb]; exact hne q hS) (fun hX=>?_)).trans (by rw [hw0b]; exact hob _ hl'))
  rw [hFB] at hX
  obtain ⟨q',h1,h2⟩:=hX
  have:=h.inj q q' hS (hSH' q' h1) h2
  subst this; exact h1 hq
 have hold:∀ b,okI FI S.blk ρ b→b<W.heap.size→hp w4 b=hp W b:=fun b hb hbs=>by
  have hl':b≠l:=fun e=>hlok _ _ (e ▸ hb)
  refine (ho4 _ hl').trans ((hfr3.block _ (by rw [hw0b,hszb]; exact hbs) (fun hX=>?_)).trans (by rw [hw0b]; exact hob _ hl'))
  rw [hFB] at hX
  obtain ⟨q',h1,h2⟩:=hX
  exact hb.2 q' (hSH' q' h1) h2
 obtain ⟨S',hS'⟩:∃ S',S'=S.app ⟨[(fo,.clo (.yield l) [] []),(o1,.p (encs k).1),(o2,.p (encs k).2)],H k,none,[(d,.p (.a (.bool true)))],H (k+1)⟩:=⟨_,rfl⟩
 rw [← hS']
 have hS'b:∀ q,S'.blk q=((H (k+1)).lookup q).or (S.blk q):=fun q=>by rw [hS']; exact St.app_blk _ _ _
 have hS'n:∀ q,S'.blk q≠none→S.blk q≠none:=fun q hq=>by
  rw [hS'b] at hq
  cases e:(H (k+1)).lookup q with
  | none=>rw [e,l0] at hq; exact hq
  | some B=>exact hSH' q ((I.keys k hk q).1 (by simp [e]))
 have hsize:∀ q,S'.blk q≠none→∀ c T,hp W (ρ q)=some (.cells c T (0,0))→∃ c' T',hp w4 (ρ q)=some (.cells c' T' (0,0))∧c'.size=c.size:=fun q hq c T hc=>by
  have hSq:=hS'n q hq
  by_cases hH:(H (k+1)).lookup q=none
  ·have : (H k).lookup q = none := by
    cases e:(H k).lookup q with
    | none=>rfl
    | some B=>exact absurd hH ((I.keys k hk q).2 (by simp [e]))
   exact ⟨c,T,(hkeep q this hSq).trans hc,rfl⟩
  ·obtain ⟨c',T',g1,g2⟩:=(hplace q hH).2 c T hc
   exact ⟨c',T',(ho4 _ (hlown q hSq)).trans g1,g2⟩
 have hcells:∀ q,S.blk q≠none→∃ c T,hp W (ρ q)=some (.cells c T (0,0)):=fun q hq=>by
  obtain ⟨B,hB⟩:=j1.1 hq
  obtain ⟨c,e1,_⟩:=h.blks q B hB; exact ⟨c,B.T,e1⟩
 refine h.upd (S':=S') (Kp:=fun _=>True) ⟨?_,?_,?_,?_,fun b hb hx'=>?_⟩ (by simp [Act.put,h.nt]) rfl (fun b hb hne'=>⟨⟨hb.1,fun q hq=>hb.2 q (hS'n q hq)⟩,hold b hb (by obtain ⟨o,ho⟩:=j1.1 hne'; exact World.size_lt ho)⟩) (fun q _ B' hB'=>?_) (fun q q' h1 h2 e=>h.inj q q' (hS'n q h1) (hS'n q' h2) e) (fun j b n hj hSj=>⟨hS'n j hSj,rfl,hsize j hSj⟩) (fun t v ht=>?_) (fun q B hB=>?_)
 ·rw [hw4]; show w3.os=_; rw [hfr3.os,hw0b,hW0b]; exact h.frame.os
 ·rw [hw4]; show w3.tape=_; rw [hfr3.tape,hw0b,hW0b]; exact h.frame.tape
 ·rw [hw4]; show w3.output=_; rw [hfr3.output,hw0b,hW0b]; exact h.frame.output
 ·rw [hw4]; have:=hfr3.size; rw [hw0b,hszb] at this; simp; omega
 ·by_cases eb:b=l
  ·subst eb; rw [hw4,World.putObj_heap_same (World.size_lt hl3)]; exact I.loop.symm
  ·rw [ho4 b eb,hfr3.block b (by rw [hw0b,hszb]; omega) (fun hX=>?_),hw0b,hob b eb]
   ·exact h.frame.block b hb hx'
   ·rw [hFB] at hX
    obtain ⟨q',h1,h2⟩:=hX
    obtain ⟨B,hB⟩:=J3 h1
    obtain ⟨_,_,e2,_⟩:=h.blks q' B (hSH q' B hB)
    rw [← h2] at e2
    rcases e2 with e2 | e2
    ·exact hx' e2.1
    ·omega
 ·have hSq:=hS'n q (by simp [hB'])
  rw [hS'b] at hB'
  cases e:(H (k+1)).lookup q with
  | none =>
   rw [e,l0] at hB'
   exact ⟨B',hB',rfl,Nat.le_refl _,fun _=>⟨rfl,fun c T fr hc=>by
    obtain ⟨c0,T0,e1⟩:=hcells q hSq
    have hc':=hc
    rw [e1] at hc'; injection hc' with hc'; injection hc' with q1 q2 q3; subst q1
    obtain ⟨c',T',g1,g2⟩:=hsize q (by rw [hS'b,e,l0,hB']; simp) _ _ e1
    exact ⟨c',T',(0,0),g1,g2⟩⟩⟩
  | some B1 =>
   rw [e,K0] at hB'; injection hB' with hB'; subst hB'
   obtain ⟨B0,hB0⟩:=J3 ((I.keys k hk q).1 (by simp [e]))
   obtain ⟨s1,s2⟩:=I.same k hk q B0 B1 hB0 e
   exact ⟨B0,hSH q B0 hB0,s1,by omega,fun _=>⟨rfl,fun c T fr hc=>by
    obtain ⟨c0,T0,e1⟩:=hcells q hSq
    have hc':=hc
    rw [e1] at hc'; injection hc' with hc'; injection hc' with q1 q2 q3; subst q1
    obtain ⟨c',T',g1,g2⟩:=hsize q (by rw [hS'b,e,K0]; simp) _ _ e1
    exact ⟨c',T',(0,0),g1,g2⟩⟩⟩
 ·rw [hS',St.app_slot] at ht
  simp only [i0,List.lookup_nil] at ht
  by_cases e:t=d
  ·subst e
   simp only [BEq.rfl,K0,U0] at ht
   subst ht
   exact .inr ⟨.bool true,by simp only [Act.put]; rw [Array.getElem?_setIfInBounds_self_of_lt (by rw [h.nt]; exact hd)],by simp [K2,Rel]⟩
  ·rw [show (t == d)=false by simpa using e,l0] at ht
   exact .inl ⟨ht,by simp only [Act.put]; rw [Array.getElem?_setIfInBounds_ne (Ne.symm e)],fun _ _=>trivial⟩
 ·have hSq:=hS'n q (by simp [hB])
  have hB0:=hB
  rw [hS'b] at hB
  cases e:(H (k+1)).lookup q with
  | none =>
   rw [e,l0] at hB
   have hn:(H k).lookup q=none:=by
    cases e':(H k).lookup q with
    | none=>rfl
    | some B=>exact absurd e ((I.keys k hk q).2 (by simp [e']))
   exact .inl ⟨hB,rfl,hkeep q hn hSq,fun _ _ _ _ _=>trivial⟩
  | some B1 =>
   rw [e,K0] at hB; injection hB with hB; subst hB
   obtain ⟨c,f1,f2,f3,f4⟩:=hs3.blks q B1 (hS3 q B1 e)
   obtain ⟨p1',p2'⟩:=hplace q (by simp [e])
   rw [p1'] at f1
   obtain ⟨B0',hB0'⟩:=j1.1 hSq
   obtain ⟨_,_,g2,_⟩:=h.blks q B0' hB0'
   refine .inr ⟨c,(ho4 _ (hlown q hSq)).trans f1,g2,f3,fun i x hx'=>?_⟩
   obtain ⟨u,hu,ho,hr⟩:=f4 i x hx'
   refine ⟨u,hu,ho,K2.mono (K:=fun j=>(H (k+1)).lookup j≠none) (fun b hb _=>?_) (fun j hj B' hB'=>?_) x u (I.cont (k+1) (by omega) q B1 e i x hx') hr⟩
   ·have hbok : okI FI S'.blk ρ b ∧ b ≠ l := by
     rcases hb.1 with hb1 | hb1
     ·rw [hFB] at hb1
      exact ⟨⟨hb1.1.1,fun j hj=>hb1.1.2 j (hS'n j hj)⟩,fun e=>hlok _ _ (e ▸ hb1.1)⟩
     ·rw [hw0b,hszb] at hb1
      exact ⟨⟨.inr (by omega),fun j hj e=>by have:=hne j (hS'n j hj); omega⟩,fun e=>by have:=World.size_lt hlW; omega⟩
    exact ⟨hbok.1,ho4 b hbok.2⟩
   ·obtain ⟨Bj,hBj⟩:=J3 hj
    rw [hS'b,hBj,K0] at hB'; injection hB' with hB'; subst hB'
    refine ⟨Bj,hS3 j Bj hBj,rfl,Nat.le_refl _,fun _=>⟨(hplace j hj).1.symm,fun c T fr hc=>⟨c,T,fr,?_,rfl⟩⟩⟩
    rw [(hplace j hj).1] at hc ⊢
    exact (ho4 _ (hlown j (hSH' j ((I.keys k hk j).1 hj)))).trans hc
end Go.Proofs.YtjagfionflbjbaaGreat.SH
namespace Go.Proofs.YtjagfionflbjbaaGreat.SH
open Go Go.RowKit
theorem Q0g {n:Nat}{H:Nat→List (Nat×Blk)}(keys:∀ k,k<n→∀ q,(H (k+1)).lookup q≠none↔(H k).lookup q≠none)(same:∀ k,k<n→∀ q B B',(H k).lookup q=some B→(H (k+1)).lookup q=some B'→B'.sz=B.sz∧B'.cs.len=B.cs.len) :
  ∀ k,k≤n→∀ q,((H k).lookup q≠none↔(H 0).lookup q≠none)∧∀ B B',(H 0).lookup q=some B→(H k).lookup q=some B'→B'.sz=B.sz∧B'.cs.len=B.cs.len
 | 0,_,q=>⟨Iff.rfl,fun B B' h h'=>by rw [h] at h'; injection h' with h'; subst h'; exact ⟨rfl,rfl⟩⟩
 | k+1,hk,q=>by
  obtain ⟨h1,h2⟩:=Q0g keys same k (by omega) q
  have h3:=keys k (by omega) q
  refine ⟨h3.trans h1,fun B B' h h'=>?_⟩
  obtain ⟨B1,hB1⟩:=J3 (h3.1 (by simp [h']))
  obtain ⟨a1,a2⟩:=h2 B B1 h hB1
  obtain ⟨b1,b2⟩:=same k (by omega) q B1 B' hB1 h'
  exact ⟨b1.trans a1,b2.trans a2⟩
theorem n1s {E:Env}{F:Fr}{S:St}{Q:Exit→St→Prop}{tg p1 p2 gf n nI:Nat}{asx bd c:Code}{fn:Func}{caps:List PV}{Hc Hc':List (Nat×Blk)}(H:Nat→List (Nat×Blk))(encs:Nat→J2×J2){sl:List (Nat×PV)}
  (hG:E.G F.w0) (hX:∀ b,F.X b→E.ng≤b) (hng:E.ng≤F.w0.heap.size) (hro:F.ro=none) (htg:S.slot tg=some (.clo (.func gf) [] caps)) (hle:St.le ⟨sl,Hc++H 0⟩ S)
  (eg:∀ args w,(callFunc gf args).run E.P w = .ok (.enter gf args) w) (hf:E.P.funcs[gf]? = some fn) (hb:fn.body=some c) (hn:fn.ntmps=nI) (hr:fn.results = #[]) (hcl:caps.length+1≤nI) (hlt:p1<F.nt∧p2<F.nt)
  (hdis:∀ q,Hc.lookup q≠none→∀ k,k≤n→(H k).lookup q=none)
  (keys:∀ k,k<n→∀ q,(H (k+1)).lookup q≠none↔(H k).lookup q≠none) (same:∀ k,k<n→∀ q B B',(H k).lookup q=some B→(H (k+1)).lookup q=some B'→B'.sz=B.sz∧B'.cs.len=B.cs.len)
  (cont:∀ k,k≤n→∀ j B,(H k).lookup j=some B→∀ i x,B.cs.get i=some x→∀ q,x.free q=false→(H k).lookup q≠none)
  (keysc:∀ q,Hc'.lookup q≠none→Hc.lookup q≠none) (hsl:∀ t v,sl.lookup t=some v→∀ q,v.free q=false→(H 0).lookup q≠none)
  (hit:∀ l F',XFr E (Hc++H 0) nI F'→F'.ro=none→Yields E.P F' l n encs H→l4 E.P F' c ⟨(0,.clo (.yield l) [] []) :: i3 1 caps,Hc++H 0⟩ (fun e S'=>(e = .normal∨e = .ret)∧T5 S' (Hc'++H n)))
  (hround:∀ k,k<n→∃ S1,(∀ F',XFr E (H k) F.nt F'→l4 E.P F' asx ⟨(p2,.p (encs k).2) :: (p1,.p (encs k).1) :: sl,H k⟩ (fun e S'=>e = .normal∧S1.le S')) ∧
   (∀ F',XFr E (H k) F.nt F'→l4 E.P F' bd S1 (fun e S'=>e = .normal∧T5 S' (H (k+1)))))
  (hQ:Q .normal ⟨sl,Hc'++H n⟩):l4 E.P F (.rangeFunc (.tmp tg) #[p1,p2] asx bd) S Q:=by
 refine ⟨fun nn a w ⟨ρ,h⟩=>wpIn_rangeFunc ?_⟩
 intro fid _
 have hsa:=Q0g keys same
 obtain ⟨uT,huT,hrT⟩:=h.slots tg _ htg
 simp only [K2,D3] at hrT
 obtain ⟨fs,cs,rfl,rfl,hcs⟩:=hrT
 have htgv:a.eval (.tmp tg) = .func (.func gf) #[] cs.toArray:=by simp [Act.eval,Array.getD_eq_getD_getElem?,huT]
 have h0:=h.weakR hle
 let S0:St:=⟨sl,Hc++H 0⟩
 have hS0:∀ q,S0.blk q=(Hc.lookup q).or ((H 0).lookup q):=fun q=>T1 _ _ _
 have hS0H:∀ q B,(H 0).lookup q=some B→S0.blk q=some B:=fun q B hq=>by
  rw [hS0]
  cases e:Hc.lookup q with
  | none=>simp [hq]
  | some B'=>have:=hdis q (by simp [e]) 0 (by omega); rw [hq] at this; cases this
 obtain ⟨W1,hW1⟩:∃ W1,W1=(w.alloc (.deferred (some []))).alloc (.loop (mkL fid a.tmps p1 p2 asx bd w.heap.size .ready none)):=⟨_,rfl⟩
 have hsz1:W1.heap.size=w.heap.size+2:=by rw [hW1]; simp
 have hl1:W1.heap[w.heap.size+1]? = some (.loop (mkL fid a.tmps p1 p2 asx bd w.heap.size .ready none)):=by
  rw [hW1]; have:=World.alloc_heap_new (w.alloc (.deferred (some []))) (.loop (mkL fid a.tmps p1 p2 asx bd w.heap.size .ready none)); rwa [World.size_alloc] at this
 have hD1:W1.heap[w.heap.size]? = some (.deferred (some [])):=by
  rw [hW1]; exact (Below.heap_alloc _ _ _ (by simp)).trans (World.alloc_heap_new w _)
 have hold1:∀ b,b<w.heap.size→W1.heap[b]? = w.heap[b]?:=fun b hb=>by
  rw [hW1]; exact (Below.heap_alloc _ _ _ (by simp; omega)).trans (Below.heap_alloc _ _ _ hb)
 have hos1:W1.os=w.os∧W1.tape=w.tape∧W1.output=w.output:=by rw [hW1]; exact ⟨rfl,rfl,rfl⟩
 have hfsz:=h.frame.size
 have hne:∀ q,S0.blk q≠none→ρ q<w.heap.size:=fun q hq=>by
  obtain ⟨B,hB⟩:=j1.1 hq
  obtain ⟨c,e1,_⟩:=h0.blks q B hB; exact World.size_lt e1
 have hXng:∀ q,S0.blk q≠none→E.ng≤ρ q:=fun q hq=>by
  obtain ⟨B,hB⟩:=j1.1 hq
  obtain ⟨_,_,e2,_⟩:=h0.blks q B hB
  rcases e2 with e2 | e2
  ·exact hX _ e2.1
  ·omega
 obtain ⟨FI,hFI⟩:∃ FI:Fr,FI=⟨W1,fun b=>okI F S0.blk ρ b∧b<w.heap.size,fun b=>∃ q,S0.blk q≠none∧b=ρ q,nI,[],fun q=>if S0.blk q≠none then match hp w (ρ q) with | some (.cells c _ _)=>some (ρ q,c.size) | _=>none else none,none,fun _ _=>False,fun q=>(S0.blk q).isNone⟩:=⟨_,rfl⟩
 have iw:FI.w0=W1:=by rw [hFI]
 have ix:∀ b,FI.X b↔∃ q,S0.blk q≠none∧b=ρ q:=fun b=>by rw [hFI]
 have ik:∀ b,FI.okA b↔okI F S0.blk ρ b∧b<w.heap.size:=fun b=>by rw [hFI]
 have ipin:∀ q B c,S0.blk q=some B→hp w (ρ q)=some (.cells c B.T (0,0))→FI.pin q=some (ρ q,c.size):=fun q B c h1 h2=>by
  rw [hFI]; simp only; rw [if_pos (by rw [h1]; simp),h2]
 have iXlt:∀ b,FI.X b→b<w.heap.size:=fun b hb=>by obtain ⟨q,h1,h2⟩:=(ix b).1 hb; rw [h2]; exact hne q h1
 have hGw:E.G w:=E.stab F.w0 w hG fun b hb=>h.frame.block b (by omega) (fun hx'=>by have:=hX b hx'; omega)
 have hG1:E.G W1:=E.stab w W1 hGw fun b hb=>hold1 b (by omega)
 have iX:XFr E (Hc++H 0) nI FI:=⟨by rw [iw]; exact hG1,fun b hb=>by obtain ⟨q,h1,h2⟩:=(ix b).1 hb; rw [h2]; exact hXng q h1,by rw [hFI],by rw [hFI],fun q hq=>by
  rw [hFI]; simp only; rw [if_neg (by show ¬ (S0.blk q≠none); simp only [S0,St.blk]; simp [hq])],fun q=>by rw [hFI]; rfl,by rw [iw]; omega⟩
 have hcarW:∀ {ρ' S' a' W},b5 FI ρ' S' a' W→Carry (okI F S0.blk ρ) (okI FI S'.blk ρ') (hp w) (hp W):=fun {ρ' S' a' W} hs b hb hne'=>by
  have hbs:b<w.heap.size:=by obtain ⟨o,ho⟩:=j1.1 hne'; exact World.size_lt ho
  have hnX:¬ FI.X b:=fun hx'=>by obtain ⟨q,h1,h2⟩:=(ix b).1 hx'; exact hb.2 q h1 h2
  refine ⟨⟨.inl ((ik b).2 ⟨hb,hbs⟩),fun q hq e=>?_⟩,(hs.frame.block b (by rw [iw]; omega) hnX).trans (by rw [iw]; exact hold1 b hbs)⟩
  obtain ⟨B,hB⟩:=j1.1 hq
  obtain ⟨_,_,e2,_⟩:=hs.blks q B hB
  rw [← e] at e2
  rcases e2 with e2 | e2
  ·exact hnX e2.1
  ·rw [iw] at e2; omega
 have hpinW:∀ {ρ' S' a' W},b5 FI ρ' S' a' W→∀ q B,S0.blk q=some B→S'.blk q≠none→ρ' q=ρ q∧∀ c T,hp w (ρ q)=some (.cells c T (0,0))→∃ c' T',hp W (ρ q)=some (.cells c' T' (0,0))∧c'.size=c.size:=fun {ρ' S' a' W} hs q B hB hS'=>by
  obtain ⟨c,e1,_⟩:=h0.blks q B hB
  obtain ⟨q1,c',T',q2,q3⟩:=hs.pin q _ _ (ipin q B c hB e1) hS'
  refine ⟨q1,fun c2 T2 h2=>⟨c',T',q2,?_⟩⟩
  rw [e1] at h2; injection h2 with h2; injection h2 with h2; rw [q3,h2]
 have hkeepW:∀ {ρ' S' a' W} (β:Nat→Option Blk),b5 FI ρ' S' a' W→∀ k,k≤n→(∀ q B,(H k).lookup q=some B→S'.blk q=some B)→(∀ q,(H 0).lookup q≠none→∀ B,β q=some B→(H k).lookup q=some B)→b0q (fun q=>(H 0).lookup q≠none) S0.blk β ρ ρ' (hp w) (hp W):=fun {ρ' S' a' W} β hs k hk hH hβ q hq B' hB'=>by
  have hB':=hβ q hq B' hB'
  obtain ⟨B0,hB0⟩:=J3 hq
  obtain ⟨s1,s2⟩:=(hsa k hk q).2 B0 B' hB0 hB'
  have hb0:=hS0H q B0 hB0
  obtain ⟨q1,q2⟩:=hpinW hs q B0 hb0 (by rw [hH q B' hB']; simp)
  refine ⟨B0,hb0,s1,by omega,fun _=>⟨q1,fun c T fr hc=>?_⟩⟩
  obtain ⟨c0,e1,_⟩:=h0.blks q B0 hb0
  have hc':=hc
  rw [e1] at hc'; injection hc' with hc'; injection hc' with r1 r2 r3; subst r1
  obtain ⟨c',T',g1,g2⟩:=q2 _ _ e1
  exact ⟨c',T',(0,0),g1,g2⟩
 have hIt:N1z FI (w.heap.size+1) w.heap.size (mkL fid a.tmps p1 p2 asx bd w.heap.size .ready none) H n:=by
  refine ⟨by rw [hFI],by rw [iw]; exact hl1,fun hh=>by have:=iXlt _ hh; omega,fun hh=>by have:=((ik _).1 hh).2; omega,by rw [iw]; omega,fun k hk q B hq=>?_,keys,same,fun k hk q hq=>?_,cont⟩
  ·obtain ⟨B0,hB0⟩:=J3 ((hsa k hk q).1.1 (by simp [hq]))
   obtain ⟨c,e1,_⟩:=h0.blks q B0 (hS0H q B0 hB0)
   exact ⟨_,_,ipin q B0 c (hS0H q B0 hB0) e1⟩
  ·obtain ⟨B0,hB0⟩:=J3 ((hsa k hk q).1.1 hq)
   rw [hFI]; simp only; rw [hS0H q B0 hB0]; rfl
 have hY:Yields E.P FI (w.heap.size+1) n encs H:=by
  refine h1w (nt:=F.nt) (sl:=sl) hIt (by rw [iw]; exact hG1) iX.x iX.ng (by omega) h.nt hlt (fun k hk ρ' S' a' W hs hH t v ht=>?_) hround
  obtain ⟨u,hu,hr'⟩:=h0.slots t v ht
  refine ⟨u,hu,K2.mono (hcarW hs) (hkeepW (lk (H k)) hs k hk hH (fun q _ B hB=>hB)) v u (hsl t v ht) hr'⟩
 refine ⟨w.heap.size+1,[{ target:=.collected w.heap.size,args:=#[] }],W1,{ target:=.fn (.func gf) cs.toArray,args:=#[.func (.yield (w.heap.size+1)) #[] #[]] },W1,gf,#[.func (.yield (w.heap.size+1)) #[] #[]]++cs.toArray,W1,?_,?_,fun _ _=>trivial,?_,fun hh=>by simp [Fence.wide] at hh,?_⟩
 ·show (Instr.enterLoop fid a.tmps #[p1,p2] asx bd F.ro).run E.P w=_
  rw [hro,hW1]; exact run_enterLoop_outer _ _ _ _ _
 ·simp only [resolve,rangeCall,htgv]; simp [Deferred.ofValue,Act.eval]
 ·simp [invoke,eg]
 have hfw:fen F=Fence.wide:=by simp [fen,hro,Fence.wide]
 rw [hfw]
 refine callsIn_wide.2 ?_
 rw [show (#[Value.func (.yield (w.heap.size+1)) #[] #[]]++cs.toArray:Array Value)=(Value.func (.yield (w.heap.size+1)) #[] #[] :: cs).toArray by simp]
 have hcl':cs.length=caps.length:=F5 hcs
 have hSI:b5 FI ρ ⟨(0,.clo (.yield (w.heap.size+1)) [] []) :: i3 1 caps,Hc++H 0⟩ { tmps:=(Value.func (.yield (w.heap.size+1)) #[] #[] :: cs).toArray++Array.replicate (fn.ntmps - (Value.func (.yield (w.heap.size+1)) #[] #[] :: cs).toArray.size) undef,defers:=[] } W1:=by
  have hcar:Carry (okI F S.blk ρ) (okI FI (St.blk ⟨(0,.clo (.yield (w.heap.size+1)) [] []) :: i3 1 caps,Hc++H 0⟩) ρ) (hp w) (hp W1):=fun b hb hne'=>by
   have hbs:b<w.heap.size:=by obtain ⟨o,ho⟩:=j1.1 hne'; exact World.size_lt ho
   have hsub:∀ q,S0.blk q≠none→S.blk q≠none:=fun q hq=>by obtain ⟨B,hB⟩:=j1.1 hq; rw [hle.2 q B hB]; simp
   exact ⟨⟨.inl ((ik b).2 ⟨⟨hb.1,fun q hq=>hb.2 q (hsub q hq)⟩,hbs⟩),fun q hq=>hb.2 q (hsub q hq)⟩,hold1 b hbs⟩
  have hkp:b0q (fun _=>True) S.blk (St.blk ⟨(0,.clo (.yield (w.heap.size+1)) [] []) :: i3 1 caps,Hc++H 0⟩) ρ ρ (hp w) (hp W1):=fun q _ B hB=>⟨B,hle.2 q B hB,rfl,Nat.le_refl _,fun _=>⟨rfl,fun c T fr hc=>⟨c,T,fr,(hold1 _ (hne q (by have hB':S0.blk q=some B:=hB; simp [hB']))).trans hc,rfl⟩⟩⟩
  refine h.move (Kp:=fun _=>True) (by rw [hFI]; exact ⟨rfl,rfl,rfl,Nat.le_refl _,fun _ _ _=>rfl⟩) (by rw [iX.nt]; simp [hn,hcl']; omega) (g0z.nil iX.df) hcar hkp (fun q q' h1 h2 e=>h0.inj q q' h1 h2 e) (fun j b m hj hS=>?_) (fun t v ht=>.inr ?_) (fun q B hB=>.inl ⟨hle.2 q B hB,rfl,hold1 _ (hne q (by have hB':S0.blk q=some B:=hB; simp [hB'])),.inl ⟨(ix _).2 ⟨q,by have hB':S0.blk q=some B:=hB; simp [hB'],rfl⟩,by have hB':S0.blk q=some B:=hB; rw [hFI]; simp [hB']⟩,fun _ _ _ _ _=>trivial⟩)
  ·have hS':S0.blk j≠none:=hS
   obtain ⟨B,hB⟩:=j1.1 hS'
   obtain ⟨c,e1,_⟩:=h0.blks j B hB
   rw [ipin j B c hB e1] at hj
   injection hj with hj; injection hj with hj1 hj2
   subst hj1 hj2
   exact ⟨rfl,c,B.T,(hold1 _ (hne j hS')).trans e1,rfl⟩
  ·simp only [St.slot,i0] at ht
   split at ht
   ·rename_i e; injection ht with ht; subst ht
    obtain rfl:t=0:=by simpa using e
    exact ⟨.func (.yield (w.heap.size+1)) #[] #[],by rw [Array.getElem?_append_left (by simp)]; simp,by simp [K2,D3]⟩
   ·obtain ⟨j,rfl,hx⟩:=e8 ht
    obtain ⟨u,hu,hru⟩:=L6 hcs hx
    refine ⟨u,?_,K2.mono hcar hkp v u (fun _ _=>trivial) hru⟩
    have hjl:=(i1.1 hu).1
    rw [Array.getElem?_append_left (by simp; omega)]
    simp [Nat.add_comm 1 j,hu]
 refine Y8 hf hb (by rw [hFI]) iX.df (by rw [hFI]; exact fun _ _ h=>h) ⟨ρ,hSI⟩ (hit _ FI iX (by rw [hFI]) hY) fun e SE hq=>⟨hq.1,fun ρE tmps W2 hE=>?_⟩
 have hHB:=hq.2
 refine ⟨.tuple #[],by unfold results; rw [hr]; simp,?_⟩
 have hSE:∀ q B,(Hc'++H n).lookup q=some B→SE.blk q=some B:=fun q B hq=>hHB.all q B hq
 have hl2:W2.heap[w.heap.size+1]? = some (.loop (mkL fid a.tmps p1 p2 asx bd w.heap.size .ready none)):=(hE.frame.block _ (by rw [iw]; omega) (fun hh=>by have:=iXlt _ hh; omega)).trans (by rw [iw]; exact hl1)
 have hD2:W2.heap[w.heap.size]? = some (.deferred (some [])):=(hE.frame.block _ (by rw [iw]; omega) (fun hh=>by have:=iXlt _ hh; omega)).trans (by rw [iw]; exact hD1)
 obtain ⟨W4,hW4⟩:∃ W4,W4=W2.putObj (w.heap.size+1) (.loop (mkL fid a.tmps p1 p2 asx bd w.heap.size .exhausted none)):=⟨_,rfl⟩
 have hend:(Instr.endLoop (w.heap.size+1)).run E.P W2 = .ok none W4:=by rw [hW4]; exact run_endLoop hl2 (by simp [mkL])
 refine ⟨none,W4,hend,?_⟩
 have hother:∀ b,b≠w.heap.size+1→W4.heap[b]? = W2.heap[b]?:=fun b hb=>by rw [hW4]; exact World.putObj_heap_other hb
 have hsz2:=hE.frame.size
 rw [iw] at hsz2
 have hown:∀ q,SE.blk q≠none→ρE q≠w.heap.size+1∧ρE q≠w.heap.size:=fun q hq=>by
  obtain ⟨B,hB⟩:=j1.1 hq
  obtain ⟨c2,q1,_⟩:=hE.blks q B hB
  refine ⟨fun e2=>?_,fun e2=>?_⟩
  ·rw [e2] at q1
   have:hp W2 (w.heap.size+1)=some (.loop (mkL fid a.tmps p1 p2 asx bd w.heap.size .ready none)):=hl2
   rw [this] at q1; cases q1
  ·rw [e2] at q1
   have:hp W2 w.heap.size=some (.deferred (some [])):=hD2
   rw [this] at q1; cases q1
 have hend0:∀ q B,(Hc'++H n).lookup q=some B→∃ B0,S0.blk q=some B0:=fun q B hq=>by
  rw [T1] at hq
  cases e:Hc'.lookup q with
  | some B1 =>
   obtain ⟨B0,hB0⟩:=J3 (keysc q (by simp [e]))
   exact ⟨B0,by rw [hS0,hB0]; rfl⟩
  | none =>
   rw [e,l0] at hq
   obtain ⟨B0,hB0⟩:=J3 ((hsa n (Nat.le_refl _) q).1.1 (by simp [hq]))
   exact ⟨B0,hS0H q B0 hB0⟩
 have hplace:∀ q B,(Hc'++H n).lookup q=some B→ρE q=ρ q:=fun q B hq=>by
  obtain ⟨B0,hB0⟩:=hend0 q B hq
  exact (hpinW hE q B0 hB0 (by rw [hSE q B hq]; simp)).1
 have hlI:∀ b,okI FI SE.blk ρE b→b≠w.heap.size+1:=fun b hb e=>by
  subst e
  rcases hb.1 with hb1 | hb1
  ·exact hIt.lok hb1
  ·rw [iw] at hb1; omega
 have hokE:∀ b,okI FI SE.blk ρE b→okI F (St.blk ⟨sl,Hc'++H n⟩) ρE b:=fun b hb=>by
  refine ⟨?_,fun q hq=>?_⟩
  ·rcases hb.1 with hb1 | hb1
   ·exact ((ik b).1 hb1).1.1
   ·rw [iw] at hb1; exact .inr (by omega)
  ·obtain ⟨B,hB⟩:=j1.1 hq
   exact hb.2 q (by rw [hSE q B hB]; simp)
 have hnX:∀ b,b<F.w0.heap.size→¬ F.X b→¬ FI.X b:=fun b hb hx' hh=>by
  obtain ⟨q,h1,h2⟩:=(ix b).1 hh
  obtain ⟨B,hB⟩:=j1.1 h1
  obtain ⟨_,_,e2,_⟩:=h0.blks q B hB
  rw [← h2] at e2
  rcases e2 with e2 | e2
  ·exact hx' e2.1
  ·omega
 refine .inl ⟨⟨sl,Hc'++H n⟩,hQ,ρE,?_⟩
 have hfr4:B0d F W4:=by
  have hfE:=hE.frame
  refine ⟨?_,?_,?_,?_,fun b hb hx'=>?_⟩
  ·rw [hW4]; show W2.os=_; rw [hfE.os,iw,hos1.1]; exact h.frame.os
  ·rw [hW4]; show W2.tape=_; rw [hfE.tape,iw,hos1.2.1]; exact h.frame.tape
  ·rw [hW4]; show W2.output=_; rw [hfE.output,iw,hos1.2.2]; exact h.frame.output
  ·rw [hW4]; simp; omega
  ·rw [hother b (by omega),hfE.block b (by rw [iw]; omega) (hnX b hb hx'),iw,hold1 b (by omega)]; exact h.frame.block b hb hx'
 obtain ⟨Ds,d1,d2,d3⟩:=h.df
 have hcar4:Carry (okI FI SE.blk ρE) (okI F (St.blk ⟨sl,Hc'++H n⟩) ρE) (hp W2) (hp W4):=fun b hb _=>⟨hokE b hb,hother b (hlI b hb)⟩
 have hkeep4:b0q (fun _=>True) SE.blk (St.blk ⟨sl,Hc'++H n⟩) ρE ρE (hp W2) (hp W4):=fun q _ B hB=>⟨B,hSE q B hB,rfl,Nat.le_refl _,fun _=>⟨rfl,fun c T fr hc=>⟨c,T,fr,(hother _ (hown q (by rw [hSE q B hB]; simp)).1).trans hc,rfl⟩⟩⟩
 have hsub:∀ q,St.blk ⟨sl,Hc'++H n⟩ q≠none→SE.blk q≠none:=fun q hq=>by
  obtain ⟨B,hB⟩:=j1.1 hq
  rw [hSE q B hB]; simp
 refine hE.move (Kp:=fun _=>True) hfr4 h.nt ⟨w.heap.size :: Ds,by rw [d1]; rfl,List.nodup_cons.2 ⟨fun hm=>?_,d2⟩,fun D' hD'=>?_⟩ hcar4 hkeep4 (fun q q' h1 h2 e=>hE.inj q q' (hsub q h1) (hsub q' h2) e) (fun j b m hj hS=>?_) (fun t v ht=>.inr ?_) (fun q B hB=>.inl ⟨hSE q B hB,rfl,hother _ (hown q (by rw [hSE q B hB]; simp)).1,?_,fun _ _ _ _ _=>trivial⟩)
 ·obtain ⟨_,q2⟩:=d3 _ hm; have:=World.size_lt q2; omega
 ·rcases List.mem_cons.1 hD' with rfl | hD'
  ·exact ⟨hfsz,(hother _ (by omega)).trans hD2⟩
  ·obtain ⟨q1,q2⟩:=d3 D' hD'
   have hlt':=World.size_lt q2
   refine ⟨q1,(hother _ (by omega)).trans ((hE.frame.block D' (by rw [iw]; omega) (fun hh=>?_)).trans (by rw [iw]; exact (hold1 _ hlt').trans q2))⟩
   obtain ⟨q,h1,h2⟩:=(ix _).1 hh
   obtain ⟨B,hB⟩:=j1.1 h1
   obtain ⟨c,e1,_⟩:=h0.blks q B hB
   have:hp w D'=some (.deferred (some [])):=q2
   rw [← h2,this] at e1; cases e1
 ·obtain ⟨B,hB⟩:=j1.1 hS
  obtain ⟨B0,hB0⟩:=hend0 j B hB
  obtain ⟨q1,c,T,q2,q3⟩:=h0.pin j b m hj (by show S0.blk j≠none; rw [hB0]; simp)
  obtain ⟨r1,r2⟩:=hpinW hE j B0 hB0 (by rw [hSE j B hB]; simp)
  rw [← q1] at q2
  obtain ⟨c',T',g1,g2⟩:=r2 c T q2
  refine ⟨r1.trans q1,c',T',?_,g2.trans q3⟩
  rw [← q1]
  exact (hother _ (by rw [← r1]; exact (hown j (by rw [hSE j B hB]; simp)).1)).trans g1
 ·obtain ⟨u,hu,hr'⟩:=h0.slots t v ht
  refine ⟨u,hu,?_⟩
  have m1:=K2.mono (hcarW hE) (hkeepW (fun q=>(Hc'++H n).lookup q) hE n (Nat.le_refl _) (fun q B hq=>?_) (fun q hq B hB=>?_)) v u (hsl t v ht) hr'
  ·exact K2.mono (K:=fun _=>True) hcar4 (fun q _ B hB=>⟨B,hB,rfl,Nat.le_refl _,fun _=>⟨rfl,fun c T fr hc=>⟨c,T,fr,(hother _ (hown q (by rw [hSE q B hB]; simp)).1).trans hc,rfl⟩⟩⟩) v u (fun _ _=>trivial) m1
  ·refine hSE q B ?_
   rw [T1]
   cases e:Hc'.lookup q with
   | none=>simp [hq]
   | some B1=>have:=hdis q (keysc q (by simp [e])) n (Nat.le_refl _); rw [hq] at this; cases this
  ·rw [T1] at hB
   cases e:Hc'.lookup q with
   | none=>rw [e,l0] at hB; exact hB
   | some B1=>exact absurd (hdis q (keysc q (by simp [e])) 0 (by omega)) hq
 ·obtain ⟨B0,hB0⟩:=hend0 q B hB
  rw [hplace q B hB]
  obtain ⟨_,_,e2,_⟩:=h0.blks q B0 hB0
  exact e2
end Go.Proofs.YtjagfionflbjbaaGreat.SH
namespace Go.Proofs.YtjagfionflbjbaaGreat.SH
open Go Go.RowKit
theorem W0s {H H':List (Nat×Blk)}(h:H'.map (·.1)=H.map (·.1))(j:Nat):H'.lookup j≠none↔H.lookup j≠none:=by
 have:∀ l:List (Nat×Blk),l.lookup j≠none↔j∈l.map (·.1):=by
  intro l
  induction l with
  | nil=>simp
  | cons p l ih =>
   obtain ⟨s,u⟩:=p
   rw [i0]
   by_cases e:j=s
   ·simp [e]
   ·rw [show (j == s)=false by simpa using e]
    simp only [R0,List.mem_cons,e,false_or]
    exact ih
 rw [this,this,h]
inductive k0x (κ:Nat→Nat):List (Nat×Blk)→List (Nat×Blk)→Prop
 | nil:k0x κ [] []
 | cons {j k:Nat} {B B':Blk} {H H':List (Nat×Blk)}:κ j=k→B'=B.ren κ→k0x κ H H'→k0x κ ((j,B) :: H) ((k,B') :: H')
theorem k0x.mem {κ:Nat→Nat}{H Hc:List (Nat×Blk)}(h:k0x κ H Hc):∀ j B,(j,B)∈H→(κ j,B.ren κ)∈Hc:=by
 induction h with
 | nil=>intro j B h; cases h
 | cons a b _ ih =>
  intro j B hm
  rcases List.mem_cons.1 hm with e | hm
  ·injection e with e1 e2; subst e1 e2; subst a b; simp
  ·exact List.mem_cons_of_mem _ (ih j B hm)
theorem k0x.lk {κ:Nat→Nat}{H Hc:List (Nat×Blk)}(h:k0x κ H Hc)(inj:∀ j j',H.lookup j≠none→H.lookup j'≠none→κ j=κ j'→j=j'):∀ j B,H.lookup j=some B→Hc.lookup (κ j)=some (B.ren κ):=by
 induction h with
 | nil=>intro j B h; simp at h
 | @cons i k B0 B1 H H' a b _ ih =>
  intro j B hj
  subst a b
  rw [i0] at hj ⊢
  by_cases e:j=i
  ·subst e
   simp only [BEq.rfl,U0] at hj ⊢
   rw [hj]
  ·rw [show (j == i)=false by simpa using e] at hj
   have hne:¬ κ j=κ i:=fun e2=>e (inj j i (by rw [i0,show (j == i)=false by simpa using e]; simp [hj]) (by rw [i0]; simp) e2)
   rw [show (κ j == κ i)=false by simpa using hne]
   refine ih (fun p p' h1 h2 e2=>?_) j B hj
   have ex:∀ q,H.lookup q≠none→List.lookup q ((i,B0) :: H)≠none:=fun q hq=>by rw [i0]; split <;> simp [hq]
   exact inj p p' (ex p h1) (ex p' h2) e2
theorem k0x.back {κ:Nat→Nat}{H Hc:List (Nat×Blk)}(h:k0x κ H Hc):∀ k B',Hc.lookup k=some B'→∃ j B,κ j=k∧(j,B)∈H∧B'=B.ren κ:=by
 induction h with
 | nil=>intro k B' h; simp at h
 | @cons i k0 B0 B1 H H' a b _ ih =>
  intro k B' hk
  rw [i0] at hk
  split at hk
  ·rename_i e; injection hk with hk; subst hk
   exact ⟨i,B0,by rw [a]; exact (by simpa using e:k=k0).symm,by simp,b⟩
  ·obtain ⟨j,B,h1,h2,h3⟩:=ih k B' hk
   exact ⟨j,B,h1,by simp [h2],h3⟩
structure GH (κ:Nat→Nat) (H H' Hc Hc':List (Nat×Blk)):Prop where
 ren:k0x κ H Hc
 ren':k0x κ H' Hc'
 inj:∀ j j',H.lookup j≠none→H.lookup j'≠none→κ j=κ j'→j=j'
 keys:H'.map (·.1)=H.map (·.1)
 nd:(H.map (·.1)).Nodup
 same:∀ j B B',H.lookup j=some B→H'.lookup j=some B'→B'.sz=B.sz∧B'.cs.len=B.cs.len
 cont:∀ j B,H'.lookup j=some B→∀ i x,B.cs.get i=some x→∀ q,x.free q=false→H'.lookup q≠none
theorem V5:∀ {H:List (Nat×Blk)},(H.map (·.1)).Nodup→∀ {j:Nat} {B:Blk},(j,B)∈H→H.lookup j=some B
 | [],_,j,B,h=>by cases h
 | (k,C) :: H,hn,j,B,h=>by
  rw [R0,List.nodup_cons] at hn
  rw [i0]
  rcases List.mem_cons.1 h with h0 | h0
  ·injection h0 with h1 h2; subst h1 h2; simp
  ·have:j≠k:=fun e=>by subst e; exact hn.1 (G0.2 ⟨(j,B),h0,rfl⟩)
   rw [show (j == k)=false by simpa using this]
   exact V5 hn.2 h0
theorem b1r {E:Env}{st:Nat→Bool}{F:Fr}(hG:E.G F.w0)(hX:∀ b,F.X b→E.ng≤b)(hng:E.ng≤F.w0.heap.size){d:Nat}{f:FuncId}{dst:Option Nat}{op:Op}{T:TypeId}{pos:String}{aft:Array Edge}{g:Option (Nat×Bool)}{rs:List (Operand×PV)}{xs:List PV}{H H' Hc Hc':List (Nat×Blk)}{r r':PV}(κ:Nat→Nat)(hst:∀ j,H.lookup j≠none→st j=true)(hs:I4 E st f xs H H' r)(hd:dst=some d)(hlt:d<F.nt)
  (hargs:∀ ρ S a w,b5 F ρ S a w→(∀ p∈rs,S.opd p.1=some p.2)→∃ vals:List Value,(execOp a.eval ⟨dst,op,T,pos,aft,g⟩).run E.P w = .ok (.enter f vals.toArray) w∧D3 S.blk ρ (okI F S.blk ρ) (hp w) (xs.map (PV.ren κ)) vals)
  (h:GH κ H H' Hc Hc') (hr':r'=r.ren κ) (hres:∀ q,r.free q=false→H'.lookup q≠none):O2 E.P F ⟨dst,op,T,pos,aft,g⟩ ⟨rs,Hc,none,[(d,r')],Hc'⟩:=by
 intro S a w hS hA Q K hK
 subst hr'
 have hkeys:=W0s h.keys
 have h1:∀ j B,H.lookup j=some B→S.blk (κ j)=some (B.ren κ):=fun j B hj=>hA.rb (κ j,B.ren κ) (h.ren.mem j B (O3 hj))
 have nd':(H'.map (·.1)).Nodup:=by rw [h.keys]; exact h.nd
 have hb':∀ k,(S.app ⟨rs,Hc,none,[(d,r.ren κ)],Hc'⟩).blk k=(Hc'.lookup k).or (S.blk k):=fun k=>St.app_blk _ _ _
 have inj':∀ j j',(H.lookup j≠none∨H'.lookup j≠none)→(H.lookup j'≠none∨H'.lookup j'≠none)→κ j=κ j'→j=j':=fun j j' a b e =>
  h.inj j j' (a.elim id (hkeys j).1) (b.elim id (hkeys j').1) e
 have hc':∀ j B,H'.lookup j=some B→Hc'.lookup (κ j)=some (B.ren κ):=h.ren'.lk fun j j' a b e=>inj' j j' (.inr a) (.inr b) e
 have hstay:∀ q,D0r st S (S.app ⟨rs,Hc,none,[(d,r.ren κ)],Hc'⟩) κ H H' q:=fun q=>by
  by_cases hq:∃ j,κ j=q∧H.lookup j≠none
  ·obtain ⟨j,rfl,hj⟩:=hq
   obtain ⟨B0,hB0⟩:=J3 hj
   obtain ⟨B1,hB1⟩:=J3 ((hkeys j).2 hj)
   obtain ⟨s1,s2⟩:=h.same j B0 B1 hB0 hB1
   exact .inr (.inr ⟨j,B0,B1,rfl,hst j hj,hB0,hB1,s1,s2⟩)
  ·have hq':∀ j,(H.lookup j≠none∨H'.lookup j≠none)→κ j≠q:=fun j hj e=>hq ⟨j,e,hj.elim id (hkeys j).1⟩
   refine .inr (.inl ⟨?_,hq'⟩)
   rw [hb']
   cases e:Hc'.lookup q with
   | none=>simp
   | some B' =>
    obtain ⟨j,B,e1,e2,_⟩:=h.ren'.back q B' e
    exact absurd e1 (hq' j (.inr (by rw [V5 nd' e2]; simp)))
 have C:w1y st F S (S.app ⟨rs,Hc,none,[(d,r.ren κ)],Hc'⟩) κ H H' r d:=by
  refine ⟨h1,inj',fun i j _ hj _ hf=>(by rw [hst j hj] at hf; cases hf),fun k B' hk=>?_,fun t v ht=>?_,hres,h.cont,fun j hj _=>⟨(hkeys j).1 hj,hst j ((hkeys j).1 hj)⟩⟩
  ·rw [hb'] at hk
   cases e:Hc'.lookup k with
   | some B1 =>
    rw [e,K0] at hk; injection hk with hk; subst hk
    obtain ⟨j,B,e1,e2,e3⟩:=h.ren'.back k B1 e
    exact .inl ⟨j,B,e1,V5 nd' e2,e3⟩
   | none =>
    rw [e,l0] at hk
    refine .inr ⟨hk,fun j hj e1=>?_,fun i x _ q _=>hstay q⟩
    obtain ⟨B,hB⟩:=J3 (hj.elim (hkeys j).2 id)
    rw [← e1,hc' j B hB] at e; cases e
  ·rw [St.app_slot] at ht
   simp only [i0,List.lookup_nil] at ht
   by_cases e:t=d
   ·subst e; simp only [BEq.rfl,K0,U0] at ht; exact .inl ⟨rfl,ht.symm⟩
   ·rw [show (t == d)=false by simpa using e,l0] at ht
    exact .inr ⟨e,ht,fun q _=>hstay q⟩
 exact Q0k hG hX hng κ hs (o:=⟨dst,op,T,pos,aft,g⟩) hd hlt (fun ρ a w hS=>by
  obtain ⟨vals,v1,v2⟩:=hargs ρ S a w hS hA.rs
  exact ⟨vals,v1,by rw [d0z]; exact v2⟩) C a w hS Q K hK
end Go.Proofs.YtjagfionflbjbaaGreat.SH
namespace Go.Proofs.YtjagfionflbjbaaGreat.SH
open Go Go.RowKit
mutual
theorem PV.ren_id:∀ x:PV,x.ren (fun j=>j)=x
 | .p _=>rfl
 | .at_ _ _ _=>rfl
 | .im _ _=>rfl
 | .ref _ _ _ _=>rfl
 | .agg xs=>by simp only [PV.ren]; rw [PV.renL_id xs]
 | .tup xs=>by simp only [PV.ren]; rw [PV.renL_id xs]
 | .clo _ a b=>by simp only [PV.ren]; rw [PV.renL_id a,PV.renL_id b]
 | .ifc _ x=>by simp only [PV.ren]; rw [PV.ren_id x]
 | .dead=>rfl
theorem PV.renL_id:∀ xs:List PV,PV.renL (fun j=>j) xs=xs
 | []=>rfl
 | x :: xs=>by simp only [PV.renL]; rw [PV.ren_id x,PV.renL_id xs]
end
theorem y0s (xs:List PV):xs.map (PV.ren fun j=>j)=xs:=by rw [← d0z,PV.renL_id]
theorem Blk.ren_id (B:Blk):B.ren (fun j=>j)=B:=by
 obtain ⟨T,sz,cs⟩:=B
 cases cs with
 | pure xs=>rfl
 | mix vs=>simp only [Blk.ren,Cells.ren,y0s]
theorem k0x.id:∀ H:List (Nat×Blk),k0x (fun j=>j) H H
 | []=>.nil
 | (j,B) :: H=>.cons rfl (Blk.ren_id B).symm (k0x.id H)
def Whole (H:List (Nat×Blk)):Prop:=∀ j B,H.lookup j=some B→∀ i x,B.cs.get i=some x→∀ q,x.free q=false→H.lookup q≠none
theorem s5 {E:Env}{F:Fr}(hG:E.G F.w0)(hX:∀ b,F.X b→E.ng≤b)(hng:E.ng≤F.w0.heap.size){d:Nat}{f:FuncId}{dst:Option Nat}{op:Op}{T:TypeId}{pos:String}{aft:Array Edge}{g:Option (Nat×Bool)}{rs:List (Operand×PV)}{xs:List PV}{H:List (Nat×Blk)}{r:PV}(hs:I4 E (fun _=>true) f xs H H r)(hd:dst=some d)(hlt:d<F.nt)
  (hargs:∀ ρ S a w,b5 F ρ S a w→(∀ p∈rs,S.opd p.1=some p.2)→∃ vals:List Value,(execOp a.eval ⟨dst,op,T,pos,aft,g⟩).run E.P w = .ok (.enter f vals.toArray) w∧D3 S.blk ρ (okI F S.blk ρ) (hp w) xs vals)
  (nd:(H.map (·.1)).Nodup) (hw:Whole H) (hres:∀ q,r.free q=false→H.lookup q≠none):O2 E.P F ⟨dst,op,T,pos,aft,g⟩ ⟨rs,H,none,[(d,r)],[]⟩:=by
 intro S a w hS hA Q K hK
 refine b1r hG hX hng (fun j=>j) (fun _ _=>rfl) hs hd hlt (by rw [y0s]; exact hargs) ⟨k0x.id H,k0x.id H,fun _ _ _ _ h=>h,rfl,nd,fun j B B' h h'=>by rw [h] at h'; injection h' with h'; subst h'; exact ⟨rfl,rfl⟩,hw⟩ (PV.ren_id r).symm hres S a w hS ⟨hA.rs,hA.rb,hA.fresh⟩ Q K fun a' w' hS'=>hK a' w' (hS'.congr (fun t=>?_) fun k=>?_)
 ·rw [St.app_slot,St.app_slot]
 ·rw [St.app_blk,St.app_blk]
  cases e:H.lookup k with
  | none=>simp
  | some B=>rw [hA.rb (k,B) (O3 e)]; simp
theorem J1g {E:Env}{st:Nat→Bool}{F:Fr}(hG:E.G F.w0)(hX:∀ b,F.X b→E.ng≤b)(hng:E.ng≤F.w0.heap.size){ops:Array Oper}{d:Nat}{f:FuncId}{op:Op}{T:TypeId}{pos:String}{aft:Array Edge}{xs:List PV}{S:St}{H H':List (Nat×Blk)}{r:PV}{rs:List (Operand×PV)}(ks:List Nat)(slR:List (Nat×PV))(hbR:List (Nat×Blk))(hs:I4 E st f xs H H' r)(hlt:d<F.nt)
  (hargs:∀ ρ S a w,b5 F ρ S a w→(∀ p∈rs,S.opd p.1=some p.2)→∃ vals:List Value,(execOp a.eval ⟨some d,op,T,pos,aft,none⟩).run E.P w = .ok (.enter f vals.toArray) w∧D3 S.blk ρ (okI F S.blk ρ) (hp w) xs vals)
  (hr:v8 S rs) (hH:T5 S H) (hsl:e7 S slR) (hR:T5 S hbR) (hd:slR.lookup d=none) (nd:(H.map (·.1)).Nodup) (nd':(H'.map (·.1)).Nodup) (dis:∀ k,hbR.lookup k≠none→H.lookup k=none∧H'.lookup k=none) (hw:Whole H') (hres:∀ q,r.free q=false→H'.lookup q≠none)
  (honly:(slR.all fun p=>p.2.only ks)=true) (hbonly:∀ k B,hbR.lookup k=some B→B.cs.only ks=true) (hks:∀ k∈ks,hbR.lookup k≠none∨∃ B0 B1,st k=true∧H.lookup k=some B0∧H'.lookup k=some B1∧B1.sz=B0.sz∧B1.cs.len=B0.cs.len)
  (hlo:∀ i j,H.lookup i≠none→H.lookup j≠none→st j=false→F.lo i=false→F.lo j=false) (hpin:∀ j,H'.lookup j≠none→F.pin j≠none→H.lookup j≠none∧st j=true):B0a E.P F ops ⟨some d,op,T,pos,aft,none⟩ S ⟨(d,r) :: slR,H'++hbR⟩:=by
 have hHl:∀ j B,H.lookup j=some B→S.blk j=some B:=fun j B hj=>hH.all j B hj
 have hb':∀ k,St.blk ⟨(d,r) :: slR,H'++hbR⟩ k=(H'.lookup k).or (hbR.lookup k):=fun k=>T1 _ _ _
 have hstay:∀ k∈ks,D0r st S ⟨(d,r) :: slR,H'++hbR⟩ (fun j=>j) H H' k:=fun k hk=>by
  rcases hks k hk with h | ⟨B0,B1,h⟩
  ·obtain ⟨h1,h2⟩:=dis k h
   obtain ⟨B,hB⟩:=J3 h
   refine .inr (.inl ⟨by rw [hb',h2,l0,hB,hR.all k B hB],fun j hj e=>?_⟩)
   subst e; exact hj.elim (fun h=>h h1) (fun h=>h h2)
  ·exact .inr (.inr ⟨k,B0,B1,rfl,h⟩)
 refine J1r hG hX hng (fun j=>j) hs rfl rfl hlt (fun ρ a w hS=>?_) ⟨fun j B hj=>by rw [Blk.ren_id]; exact hHl j B hj,fun _ _ _ _ h=>h,fun i j h1 h2 _ h4 h5=>hlo i j h1 h2 h4 h5,fun k B' hk=>?_,fun t v ht=>?_,hres,hw,hpin⟩
 ·rw [PV.renL_id]; exact hargs ρ S a w hS hr.all
 ·rw [hb'] at hk
  cases e:H'.lookup k with
  | some B=>rw [e,K0] at hk; injection hk with hk; subst hk; exact .inl ⟨k,B,rfl,e,(Blk.ren_id B).symm⟩
  | none =>
   rw [e,l0] at hk
   obtain ⟨h1,h2⟩:=dis k (by simp [hk])
   exact .inr ⟨hR.all k B' hk,fun j hj e2=>by subst e2; exact hj.elim (fun h=>h h1) (fun h=>h h2),fun i x hx q hq=>hstay q (PV.only_mem (Cells.only_get (hbonly k B' hk) hx) hq)⟩
 ·simp only [St.slot,i0] at ht
  by_cases e:t=d
  ·subst e; simp only [BEq.rfl,U0] at ht; exact .inl ⟨rfl,by rw [PV.ren_id]; exact ht.symm⟩
  ·rw [show (t == d)=false by simpa using e] at ht
   refine .inr ⟨e,hsl.all t v ht,fun q hq=>hstay q (PV.only_mem ?_ hq)⟩
   rw [s0] at honly
   have:(t,v)∈slR:=by
    have:∀ l:List (Nat×PV),l.lookup t=some v→(t,v)∈l:=by
     intro l
     induction l with
     | nil=>simp
     | cons p l ih =>
      obtain ⟨s,u⟩:=p
      intro h
      rw [i0] at h
      split at h
      ·rename_i e; injection h with h; subst h; simp [beq_iff_eq.1 e]
      ·simp [ih h]
    exact this slR ht
   exact honly _ this
structure R5 (T:List (Nat×Blk)):Prop where
 low:∀ k,Nat.blt k 1000=true→T.lookup k=none
 nd:(T.map (·.1)).Nodup
 free:∀ k,Nat.blt k 1000=true→X2 k T=true
 whole:Whole T
theorem y5:∀ {S:St}{l:List (Nat×Blk)},(l.map (·.1)).Nodup→(∀ k B,l.lookup k=some B→S.blk k=some B)→T5 S l
 | _,[],_,_=>trivial
 | S,(k,B) :: l,hn,h=>by
  rw [R0,List.nodup_cons] at hn
  refine ⟨h k B (by rw [i0]; simp),y5 hn.2 fun j C hj=>h j C ?_⟩
  have:j≠k:=fun e=>by subst e; exact hn.1 (G0.2 ⟨(j,C),O3 hj,rfl⟩)
  rw [i0,show (j == k)=false by simpa using this]; exact hj
theorem hbT {sl:List (Nat×PV)}{T:List (Nat×Blk)}(pre:List (Nat×Blk))(h:R5 T)(hp:(pre.all fun p=>Nat.blt p.1 1000)=true):T5 ⟨sl,pre++T⟩ T:=y5 h.nd fun k B hk=>by
 show (pre++T).lookup k=some B
 rw [T1]
 cases e:pre.lookup k with
 | none=>simpa using hk
 | some C =>
  rw [s0] at hp
  have:=hp _ (O3 e)
  rw [h.low k this] at hk; cases hk
theorem R4 {k:Nat}:∀ {l r:List (Nat×Blk)},X2 k (l++r)=(X2 k l && X2 k r)
 | [],r=>rfl
 | p :: l,r=>by simp only [L1,X2,R4,Bool.and_assoc]
theorem frT {sl:List (Nat×PV)}{T:List (Nat×Blk)}{d:Nat}(pre:List (Nat×Blk))(h:R5 T)(hd:Nat.blt d 1000=true)(h1:pre.lookup d=none)(h2:(F3 d sl && X2 d pre)=true):g0n ⟨sl,pre++T⟩ (some d):=by
 refine ⟨?_,?_⟩
 ·show (pre++T).lookup d=none
  rw [T1,h1,h.low d hd]; rfl
 ·simp only [j0] at h2
  show (F3 d sl && X2 d (pre++T))=true
  rw [R4,h2.1,h2.2,h.free d hd]; rfl
def cls (k:Nat):Nat:=if k<1000 then k else 1000
theorem o8 {xs ys:List Nat}:hit xs ys=false↔∀ x∈xs,x ∉ ys:=by simp [hit]
theorem d1x {cf:Nat→Nat}{l l':List (Nat×Blk)}{xs ys:List Nat}(h1:∀ p∈l,cf p.1∈xs)(h2:∀ p∈l',cf p.1∈ys)(h:hit xs ys=false):s7 l (l'.map (·.1))=false:=by
 rw [d0w,o8]
 intro x hx hy
 obtain ⟨p,hp,rfl⟩:=G0.1 hx
 obtain ⟨q,hq,e⟩:=G0.1 hy
 exact o8.1 h _ (h1 p hp) (e ▸ h2 q hq)
theorem F0r {P:Program}{F:Fr}{Q:Exit→St→Prop}{S:St}{c:Code}{α:Type}(ws:α→List (Nat×PV))(wb:α→List (Nat×Blk))(T:α→List (Nat×Blk))(ok:α→Prop)(μ:α→Nat)(x:α){sl:List (Nat×PV)}{hb:List (Nat×Blk)}(h0:ok x)(h1:e7 S (ws x++sl))(h2:T5 S (wb x++(hb++T x)))
  (round:∀ x,ok x→l4 P F c ⟨ws x++sl,wb x++(hb++T x)⟩ (G0s (fun S'=>∃ y,ok y∧μ y<μ x∧St.le ⟨ws y++sl,wb y++(hb++T y)⟩ S') Q)):l4 P F (.loop c) S Q :=
 P0k (fun x=>⟨ws x++sl,wb x++(hb++T x)⟩) ok μ x h0 (E3 h1 h2) round
end Go.Proofs.YtjagfionflbjbaaGreat.SH
namespace Go.Proofs.YtjagfionflbjbaaGreat.SH
open Go Go.RowKit
structure Q0a (cf:Nat→Nat) (A:Ann) (sk:Sk):Prop where
 fresh:∀ k,A.fresh=some k→A.wb.any (fun p=>p.1 == k)=true
 rs:U7 A.rs=sk.rs
 rb:∀ p∈A.rb,cf p.1∈sk.rb
 ws:A.ws.map (·.1)=sk.ws
 wb:∀ p∈A.wb,cf p.1∈sk.wb
inductive R9 (cf:Nat→Nat):List Ann→List Sk→Prop
 | nil:R9 cf [] []
 | cons {A:Ann} {sk:Sk} {As:List Ann} {sks:List Sk}:Q0a cf A sk→R9 cf As sks→R9 cf (A :: As) (sk :: sks)
theorem g1k {cf:Nat→Nat}{A B:Ann}{a b:Sk}(hA:Q0a cf A a)(hB:Q0a cf B b)(h1:hit a.wb b.rb=false)(h2:hit a.wb b.wb=false):s7 A.wb B.rbk=false:=by
 rw [d0w,o8]
 intro x hx hy
 obtain ⟨p,hp,rfl⟩:=G0.1 hx
 simp only [Ann.rbk,List.mem_append,Option.mem_toList] at hy
 rcases hy with hy | hy
 ·have:=hB.fresh _ hy
  rw [List.any_eq_true] at this
  obtain ⟨q,hq,e⟩:=this
  have e:q.1=p.1:=by simpa using e
  exact o8.1 h2 _ (hA.wb p hp) (e ▸ hB.wb q hq)
 ·obtain ⟨q,hq,e⟩:=G0.1 hy
  exact o8.1 h1 _ (hA.wb p hp) (e ▸ hB.rb q hq)
def p0y (A B:Ann):Bool:=(A.fresh.all fun k=>B.free k) && (B.fresh.all fun k=>A.free k)
theorem D0f {cf:Nat→Nat}{A B:Ann}{a b:Sk}(hA:Q0a cf A a)(hB:Q0a cf B b)(hf:p0y A B=true)(h:B0r a b=true):w7 A B=true:=by
 simp only [B0r,j0,Bool.not_eq_true'] at h
 obtain ⟨⟨⟨⟨⟨h1,h2⟩,h3⟩,h4⟩,h5⟩,h6⟩:=h
 simp only [p0y,j0] at hf
 simp only [w7,j0,Bool.not_eq_true']
 have h6':hit b.wb a.wb=false:=by rw [o8] at h6 ⊢; exact fun x hx hy=>h6 x hy hx
 refine ⟨⟨⟨⟨⟨⟨⟨?_,?_⟩,?_⟩,?_⟩,?_⟩,?_⟩,hf.1⟩,hf.2⟩
 ·rw [d0w,hA.ws,hB.rs]; exact h1
 ·rw [d0w,hB.ws,hA.rs]; exact h2
 ·rw [d0w,hA.ws,hB.ws]; exact h3
 ·exact g1k hA hB h4 h6
 ·exact g1k hB hA h5 h6'
 ·exact d1x hA.wb hB.wb h6
theorem K0n {cf:Nat→Nat}{As:List Ann}{sks:List Sk}(h:R9 cf As sks):∀ (i:Nat) (A:Ann),As[i]? = some A→∃ sk,sks[i]? = some sk∧Q0a cf A sk:=by
 induction h with
 | nil=>intro i A h; simp at h
 | cons hc _ ih =>
  intro i A hA
  cases i with
  | zero =>
    obtain rfl := by simpa using hA
    exact ⟨_,rfl,hc⟩
  | succ i=>simpa using ih i A (by simpa using hA)
theorem J0b {cf:Nat→Nat}{As As':List Ann}{sks sks':List Sk}(h:R9 cf As sks)(h':R9 cf As' sks'):R9 cf (As++As') (sks++sks'):=by
 induction h with
 | nil=>exact h'
 | cons hc _ ih=>exact .cons hc ih
def F0d:List Ann→List Ann→Bool
 | [],_=>true
 | B :: As,done=>(done.all fun A=>p0y A B) && F0d As (done++[B])
theorem y0x {cf:Nat→Nat}:∀ (os:List Oper) (As:List Ann) (sks:List Sk) (ms:List Nat) (done:List Ann) (dsk:List Sk),R9 cf As sks→R9 cf done dsk→done.length=ms.length→F0d As done=true→b8 os sks ms dsk=true→W7 os As ms done=true
 | [],[],[],_,_,_,_,_,_,_,_=>rfl
 | o :: os,B :: As,b :: sks,ms,done,dsk,h,h',hl,hf,hh=>by
  cases h with
  | cons hB hAs =>
   simp only [b8,j0] at hh
   simp only [F0d,j0] at hf
   obtain ⟨⟨h1,h2⟩,h3⟩:=hh
   simp only [W7,j0]
   refine ⟨⟨h1,?_⟩,y0x os As sks _ _ _ hAs (J0b h' (.cons hB .nil)) (by simp [hl]) hf.2 h3⟩
   rw [s0] at h2 ⊢
   intro i hi
   have hi':i<done.length:=by simpa using hi
   have:=h2 i (by simpa [← hl] using hi')
   rw [Bool.or_eq_true] at this ⊢
   rcases this with h | h
   ·exact .inl h
   ·refine .inr ?_
    obtain ⟨A,hA⟩:∃ A,done[i]? = some A:=⟨done[i],by simp [hi']⟩
    obtain ⟨sk,hs,hc⟩:=K0n h' i A hA
    rw [hs] at h
    rw [hA]
    have hff:=hf.1
    rw [s0] at hff
    exact D0f hc hB (hff A (M1 hA)) h
 | [],_ :: _,_ :: _,_,_,_,_,_,_,_,hh=>by simp [b8] at hh
 | _ :: _,[],[],_,_,_,_,_,_,_,hh=>by simp [b8] at hh
 | _ :: _,_ :: _,[],_,_,_,h,_,_,_,_=>by cases h
 | _,[],_ :: _,_,_,_,h,_,_,_,_=>by cases h
 | [],_ :: _,[],_,_,_,h,_,_,_,_=>by cases h
def i7:List Ann→List Nat
 | []=>[]
 | A :: As=>A.fresh.toList++i7 As
theorem b0d {S:St}:∀ {As:List Ann},(∀ k∈i7 As,S.free k=true)→b6 S As=true
 | [],_=>rfl
 | A :: As,h=>by
  simp only [b6,j0]
  refine ⟨?_,b0d fun k hk=>h k (by simp [i7,hk])⟩
  cases e:A.fresh with
  | none=>rfl
  | some k=>exact h k (by simp [i7,e])
theorem frS {sl:List (Nat×PV)}{T:List (Nat×Blk)}{As:List Ann}(ns:List Nat)(pre:List (Nat×Blk))(h:R5 T)(hn:i7 As=ns)(h1:(ns.all fun k=>Nat.blt k 1000 && (F3 k sl && X2 k pre))=true):∀ k∈i7 As,St.free ⟨sl,pre++T⟩ k=true:=by
 subst hn
 intro k hk
 rw [s0] at h1
 have:=h1 k hk
 simp only [j0] at this
 show (F3 k sl && X2 k (pre++T))=true
 rw [R4,this.2.1,this.2.2,h.free k this.1]; rfl
theorem J1q (cf:Nat→Nat){os:List Oper}{As:List Ann}{S:St}(sks:List Sk)(h1:R9 cf As sks)(hf:F0d As []=true)(hS:∀ k∈i7 As,S.free k=true)(h2:b8 os sks [] []=true):(W7 os As [] [] && b6 S As)=true:=by
 rw [y0x os As sks [] [] [] h1 .nil rfl hf h2,b0d hS]; rfl
theorem h0g {os:List Oper}{As:List Ann}{S:St}(sks:List Sk)(h1:R9 cls As sks)(hf:F0d As []=true)(hS:∀ k∈i7 As,S.free k=true)(h2:b8 os sks [] []=true):(W7 os As [] [] && b6 S As)=true:=J1q cls sks h1 hf hS h2
theorem cf0 {cf:Nat→Nat}{A:Ann}{sk:Sk}(h:((A.fresh.all fun k=>A.wb.any fun p=>p.1 == k) && decide (U7 A.rs=sk.rs) && decide (A.ws.map (·.1)=sk.ws) && (A.rb.all fun p=>sk.rb.contains (cf p.1)) && (A.wb.all fun p=>sk.wb.contains (cf p.1)))=true):Q0a cf A sk:=by
 simp only [j0,decide_eq_true_eq,s0,List.contains_eq_mem] at h
 refine ⟨fun k hk=>?_,h.1.1.1.2,fun p hp=>h.1.2 p hp,h.1.1.2,fun p hp=>h.2 p hp⟩
 have:=h.1.1.1.1
 rw [hk] at this
 simpa using this
theorem cfT {cf:Nat→Nat}{A:Ann}{sk:Sk}(h0:A.fresh=none)(hr:U7 A.rs=sk.rs)(h1:∀ p∈A.rb,cf p.1∈sk.rb)(hw:A.ws.map (·.1)=sk.ws)(h2:∀ p∈A.wb,cf p.1∈sk.wb):Q0a cf A sk:=⟨fun k hk=>(by rw [h0] at hk; cases hk),hr,h1,hw,h2⟩
theorem B0j {k:Nat}(h:1000≤k):cls k=1000:=by unfold cls; rw [if_neg (by omega)]
theorem D1n {l r:List (Nat×Blk)}{ks:List Nat}(h1:(l.all fun p=>ks.contains (cls p.1))=true)(h2:∀ p∈r,1000≤p.1)(h3:ks.contains 1000=true):∀ p∈l++r,cls p.1∈ks:=by
 intro p hp
 rcases List.mem_append.1 hp with hp | hp
 ·rw [s0] at h1; simpa using h1 p hp
 ·rw [B0j (h2 p hp)]; simpa using h3
theorem d0c {T:List (Nat×Blk)}(h:R5 T):∀ p∈T,1000≤p.1:=by
 intro p hp
 obtain ⟨k,B⟩:=p
 by_cases hk:Nat.blt k 1000=true
 ·have:=h.low k hk
  rw [V5 h.nd hp] at this; cases this
 ·simp [Nat.blt_eq] at hk; exact hk
theorem rdT {sl:List (Nat×PV)}{T:List (Nat×Blk)}{k:Nat}{B:Blk}(pre:List (Nat×Blk))(h:R5 T)(hp:(pre.all fun p=>Nat.blt p.1 1000)=true)(hk:T.lookup k=some B):St.blk ⟨sl,pre++T⟩ k=some B:=by
 show (pre++T).lookup k=some B
 rw [T1]
 cases e:pre.lookup k with
 | none=>simpa using hk
 | some C =>
  rw [s0] at hp
  have:=hp _ (O3 e)
  rw [h.low k this] at hk; cases hk
theorem P8 {k:Nat}{B:Blk}{ks:List Nat}(h:1000≤k)(h2:ks.contains 1000=true:=by rfl):∀ p∈[(k,B)],cls p.1∈ks:=by
 intro p hp
 obtain rfl:=List.mem_singleton.1 hp
 rw [B0j h]; simpa using h2
theorem P7 {S:St}:∀ {l:List (Nat×Blk)},T5 S l→J6 S l
 | [],_=>trivial
 | _ :: _,h=>⟨h.1,P7 h.2⟩
theorem p0v {P:Program}{F:Fr}{d:Nat}{t T:TypeId}{pos:String}{aft:Array Edge}{g:Option (Nat×Bool)}{x y:Operand}{k n tot j sz:Nat}{B:Blk}{e:TypeId}{kd:IntKind}{i:Int}(hu:P.underlying t=some (.slice e))(hsz:∀ w,(sizeOf e).run P w = .ok sz w)(hl:B.cs.len=tot)(hi:i=(j:Int))(h1:j<n)(hlt:d<F.nt) :
  O2 P F ⟨some d,.indexAddr t x y,T,pos,aft,g⟩ { rs:=[(x,.ref k 0 n tot),(y,.p (.a (.int kd i)))],rb:=[(k,B)],ws:=[(d,.at_ k (j*sz) tot)] }:=by
 subst hi
 have:=U9 (P:=P) (F:=F) (d:=d) (t:=t) (T:=T) (pos:=pos) (aft:=aft) (g:=g) (x:=x) (y:=y) (kd:=kd) (off:=0) (k:=k) (n:=n) hu hsz hl (i:=j) (by omega) (by omega) hlt
 simpa using this
end Go.Proofs.YtjagfionflbjbaaGreat.SH
set_option maxRecDepth 100000
set_option maxHeartbeats 4000000
namespace Go.Proofs.YtjagfionflbjbaaGreat.N
open Go Go.Proofs.YtjagfionflbjbaaGreat.SH Go.Proofs.YtjagfionflbjbaaGreat.NumA
@[reducible] def cQ (a:Rat):List J2:=[.a (.bool (decide (a.num<0))),.sl (j3 a.num.natAbs).length (K4 (j3 a.num.natAbs)),.a (.bool (decide ((a.den:Int)<0))),.sl (j3 (a.den:Int).natAbs).length (K4 (j3 (a.den:Int).natAbs))]
def d6:List Rat→List J2
 | []=>[]
 | a :: v=>cQ a++d6 v
@[simp] theorem I3:∀ v:List Rat,(d6 v).length=v.length*4
 | []=>rfl
 | a :: v=>by simp only [d6,K1,I3 v,cQ,D1,List.length_nil]; omega
theorem B0f:∀ v u:List Rat,d6 (v++u)=d6 v++d6 u
 | [],u=>rfl
 | a :: v,u=>by simp only [L1,d6,B0f v u,List.append_assoc]
theorem V7:∀ {v:List Rat}{i:Nat},i<v.length→((d6 v).drop (i*4)).take 4=cQ (v.getD i 0)
 | [],i,h=>by simp at h
 | a :: v,0,_=>by simp [d6,cQ]
 | a :: v,i+1,h=>by
  have:=V7 (v:=v) (i:=i) (by simpa using h)
  rw [show (i+1)*4=i*4+1+1+1+1 by omega]
  simp only [d6,cQ,L1,List.nil_append,List.drop_succ_cons,List.getD_cons_succ]
  exact this
theorem K1v:∀ {v:List Rat}{i:Nat}(b:Rat),i<v.length→(d6 v).take (i*4)++cQ b++(d6 v).drop (i*4+4)=d6 (v.set i b)
 | [],i,_,h=>by simp at h
 | a :: v,0,b,_=>by simp [d6,cQ]
 | a :: v,i+1,b,h=>by
  have:=K1v (v:=v) (i:=i) b (by simpa using h)
  rw [show (i+1)*4=i*4+1+1+1+1 by omega,show i*4+1+1+1+1+4=i*4+4+1+1+1+1 by omega]
  simp only [List.set_cons_succ,d6,← this]
  simp only [cQ,L1,List.nil_append,List.drop_succ_cons,List.take_succ_cons]
@[reducible] def pV (v:List Rat):J2:=.sl v.length (d6 v)
def O5 (m:List (List Rat)):List J2:=m.map pV
@[simp] theorem E7 (m:List (List Rat)):(O5 m).length=m.length:=by simp [O5]
theorem W9 {m:List (List Rat)}{i:Nat}(h:i<m.length):(O5 m)[i]? = some (pV (m.getD i [])):=by
 simp [O5,h,f0]
def G3 (s i:Nat):Nat:=2*i+s+1100
@[reducible] def q4 (v:List Rat):Blk:=⟨47,4,.pure (d6 v)⟩
theorem n0f {v:List Rat}{k:Nat}(b:Rat)(h:k<v.length):(⟨47,4,.pure ((d6 v).take (k*4)++cQ b++(d6 v).drop (k*4+4))⟩:Blk)=q4 (v.set k b):=by rw [K1v b h]
def U6 (s:Nat):Nat→List (List Rat)→List (Nat×Blk)
 | _,[]=>[]
 | i,v :: m=>(G3 s i,q4 v) :: U6 s (i+1) m
def V4 (s:Nat):Nat→List (List Rat)→List PV
 | _,[]=>[]
 | i,v :: m=>.ref (G3 s i) 0 v.length (v.length*4) :: V4 s (i+1) m
@[simp] theorem E2 (s:Nat):∀ (i:Nat) (m:List (List Rat)),(V4 s i m).length=m.length
 | _,[]=>rfl
 | i,v :: m=>by simp [V4,E2 s (i+1) m]
theorem h0k {s:Nat}:∀ {i j:Nat} {m:List (List Rat)},(V4 s i m)[j]? = (m[j]?).map fun v=>.ref (G3 s (i+j)) 0 v.length (v.length*4)
 | i,j,[]=>by simp [V4]
 | i,0,v :: m=>by simp [V4]
 | i,j+1,v :: m=>by
  simp only [V4,List.getElem?_cons_succ]
  rw [h0k (i:=i+1) (j:=j) (m:=m),show i+1+j=i+(j+1) by omega]
theorem g0k {s:Nat}:∀ {i j:Nat} {m:List (List Rat)},(U6 s i m).lookup (G3 s (i+j))=(m[j]?).map q4
 | i,j,[]=>by simp [U6]
 | i,0,v :: m=>by simp [U6]
 | i,j+1,v :: m=>by
  simp only [U6,i0,List.getElem?_cons_succ]
  rw [show (G3 s (i+(j+1)) == G3 s i)=false by simp [G3]; omega,show i+(j+1)=i+1+j by omega]
  exact g0k
theorem n0m {s:Nat}:∀ {i k:Nat} {m:List (List Rat)},(∀ j,j<m.length→k≠G3 s (i+j))→(U6 s i m).lookup k=none
 | i,k,[],_=>rfl
 | i,k,v :: m,h=>by
  simp only [U6,i0]
  rw [show (k == G3 s i)=false by simpa using h 0 sM]
  exact n0m fun j hj=>by have:=h (j+1) (by simpa using hj); rwa [show i+1+j=i+(j+1) by omega]
theorem M8 {s:Nat}:∀ {i k:Nat} {m:List (List Rat)},k∈(U6 s i m).map (·.1)→∃ j,j<m.length∧k=G3 s (i+j)
 | i,k,[],h=>by simp [U6] at h
 | i,k,v :: m,h=>by
  simp only [U6,R0,List.mem_cons] at h
  rcases h with h | h
  ·exact ⟨0,by simp,h⟩
  ·obtain ⟨j,h1,h2⟩:=M8 h
   exact ⟨j+1,by simpa using h1,by rw [h2,show i+1+j=i+(j+1) by omega]⟩
theorem h1m {s:Nat}:∀ (i:Nat) (m:List (List Rat)),((U6 s i m).map (·.1)).Nodup
 | i,[]=>List.nodup_nil
 | i,v :: m=>by
  simp only [U6,R0]
  refine List.nodup_cons.2 ⟨fun h=>?_,h1m (i+1) m⟩
  obtain ⟨j,_,h2⟩:=M8 h
  simp only [G3] at h2; omega
theorem d0y {s k:Nat}:∀ (i:Nat) (m:List (List Rat)),X2 k (U6 s i m)=true
 | _,[]=>rfl
 | i,v :: m=>by simp [U6,X2,Cells.free,d0y (i+1) m]
theorem q0p {s k:Nat}(h:k<1100):∀ (i:Nat) (m:List (List Rat)),PV.freeL k (V4 s i m)=true
 | _,[]=>rfl
 | i,v :: m=>by
  simp only [V4,PV.freeL,PV.free,j0]
  exact ⟨by simp [G3]; omega,q0p h (i+1) m⟩
theorem B0g {s:Nat}:∀ {i j q:Nat} {m:List (List Rat)} {x:PV},(V4 s i m)[j]? = some x→x.free q=false→∃ v,m[j]? = some v∧q=G3 s (i+j):=by
 intro i j q m x h hq
 rw [h0k,M0] at h
 obtain ⟨v,hv,rfl⟩:=h
 simp only [PV.free,bne_eq_false_iff_eq] at hq
 exact ⟨v,hv,hq.symm⟩
@[reducible] def hdB (s:Nat)(m:List (List Rat)):Blk:=⟨40,1,.mix (V4 s 0 m)⟩
def I2 (s:Nat)(m:List (List Rat)):List (Nat×Blk):=(s+1001,hdB s m) :: U6 s 0 m
theorem i2 {s:Nat}(h2:s<9)(m:List (List Rat)):R5 (I2 s m):=by
 have hno:∀ k,k<1100→(U6 s 0 m).lookup k=none:=fun k hk=>n0m fun j _=>by simp only [G3]; omega
 refine ⟨fun k hk=>?_,?_,fun k hk=>?_,fun j B hj i x hx q hq=>?_⟩
 ·simp only [Nat.blt_eq] at hk
  rw [I2,i0,show (k == s+1001)=false by simp; omega]
  exact hno k oM
 ·simp only [I2,R0]
  refine List.nodup_cons.2 ⟨fun hm=>?_,h1m 0 m⟩
  obtain ⟨j,_,h3⟩:=M8 hm
  simp only [G3] at h3; omega
 ·simp only [Nat.blt_eq] at hk
  simp only [I2,X2,Cells.free,j0]
  exact ⟨q0p oM 0 m,d0y 0 m⟩
 ·rw [I2,i0] at hj
  split at hj
  ·injection hj with hj; subst hj
   obtain ⟨v,hv,rfl⟩:=B0g hx hq
   rw [I2,i0,show (G3 s (0+i) == s+1001)=false by simp [G3]; omega,g0k,hv]; simp
  ·obtain ⟨j',_,rfl⟩:=M8 (G0.2 ⟨_,O3 hj,rfl⟩)
   rw [g0k,M0] at hj
   obtain ⟨v,hv,rfl⟩:=hj
   simp only [Cells.get,M0] at hx
   obtain ⟨y,_,rfl⟩:=hx
   simp [PV.free] at hq
theorem H0c {s i:Nat}{m:List (List Rat)}(h:i<m.length):(Cells.mix (V4 s 0 m)).get i=some (.ref (G3 s i) 0 (m.getD i []).length ((m.getD i []).length*4)):=by
 show (V4 s 0 m)[i]? = _
 rw [h0k]; simp [h,f0]
theorem hdL {s:Nat}{m:List (List Rat)}:(I2 s m).lookup (s+1001)=some (hdB s m):=by simp [I2]
theorem rwL {s i:Nat}{m:List (List Rat)}(hh:s<9)(hi:i<m.length):(I2 s m).lookup (G3 s i)=some (q4 (m.getD i [])):=by
 rw [I2,i0,show (G3 s i == s+1001)=false by simp [G3]; omega]
 have:=g0k (s:=s) (i:=0) (j:=i) (m:=m)
 rw [F1] at this
 rw [this]; simp [hi,f0]
theorem rwS {s i:Nat}{m:List (List Rat)}{r:List Rat}(hh:s<9)(hi:i<m.length):(I2 s (m.set i r)).lookup (G3 s i)=some (q4 r):=by
 have:=rwL (s:=s) (i:=i) (m:=m.set i r) hh (by simpa using hi)
 rw [this,f0,List.getElem?_set_self hi]; rfl
theorem rwO {s i j:Nat}{m:List (List Rat)}{r:List Rat}(hh:s<9)(hj:j<m.length)(hne:i≠j):(I2 s (m.set i r)).lookup (G3 s j)=some (q4 (m.getD j [])):=by
 have:=rwL (s:=s) (i:=j) (m:=m.set i r) hh (by simpa using hj)
 rw [this,f0,f0,List.getElem?_set_ne hne]
theorem Q0n {s:Nat}:∀ {i j:Nat} {m:List (List Rat)} {r r':List Rat},r'.length=r.length→V4 s i (m.set j r')=V4 s i (m.set j r)
 | i,j,[],r,r',_=>rfl
 | i,0,v :: m,r,r',h=>by simp [V4,h]
 | i,j+1,v :: m,r,r',h=>by simp only [List.set_cons_succ,V4,Q0n (i:=i+1) (j:=j) h]
theorem B0k {s i j:Nat}:G3 s i=G3 s j↔i=j:=by simp only [G3]; omega
theorem hbS {sl:List (Nat×PV)}{s i:Nat}{m:List (List Rat)}{r r':List Rat}{B:Blk}(pre:List (Nat×Blk))(hp:(pre.all fun p=>Nat.blt p.1 1000)=true)(h2:s<9)(hi:i<m.length)(hB:B=q4 r')(hl:r'.length=r.length):T5 ⟨sl,(G3 s i,B) :: (pre++I2 s (m.set i r))⟩ (I2 s (m.set i r')):=by
 subst hB
 refine y5 (i2 h2 _).nd fun k C hk=>?_
 show List.lookup k _=some C
 rw [i0]
 have hno:∀ k,k<1000→(I2 s (m.set i r')).lookup k=none:=fun k hk=>(i2 h2 _).low k (by simpa [Nat.blt_eq] using hk)
 have hpre:pre.lookup k=none:=by
  cases e:pre.lookup k with
  | none=>rfl
  | some D =>
   rw [s0] at hp
   have:=hp _ (O3 e)
   rw [(i2 h2 _).low k this] at hk; cases hk
 by_cases e:k=G3 s i
 ·subst e
  rw [rwS h2 hi] at hk
  simpa using hk
 ·rw [show (k == G3 s i)=false by simpa using e,T1,hpre,l0]
  rw [I2,i0] at hk ⊢
  by_cases e1:k=s+1001
  ·subst e1
   simp only [BEq.rfl,U0] at hk ⊢
   rw [← hk,hdB,hdB,Q0n hl]
  ·rw [show (k == s+1001)=false by simpa using e1] at hk ⊢
   obtain ⟨j,hj,e2⟩:=M8 (G0.2 ⟨_,O3 hk,rfl⟩)
   simp only [F1] at e2
   subst e2
   have hne:i≠j:=fun h=>e (by rw [h])
   have h3:=g0k (s:=s) (i:=0) (j:=j) (m:=m.set i r')
   have h4:=g0k (s:=s) (i:=0) (j:=j) (m:=m.set i r)
   rw [F1,List.getElem?_set_ne hne] at h3 h4
   rw [h4,← h3]; exact hk
theorem b1g {s i:Nat}{m:List (List Rat)}{r:List Rat}{n:Nat}(h:i<m.length)(hr:r.length=n):(Cells.mix (V4 s 0 (m.set i r))).get i=some (.ref (G3 s i) 0 n (n*4)):=by
 subst hr
 have:=H0c (s:=s) (i:=i) (m:=m.set i r) (by simpa using h)
 rwa [f0,List.getElem?_set_self h] at this
theorem E5 (s i:Nat):1000≤G3 s i:=by simp only [G3]; omega
theorem B6 (s:Nat):1000≤s+1001:=by omega
end Go.Proofs.YtjagfionflbjbaaGreat.N
