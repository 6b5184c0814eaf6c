/- Part F of the proof: lemmas for the walks of the given functions. No statement of its own. -/
import Derived.ChangeSame
import Derived.ChangeVars
import Derived.JoinedOf
import Derived.RowKit
import Derived.RowKitTokens
import Derived.LaidLaws
import Derived.LaidHandle
import Derived.Carry
import Derived.OpenShut
import Derived.Lib.SmallJoins
import Derived.Lib.LaidTab
import Derived.Lay
import Derived.LaidMore
import Derived.MakeChecks
import Derived.Stop.LaidErr
import Derived.ProofKit
import Derived.Test.YtjagfionflbjbaaGreatRows
import Derived.Test.YtjagfionflbjbaaGreatPE
set_option linter.unusedVariables false
set_option linter.unusedSimpArgs false
set_option linter.deprecated false
set_option maxRecDepth 100000
set_option maxHeartbeats 4000000
namespace Go.Proofs.YtjagfionflbjbaaGreat.N
open Go Go.Proofs.YtjagfionflbjbaaGreat.SH Go.Proofs.YtjagfionflbjbaaGreat.NumA
open Go.Proofs.Tryz renaming call11→cl11,call12→cl12,call13→cl13,call14→cl14,call15→cl15,call17→cl17,call19→cl19,call23→cl23,call24→cl24,call25→cl25,call29→cl29,call30→cl30,call31→cl31,call33→cl33,call35→cl35,call38→cl38,call39→cl39,call40→cl40,call41→cl41,call47→cl47,call48→cl48,call49→cl49,isAgg22→ag22,isAgg24→ag24,isAgg3→ag3,isAgg40→ag40,isAgg43→ag43,isAgg47→ag47,sizeOf22→sz22,sizeOf24→sz24,sizeOf3→sz3,sizeOf40→sz40,sizeOf43→sz43,sizeOf45→sz45,sizeOf47→sz47,typeInfo3→ti3,typeInfo40→ti40,typeInfo47→ti47,underlying22→un22,underlying24→un24,underlying27→un27,underlying40→un40,underlying43→un43,underlying45→un45,underlying47→un47,underlying4→un4,zeroValue24→zv24,zeroValue47→zv47
theorem J1a:∀ {v:List RQ}{i:Nat}(j:Nat),i<v.length→j<4→(v0r v)[i*4+j]? = (cR (v.getD i default))[j]?
 | [],i,j,h,_=>by simp at h
 | a :: v,0,j,_,h2=>by
  rw [v0r,Nat.zero_mul,G1,X0 (by simp [cR]; omega)]; rfl
 | a :: v,i+1,j,h,h2=>by
  have:=J1a (v:=v) (i:=i) j (by simpa using h) h2
  rw [v0r,D0 (by simp [cR]; omega),show (i+1)*4+j - (cR a).length=i*4+j by simp [cR]; omega,this]
  simp
theorem Y1r {v:List RQ}{i:Nat}(h:i<v.length):(v0r v)[i*4+0+1]? = some (.sl (v.getD i default).ws.length (M4 (v.getD i default).ws)):=J1a 1 h dC
theorem b2d {v:List RQ}{i:Nat}(h:i<v.length):(v0r v)[i*4+2+1]? = some (.sl (v.getD i default).vs.length (M4 (v.getD i default).vs)):=J1a 3 h dC
def iV (l:List Int):List Rat:=l.map fun z:Int=>(z:Rat)
@[simp] theorem m0n (l:List Int):(iV l).length=l.length:=by simp [iV]
@[reducible] def pJ (l:List Int):O2:=.sl l.length (l.map vZ)
theorem d2s {l:List Int}{k:Nat}(h:k<l.length):(l.map vZ)[k]? = some (vZ (l.getD k 0)):=by simp [f0,h]
theorem K1r {l:List Int}{k:Nat}(h:k<l.length):iV (l.take (k+1))=iV (l.take k)++[((l.getD k 0:Int):Rat)]:=by
 rw [J1,iV,List.map_append]; simp [iV,f0,h]
theorem F1y (l:List Int)(hl:l.length<1000)(hb:∀ z∈l,-1000≤z∧z<1000):y3 E 48 [pJ l] (pV (iV l)):=by
 refine F2 (xs:=[pV (iV l)]) Tryz.func48 rfl Tryz.ntmps48 Tryz.results48 sM fun F hG hX0 hnt hdf P0=>?_
 obtain ⟨L,hX,hN⟩:=pro hnt hX0 hG
 refine exr (aV L rfl (zn [(0,_)] [] t1 trivial (exr (swb (g0c (k:=5) (sz:=4) un40 ti47 (P0 _ rfl) L) t0 t0 ⟨rfl,rfl⟩ (aV L rfl ?_)))))
 refine R1 ⟨[(0,_),(3,.ref 5 0 0 0)],[(5,j4 [])],t2,t1,?_⟩
 refine T1 (exr (aV L rfl (zn [(0,_),(3,_),(4,_)] [(5,_)] t3 t1 (X1 ?_))))
 refine exl (α:=Nat) (fun k=>[(4,vi (k:Int)),(3,.ref 5 0 k (k*4))]) (fun k=>[(5,j4 (iV (l.take k)))]) (fun k=>k≤l.length) (fun k=>l.length - k) (0) (sl:=[(0,_)]) (hb:=[]) ?_ ⟨oR,oR,rfl,trivial⟩ t1 ?_
 ·exact Nat.zero_le _
 intro k hk
 refine T1 (exr (mV L rfl (mV L rfl (sw (X2 un27 L) t1 t0 (sw (Z3 L) t2 t0 (zn [(0,_),(3,_),(4,_),(9,_)] [(5,_)] t4 t1 ?_))))))
 refine D2 rfl (fun hc=>?_) (fun hc=>?_)
 ·have hc:=dt hc
  have hk2:k<l.length:=by omega
  have hz:=hb (l.getD k 0) (by simp [f0,hk2])
  refine V1 (xq ?_)
  refine T1 (X1 (C3 (mV L rfl (mV L rfl (mV L rfl (sw (ixJ un27 sz3 (j:=k) rO oM sM L) t2 t0 ?_))))))
  refine sw (s4 ag3 (d2s hk2) L) t1 t0 (cK hG hX cl49 hN (d0k (l.getD k 0) oM oM) L t1 (sw (E4 (vs:=[_]) un40 ti47 rfl rfl dC dC rfl (M2 (.cons rfl (.cons rfl (.cons rfl (.cons rfl .nil)))) rfl) rfl (.cons rfl pa4 rfl pu4 .nil) (.cons (.cons (.cons (.cons .nil)))) L) t1 t0 (swb (apP (sz:=4) un40 un40 ti47 rfl rfl rfl dC (by exact (by first | (simp; omega) | (simp; done))) oF sM rfl rfl rfl (by first | (simp [Tryz.t47]; done) | (simp [Tryz.t47]; omega)) oM (P0 _ rfl) L) t2 t1 t0 ?_)))
  refine aV L rfl (R1 (C3 (mV L rfl (sw (I3 L (w64 oM oM)) t2 t0 (aV L rfl (R1 ?_))))))
  exact ⟨k+1,oM,by omega,B3 ⟨oR,ov rfl sO,rfl,trivial⟩ ⟨obl rfl ((b0q _ _).trans (by rw [K1r hk2])),trivial⟩⟩
 ·have hc:=df hc
  have hkl:k=l.length:=by omega
  rw [C0 oM]
  subst hkl
  refine K2 (xq ?_)
  refine G4 [5] (sl:=[(3,_)]) (hb:=[]) (M3 hX0) ⟨⟨_,rfl,(.ref rfl rfl (by exact (by first | (simp; omega) | (simp; done))) (by first | rfl | omega))⟩,trivial⟩ t0 ?_
  refine exr (mV L rfl (aV L rfl (zn [(2,_)] [] t1 trivial (Y1 ?_))))
  refine Q0 (.tmp rfl) ?_
  simp
theorem G1b (c:Int)(M:List (List Rat)):y3 E 47 [vZ c,pMr M] (.agg [vZ c,pMr M]):=by
 refine F2 (xs:=[.agg [vZ c,pMr M]]) Tryz.func47 rfl Tryz.ntmps47 Tryz.results47 sM fun F hG hX0 hnt hdf P0=>?_
 obtain ⟨L,hX,hN⟩:=pro hnt hX0 hG
 refine exr (swb (Y3 (k:=4) (n:=2) zv24 (.cons rfl (.cons rfl .nil)) rfl (P0 _ rfl) L) t0 t0 ⟨rfl,rfl⟩ (zn [(0,_),(1,_),(4,_)] [(4,_)] t3 t1 (exr (mV L rfl (mV L rfl (sw (L7 (vs:=[_,_]) un24 zv24 (.cons rfl (.cons rfl .nil)) ((L2.cons sz3 (L2.cons sz22 L2.nil))).to rfl (.cons rfl (.atom rfl) rfl pu1 (.cons rfl .sl rfl (.skip pu1) .nil)) (.cons (.cons .nil)) L) t2 t0 (sb (Z2 sz24 rF pa2 rfl pu2) t2 t1 ?_)))))))
 refine zn [(4,_)] [(4,_)] t1 t1 (Y1 ?_)
 refine Q0 (.agg rfl rfl rfl ag24 sz24 (.cons (.cons .nil))) ?_
 rfl
def smW (k:Nat)(r:RQ):Bool:=decide (r.ws.length≤k∧r.vs.length≤k)
def smV (n:Nat)(v:List RQ):Bool:=decide (v.length≤n) && v.all (smW 6)
theorem or3 (p q:Prop):p∨(¬p∧q)∨(¬p∧¬q):=by
 rcases Classical.em p with h | h
 ·exact .inl h
 ·rcases Classical.em q with h2 | h2
  ·exact .inr (.inl ⟨h,h2⟩)
  ·exact .inr (.inr ⟨h,h2⟩)
theorem h0q (n:Nat)(v:List RQ)(hn:n<1000):y3 E 23 [pVR v,vZ n] (bZ (smV n v)):=by
 refine F2 (xs:=[bZ (smV n v)]) Tryz.func23 rfl Tryz.ntmps23 Tryz.results23 sM fun F hG hX0 hnt hdf P0=>?_
 obtain ⟨L,hX,hN⟩:=pro hnt hX0 hG
 refine exr (aV L rfl (zn [(0,_),(1,_)] [] t2 trivial (T1 (exr (mV L rfl (sw (X2 un40 L) t1 t0 (mV L rfl (sw (b7 L) t2 t0 (zn [(0,_),(9,_)] [] t2 trivial ?_)))))))))
 refine D2 rfl (fun hc=>?_) (fun hc=>?_)
 ·have hc:=dt hc
  refine exr (aV L rfl (zn [(4,_)] [] t1 trivial (Y1 ?_)))
  refine Q0 (.tmp rfl) ?_
  rw [smV,decide_eq_false oM,Bool.false_and]
 ·have hc:=df hc
  have hl:v.length≤n:=by omega
  refine V1 (xq ?_)
  refine T1 (exr (aV L rfl (zn [(0,_),(5,_)] [] t2 trivial (X1 ?_))))
  refine exl (α:=Nat) (fun k=>[(5,vi (k:Int))]) (fun k=>[]) (fun k=>k≤v.length∧(v.take k).all (smW 6)=true) (fun k=>v.length - k) (0) (sl:=[(0,_)]) (hb:=[]) ?_ ⟨oR,rfl,trivial⟩ t0 ?_
  ·exact ⟨Nat.zero_le _,rfl⟩
  intro k hk
  obtain ⟨hk,hw⟩:=hk
  refine T1 (exr (mV L rfl (mV L rfl (sw (X2 un40 L) t1 t0 (sw (Z3 L) t2 t0 (zn [(0,_),(5,_),(13,_)] [] t3 trivial ?_))))))
  refine D2 rfl (fun hc=>?_) (fun hc=>?_)
  ·have hc:=dt hc
   have hk2:k<v.length:=by omega
   have ha:=Y1r hk2
   have hd:=b2d hk2
   obtain ⟨r,hr⟩:∃ r,r=v.getD k default:=⟨_,rfl⟩
   rw [← hr] at ha hd
   refine V1 (xq ?_)
   refine T1 (X1 ?_)
   refine exm (sl:=[(33,vb (!smW 6 r))]) (sl0:=[(0,_),(5,_)]) (hb:=[]) (hb0:=[]) t2 t0 ?_ ?_
   ·rcases or3 ((r.ws.length:Int) > 6) ((r.vs.length:Int) > 6) with h1 | ⟨h1,h2⟩ | ⟨h1,h2⟩
    ·refine mV L rfl (mV L rfl (sw (y2 un40 sz47 oM oM sM dC L) t2 t0 ?_))
     refine sw (K0a un47 rfl sz45 dC L) t1 t0 (sw (K0a un45 rfl sz43 dC L) t1 t0 (sw (s4 ag43 ha L) t1 t0 (sw (X2 un43 L) t1 t0 (sw (b7 L) t2 t0 (mV L rfl (swn (g:=24) rfl (decide_eq_true h1) L rfl (swn (g:=24) rfl (decide_eq_true h1) L rfl (swn (g:=24) rfl (decide_eq_true h1) L rfl (swn (g:=24) rfl (decide_eq_true h1) L rfl (swn (g:=24) rfl (decide_eq_true h1) L rfl (swn (g:=24) rfl (decide_eq_true h1) L rfl ?_)))))))))))
     refine swn (g:=24) rfl (decide_eq_true h1) L rfl (swn (g:=24) rfl (decide_eq_true h1) L rfl (sw (m4 (decide_eq_true h1) L) t2 t0 ?_))
     exact R1 ⟨⟨ob rfl (by rw [smW,decide_eq_false oM] <;> rfl),rfl,rfl,trivial⟩,trivial⟩
    ·refine mV L rfl (mV L rfl (sw (y2 un40 sz47 oM oM sM dC L) t2 t0 ?_))
     refine sw (K0a un47 rfl sz45 dC L) t1 t0 (sw (K0a un45 rfl sz43 dC L) t1 t0 (sw (s4 ag43 ha L) t1 t0 (sw (X2 un43 L) t1 t0 (sw (b7 L) t2 t0 (mV L rfl (gV (g:=24) rfl (decide_eq_false h1) L rfl rfl (gV (g:=24) rfl (decide_eq_false h1) L rfl rfl (swg (g:=24) rfl (decide_eq_false h1) (y2 un40 sz47 oM oM sM dC L) rfl t2 t0 ?_))))))))
     refine swg (g:=24) rfl (decide_eq_false h1) (K0a un47 rfl sz45 dC L) rfl t1 t0 (swg (g:=24) rfl (decide_eq_false h1) (K0a un45 rfl sz43 dC L) rfl t1 t0 (swg (g:=24) rfl (decide_eq_false h1) (s4 ag43 hd L) rfl t1 t0 (swg (g:=24) rfl (decide_eq_false h1) (X2 un43 L) rfl t1 t0 (swg (g:=24) rfl (decide_eq_false h1) (b7 L) rfl t2 t0 (sw (U3 (decide_eq_false h1) L) t2 t0 ?_)))))
     exact R1 ⟨⟨ob rfl (by rw [smW,decide_eq_false (show ¬ (r.ws.length≤6∧r.vs.length≤6) by omega),decide_eq_true h2] <;> rfl),rfl,rfl,trivial⟩,trivial⟩
    ·refine mV L rfl (mV L rfl (sw (y2 un40 sz47 oM oM sM dC L) t2 t0 ?_))
     refine sw (K0a un47 rfl sz45 dC L) t1 t0 (sw (K0a un45 rfl sz43 dC L) t1 t0 (sw (s4 ag43 ha L) t1 t0 (sw (X2 un43 L) t1 t0 (sw (b7 L) t2 t0 (mV L rfl (gV (g:=24) rfl (decide_eq_false h1) L rfl rfl (gV (g:=24) rfl (decide_eq_false h1) L rfl rfl (swg (g:=24) rfl (decide_eq_false h1) (y2 un40 sz47 oM oM sM dC L) rfl t2 t0 ?_))))))))
     refine swg (g:=24) rfl (decide_eq_false h1) (K0a un47 rfl sz45 dC L) rfl t1 t0 (swg (g:=24) rfl (decide_eq_false h1) (K0a un45 rfl sz43 dC L) rfl t1 t0 (swg (g:=24) rfl (decide_eq_false h1) (s4 ag43 hd L) rfl t1 t0 (swg (g:=24) rfl (decide_eq_false h1) (X2 un43 L) rfl t1 t0 (swg (g:=24) rfl (decide_eq_false h1) (b7 L) rfl t2 t0 (sw (U3 (decide_eq_false h1) L) t2 t0 ?_)))))
     exact R1 ⟨⟨ob rfl (by rw [smW,decide_eq_true (show r.ws.length≤6∧r.vs.length≤6 by omega),decide_eq_false h2] <;> rfl),rfl,rfl,trivial⟩,trivial⟩
   refine D2 rfl (fun he=>?_) (fun he=>?_)
   ·have he:smW 6 r=false:=by simpa using he
    rw [hr] at he
    refine exr (aV L rfl (zn [(4,_)] [] t1 trivial (Y1 ?_)))
    refine Q0 (.tmp rfl) ?_
    rw [smV,P0j (gD hk2) he,Bool.and_false]
   ·have he:smW 6 r=true:=by simpa using he
    rw [hr] at he
    refine V1 (xq ?_)
    refine C3 (mV L rfl (sw (I3 L (w64 oM oM)) t2 t0 (aV L rfl (R1 ?_))))
    exact ⟨k+1,⟨by omega,q0k hk2 hw he⟩,by omega,B3 ⟨oR,rfl,trivial⟩ trivial⟩
  ·have hc:=df hc
   refine K2 (xq ?_)
   refine exr (aV L rfl (zn [(4,_)] [] t1 trivial (Y1 ?_)))
   refine Q0 (.tmp rfl) ?_
   rw [show k=v.length by omega,I0] at hw; rw [smV,hw,decide_eq_true hl]; rfl
def o7 (n:Nat)(c:Int)(m:List (List RQ)):Bool:=decide (m.length≤n∧(c≤n∨60<c)) && m.all (smV n)
theorem p0b (n:Nat)(c:Int)(m:List (List RQ))(hn:n<1000):y3 E 11 [pMR c m,vZ n] (bZ (o7 n c m)):=by
 refine F2 (xs:=[bZ (o7 n c m)]) Tryz.func11 rfl Tryz.ntmps11 Tryz.results11 sM fun F hG hX0 hnt hdf P0=>?_
 obtain ⟨L,hX,hN⟩:=pro hnt hX0 hG
 refine exr (swb (X3 (k:=2) (n:=2) pa2 rfl rfl (P0 _ rfl) L) t1 t0 ⟨rfl,rfl⟩ (aV L rfl (zn [(1,_),(2,_)] [(2,_)] t2 t1 (T1 ?_))))
 refine exm (sl:=[(21,vb (!decide (m.length≤n∧(c≤n∨60<c))))]) (sl0:=[(1,_),(2,_)]) (hb:=[]) (hb0:=[(2,_)]) t2 t1 ?_ ?_
 ·rcases (by omega:n<m.length∨(m.length≤n∧(n:Int)<c)∨(m.length≤n∧c≤n)) with h | h | h
  ·refine sw (j2 un24 rfl sz22 dC rX L) t1 t1 ?_
   refine sw (Z1 ag22 rF rF L) t1 t1 ?_
   refine sw (X2 un22 L) t1 t0 (mV L rfl (sw (b7 L) t2 t0 (mV L rfl (swn (g:=11) rfl sO L rfl (swn (g:=11) rfl sO L rfl (swn (g:=11) rfl sO L rfl (swn (g:=11) rfl sO L rfl (swn (g:=11) rfl sO L rfl (swu (g:=16) rfl L rfl (swu (g:=16) rfl L rfl (swu (g:=16) rfl L rfl ?_)))))))))))
   refine swn (g:=11) rfl sO L rfl (sw (m4 sO L) t2 t0 ?_)
   exact R1 ⟨⟨ob rfl (by rw [decide_eq_false (show ¬ (m.length≤n∧(c≤n∨60<c)) by omega)] <;> rfl),rfl,rfl,trivial⟩,t1⟩
  ·refine sw (j2 un24 rfl sz22 dC rX L) t1 t1 ?_
   refine sw (Z1 ag22 rF rF L) t1 t1 ?_
   refine sw (X2 un22 L) t1 t0 (mV L rfl (sw (b7 L) t2 t0 (mV L rfl (swg (g:=11) rfl sO (j2 un24 rfl sz3 dC rX L) rfl t1 t1 ?_))))
   refine swg (g:=11) rfl sO (Z1 ag3 rF rF L) rfl t1 t1 ?_
   refine gV (g:=11) rfl sO L rfl rfl (swg (g:=11) rfl sO (b7 L) rfl t2 t0 (gV (g:=11) rfl sO L rfl rfl (swg (g:=16) rfl sO (j2 un24 rfl sz3 dC rX L) rfl t1 t1 ?_)))
   refine swg (g:=16) rfl sO (Z1 ag3 rF rF L) rfl t1 t1 ?_
   refine swg (g:=16) rfl sO (Q1g L) rfl t2 t0 (swg (g:=11) rfl sO (m4 sO L) rfl t2 t0 (sw (U3 sO L) t2 t0 ?_))
   exact R1 ⟨⟨ob rfl (by rw [Bool.eq_iff_iff]; simp; omega),rfl,rfl,trivial⟩,t1⟩
  ·refine sw (j2 un24 rfl sz22 dC rX L) t1 t1 ?_
   refine sw (Z1 ag22 rF rF L) t1 t1 ?_
   refine sw (X2 un22 L) t1 t0 (mV L rfl (sw (b7 L) t2 t0 (mV L rfl (swg (g:=11) rfl sO (j2 un24 rfl sz3 dC rX L) rfl t1 t1 ?_))))
   refine swg (g:=11) rfl sO (Z1 ag3 rF rF L) rfl t1 t1 ?_
   refine gV (g:=11) rfl sO L rfl rfl (swg (g:=11) rfl sO (b7 L) rfl t2 t0 (gV (g:=11) rfl sO L rfl rfl (swn (g:=16) rfl sO L rfl (swn (g:=16) rfl sO L rfl (swn (g:=16) rfl sO L rfl (swg (g:=11) rfl sO (U3 sO L) rfl t2 t0 (sw (U3 sO L) t2 t0 ?_)))))))
   exact R1 ⟨⟨ob rfl (by rw [decide_eq_true (show m.length≤n∧(c≤n∨60<c) by omega)] <;> rfl),rfl,rfl,trivial⟩,t1⟩
 refine D2 rfl (fun hc=>?_) (fun hc=>?_)
 ·have hc:decide (m.length≤n∧(c≤n∨60<c))=false:=by simpa only [Bool.not_eq_true'] using hc
  refine exr (aV L rfl (zn [(4,_)] [] t1 trivial (Y1 ?_)))
  refine Q0 (.tmp rfl) ?_
  rw [o7,hc,Bool.false_and]
 ·have hd:decide (m.length≤n∧(c≤n∨60<c))=true:=by simpa only [Bool.not_eq_false'] using hc
  have hl:m.length≤n:=(of_decide_eq_true hd).1
  refine V1 (xq ?_)
  refine T1 (exr (aV L rfl (zn [(1,_),(2,_),(5,_)] [(2,_)] t3 t1 (X1 ?_))))
  refine exl (α:=Nat) (fun k=>[(5,vi (k:Int))]) (fun k=>[]) (fun k=>k≤m.length∧(m.take k).all (smV n)=true) (fun k=>m.length - k) (0) (sl:=[(1,_),(2,_)]) (hb:=[(2,_)]) ?_ ⟨oR,rfl,rfl,trivial⟩ t1 ?_
  ·exact ⟨Nat.zero_le _,rfl⟩
  intro k hk
  obtain ⟨hk,hw⟩:=hk
  refine T1 (exr (mV L rfl (sw (j2 un24 rfl sz22 dC rX L) t1 t1 ?_)))
  refine sw (Z1 ag22 rF rF L) t1 t1 ?_
  refine sw (X2 un22 L) t1 t0 (sw (Z3 L) t2 t0 (zn [(1,_),(2,_),(5,_),(26,_)] [(2,_)] t4 t1 ?_))
  refine D2 rfl (fun hc=>?_) (fun hc=>?_)
  ·have hc:=dt hc
   have hk2:k<m.length:=by omega
   refine V1 (xq ?_)
   refine T1 (X1 (exr (sw (j2 un24 rfl sz22 dC rX L) t1 t1 ?_)))
   refine sw (Z1 ag22 rF rF L) t1 t1 ?_
   refine mV L rfl (sw (ixJ un22 sz40 (j:=k) rO oM sM L) t2 t0 ?_)
   refine sw (s4 ag40 (h0w hk2) L) t1 t0 (mV L rfl (cK hG hX cl23 hN (h0q n (m.getD k []) hn) L t2 (sw (P3 L) t1 t0 (zn [(1,_),(2,_),(5,_),(36,_)] [(2,_)] t4 t1 ?_))))
   refine D2 rfl (fun he=>?_) (fun he=>?_)
   ·have he:smV n (m.getD k [])=false:=by simpa using he
    refine exr (aV L rfl (zn [(4,_)] [] t1 trivial (Y1 ?_)))
    refine Q0 (.tmp rfl) ?_
    rw [o7,P0j (gDL hk2) he,Bool.and_false]
   ·have he:smV n (m.getD k [])=true:=by simpa using he
    refine V1 (xq ?_)
    refine C3 (mV L rfl (sw (I3 L (w64 oM oM)) t2 t0 (aV L rfl (R1 ?_))))
    exact ⟨k+1,⟨by omega,q0k hk2 hw he⟩,by omega,B3 ⟨oR,rfl,rfl,trivial⟩ t1⟩
  ·have hc:=df hc
   refine K2 (xq ?_)
   refine exr (aV L rfl (zn [(4,_)] [] t1 trivial (Y1 ?_)))
   refine Q0 (.tmp rfl) ?_
   rw [show k=m.length by omega,I0] at hw; rw [o7,hw,hd]; rfl
theorem M0y (X:Nat):(2:Nat) ^ X<4294967296 ^ (X / 32+1):=by
 rw [show (4294967296:Nat)=2 ^ 32 from rfl,← Nat.pow_mul]
 exact Nat.pow_lt_pow_right dC oM
theorem p32 (k:Nat):((4294967296 ^ k:Nat):Int)=(4294967296:Int) ^ k:=Int.natCast_pow _ _
theorem P1p {X:Nat}{a:Rat}(h:hsz X a):qw a≤X / 32+1:=by
 have key:∀ z:Int,z.natAbs≤2 ^ X→nw z≤X / 32+1:=fun z hz=>G0m (by
  rw [← p32 (X / 32+1)]
  exact Int.ofNat_lt.2 (Nat.lt_of_le_of_lt hz (M0y X)))
 exact Nat.max_le.2 ⟨key _ h.1,key _ (by simpa using h.2)⟩
theorem N1h {k:Nat}{a:Rat}(h:qw a≤k):hsz (32*k) a:=by
 have key:∀ z:Int,nw z≤k→z.natAbs≤2 ^ (32*k):=fun z hz=>by
  have h1:=N0y (a:=z)
  have h2:(4294967296:Nat) ^ nw z≤4294967296 ^ k:=Nat.pow_le_pow_right dC hz
  rw [show (4294967296:Nat) ^ k=2 ^ (32*k) by rw [Nat.pow_mul]] at h2
  rw [← p32 (nw z)] at h1
  exact Nat.le_of_lt (Nat.lt_of_lt_of_le (Int.ofNat_lt.1 h1) h2)
 exact ⟨key _ (Nat.le_trans (P4 a) h),by simpa using key _ (Nat.le_trans (q5 a) h)⟩
theorem P1m {X:Nat}{m b:List (List Rat)}(h:CDM X m b):MB (X / 32+1) m∧MB (X / 32+1) b:=by
 have key:∀ {m:List (List Rat)},(∀ i j,hsz X (ent m i j))→MB (X / 32+1) m:=fun {m} hm r hr a ha=>by
  obtain ⟨i,hi,rfl⟩:=List.getElem_of_mem hr
  obtain ⟨j,hj,rfl⟩:=List.getElem_of_mem ha
  have:=P1p (hm i j)
  rwa [ent,show m.getD i []=m[i] by simp [f0,hi],show (m[i]).getD j 0=m[i][j] by simp [f0,hj]] at this
 exact ⟨key fun i j=>h.m i j,key fun i j=>h.b i j⟩
theorem F1x {n cc d B:Nat}{m b:List (List Rat)}(h:RC n cc m)(hb:RC n d b)(hB:∀ c,c≤cc→∀ i j,qw (ent (ech m b c).m i j)≤B):∀ c,c≤cc→qw (ech m b c).det≤1+(ech m b c).pv.length*B
 | 0,_=>by show qw 1≤_; rw [G0f]; omega
 | c+1,hc=>by
  have ih:=F1x h hb hB c oM
  rcases y1f h hb (show c<cc by omega) with e | ⟨_,e2,i,_,e | e⟩
  ·have hpv:(ech m b c).pv.length≤(ech m b (c+1)).pv.length:=by
    rw [M9]; unfold W9
    split
    ·split
     ·exact Nat.le_refl _
     ·rw [V0j,L1]; omega
    ·exact Nat.le_refl _
   have:=V0 B hpv
   rw [e]; omega
  ·have h1:=m9 (ech m b c).det (ent (ech m b c).m i c)
   have h2:=hB c oM i c
   rw [e,e2,Nat.add_mul]; omega
  ·have h1:=m9 (-(ech m b c).det) (ent (ech m b c).m i c)
   rw [G0n] at h1
   have h2:=hB c oM i c
   rw [e,e2,Nat.add_mul]; omega
@[reducible] def BB:Nat:=22000000
@[reducible] def DD:Nat:=310000000
theorem y1m {n c d X:Nat}{m b:List (List Rat)}(h:RC n c m)(hb:RC n d b)(hn:n≤14)(hc:c≤70)(hd:d≤70)(hC:CDM X m b)(hX:g0s X n≤700000000):EU n c d BB DD m b:=by
 have hB:∀ k,k≤c→CDM 700000000 (ech m b k).m (ech m b k).b:=fun k hk=>(m1h h hb hC hk (Nat.le_refl n)).mono hX
 have hM:=fun k hk=>P1m (hB k hk)
 refine ⟨h,hb,by omega,by omega,by omega,by decide,by decide,by decide,fun k hk r hr a ha=>Nat.le_trans ((hM k hk).1 r hr a ha) dC,fun k hk r hr a ha=>Nat.le_trans ((hM k hk).2 r hr a ha) dC,fun k hk=>?_⟩
 have h1:=F1x (B:=BB) h hb (fun k hk i j=>Nat.le_trans (P1p ((hB k hk).m i j)) dC) k hk
 have h2:(ech m b k).pv.length≤n:=(B6 h hb k hk).2.2.1.le
 have h3:(ech m b k).pv.length*BB≤14*BB:=V0 _ oM
 exact Nat.le_trans h1 (Nat.le_trans (Nat.add_le_add_left h3 1) dC)
theorem V1h {k n c:Nat}{m b:List (List Rat)}{l:List Rat}(h:RC n c m)(hm:MB k m)(hl:∀ a∈l,qw a≤k)(hb:∀ i j,ent b i j=0∨ent b i j=1∨ent b i j∈l):CDM (32*k*(n*c+l.length)) m b:=by
 have h1:=cdl (b:=32*k) (l:=m.flatten++l) fun a ha=>by
  rcases List.mem_append.1 ha with ha | ha
  ·obtain ⟨r,hr,ha⟩:=List.mem_flatten.1 ha
   exact N1h (hm r hr a ha)
  ·exact N1h (hl a ha)
 rw [L1,H1n h] at h1
 refine Q1y h1 (fun i j=>?_) fun i j=>?_
 ·rcases v0m (m:=m) (i:=i) (j:=j) with e | ⟨r,hr,ha⟩
  ·exact .inl e
  ·exact .inr (.inr (List.mem_append_left _ (List.mem_flatten.2 ⟨r,hr,ha⟩)))
 ·rcases hb i j with e | e | e
  ·exact .inl e
  ·exact .inr (.inl e)
  ·exact .inr (.inr (List.mem_append_right _ e))
theorem b1b (n c B DB:Nat)(M:List (List Rat))(h:MOk c M)(hB1:MB B M)(hn:M.length=n)(H:EU n c 0 B DB M (nob n)):y3 E 14 [pMq c M] (.tup [pMr (g1n c (ech M (nob n) c).pv ((ech M (nob n) c).m.take (ech M (nob n) c).pv.length)),vZ 0]):=q0w (V0w n c B DB M h hB1 hn H)
theorem k1r {n i j:Nat}:ent (nob n) i j=0:=by
 rcases v0m (m:=nob n) (i:=i) (j:=j) with e | ⟨r,hr,ha⟩
 ·exact e
 ·rw [V0k.2 r hr |> E0] at ha; cases ha
theorem J1r {b:List Rat}{i j:Nat}:ent (n4 b) i j=0∨ent (n4 b) i j=1∨ent (n4 b) i j∈b:=by
 rcases v0m (m:=n4 b) (i:=i) (j:=j) with e | ⟨r,hr,ha⟩
 ·exact .inl e
 ·simp only [n4,G0,List.mem_range] at hr
  obtain ⟨k,hk,rfl⟩:=hr
  rcases List.mem_or_eq_of_mem_set ha with h | h
  ·rcases List.mem_or_eq_of_mem_set h with h | h
   ·exact .inl (List.eq_of_mem_replicate h)
   ·exact .inr (.inr (h ▸ v4 hk))
  ·exact .inr (.inl h)
theorem MOk.rc {c:Nat}{M:List (List Rat)}(h:MOk c M):RC M.length c M:=⟨rfl,h.len⟩
theorem j1m {n c k:Nat}{M:List (List Rat)}(h:RC n c M)(hB:MB k M)(hn:n≤14)(hc:c≤70)(hX:g0s (32*k*(n*c+0)) n≤700000000):EU n c 0 BB DD M (nob n) :=
 y1m h V0k hn hc dC (V1h (l:=[]) h hB sM fun _ _=>.inl k1r) hX
theorem Q0j {n c k:Nat}{M:List (List Rat)}{b:List Rat}(h:RC n c M)(hB:MB k M)(hbn:b.length=n)(hb:∀ a∈b,qw a≤k)(hn:n≤14)(hc:c≤70)(hX:g0s (32*k*(n*c+n)) n≤700000000):EU n c (n+1) BB DD M (n4 b) :=
 y1m h (D0r hbn) hn hc oM (V1h (l:=b) h hB hb fun _ _=>J1r) (by rw [hbn]; exact hX)
theorem Q1n {c:Nat}{M:List (List Rat)}:RC c M.length (trM c M):=by
 refine ⟨by simp,fun r hr=>?_⟩
 simp only [trM,G0] at hr
 obtain ⟨j,_,rfl⟩:=hr
 simp
theorem V1k {c B:Nat}{M:List (List Rat)}(hl:∀ r∈M,r.length=c)(h:MB B M):MB B (trM c M):=by
 intro r hr a ha
 simp only [trM,G0,List.mem_range] at hr
 obtain ⟨j,hj,rfl⟩:=hr
 exact q1k h hj hl a ha
theorem MB.mono {B C:Nat}{M:List (List Rat)}(h:MB B M)(hBC:B≤C):MB C M:=fun r hr a ha=>Nat.le_trans (h r hr a ha) hBC
def mI (L:List (List Int)):List (List Rat):=L.map iV
def sI (l:List Int):Bool:=l.all fun z=>decide (-1000≤z∧z<1000)
theorem Q1w {z:Int}(h : -1000≤z∧z<1000):qw (z:Rat)≤1:=by
 unfold qw
 rw [Rat.num_intCast,Rat.den_intCast]
 exact Nat.max_le.2 ⟨G0m oM,by rw [show ((1:Nat):Int)=1 from rfl,n0p]; exact Nat.le_refl _⟩
theorem n0a {l:List Int}(h:sI l=true):∀ a∈iV l,qw a≤1:=fun a ha=>by
 obtain ⟨z,hz,rfl⟩:=G0.1 ha
 exact Q1w (by simpa using s0.1 h z hz)
theorem w9 {L:List (List Int)}(h:L.all sI=true):MB 1 (mI L):=fun r hr=>by
 obtain ⟨l,hl,rfl⟩:=G0.1 hr
 exact n0a (s0.1 h l hl)
theorem p0m {c:Nat}{L:List (List Int)}(h:(L.all fun l=>decide (l.length=c))=true):∀ r∈mI L,r.length=c:=fun r hr=>by
 obtain ⟨l,hl,rfl⟩:=G0.1 hr
 rw [m0n]; simpa using s0.1 h l hl
theorem B0n {c:Nat}{L:List (List Int)}(h1:L.length≤400)(hc:c≤60)(h:(L.all fun l=>decide (l.length=c))=true):MOk c (mI L):=⟨by simpa [mI] using h1,hc,p0m h⟩
theorem n1d {B:Nat}{M:List (List Rat)}(hl:M.length<1000000000)(hr:∀ r∈M,r.length<1000000000)(hB:MB B M)(hb:B<1000000000):MSm (M.map (List.map RQ.of)) :=
 ⟨by simpa using hl,fun r hr2=>by
  obtain ⟨v,hv,rfl⟩:=G0.1 hr2
  exact ⟨by simpa using hr v hv,V0z (hB v hv) hb⟩⟩
theorem J0d {B:Nat}{u:List Rat}(hl:u.length<1000000000)(hB:∀ a∈u,qw a≤B)(hb:B<1000000000):y3 E 29 [pV u,pV u] (bZ true):=by
 have:=y0x (u.map RQ.of) (u.map RQ.of) (by simpa using hl) (V0z hB hb) (V0z hB hb)
 rwa [decide_eq_true rfl,g0p] at this
theorem q1z {B:Nat}{M:List (List Rat)}(hl:M.length<1000000000)(hr:∀ r∈M,r.length<1000000000)(hB:MB B M)(hb:B<1000000000):y3 E 19 [pMr M,pMr M] (bZ true):=by
 have:=B0d _ _ (n1d hl hr hB hb) (n1d hl hr hB hb)
 rwa [decide_eq_true rfl,k0j,O0] at this
theorem D1q {B:Nat}{c:Int}{M:List (List Rat)}(hl:M.length<1000000000)(hr:∀ r∈M,r.length<1000000000)(hB:MB B M)(hb:B<1000000000):y3 E 17 [pMq c M,pMq c M] (bZ true):=by
 have:=b1c c c _ _ (n1d hl hr hB hb) (n1d hl hr hB hb)
 rwa [decide_eq_true ⟨rfl,rfl⟩,pMR,k0j,O0] at this
theorem W1p:y3 E 13 [pMq 3 (mI [[0,2,4],[1,1,1],[1,2,3]])] (.tup [pMq 3 (mI [[1,0,-1],[0,1,2]]),pIs [0,1],vZ 0]):=by
 have h:=q0r 3 3 BB DD (mI [[0,2,4],[1,1,1],[1,2,3]]) (B0n dC dC dC) ((w9 dC).mono dC) rfl (j1m ⟨rfl,p0m dC⟩ (w9 dC) dC dC dC)
 have e1:(ech (mI [[0,2,4],[1,1,1],[1,2,3]]) (nob 3) 3).pv=[0,1]:=by decide +kernel
 have e2:(ech (mI [[0,2,4],[1,1,1],[1,2,3]]) (nob 3) 3).m.take 2=mI [[1,0,-1],[0,1,2]]:=by decide +kernel
 rw [e1,show [0,1].length=2 from rfl,e2] at h
 exact h
theorem Q1c:y3 E 14 [pMq 3 (mI [[0,2,4],[1,1,1],[1,2,3]])] (.tup [pMr (mI [[1,-2,1]]),vZ 0]):=by
 have h:=b1b 3 3 BB DD (mI [[0,2,4],[1,1,1],[1,2,3]]) (B0n dC dC dC) ((w9 dC).mono dC) rfl (j1m ⟨rfl,p0m dC⟩ (w9 dC) dC dC dC)
 have e2:g1n 3 (ech (mI [[0,2,4],[1,1,1],[1,2,3]]) (nob 3) 3).pv ((ech (mI [[0,2,4],[1,1,1],[1,2,3]]) (nob 3) 3).m.take (ech (mI [[0,2,4],[1,1,1],[1,2,3]]) (nob 3) 3).pv.length)=mI [[1,-2,1]]:=by decide +kernel
 rw [e2] at h
 exact h
theorem Q1j:y3 E 24 [pMq 2 (mI [[1,1],[1,-1]]),pV (iV [3,1])] (.tup [pV (iV [2,1]),pV [],vZ 0]):=by
 have h:=g0x 2 2 BB DD (mI [[1,1],[1,-1]]) (iV [3,1]) (B0n dC dC dC) ((w9 dC).mono dC) (fun a ha=>Nat.le_trans (n0a dC a ha) dC) rfl rfl (Q0j ⟨rfl,p0m dC⟩ (w9 dC) rfl (n0a dC) dC dC dC)
 have e1:G0w 2 (ech (mI [[1,1],[1,-1]]) (n4 (iV [3,1])) 2) 2=iV [2,1]:=by decide +kernel
 have e2:p0h (ech (mI [[1,1],[1,-1]]) (n4 (iV [3,1])) 2) 2=[]:=by decide +kernel
 have e3:y0v (ech (mI [[1,1],[1,-1]]) (n4 (iV [3,1])) 2) 2=0:=by decide +kernel
 rw [e1,e2,e3] at h
 exact h
theorem V1b:∃ x y,y3 E 24 [pMq 2 (mI [[1,1],[2,2]]),pV (iV [1,3])] (.tup [pV x,pV y,vZ 4]):=by
 have h:=g0x 2 2 BB DD (mI [[1,1],[2,2]]) (iV [1,3]) (B0n dC dC dC) ((w9 dC).mono dC) (fun a ha=>Nat.le_trans (n0a dC a ha) dC) rfl rfl (Q0j ⟨rfl,p0m dC⟩ (w9 dC) rfl (n0a dC) dC dC dC)
 have e3:y0v (ech (mI [[1,1],[2,2]]) (n4 (iV [1,3])) 2) 2=4:=by decide +kernel
 rw [e3] at h
 exact ⟨_,_,h⟩
theorem y1y (l:List Int)(v:Bool)(hl:l.length=2)(hs:sI l=true)(h:F0m 2 (mI [[1,1],[2,2]]) (iV [1,3]) (iV l)=v):y3 E 25 [pMq 2 (mI [[1,1],[2,2]]),pV (iV [1,3]),pV (iV l)] (bZ v):=by
 have:=F0x 2 1 (mI [[1,1],[2,2]]) (iV [1,3]) (iV l) (B0n dC dC dC) (w9 dC) (n0a dC) (n0a hs) rfl (by rw [m0n,hl]; rfl) dC dC dC
 rwa [h] at this
theorem V1g:y3 E 41 [pMq 2 (mI [[1,2],[3,4]]),pMq 2 (mI [[0,1],[1,0]])] (.tup [pMq 2 (mI [[2,1],[4,3]]),vZ 0]):=by
 have h:=q1m 2 2 1 (mI [[1,2],[3,4]]) (mI [[0,1],[1,0]]) (B0n dC dC dC) (B0n dC dC dC) (w9 dC) (w9 dC) dC rfl
 have e:Q0h 2 (mI [[1,2],[3,4]]) (mI [[0,1],[1,0]])=mI [[2,1],[4,3]]:=by decide +kernel
 rw [e] at h
 exact h
theorem P1x:y3 E 31 [pMq 2 (mI [[2,1],[4,3]])] (.tup [pQ ((2:Int):Rat),vZ 0]):=by
 have h:=G1v 2 BB DD (mI [[2,1],[4,3]]) (B0n dC dC dC) ((w9 dC).mono dC) rfl (j1m ⟨rfl,p0m dC⟩ (w9 dC) dC dC dC)
 have e:v1k 2 (mI [[2,1],[4,3]]) (nob 2)=((2:Int):Rat):=by decide +kernel
 rw [e] at h
 exact h
theorem P1r:∃ y,y3 E 30 [pMl (mI [[1,0,1],[2,0,2],[0,1,1]]),pV (iV [3,1,4])] (.tup [pV (iV [3,0,1]),pV y,vZ 0]):=by
 have hl:∀ r∈mI [[1,0,1],[2,0,2],[0,1,1]],r.length=3:=p0m dC
 have h:=V0a BB DD (mI [[1,0,1],[2,0,2],[0,1,1]]) (iV [3,1,4]) hl dC dC ((w9 dC).mono dC) (fun a ha=>Nat.le_trans (n0a dC a ha) dC) (Q0j Q1n (V1k hl (w9 dC)) rfl (n0a dC) dC dC dC)
 have e1:G0w 3 (ech (trM 3 (mI [[1,0,1],[2,0,2],[0,1,1]])) (n4 (iV [3,1,4])) 3) 3=iV [3,0,1]:=by decide +kernel
 have e3:y0v (ech (trM 3 (mI [[1,0,1],[2,0,2],[0,1,1]])) (n4 (iV [3,1,4])) 3) 3=0:=by decide +kernel
 rw [show (mI [[1,0,1],[2,0,2],[0,1,1]]).length=3 from rfl,show (iV [3,1,4]).length=3 from rfl,e1,e3] at h
 exact ⟨_,h⟩
theorem vI (l:List Int)(h:sI l=true)(hl:l.length<1000):y3 E 48 [pJ l] (pV (iV l)):=F1y l hl fun z hz=>by simpa using s0.1 h z hz
theorem mtI (c:Int)(L:List (List Int)):y3 E 47 [vZ c,pMr (mI L)] (pMq c (mI L)):=G1b c (mI L)
theorem k1s (c:Int)(L:List (List Int))(h1:L.length<1000)(h:(L.all fun l=>decide (l.length<1000))=true)(hb:L.all sI=true):y3 E 17 [pMq c (mI L),pMq c (mI L)] (bZ true) :=
 D1q (B:=1) (by simp [mI]; omega) (fun r hr=>by
  obtain ⟨l,hl,rfl⟩:=G0.1 hr
  have:=s0.1 h l hl
  rw [m0n]; simp at this; omega) (w9 hb) dC
theorem K1b (L:List (List Int))(h1:L.length<1000)(h:(L.all fun l=>decide (l.length<1000))=true)(hb:L.all sI=true):y3 E 19 [pMr (mI L),pMr (mI L)] (bZ true) :=
 q1z (B:=1) (by simp [mI]; omega) (fun r hr=>by
  obtain ⟨l,hl,rfl⟩:=G0.1 hr
  have:=s0.1 h l hl
  rw [m0n]; simp at this; omega) (w9 hb) dC
theorem k1y (l:List Int)(h:sI l=true)(hl:l.length<1000):y3 E 29 [pV (iV l),pV (iV l)] (bZ true):=J0d (B:=1) sO (n0a h) dC
theorem g0d  : y3 E 12 [] (bZ true):=by
 refine F2 (xs:=[bZ true]) Tryz.func12 rfl Tryz.ntmps12 Tryz.results12 sM fun F hG hX0 hnt hdf P0=>?_
 obtain ⟨L,hX,hN⟩:=pro hnt hX0 hG
 obtain ⟨nx,ny,hnon⟩:=V1b
 obtain ⟨cy,hcom⟩:=P1r
 have hc1:=y1y [-2,1] true rfl dC (by decide +kernel)
 have hc2:=y1y [2,-1] false rfl dC (by decide +kernel)
 refine exr (aV L rfl (zn [] [] trivial trivial (exr (sw (E4 (vs:=[_,_,_]) un27 ti3 rfl rfl dC dC rfl (M2 (.cons rfl .nil) rfl) rfl (.cons rfl (.atom rfl) rfl pu1 (.cons rfl (.atom rfl) rfl (.skip pu1) (.cons rfl (.atom rfl) rfl (.skip (.skip pu1)) .nil))) (.cons (.cons (.cons .nil))) L) t3 t0 (cK hG hX cl48 hN (vI [0,2,4] dC dC) L t1 (sw (E4 (vs:=[_,_,_]) un27 ti3 rfl rfl dC dC rfl (M2 (.cons rfl .nil) rfl) rfl (.cons rfl (.atom rfl) rfl pu1 (.cons rfl (.atom rfl) rfl (.skip pu1) (.cons rfl (.atom rfl) rfl (.skip (.skip pu1)) .nil))) (.cons (.cons (.cons .nil))) L) t3 t0 (cK hG hX cl48 hN (vI [1,1,1] dC dC) L t1 (sw (E4 (vs:=[_,_,_]) un27 ti3 rfl rfl dC dC rfl (M2 (.cons rfl .nil) rfl) rfl (.cons rfl (.atom rfl) rfl pu1 (.cons rfl (.atom rfl) rfl (.skip pu1) (.cons rfl (.atom rfl) rfl (.skip (.skip pu1)) .nil))) (.cons (.cons (.cons .nil))) L) t3 t0 (cK hG hX cl48 hN (vI [1,2,3] dC dC) L t1 (sw (E4 (vs:=[_,_,_]) un22 ti40 rfl rfl dC dC rfl (M2 (.cons rfl .nil) rfl) rfl (.cons rfl .sl rfl pu1 (.cons rfl .sl rfl (.skip pu1) (.cons rfl .sl rfl (.skip (.skip pu1)) .nil))) (.cons (.cons (.cons .nil))) L) t3 t0 (cK hG hX cl47 hN (mtI 3 [[0,2,4],[1,1,1],[1,2,3]]) L t2 ?_)))))))))))
 refine swb (Y3 (k:=1) (n:=2) zv24 (.cons rfl (.cons rfl .nil)) rfl (P0 _ rfl) L) t0 t0 ⟨rfl,rfl⟩ (sb (Z2 sz24 rF pa2 rfl pu2) t2 t1 ?_)
 refine zn [(1,_)] [(1,_)] t1 t1 (exr (lp2 ag24 sz24 L rfl rfl (cK hG hX cl13 hN W1p L t1 (mV L rfl (sw (W3 rfl L) t1 t0 (sw (W3 rfl L) t1 t0 (sw (W3 rfl L) t1 t0 (swb (Y3 (k:=2) (n:=2) zv24 (.cons rfl (.cons rfl .nil)) rfl (P0 _ rfl) L) t0 t0 ⟨rfl,rfl⟩ (sb (Z2 sz24 rF pa2 rfl pu2) t2 t1 ?_)))))))))
 refine aV L rfl (aV L rfl (zn [(1,_),(2,_),(3,_),(4,_)] [(1,_),(2,_)] t4 t2 (T1 (exd rF ?_))))
 refine mV L rfl (sw (c_n L) t2 t0 (mV L rfl (swg (g:=30) rfl rfl (R6 ag24 sz24 rF (by exact al2) rfl L) rfl t1 t1 ?_)))
 refine swg (g:=30) rfl rfl (E4 (vs:=[_,_,_]) un27 ti3 rfl rfl dC dC rfl (M2 (.cons rfl .nil) rfl) rfl (.cons rfl (.atom rfl) rfl pu1 (.cons rfl (.atom rfl) rfl (.skip pu1) (.cons rfl (.atom rfl) rfl (.skip (.skip pu1)) .nil))) (.cons (.cons (.cons .nil))) L) rfl t3 t0 (swg (g:=30) rfl rfl (c_c hG hX cl48 rfl hN (vI [1,0,-1] dC dC) L) rfl t1 t0 (swg (g:=30) rfl rfl (E4 (vs:=[_,_,_]) un27 ti3 rfl rfl dC dC rfl (M2 (.cons rfl .nil) rfl) rfl (.cons rfl (.atom rfl) rfl pu1 (.cons rfl (.atom rfl) rfl (.skip pu1) (.cons rfl (.atom rfl) rfl (.skip (.skip pu1)) .nil))) (.cons (.cons (.cons .nil))) L) rfl t3 t0 (swg (g:=30) rfl rfl (c_c hG hX cl48 rfl hN (vI [0,1,2] dC dC) L) rfl t1 t0 (swg (g:=30) rfl rfl (E4 (vs:=[_,_]) un22 ti40 rfl rfl dC dC rfl (M2 (.cons rfl .nil) rfl) rfl (.cons rfl .sl rfl pu1 (.cons rfl .sl rfl (.skip pu1) .nil)) (.cons (.cons .nil)) L) rfl t2 t0 (swg (g:=30) rfl rfl (c_c hG hX cl47 rfl hN (mtI 3 [[1,0,-1],[0,1,2]]) L) rfl t2 t0 (swg (g:=30) rfl rfl (c_c hG hX cl17 rfl hN (k1s 3 [[1,0,-1],[0,1,2]] dC dC dC) L) rfl t2 t0 (swg (g:=30) rfl rfl (P3 L) rfl t1 t0 (sw (U3 rfl L) t2 t0 (mV L rfl (gV (g:=41) rfl rfl L rfl rfl (swg (g:=41) rfl rfl (X2 un27 L) rfl t1 t0 ?_)))))))))))
 refine swg (g:=41) rfl rfl (c_n L) rfl t2 t0 (sw (U3 rfl L) t2 t0 (mV L rfl (gV (g:=46) rfl rfl L rfl rfl (swg (g:=46) rfl rfl (ixJ un27 sz3 (j:=0) rO dC sM L) rfl t2 t0 ?_))))
 refine swg (g:=46) rfl rfl (s4 ag3 (W0w (l:=[0,1]) (k:=0) dC) L) rfl t1 t0 (swg (g:=46) rfl rfl (c_n L) rfl t2 t0 (sw (U3 rfl L) t2 t0 (mV L rfl (gV (g:=52) rfl rfl L rfl rfl (swg (g:=52) rfl rfl (ixJ un27 sz3 (j:=1) rO dC sM L) rfl t2 t0 ?_)))))
 refine swg (g:=52) rfl rfl (s4 ag3 (W0w (l:=[0,1]) (k:=1) dC) L) rfl t1 t0 (swg (g:=52) rfl rfl (c_n L) rfl t2 t0 (sw (U3 rfl L) t2 t0 ?_))
 refine R1 ⟨i5 [⟨[4],[],[28],[]⟩,⟨[28],[],[29],[]⟩,⟨[29],[],[30],[]⟩,⟨[30,2],[2],[31],[]⟩,⟨[30],[],[32],[]⟩,⟨[30,32],[],[33],[]⟩,⟨[30],[],[34],[]⟩,⟨[30,34],[],[35],[]⟩,⟨[30,33,35],[],[36],[]⟩,⟨[30,36],[],[37],[]⟩,⟨[30,31,37],[],[38],[]⟩,⟨[30,38],[],[39],[]⟩,⟨[30,39],[],[40],[]⟩,⟨[40],[],[41],[]⟩,⟨[41,3],[],[42],[]⟩,⟨[41,42],[],[43],[]⟩,⟨[41,43],[],[44],[]⟩,⟨[41,44],[],[45],[]⟩,⟨[45],[],[46],[]⟩,⟨[46,3],[],[47],[]⟩,⟨[46,47],[],[48],[]⟩,⟨[46,48],[],[49],[]⟩,⟨[46,49],[],[50],[]⟩,⟨[46,50],[],[51],[]⟩,⟨[51],[],[52],[]⟩,⟨[52,3],[],[53],[]⟩,⟨[52,53],[],[54],[]⟩,⟨[52,54],[],[55],[]⟩,⟨[52,55],[],[56],[]⟩,⟨[52,56],[],[57],[]⟩] rF rF dC,[(1,_),(57,_)],[(1,_)],t2,t1,?_⟩
 refine T3 rfl rfl ?_
 refine V1 (xq ?_)
 refine exr (lp2 ag24 sz24 L rfl rfl (cK hG hX cl14 hN Q1c L t1 (mV L rfl (sw (W3 rfl L) t1 t0 (sw (W3 rfl L) t1 t0 (aV L rfl (aV L rfl (zn [(4,_),(5,_)] [] t2 trivial (T1 (exr (mV L rfl ?_)))))))))))
 refine sw (c_n L) t2 t0 (mV L rfl (gV (g:=65) rfl rfl L rfl rfl (swg (g:=65) rfl rfl (E4 (vs:=[_,_,_]) un27 ti3 rfl rfl dC dC rfl (M2 (.cons rfl .nil) rfl) rfl (.cons rfl (.atom rfl) rfl pu1 (.cons rfl (.atom rfl) rfl (.skip pu1) (.cons rfl (.atom rfl) rfl (.skip (.skip pu1)) .nil))) (.cons (.cons (.cons .nil))) L) rfl t3 t0 (swg (g:=65) rfl rfl (c_c hG hX cl48 rfl hN (vI [1,-2,1] dC dC) L) rfl t1 t0 (swg (g:=65) rfl rfl (E4 (vs:=[_]) un22 ti40 rfl rfl dC dC rfl (M2 (.cons rfl .nil) rfl) rfl (.cons rfl .sl rfl pu1 .nil) (.cons .nil) L) rfl t1 t0 (swg (g:=65) rfl rfl (c_c hG hX cl19 rfl hN (K1b [[1,-2,1]] dC dC dC) L) rfl t2 t0 (swg (g:=65) rfl rfl (P3 L) rfl t1 t0 (sw (U3 rfl L) t2 t0 (zn [(72,_)] [] t1 trivial (T3 rfl rfl ?_))))))))))
 refine V1 (xq ?_)
 refine exr (sw (E4 (vs:=[_,_]) un27 ti3 rfl rfl dC dC rfl (M2 (.cons rfl .nil) rfl) rfl (.cons rfl (.atom rfl) rfl pu1 (.cons rfl (.atom rfl) rfl (.skip pu1) .nil)) (.cons (.cons .nil)) L) t2 t0 (cK hG hX cl48 hN (vI [1,1] dC dC) L t1 (sw (E4 (vs:=[_,_]) un27 ti3 rfl rfl dC dC rfl (M2 (.cons rfl .nil) rfl) rfl (.cons rfl (.atom rfl) rfl pu1 (.cons rfl (.atom rfl) rfl (.skip pu1) .nil)) (.cons (.cons .nil)) L) t2 t0 (cK hG hX cl48 hN (vI [1,-1] dC dC) L t1 (sw (E4 (vs:=[_,_]) un22 ti40 rfl rfl dC dC rfl (M2 (.cons rfl .nil) rfl) rfl (.cons rfl .sl rfl pu1 (.cons rfl .sl rfl (.skip pu1) .nil)) (.cons (.cons .nil)) L) t2 t0 (cK hG hX cl47 hN (mtI 2 [[1,1],[1,-1]]) L t2 (sw (E4 (vs:=[_,_]) un27 ti3 rfl rfl dC dC rfl (M2 (.cons rfl .nil) rfl) rfl (.cons rfl (.atom rfl) rfl pu1 (.cons rfl (.atom rfl) rfl (.skip pu1) .nil)) (.cons (.cons .nil)) L) t2 t0 (cK hG hX cl48 hN (vI [3,1] dC dC) L t1 (cK hG hX cl24 hN Q1j L t2 (mV L rfl (sw (W3 rfl L) t1 t0 ?_)))))))))))
 refine sw (W3 rfl L) t1 t0 (sw (W3 rfl L) t1 t0 (aV L rfl (aV L rfl (aV L rfl (zn [(4,_),(6,_)] [] t2 trivial (T1 (exr (mV L rfl (sw (c_n L) t2 t0 (mV L rfl (gV (g:=88) rfl rfl L rfl rfl ?_)))))))))))
 refine swg (g:=88) rfl rfl (E4 (vs:=[_,_]) un27 ti3 rfl rfl dC dC rfl (M2 (.cons rfl .nil) rfl) rfl (.cons rfl (.atom rfl) rfl pu1 (.cons rfl (.atom rfl) rfl (.skip pu1) .nil)) (.cons (.cons .nil)) L) rfl t2 t0 (swg (g:=88) rfl rfl (c_c hG hX cl48 rfl hN (vI [2,1] dC dC) L) rfl t1 t0 (swg (g:=88) rfl rfl (c_c hG hX cl29 rfl hN (k1y [2,1] dC dC) L) rfl t2 t0 (swg (g:=88) rfl rfl (P3 L) rfl t1 t0 (sw (U3 rfl L) t2 t0 (zn [(94,_)] [] t1 trivial (T3 rfl rfl ?_))))))
 refine V1 (xq ?_)
 refine exr (sw (E4 (vs:=[_,_]) un27 ti3 rfl rfl dC dC rfl (M2 (.cons rfl .nil) rfl) rfl (.cons rfl (.atom rfl) rfl pu1 (.cons rfl (.atom rfl) rfl (.skip pu1) .nil)) (.cons (.cons .nil)) L) t2 t0 (cK hG hX cl48 hN (vI [1,1] dC dC) L t1 (sw (E4 (vs:=[_,_]) un27 ti3 rfl rfl dC dC rfl (M2 (.cons rfl .nil) rfl) rfl (.cons rfl (.atom rfl) rfl pu1 (.cons rfl (.atom rfl) rfl (.skip pu1) .nil)) (.cons (.cons .nil)) L) t2 t0 (cK hG hX cl48 hN (vI [2,2] dC dC) L t1 (sw (E4 (vs:=[_,_]) un22 ti40 rfl rfl dC dC rfl (M2 (.cons rfl .nil) rfl) rfl (.cons rfl .sl rfl pu1 (.cons rfl .sl rfl (.skip pu1) .nil)) (.cons (.cons .nil)) L) t2 t0 (cK hG hX cl47 hN (mtI 2 [[1,1],[2,2]]) L t2 (swb (Y3 (k:=8) (n:=2) zv24 (.cons rfl (.cons rfl .nil)) rfl (P0 _ rfl) L) t0 t0 ⟨rfl,rfl⟩ (sb (Z2 sz24 rF pa2 rfl pu2) t2 t1 ?_))))))))
 refine zn [(8,_)] [(8,_)] t1 t1 (exd rF ?_)
 refine lp2 ag24 sz24 L rfl rfl (sw (E4 (vs:=[_,_]) un27 ti3 rfl rfl dC dC rfl (M2 (.cons rfl .nil) rfl) rfl (.cons rfl (.atom rfl) rfl pu1 (.cons rfl (.atom rfl) rfl (.skip pu1) .nil)) (.cons (.cons .nil)) L) t2 t0 (cK hG hX cl48 hN (vI [1,3] dC dC) L t1 (cK hG hX cl24 hN hnon L t2 (mV L rfl (sw (W3 rfl L) t1 t0 (sw (W3 rfl L) t1 t0 (sw (W3 rfl L) t1 t0 (aV L rfl ?_))))))))
 refine R1 ⟨i5 [⟨[8],[8],[102],[]⟩,⟨[],[],[103],[]⟩,⟨[103],[],[104],[]⟩,⟨[102,104],[],[105],[]⟩,⟨[105],[],[101],[]⟩,⟨[101],[],[106],[]⟩,⟨[101],[],[107],[]⟩,⟨[101],[],[108],[]⟩,⟨[108],[],[4],[]⟩] rF rF dC,[(4,_),(8,_)],[(8,_)],t2,t1,?_⟩
 refine T1 (exd rF ?_)
 refine mV L rfl (sw (c_n L) t2 t0 (mV L rfl (swg (g:=111) rfl rfl (R6 ag24 sz24 rF (by exact al2) rfl L) rfl t1 t1 ?_)))
 refine swg (g:=111) rfl rfl (E4 (vs:=[_,_]) un27 ti3 rfl rfl dC dC rfl (M2 (.cons rfl .nil) rfl) rfl (.cons rfl (.atom rfl) rfl pu1 (.cons rfl (.atom rfl) rfl (.skip pu1) .nil)) (.cons (.cons .nil)) L) rfl t2 t0 (swg (g:=111) rfl rfl (c_c hG hX cl48 rfl hN (vI [1,3] dC dC) L) rfl t1 t0 (swg (g:=111) rfl rfl (E4 (vs:=[_,_]) un27 ti3 rfl rfl dC dC rfl (M2 (.cons rfl .nil) rfl) rfl (.cons rfl (.atom rfl) rfl pu1 (.cons rfl (.atom rfl) rfl (.skip pu1) .nil)) (.cons (.cons .nil)) L) rfl t2 t0 (swg (g:=111) rfl rfl (c_c hG hX cl48 rfl hN (vI [-2,1] dC dC) L) rfl t1 t0 (swg (g:=111) rfl rfl (c_c hG hX cl25 rfl hN hc1 L) rfl t3 t0 (swg (g:=111) rfl rfl (P3 L) rfl t1 t0 (sw (U3 rfl L) t2 t0 (mV L rfl (swg (g:=120) rfl rfl (R6 ag24 sz24 rF (by exact al2) rfl L) rfl t1 t1 ?_))))))))
 refine swg (g:=120) rfl rfl (E4 (vs:=[_,_]) un27 ti3 rfl rfl dC dC rfl (M2 (.cons rfl .nil) rfl) rfl (.cons rfl (.atom rfl) rfl pu1 (.cons rfl (.atom rfl) rfl (.skip pu1) .nil)) (.cons (.cons .nil)) L) rfl t2 t0 (swg (g:=120) rfl rfl (c_c hG hX cl48 rfl hN (vI [1,3] dC dC) L) rfl t1 t0 (swg (g:=120) rfl rfl (E4 (vs:=[_,_]) un27 ti3 rfl rfl dC dC rfl (M2 (.cons rfl .nil) rfl) rfl (.cons rfl (.atom rfl) rfl pu1 (.cons rfl (.atom rfl) rfl (.skip pu1) .nil)) (.cons (.cons .nil)) L) rfl t2 t0 (swg (g:=120) rfl rfl (c_c hG hX cl48 rfl hN (vI [2,-1] dC dC) L) rfl t1 t0 (swg (g:=120) rfl rfl (c_c hG hX cl25 rfl hN hc2 L) rfl t3 t0 (sw (U3 rfl L) t2 t0 ?_)))))
 refine R1 ⟨i5 [⟨[4],[],[109],[]⟩,⟨[109],[],[110],[]⟩,⟨[110],[],[111],[]⟩,⟨[111,8],[8],[112],[]⟩,⟨[111],[],[113],[]⟩,⟨[111,113],[],[114],[]⟩,⟨[111],[],[115],[]⟩,⟨[111,115],[],[116],[]⟩,⟨[111,112,114,116],[],[117],[]⟩,⟨[111,117],[],[118],[]⟩,⟨[111,118],[],[119],[]⟩,⟨[119],[],[120],[]⟩,⟨[120,8],[8],[121],[]⟩,⟨[120],[],[122],[]⟩,⟨[120,122],[],[123],[]⟩,⟨[120],[],[124],[]⟩,⟨[120,124],[],[125],[]⟩,⟨[120,121,123,125],[],[126],[]⟩,⟨[120,126],[],[127],[]⟩] rF rF dC,[(127,_)],[],t1,trivial,?_⟩
 refine T3 rfl rfl ?_
 refine V1 (xq ?_)
 refine exr (sw (E4 (vs:=[_,_]) un27 ti3 rfl rfl dC dC rfl (M2 (.cons rfl .nil) rfl) rfl (.cons rfl (.atom rfl) rfl pu1 (.cons rfl (.atom rfl) rfl (.skip pu1) .nil)) (.cons (.cons .nil)) L) t2 t0 (cK hG hX cl48 hN (vI [1,2] dC dC) L t1 (sw (E4 (vs:=[_,_]) un27 ti3 rfl rfl dC dC rfl (M2 (.cons rfl .nil) rfl) rfl (.cons rfl (.atom rfl) rfl pu1 (.cons rfl (.atom rfl) rfl (.skip pu1) .nil)) (.cons (.cons .nil)) L) t2 t0 (cK hG hX cl48 hN (vI [3,4] dC dC) L t1 (sw (E4 (vs:=[_,_]) un22 ti40 rfl rfl dC dC rfl (M2 (.cons rfl .nil) rfl) rfl (.cons rfl .sl rfl pu1 (.cons rfl .sl rfl (.skip pu1) .nil)) (.cons (.cons .nil)) L) t2 t0 (cK hG hX cl47 hN (mtI 2 [[1,2],[3,4]]) L t2 (sw (E4 (vs:=[_,_]) un27 ti3 rfl rfl dC dC rfl (M2 (.cons rfl .nil) rfl) rfl (.cons rfl (.atom rfl) rfl pu1 (.cons rfl (.atom rfl) rfl (.skip pu1) .nil)) (.cons (.cons .nil)) L) t2 t0 (cK hG hX cl48 hN (vI [0,1] dC dC) L t1 (sw (E4 (vs:=[_,_]) un27 ti3 rfl rfl dC dC rfl (M2 (.cons rfl .nil) rfl) rfl (.cons rfl (.atom rfl) rfl pu1 (.cons rfl (.atom rfl) rfl (.skip pu1) .nil)) (.cons (.cons .nil)) L) t2 t0 (cK hG hX cl48 hN (vI [1,0] dC dC) L t1 (sw (E4 (vs:=[_,_]) un22 ti40 rfl rfl dC dC rfl (M2 (.cons rfl .nil) rfl) rfl (.cons rfl .sl rfl pu1 (.cons rfl .sl rfl (.skip pu1) .nil)) (.cons (.cons .nil)) L) t2 t0 ?_)))))))))))
 refine cK hG hX cl47 hN (mtI 2 [[0,1],[1,0]]) L t2 (cK hG hX cl41 hN V1g L t2 (mV L rfl (sw (W3 rfl L) t1 t0 (sw (W3 rfl L) t1 t0 (swb (Y3 (k:=9) (n:=2) zv24 (.cons rfl (.cons rfl .nil)) rfl (P0 _ rfl) L) t0 t0 ⟨rfl,rfl⟩ (sb (Z2 sz24 rF pa2 rfl pu2) t2 t1 ?_))))))
 refine aV L rfl (zn [(4,_),(9,_)] [(9,_)] t2 t1 (T1 (exd rF ?_)))
 refine mV L rfl (sw (c_n L) t2 t0 (mV L rfl (swg (g:=146) rfl rfl (R6 ag24 sz24 rF (by exact al2) rfl L) rfl t1 t1 ?_)))
 refine swg (g:=146) rfl rfl (E4 (vs:=[_,_]) un27 ti3 rfl rfl dC dC rfl (M2 (.cons rfl .nil) rfl) rfl (.cons rfl (.atom rfl) rfl pu1 (.cons rfl (.atom rfl) rfl (.skip pu1) .nil)) (.cons (.cons .nil)) L) rfl t2 t0 (swg (g:=146) rfl rfl (c_c hG hX cl48 rfl hN (vI [2,1] dC dC) L) rfl t1 t0 (swg (g:=146) rfl rfl (E4 (vs:=[_,_]) un27 ti3 rfl rfl dC dC rfl (M2 (.cons rfl .nil) rfl) rfl (.cons rfl (.atom rfl) rfl pu1 (.cons rfl (.atom rfl) rfl (.skip pu1) .nil)) (.cons (.cons .nil)) L) rfl t2 t0 (swg (g:=146) rfl rfl (c_c hG hX cl48 rfl hN (vI [4,3] dC dC) L) rfl t1 t0 (swg (g:=146) rfl rfl (E4 (vs:=[_,_]) un22 ti40 rfl rfl dC dC rfl (M2 (.cons rfl .nil) rfl) rfl (.cons rfl .sl rfl pu1 (.cons rfl .sl rfl (.skip pu1) .nil)) (.cons (.cons .nil)) L) rfl t2 t0 (swg (g:=146) rfl rfl (c_c hG hX cl47 rfl hN (mtI 2 [[2,1],[4,3]]) L) rfl t2 t0 (swg (g:=146) rfl rfl (c_c hG hX cl17 rfl hN (k1s 2 [[2,1],[4,3]] dC dC dC) L) rfl t2 t0 (swg (g:=146) rfl rfl (P3 L) rfl t1 t0 (sw (U3 rfl L) t2 t0 ?_))))))))
 refine R1 ⟨i5 [⟨[4],[],[144],[]⟩,⟨[144],[],[145],[]⟩,⟨[145],[],[146],[]⟩,⟨[146,9],[9],[147],[]⟩,⟨[146],[],[148],[]⟩,⟨[146,148],[],[149],[]⟩,⟨[146],[],[150],[]⟩,⟨[146,150],[],[151],[]⟩,⟨[146,149,151],[],[152],[]⟩,⟨[146,152],[],[153],[]⟩,⟨[146,147,153],[],[154],[]⟩,⟨[146,154],[],[155],[]⟩,⟨[146,155],[],[156],[]⟩] rF rF dC,[(9,_),(156,_)],[(9,_)],t2,t1,?_⟩
 refine T3 rfl rfl ?_
 refine V1 (xq ?_)
 refine exr (lp2 ag24 sz24 L rfl rfl (cK hG hX cl31 hN P1x L t1 (mV L rfl (sw (W3 rfl L) t1 t0 (sw (W3 rfl L) t1 t0 (swb (Y3 (k:=10) (n:=4) zv47 (.cons rfl (.cons rfl (.cons rfl (.cons rfl .nil)))) rfl (P0 _ rfl) L) t0 t0 ⟨rfl,rfl⟩ (sb (Z2 sz47 rF pa4 rfl pu4) t2 t1 ?_)))))))
 refine aV L rfl (zn [(4,_),(10,_)] [(10,_)] t2 t1 (exr (sw (E4 (vs:=[_,_,_]) un27 ti3 rfl rfl dC dC rfl (M2 (.cons rfl .nil) rfl) rfl (.cons rfl (.atom rfl) rfl pu1 (.cons rfl (.atom rfl) rfl (.skip pu1) (.cons rfl (.atom rfl) rfl (.skip (.skip pu1)) .nil))) (.cons (.cons (.cons .nil))) L) t3 t0 (cK hG hX cl48 hN (vI [1,0,1] dC dC) L t1 (sw (E4 (vs:=[_,_,_]) un27 ti3 rfl rfl dC dC rfl (M2 (.cons rfl .nil) rfl) rfl (.cons rfl (.atom rfl) rfl pu1 (.cons rfl (.atom rfl) rfl (.skip pu1) (.cons rfl (.atom rfl) rfl (.skip (.skip pu1)) .nil))) (.cons (.cons (.cons .nil))) L) t3 t0 (cK hG hX cl48 hN (vI [2,0,2] dC dC) L t1 (sw (E4 (vs:=[_,_,_]) un27 ti3 rfl rfl dC dC rfl (M2 (.cons rfl .nil) rfl) rfl (.cons rfl (.atom rfl) rfl pu1 (.cons rfl (.atom rfl) rfl (.skip pu1) (.cons rfl (.atom rfl) rfl (.skip (.skip pu1)) .nil))) (.cons (.cons (.cons .nil))) L) t3 t0 (cK hG hX cl48 hN (vI [0,1,1] dC dC) L t1 (sw (E4 (vs:=[_,_,_]) un22 ti40 rfl rfl dC dC rfl (M2 (.cons rfl .nil) rfl) rfl (.cons rfl .sl rfl pu1 (.cons rfl .sl rfl (.skip pu1) (.cons rfl .sl rfl (.skip (.skip pu1)) .nil))) (.cons (.cons (.cons .nil))) L) t3 t0 (sw (E4 (vs:=[_,_,_]) un27 ti3 rfl rfl dC dC rfl (M2 (.cons rfl .nil) rfl) rfl (.cons rfl (.atom rfl) rfl pu1 (.cons rfl (.atom rfl) rfl (.skip pu1) (.cons rfl (.atom rfl) rfl (.skip (.skip pu1)) .nil))) (.cons (.cons (.cons .nil))) L) t3 t0 (cK hG hX cl48 hN (vI [3,1,4] dC dC) L t1 ?_)))))))))))
 refine cK hG hX cl30 hN hcom L t2 (mV L rfl (sw (W3 rfl L) t1 t0 (sw (W3 rfl L) t1 t0 (sw (W3 rfl L) t1 t0 (aV L rfl (aV L rfl (aV L rfl (zn [(4,_),(10,_),(11,_),(13,_)] [(10,_)] t4 t1 (exd rF ?_)))))))))
 refine mV L rfl (sw (c_e L) t2 t0 (mV L rfl (gV (g:=178) rfl rfl L rfl rfl (swg (g:=178) rfl rfl (c_e L) rfl t2 t0 (sw (m4 rfl L) t2 t0 (mV L rfl (swg (g:=182) rfl rfl (R6 ag47 sz47 rF (by exact al4) rfl L) rfl t1 t1 ?_)))))))
 refine swg (g:=182) rfl rfl (c_c hG hX cl49 rfl hN (d0k 2 dC dC) L) rfl t1 t0 (swg (g:=182) rfl rfl (c_c hG hX cl33 rfl hN (B0a ((2:Int):Rat) ((2:Int):Rat) (by decide +kernel) (by decide +kernel)) L) rfl t2 t0 ?_)
 refine sw (m4 rfl L) t2 t0 (mV L rfl (gV (g:=187) rfl rfl L rfl rfl (swg (g:=187) rfl rfl (E4 (vs:=[_,_,_]) un27 ti3 rfl rfl dC dC rfl (M2 (.cons rfl .nil) rfl) rfl (.cons rfl (.atom rfl) rfl pu1 (.cons rfl (.atom rfl) rfl (.skip pu1) (.cons rfl (.atom rfl) rfl (.skip (.skip pu1)) .nil))) (.cons (.cons (.cons .nil))) L) rfl t3 t0 (swg (g:=187) rfl rfl (c_c hG hX cl48 rfl hN (vI [3,0,1] dC dC) L) rfl t1 t0 (swg (g:=187) rfl rfl (c_c hG hX cl29 rfl hN (k1y [3,0,1] dC dC) L) rfl t2 t0 (sw (m4 rfl L) t2 t0 (aV L rfl ?_)))))))
 refine R1 ⟨i5 [⟨[4],[],[176],[]⟩,⟨[176],[],[177],[]⟩,⟨[177],[],[178],[]⟩,⟨[178,13],[],[179],[]⟩,⟨[178,179],[],[180],[]⟩,⟨[178,180],[],[181],[]⟩,⟨[181],[],[182],[]⟩,⟨[182,10],[10],[183],[]⟩,⟨[182],[],[184],[]⟩,⟨[182,183,184],[],[185],[]⟩,⟨[182,185],[],[186],[]⟩,⟨[186],[],[187],[]⟩,⟨[187,11],[],[188],[]⟩,⟨[187],[],[189],[]⟩,⟨[187,189],[],[190],[]⟩,⟨[187,188,190],[],[191],[]⟩,⟨[187,191],[],[192],[]⟩,⟨[192],[],[0],[]⟩] rF rF dC,[(0,_)],[],t1,trivial,?_⟩
 refine Y1 ?_
 refine Q0 (.tmp rfl) ?_
 rfl
def WdM (m:List (List RQ)):Prop:=∀ r∈m,∀ q∈r,q.wd
theorem y0w {n:Nat}{c:Int}{m:List (List RQ)}(hn:n<1000)(hw:WdM m)(h:o7 n c m=true):MSm m:=by
 rw [o7,j0,decide_eq_true_iff,s0] at h
 refine ⟨by omega,fun r hr=>?_⟩
 have h1:=h.2 r hr
 rw [smV,j0,decide_eq_true_iff,s0] at h1
 refine ⟨by omega,fun a ha=>?_⟩
 have h2:=h1.2 a ha
 rw [smW,decide_eq_true_iff] at h2
 exact ⟨hw r hr a ha,by omega,by omega⟩
theorem K1v {n:Nat}{c:Int}{M:List (List Rat)}(h:o7 n c (M.map (List.map RQ.of))=true):M.length≤n∧(∀ r∈M,r.length≤n)∧MB 6 M:=by
 rw [o7,j0,decide_eq_true_iff,s0,O0] at h
 have key:∀ r∈M,r.length≤n∧∀ a∈r,qw a≤6:=fun r hr=>by
  have h1:=h.2 _ (List.mem_map_of_mem hr)
  rw [smV,j0,decide_eq_true_iff,s0,O0] at h1
  refine ⟨h1.1,fun a ha=>?_⟩
  have h2:=h1.2 _ (List.mem_map_of_mem ha)
  rw [smW,decide_eq_true_iff] at h2
  exact Nat.max_le.2 h2
 exact ⟨h.1.1,fun r hr=>(key r hr).1,fun r hr=>(key r hr).2⟩
theorem h1n {n:Nat}{c:Nat}{m:List (List RQ)}(h:o7 n c m=true)(hc:c≤60):c≤n:=by
 rw [o7,j0,decide_eq_true_iff] at h
 omega
theorem W0r {n:Nat}{c:Int}{m:List (List RQ)}(hn:n<1000)(hw:WdM m)(h:o7 n c m=true)(hi:isM c m=true):∃ (k:Nat) (M:List (List Rat)),c=k∧m=M.map (List.map RQ.of)∧MOk k M∧k≤n∧M.length≤n∧MB 6 M:=by
 obtain ⟨k,M,rfl,rfl,hM⟩:=Q1q (y0w hn hw h) hi
 have:=K1v h
 exact ⟨k,M,rfl,rfl,hM,h1n h hM.cols,this.1,this.2.2⟩
end Go.Proofs.YtjagfionflbjbaaGreat.N
namespace Go.Proofs.YtjagfionflbjbaaGreat.SH
open Go Go.RowKit Go.ChangeShapes Go.WideShapes Go.ChangeAt
variable {H:Type} {enc:TypeId×Value→H} {P:Program}
theorem n0b (hl:laidOutB P=true){W W':World}(hb:Below W.heap.size W W'):∀ {ts:List TypeId} {vs:List Value} {ds:List (DataW H)} {ps:List MemPlace},
  (ts.all fun t=>P.readableRec t && decide (t<P.types.size))=true→DataW.TrodAll enc P W 0 (fun _=>true) true ts vs ds ps→(∀ x∈ps,x.block<W.heap.size) →
  DataW.TrodAll enc P W' 0 (fun b=>decide (b<W.heap.size)) true ts vs ds ps
 | [],vs,ds,ps,_,h,_=>by
  obtain ⟨rfl,rfl,rfl⟩:=trodAll_nil h
  rfl
 | t :: ts,vs,ds,ps,hr,h,hlt=>by
  obtain ⟨v,vs',d,ds',p,q,rfl,rfl,rfl,h1,h2⟩:=trodAll_cons h
  simp only [List.all_cons,j0,decide_eq_true_eq] at hr
  exact trodAll_cons_mk (Below.trod hl hr.1.1 hr.1.2 h1 hb fun x hx=>hlt x (List.mem_append_left _ hx)) (n0b hl hb hr.2 h2 fun x hx=>hlt x (List.mem_append_right _ hx))
theorem F1v {fn:Func}{s:ChangeSpec}{J7 fresh handsOn:Bool}{W W':World}{args:Array Value}{ds gs:List (DataW H)}{before:List MemPlace}{tb:TypeId}(hl:laidOutB P=true)(hr:(fn.params.toList.all fun t=>P.readableRec t && decide (t<P.types.size))=true)(htb:P.underlying tb=some .bool)(hrt:fn.resultTypes = #[tb])(hv:s.vars=[])
  (hW:DataW.Whole enc P fn.params.toList s.vars J7 W args.toList ds gs before) (hb:Below W.heap.size W W') (hs:s.fn H (ds++gs)={ results:=[.lit (.bool true)],args:=ds }):s.post enc P fn J7 fresh handsOn false W args (.bool true) W':=by
 have hW':=hW
 obtain ⟨p,q,hA,hV,rfl,hfz,hnd⟩:=hW
 rw [hv] at hV
 obtain ⟨rfl,rfl⟩:=trodVars_none hV
 refine ⟨ds,[],p++[],[],p,[],hW',?_,?_,?_,hb.frame _,fun h=>by cases h⟩
 ·rw [hs,hrt]; exact trodAll_mk1 (shut_bool htb true)
 ·rw [hs]; exact n0b hl hb hr hA fun x hx=>hW'.lt x (List.mem_append_left _ hx)
 ·rw [hs,hv]; rfl
end Go.Proofs.YtjagfionflbjbaaGreat.SH
set_option maxRecDepth 100000
namespace Go.Proofs.YtjagfionflbjbaaGreat.N
open Go Go.Proofs.YtjagfionflbjbaaGreat.SH Go.Proofs.YtjagfionflbjbaaGreat.NumA Go.Proofs.YtjagfionflbjbaaGreat Go.RowKit Go.ChangeShapes Go.WideShapes Go.ChangeAt Go.Joins
theorem own:ownKnob Tryz.prog.godebug=none:=by kernel_rfl
theorem J1m:laidOutB Tryz.prog=true:=by kernel_rfl
theorem J0m:Tryz.prog.cellsOf 45=2:=by kernel_rfl
theorem Y0v:Tryz.prog.cellsOf 47=4:=by kernel_rfl
theorem F1q:Tryz.prog.cellsOf 119=1:=by kernel_rfl
theorem p1x:Tryz.prog.cellsOf 43=1:=by kernel_rfl
theorem W1c:Tryz.prog.cellsOf 4=1:=by kernel_rfl
theorem G1k:Tryz.prog.cellsOf 3=1:=by kernel_rfl
theorem J1q:Tryz.prog.cellsOf 22=1:=by kernel_rfl
theorem K1p:Tryz.prog.cellsOf 40=1:=by kernel_rfl
theorem M1x:Tryz.prog.cellsOf 24=2:=by kernel_rfl
theorem Y0r {w:World}{a:Addr}{k:IntKind}{zs:List Int}{n:Nat}(hcell:∀ i,i<zs.length→w.cell? (a.add i)=some (.int k (zs.getD i 0)))(hn:n≤zs.length) :
  O7 (fun _=>True) (hp w) ((zs.take n).map fun z=>.a (.int k z)) (some a):=by
 by_cases h0:n=0
 ·subst h0; trivial
 ·obtain ⟨b,off,rfl,hc⟩:=ints_at hcell (by omega)
  refine O7.of trivial (b5.of fun i y hy=>?_)
  rw [List.getElem?_map,List.getElem?_take] at hy
  split at hy
  ·rename_i hi
   have hi':i<zs.length:=by omega
   rw [K1 hi'] at hy
   simp only [Option.map_some,U0] at hy
   subst hy
   refine ⟨.int k zs[i],?_,rfl,by simp [Rel]⟩
   rw [← D0s,hc i hi',f0,K1 hi']
   rfl
  ·cases hy
section
variable {H:Type} {enc:TypeId×Value→H} {W:World}
theorem M0k {n:Nat}{cs:List Value}{y:DataW H×List MemPlace}(h:DataW.trod enc Tryz.prog W 0 (fun _=>true) true n 45 cs=some y) :
  ∃ neg ws c0 c1,Wd ws∧cs=[c0,c1]∧Rel (fun _=>True) (hp W) (.a (.bool neg)) c0∧Rel (fun _=>True) (hp W) (.sl ws.length (M4 ws)) c1∧c0.oneCell'=true∧c1.oneCell'=true:=by
 obtain ⟨y0,y1,m,-,hl,h0,h1⟩:=trod_struct2 Tryz.underlying45 h
 rw [J0m] at hl
 match cs,hl with
 | [c0,c1],_ =>
  have h0':DataW.trod enc Tryz.prog W 0 (fun _=>true) true m 4 [c0]=some y0:=by simpa [W1c] using h0
  have h1':DataW.trod enc Tryz.prog W 0 (fun _=>true) true m 43 [c1]=some y1:=by simpa [p1x] using h1
  obtain ⟨b,hb,-⟩:=DataW.trod_bool Tryz.underlying4 h0'
  obtain rfl:c0 = .bool b:=by simpa using hb
  rcases open_ints Tryz.underlying43 Tryz.underlying119 F1q h1' with ⟨hcs,hx⟩ | ⟨a,len,cap,zs,hcs,_,hl,hm,hz,hx,hcell,hwz⟩
  ·obtain rfl:c1 = .slice none 0 0:=by simpa using hcs
   exact ⟨b,[],_,_,Wd.nil,rfl,by simp [Rel],⟨none,0,rfl,Nat.le_refl _,trivial⟩,rfl,rfl⟩
  ·obtain rfl:c1 = .slice (some a) len cap:=by simpa using hcs
   simp only [if_true] at hz
   have hlen:(zs.take len).length=len:=by rw [J0]; omega
   refine ⟨b,zs.take len,_,_,fun w hw=>?_,rfl,by simp [Rel],⟨some a,cap,by rw [hlen],by rw [hlen]; exact hl,Y0r hcell (by omega)⟩,rfl,rfl⟩
   have:=hwz w (List.mem_of_mem_take hw)
   simp only [Lit.wf,j0,decide_eq_true_eq] at this
   exact ⟨this.1,Int.lt_of_le_of_lt this.2 (by decide)⟩
theorem w1g {n:Nat}{cs:List Value}{y:DataW H×List MemPlace}(h:DataW.trod enc Tryz.prog W 0 (fun _=>true) true n 47 cs=some y) :
  ∃ r:RQ,r.wd∧L5 (fun _=>True) (hp W) (cR r) cs∧∀ c∈cs,c.oneCell'=true:=by
 obtain ⟨y0,y1,m,-,hl,h0,h1⟩:=trod_struct2 Tryz.underlying47 h
 rw [Y0v] at hl
 match cs,hl with
 | [c0,c1,c2,c3],_ =>
  have h0':DataW.trod enc Tryz.prog W 0 (fun _=>true) true m 45 [c0,c1]=some y0:=by simpa [J0m] using h0
  have h1':DataW.trod enc Tryz.prog W 0 (fun _=>true) true m 45 [c2,c3]=some y1:=by simpa [J0m] using h1
  obtain ⟨b,ws,d0,d1,w1,e1,a1,a2,o1,o2⟩:=M0k h0'
  obtain ⟨b',vs,d2,d3,w2,e2,a3,a4,o3,o4⟩:=M0k h1'
  simp only [List.cons.injEq,and_true] at e1 e2
  obtain ⟨rfl,rfl⟩:=e1
  obtain ⟨rfl,rfl⟩:=e2
  refine ⟨⟨b,ws,b',vs⟩,⟨w1,w2⟩,⟨_,_,rfl,a1,_,_,rfl,a2,_,_,rfl,a3,_,_,rfl,a4,rfl⟩,fun c hc=>?_⟩
  simp only [List.mem_cons,List.not_mem_nil,or_false] at hc
  rcases hc with rfl | rfl | rfl | rfl <;> assumption
theorem P0b {n:Nat}{v:Value}{y:DataW H×List MemPlace}(h:DataW.trod enc Tryz.prog W 0 (fun _=>true) true n 40 [v]=some y) :
  ∃ l:List RQ,(∀ r∈l,r.wd)∧Rel (fun _=>True) (hp W) (pVR l) v∧v.oneCell'=true:=by
 rcases DataW.trod_slice Tryz.underlying40 h with ⟨hcs,hx⟩ | ⟨a,len,cap,elems,rest,m,_,hcs,hx,_,hl,_,hlen,hel,_,_⟩
 ·obtain rfl:v = .slice none 0 0:=by simpa using hcs
  exact ⟨[],by simp,⟨none,0,rfl,Nat.le_refl _,trivial⟩,rfl⟩
 ·obtain rfl:v = .slice (some a) len cap:=by simpa using hcs
  have each:∀ i,i<len→∃ r:RQ,r.wd∧∀ j x,(cR r)[j]? = some x→∃ u,W.cell? ((a.add (i*4)).add j)=some u∧u.oneCell'=true∧Rel (fun _=>True) (hp W) x u:=fun i hi=>by
   have h1:=hel i hi
   rw [Y0v,K1 (by omega),Option.bind_eq_some_iff] at h1
   obtain ⟨cs,h2,h3⟩:=h1
   obtain ⟨-,h4,h5⟩:=World.cells?_some h2
   obtain ⟨r,hw,hr,ho⟩:=w1g h3
   refine ⟨r,hw,fun j x hx=>?_⟩
   obtain ⟨u,hu,hru⟩:=hr.get hx
   have hj:j<4:=by have:=(j1.1 hu).1; omega
   refine ⟨u,?_,ho u (O1 hu),hru⟩
   rw [← hu,← h5 j hj]
  have build:∀ k,k≤len→∃ l:List RQ,l.length=k∧(∀ r∈l,r.wd)∧∀ i,i<k→∀ j x,(cR (l.getD i default))[j]? = some x→∃ u,W.cell? ((a.add (i*4)).add j)=some u∧u.oneCell'=true∧Rel (fun _=>True) (hp W) x u:=fun k=>by
   induction k with
   | zero=>exact fun _=>⟨[],rfl,by simp,fun i hi=>absurd hi (Nat.not_lt_zero _)⟩
   | succ k ih =>
    intro hk
    obtain ⟨l,h1,h2,h3⟩:=ih (by omega)
    obtain ⟨r,hw,hr⟩:=each k (by omega)
    refine ⟨l++[r],by simp [h1],fun q hq=>?_,fun i hi j x hx=>?_⟩
    ·rcases List.mem_append.1 hq with hq | hq
     ·exact h2 q hq
     ·rw [List.mem_singleton.1 hq]; exact hw
    ·by_cases e:i<k
     ·refine h3 i e j x ?_
      rw [f0,X0 (by omega),← f0] at hx
      exact hx
     ·obtain rfl:i=k:=by omega
      refine hr j x ?_
      rw [f0,D0 (by omega),h1,Nat.sub_self] at hx
      exact hx
  obtain ⟨l,h1,h2,h3⟩:=build len (Nat.le_refl _)
  refine ⟨l,h2,⟨some a,cap,by rw [h1],by rw [h1]; exact hl,?_⟩,rfl⟩
  by_cases h0:l.length=0
  ·rw [E0 h0]; trivial
  ·obtain ⟨u0,hu0,-⟩:=h3 0 (by omega) 0 _ rfl
   obtain ⟨b,off,spot⟩:=a
   have hspot:spot=none:=by simpa [Addr.add] using World.cell?_spot hu0
   subst hspot
   refine O7.of trivial (b5.of fun i x hx=>?_)
   have hi:i<l.length*4:=by
    have:=(j1.1 hx).1
    rwa [B0s] at this
   have hg:=n1m (v:=l) (i:=i / 4) (by omega)
   have hx':(cR (l.getD (i / 4) default))[i % 4]? = some x:=by
    rw [← hg,List.getElem?_take,if_pos (by omega),List.getElem?_drop,show i / 4*4+i % 4=i by omega]
    exact hx
   obtain ⟨u,hu,ho,hru⟩:=h3 (i / 4) (by omega) (i % 4) x hx'
   refine ⟨u,?_,ho,hru⟩
   rw [Go.WideShapes.add_plain,Go.WideShapes.add_plain,Nat.add_assoc,show i / 4*4+i % 4=i by omega] at hu
   rw [← D0s]; exact hu
theorem p1s {n:Nat}{v:Value}{y:DataW H×List MemPlace}(h:DataW.trod enc Tryz.prog W 0 (fun _=>true) true n 22 [v]=some y) :
  ∃ m:List (List RQ),WdM m∧Rel (fun _=>True) (hp W) (.sl m.length (f0z m)) v∧v.oneCell'=true:=by
 rcases DataW.trod_slice Tryz.underlying22 h with ⟨hcs,hx⟩ | ⟨a,len,cap,elems,rest,m,_,hcs,hx,_,hl,_,hlen,hel,_,_⟩
 ·obtain rfl:v = .slice none 0 0:=by simpa using hcs
  exact ⟨[],by simp [WdM],⟨none,0,rfl,Nat.le_refl _,trivial⟩,rfl⟩
 ·obtain rfl:v = .slice (some a) len cap:=by simpa using hcs
  have each:∀ i,i<len→∃ (l:List RQ) (u:Value),(∀ r∈l,r.wd)∧W.cell? (a.add i)=some u∧u.oneCell'=true∧Rel (fun _=>True) (hp W) (pVR l) u:=fun i hi=>by
   have h1:=hel i hi
   rw [K1p,K1 (by omega),Option.bind_eq_some_iff] at h1
   obtain ⟨cs,h2,h3⟩:=h1
   obtain ⟨-,h4,h5⟩:=World.cells?_some h2
   match cs,h4 with
   | [u],_ =>
    obtain ⟨l,hw,hr,ho⟩:=P0b h3
    refine ⟨l,u,hw,?_,ho,hr⟩
    have:=h5 0 (by decide)
    rw [Nat.mul_one] at this
    simpa [Addr.add] using this
  have build:∀ k,k≤len→∃ l:List (List RQ),l.length=k∧WdM l∧∀ i,i<k→∃ u,W.cell? (a.add i)=some u∧u.oneCell'=true∧Rel (fun _=>True) (hp W) (pVR (l.getD i [])) u:=fun k=>by
   induction k with
   | zero=>exact fun _=>⟨[],rfl,by simp [WdM],fun i hi=>absurd hi (Nat.not_lt_zero _)⟩
   | succ k ih =>
    intro hk
    obtain ⟨l,h1,h2,h3⟩:=ih (by omega)
    obtain ⟨r,u,hw,hc,ho,hr⟩:=each k (by omega)
    refine ⟨l++[r],by simp [h1],fun q hq=>?_,fun i hi=>?_⟩
    ·rcases List.mem_append.1 hq with hq | hq
     ·exact h2 q hq
     ·rw [List.mem_singleton.1 hq]; exact hw
    ·by_cases e:i<k
     ·obtain ⟨u,g1,g2,g3⟩:=h3 i e
      refine ⟨u,g1,g2,?_⟩
      rwa [f0,X0 (by omega),← f0]
     ·obtain rfl:i=k:=by omega
      refine ⟨u,hc,ho,?_⟩
      rwa [f0,D0 (by omega),h1,Nat.sub_self]
  obtain ⟨l,h1,h2,h3⟩:=build len (Nat.le_refl _)
  refine ⟨l,h2,⟨some a,cap,by rw [h1],by rw [h1]; exact hl,?_⟩,rfl⟩
  by_cases h0:l.length=0
  ·rw [E0 h0]; trivial
  ·obtain ⟨u0,hu0,-⟩:=h3 0 (by omega)
   obtain ⟨b,off,spot⟩:=a
   have hspot:spot=none:=by simpa [Addr.add] using World.cell?_spot hu0
   subst hspot
   refine O7.of trivial (b5.of fun i x hx=>?_)
   have hi:i<l.length:=by
    have:=(j1.1 hx).1
    rwa [V0y] at this
   rw [h0w hi] at hx
   obtain rfl:=Option.some.inj hx
   obtain ⟨u,hu,ho,hru⟩:=h3 i (by omega)
   refine ⟨u,?_,ho,hru⟩
   rw [Go.WideShapes.add_plain] at hu
   rw [← D0s]; exact hu
theorem M1p {r:Reach}{b0:Nat}{v:Value}{d:DataW H}{p:List MemPlace}(hv:Value.okWide Tryz.prog W r b0 24 v)(h:DataW.Trod enc Tryz.prog W 0 (fun _=>true) true 24 v d p) :
  ∃ (c:Int) (m:List (List RQ)),WdM m∧(-9223372036854775808≤c∧c<9223372036854775808)∧Rel (fun _=>True) (hp W) (pMR c m) v:=by
 obtain ⟨cs,rfl,-⟩:=okWide_struct Tryz.underlying24 hv
 obtain ⟨n,h⟩:=h
 obtain ⟨y0,y1,m,-,hl,h0,h1⟩:=trod_struct2 Tryz.underlying24 h
 rw [M1x] at hl
 match hcs:(Value.agg cs).cells.toList,hl with
 | [c0,c1],_ =>
  rw [hcs] at h0 h1
  have h0':DataW.trod enc Tryz.prog W 0 (fun _=>true) true m 3 [c0]=some y0:=by simpa [G1k] using h0
  have h1':DataW.trod enc Tryz.prog W 0 (fun _=>true) true m 22 [c1]=some y1:=by simpa [G1k,J1q] using h1
  obtain ⟨k,hk,-,hwf⟩:=DataW.trod_int Tryz.underlying3 h0'
  obtain rfl:c0 = .int .i64 k:=by simpa using hk
  obtain ⟨l,hw,hr,ho⟩:=p1s h1'
  have e':cs.toList=[.int .i64 k,c1]:=by simpa [Value.cells] using hcs
  simp only [Lit.wf,j0,decide_eq_true_eq] at hwf
  refine ⟨k,l,hw,⟨hwf.1,Int.lt_of_le_of_lt hwf.2 (by decide)⟩,cs.toList,by simp,by rw [e']; exact ⟨_,_,rfl,by simp [Rel],_,_,rfl,hr,rfl⟩,?_⟩
  rw [e']
  intro c hc
  simp only [List.mem_cons,List.not_mem_nil,or_false] at hc
  rcases hc with rfl | rfl
  ·rfl
  ·exact ho
theorem d1n {r:Reach}{b0:Nat}{v:Value}{d:DataW H}{p:List MemPlace}(hv:Value.okWide Tryz.prog W r b0 40 v)(h:DataW.Trod enc Tryz.prog W 0 (fun _=>true) true 40 v d p) :
  ∃ l:List RQ,(∀ r∈l,r.wd)∧Rel (fun _=>True) (hp W) (pVR l) v:=by
 obtain ⟨a,k,c,rfl⟩:=okWide_slice Tryz.underlying40 hv
 obtain ⟨n,h⟩:=h
 obtain ⟨l,hw,hr,-⟩:=P0b h
 exact ⟨l,hw,hr⟩
end
end Go.Proofs.YtjagfionflbjbaaGreat.N
set_option maxRecDepth 100000
set_option maxHeartbeats 4000000
namespace Go.Proofs.YtjagfionflbjbaaGreat.N
open Go Go.Proofs.YtjagfionflbjbaaGreat.SH Go.Proofs.YtjagfionflbjbaaGreat.NumA
open Go.Proofs.Tryz renaming call11→cl11,call12→cl12,call13→cl13,call14→cl14,call15→cl15,call16→cl16,call17→cl17,call18→cl18,call19→cl19,call20→cl20,call21→cl21,call22→cl22,call23→cl23,call24→cl24,call25→cl25,call26→cl26,call27→cl27,call28→cl28,call29→cl29,call31→cl31,call32→cl32,call33→cl33,call34→cl34,call35→cl35,call36→cl36,call37→cl37,isAgg22→ag22,isAgg24→ag24,isAgg3→ag3,isAgg40→ag40,isAgg47→ag47,sizeOf22→sz22,sizeOf24→sz24,sizeOf3→sz3,sizeOf40→sz40,sizeOf47→sz47,underlying22→un22,underlying24→un24,underlying27→un27,underlying40→un40,underlying4→un4,zeroValue24→zv24,zeroValue47→zv47
theorem V1n {X Y n N:Nat}(h:X≤Y)(hn:n≤N)(hY:g0s Y N≤700000000):g0s X n≤700000000:=by
 refine Nat.le_trans (y0q hn) (Nat.le_trans ?_ hY)
 unfold g0s
 have:=Nat.mul_le_mul_left (2 ^ N) (show X+1≤Y+1 by omega)
 omega
theorem H1y {u v:List Rat}(huv:u.length=v.length):∀ k,k≤u.length→dtF u v k=sN k fun t=>u.getD t 0*v.getD t 0
 | 0,_=>rfl
 | k+1,h=>by rw [d1d oM huv,H1y huv k oM]; rfl
theorem V0b {u v:List Rat}(huv:u.length=v.length):Z8 u v=sN u.length fun t=>u.getD t 0*v.getD t 0:=by
 rw [← H1y huv _ (Nat.le_refl _),v0k,dtR,dtF,C0 sO]
theorem y1x {M:List (List Rat)}{j t:Nat}:(w7 M j).getD t 0=ent M t j:=by
 by_cases h:t<M.length
 ·simp [w7,ent,f0,h]
 ·rw [ent,show M.getD t []=[] by simp [f0,show M.length≤t by omega]]
  simp [w7,f0,show M.length≤t by omega]
theorem k1m {c A B:Nat}{L:List (List Rat)}{r:List Rat}(hL:RL c (lpr L))(hr:r.length=c)(hA:∀ j,qw (r.getD j 0)≤A)(hA1:1≤A)(hB:MB B L)(hB1:1≤B):∀ k,k≤L.length→(∀ j,qw ((s8 (L.take k) r).getD j 0)≤A+k*(A+B+2))∧∀ t,k≤t→t<L.length→(s8 (L.take k) r).getD (v3 (L.getD t [])) 0=r.getD (v3 (L.getD t [])) 0
 | 0,_=>⟨fun j=>by rw [List.take_zero]; show qw (r.getD j 0)≤_; have:=hA j; omega,fun t _ _=>by rw [List.take_zero]; rfl⟩
 | k+1,h=>by
  obtain ⟨h1,h2⟩:=k1m hL hr hA hA1 hB hB1 k oM
  have hk:k<L.length:=h
  have hlen:=N0r (fun q hq=>hL.len (v3 q,q) (n6.2 ⟨hq,rfl⟩)) hr k
  have hqk:=hL.len (v3 (L.getD k []),L.getD k []) (n6.2 ⟨gDL hk,rfl⟩)
  have hll:(L.getD k []).length=(s8 (L.take k) r).length:=by rw [hlen]; exact hqk
  have hq:∀ j,qw ((L.getD k []).getD j 0)≤B:=fun j=>by
   by_cases hj:j<(L.getD k []).length
   ·exact hB _ (gDL hk) _ (v4 hj)
   ·rw [f0,List.getElem?_eq_none oM]; show qw 0≤B; rw [d0y]; exact hB1
  refine ⟨fun j=>?_,fun t ht htl=>?_⟩
  ·rw [w0x hk,W7 hll,h2 k (Nat.le_refl _) hk]
   have a1:=F1a ((s8 (L.take k) r).getD j 0) (r.getD (v3 (L.getD k [])) 0*(L.getD k []).getD j 0)
   have a2:=m9 (r.getD (v3 (L.getD k [])) 0) ((L.getD k []).getD j 0)
   have a3:=h1 j
   have a4:=hA (v3 (L.getD k []))
   have a5:=hq j
   rw [Nat.add_mul]; omega
  ·have hne:v3 (L.getD t [])≠v3 (L.getD k []):=by
    have ha:=hL.asc
    rw [lpr,List.pairwise_map,List.pairwise_iff_getElem] at ha
    have:=ha k t hk htl oM
    rw [f0,f0,K1 hk,K1 htl]
    simp only [Option.getD_some] at this ⊢; omega
   have hz:(L.getD k []).getD (v3 (L.getD t [])) 0=0:=hL.oth (v3 (L.getD t []),L.getD t []) (n6.2 ⟨gDL htl,rfl⟩) (v3 (L.getD k []),L.getD k []) (n6.2 ⟨gDL hk,rfl⟩) hne
   rw [w0x hk,W7 hll,hz,h2 t oM htl]; grind
theorem J1z {v:List Rat}{j:Nat}(hj:j<v.length):v[j]=v.getD j 0:=by simp [f0,hj]
theorem k1n {B:Nat}{M:List (List Rat)}(h:MB B M)(i:Nat):MB B (M.take i):=fun r hr=>h r (List.mem_of_mem_take hr)
theorem b2w {c:Nat}{M:List (List Rat)}(hl:∀ r∈M,r.length=c)(hB:MB 6 M)(hn:M.length≤14)(hc:c≤15):RE c BB 130000000 M:=by
 have key:∀ i,i≤M.length→∀ X,g0s (192*(i*c+0)) i≤X→MB (X / 32+1) (B4 (M.take i)):=fun i hi X hX=>by
  have rc:RC i c (M.take i):=⟨by rw [J0]; omega,fun r hr=>hl r (List.mem_of_mem_take hr)⟩
  have hC:=V1h (l:=[]) rc (k1n hB i) sM fun _ _=>.inl (k1r (n:=i))
  have h1:=(P1m ((m1h rc V0k hC (Nat.le_refl c) (Nat.le_refl i)).mono hX)).1
  rw [(v1r rc (V0k (n:=i))).1]
  exact k1n h1 _
 have mono:∀ {X Y n N:Nat},X≤Y→n≤N→g0s X n≤g0s Y N:=fun {X Y n N} h hn=>by
  refine Nat.le_trans (y0q hn) ?_
  unfold g0s
  have:=Nat.mul_le_mul_left (2 ^ N) (show X+1≤Y+1 by omega)
  omega
 refine ⟨hl,by omega,by omega,fun i hi=>?_,fun i hi k a ha=>?_,by decide⟩
 ·refine (key i hi 700000000 (Nat.le_trans (mono (Y:=192*210) (N:=14) ?_ oM) (by decide +kernel))).mono dC
  have:=Nat.mul_le_mul (show i≤14 by omega) hc; omega
 ·have hb:=(key i oM 307000000 (Nat.le_trans (mono (Y:=192*195) (N:=13) (by have:=Nat.mul_le_mul (show i≤13 by omega) hc; omega) oM) (by decide +kernel))).mono (show 307000000 / 32+1≤9600000 by decide)
  have hrl:=(J8 (c:=c) (m:=M.take i) fun r hr=>hl r (List.mem_of_mem_take hr)).1
  have hlen:=n0m (M.take i)
  rw [J0] at hlen
  obtain ⟨L,hL⟩:∃ L,L=B4 (M.take i):=⟨_,rfl⟩
  rw [← hL] at ha hb hrl hlen
  obtain ⟨j,hj,rfl⟩:=List.getElem_of_mem ha
  have hA:∀ j,qw ((M.getD i []).getD j 0)≤6:=fun j=>by
   by_cases hj:j<(M.getD i []).length
   ·exact hB _ (gDL hi) _ (v4 hj)
   ·rw [f0,List.getElem?_eq_none oM]; show qw 0≤6; rw [d0y]; decide
  have e:(s8 (L.take k) (M.getD i []))[j]=(s8 (L.take k) (M.getD i [])).getD j 0:=J1z hj
  rw [e]
  have hkk:L.take k=L.take (min k L.length):=by rw [List.take_eq_take_iff]; omega
  rw [hkk]
  have h1:=(k1m hrl (hl _ (gDL hi)) hA dC hb dC (min k L.length) oM).1 j
  have h2:min k L.length*(6+9600000+2)≤13*(6+9600000+2):=V0 _ oM
  omega
theorem Y0k {pv:List Nat}{g:Nat→Rat}{x:List Rat}{a:Rat}:∀ {k:Nat},a∈n0z pv g x k→a∈x∨∃ i,i<k∧a=g i
 | 0,h=>.inl h
 | k+1,h=>by
  rw [C8] at h
  rcases List.mem_or_eq_of_mem_set h with h | h
  ·rcases Y0k h with h | ⟨i,hi,e⟩
   ·exact .inl h
   ·exact .inr ⟨i,by omega,e⟩
  ·exact .inr ⟨k,by omega,h⟩
theorem P1z {B i j:Nat}{M:List (List Rat)}(h:MB B M)(h1:1≤B):qw (ent M i j)≤B:=by
 rcases v0m (m:=M) (i:=i) (j:=j) with e | ⟨r,hr,ha⟩
 ·rw [e,d0y]; exact h1
 ·exact h r hr _ ha
theorem q0j {n:Nat}{v:List RQ}(hn:n<1000)(hw:∀ r∈v,r.wd)(h:smV n v=true):v.length<1000000000∧∀ r∈v,r.sm:=by
 rw [smV,j0,decide_eq_true_iff,s0] at h
 refine ⟨by omega,fun a ha=>?_⟩
 have h2:=h.2 a ha
 rw [smW,decide_eq_true_iff] at h2
 exact ⟨hw a ha,by omega,by omega⟩
theorem V0s {n:Nat}{v:List RQ}(hn:n<1000)(hw:∀ r∈v,r.wd)(h:smV n v=true)(hi:v.all RQ.is=true):∃ l:List Rat,v=l.map RQ.of∧l.length≤n∧∀ a∈l,qw a≤6:=by
 obtain ⟨l,rfl⟩:=Q1z (q0j hn hw h).2 hi
 rw [smV,j0,decide_eq_true_iff,s0,O0] at h
 refine ⟨l,rfl,h.1,fun a ha=>?_⟩
 have h2:=h.2 _ (List.mem_map_of_mem ha)
 rw [smW,decide_eq_true_iff] at h2
 exact Nat.max_le.2 h2
theorem f1p {c:Int}{m:List (List RQ)}{b y:List RQ}(hm:WdM m)(hb:∀ r∈b,r.wd)(hy:∀ r∈y,r.wd)(h1:o7 14 c m=true)(h2:smV 14 b=true)(h3:smV 14 y=true):∃ v,y3 E 25 [pMR c m,pVR b,pVR y] (bZ v)∧y3 E 26 [pMR c m,pVR b,pVR y] (bZ v):=by
 have s1:=y0w dC hm h1
 have s2:=q0j dC hb h2
 have s3:=q0j dC hy h3
 cases hf:q1h c m b y with
 | false=>exact ⟨false,J1c c m b y s1 s2.1 s2.2 s3.1 s3.2 hf,v1v c m b y s1 s2.1 s2.2 s3.1 s3.2 hf⟩
 | true =>
  simp only [q1h,j0,decide_eq_true_eq] at hf
  obtain ⟨⟨⟨⟨f1,f2⟩,f3⟩,f4⟩,f5⟩:=hf
  obtain ⟨k,M,rfl,rfl,hM,hk,hl,hB⟩:=W0r dC hm h1 f1
  obtain ⟨u,rfl,ul,ub⟩:=V0s dC hb h2 f2
  obtain ⟨z,rfl,zl,zb⟩:=V0s dC hy h3 f3
  simp only [O0] at f4 f5
  rw [P0w,g0p,g0p]
  have hs:M.length*(6+6+1)+1<900000000:=by omega
  exact ⟨_,F0x k 6 M u z hM hB ub zb f4 f5 dC hs dC,B0v k 6 6 M u z hM hB ub zb f4 f5 hs dC⟩
theorem W0x {c:Nat}{M:List (List Rat)}{b:List Rat}:G0v c M b=true↔Q0q c M b:=by
 unfold G0v Q0q; simp
theorem K1a {c:Nat}{M:List (List Rat)}{x:List Rat}{i:Nat}(h:(M.getD i []).length=c)(hx:x.length=c):Z8 (M.getD i []) x=rvl c M (fun t=>x.getD t 0) i:=by
 rw [V0b (by rw [h,hx]),h]; rfl
theorem W0q {c:Nat}{pv:List Nat}{g:Nat→Rat}:(d0f c pv g).length=c:=by simp [d0f]
theorem g1g {c:Nat}{M:List (List Rat)}{b:List Rat}(h:∀ r∈M,r.length=c)(hb:b.length=M.length)(hc:Q0q c M b):apQ M (K7 c M b)=b:=by
 have hw:=y0y (n:=M.length) ⟨⟨rfl,h⟩,hb⟩ hc
 refine y0d (d:=0) (by rw [H0x,hb]) fun i hi=>?_
 rw [H0x] at hi
 have e:(apQ M (K7 c M b)).getD i 0=Z8 (M.getD i []) (K7 c M b):=by simp [apQ,f0,hi]
 rw [e,K1a (h _ (gDL hi)) (show (K7 c M b).length=c from W0q)]
 exact hw i hi
theorem J1n {B c:Nat}{pv:List Nat}{g:Nat→Rat}(h1:1≤B)(hg:∀ i,qw (g i)≤B):∀ a∈d0f c pv g,qw a≤B:=fun a ha=>by
 rcases Y0k ha with h | ⟨i,_,rfl⟩
 ·rw [List.eq_of_mem_replicate h,d0y]; exact h1
 ·exact hg i
theorem q1g {r:List Rat}{i:Nat}(h:i+1<r.length):(D0f r).getD i 0=r.getD (i+1) 0*(r.getD 0 0)⁻¹:=by
 have:(D0f r).getD i 0=r.getD (i+1) 0 / r.getD 0 0:=by
  simp [D0f,f0,h,Nat.add_comm 1 i]
 rw [this,Rat.div_def]
theorem y1a {r:List Rat}:(D0f r).length=r.length - 1:=by simp [D0f]
theorem W1g {n:Nat}{f:Nat→Rat}{q:Rat}:sN n (fun i=>f i*q)=q*sN n f:=by
 rw [← h0r]; exact G6 fun _ _=>Rat.mul_comm _ _
theorem g1v {c n:Nat}{M:List (List Rat)}{b:List Rat}(h:RC n c M)(hb:b.length=n)(hc:¬ Q0q c M b):F0m c M b (p0h (ech M (n4 b) c) n)=true∧y0v (ech M (n4 b) c) n=4∧(p0h (ech M (n4 b) c) n).length=n:=by
 obtain ⟨k,h1,h2,h3,h4,h5,h6⟩:=Go.Proofs.YtjagfionflbjbaaGreat.NumA.solve_no ⟨h,hb⟩ hc
 have hF:D0b (ech M (n4 b) c) n=(k:Int):=h1
 have hrb:=(B6 h (D0r hb) c (Nat.le_refl _)).2.1
 obtain ⟨r,hr⟩:∃ r,r=(ech M (n4 b) c).b.getD k []:=⟨_,rfl⟩
 have hrl:r.length=n+1:=by rw [hr]; exact hrb.get h3
 have hy:p0h (ech M (n4 b) c) n=D0f r:=by
  rw [p0h,hF,if_neg oM,hr]; rfl
 have hr0:r.getD 0 0≠0:=by rw [hr]; exact h4
 have hyl:(D0f r).length=n:=by rw [y1a,hrl]; rfl
 have key:∀ (g:Nat→Rat),sN n (fun i=>(D0f r).getD i 0*g i)=(r.getD 0 0)⁻¹*sN n (fun i=>r.getD (i+1) 0*g i):=fun g=>by
  rw [← W1g]
  refine G6 fun i hi=>?_
  rw [q1g oM]; grind
 refine ⟨?_,by rw [y0v,hF,if_neg oM],by rw [hy,hyl]⟩
 rw [hy,F0m,j0,decide_eq_true_iff]
 constructor
 ·rw [V0f,s0]
  intro j hj
  have hj:=List.mem_range.1 hj
  rw [decide_eq_true_iff,J0n (by rw [hyl,h.1]),V0b (by rw [hyl,T7,h.1]),hyl]
  have e:sN n (fun t=>(D0f r).getD t 0*(w7 M j).getD t 0)=sN n (fun t=>(D0f r).getD t 0*ent M t j):=G6 fun t _=>by rw [y1x]
  rw [e,key]
  have:=h5 j hj
  rw [show sN n (fun i=>r.getD (i+1) 0*ent M i j)=0 by rw [hr]; exact this,Rat.mul_zero]
 ·rw [V0b (by rw [hyl,hb]),hyl,key,show sN n (fun i=>r.getD (i+1) 0*b.getD i 0)=r.getD 0 0 by rw [hr]; exact h6]
  exact Rat.inv_mul_cancel _ hr0
theorem M1d {B n:Nat}{t:ESt}(h:MB B t.b)(h1:1≤B):∀ a∈p0h t n,qw a≤B+B:=by
 intro a ha
 unfold p0h at ha
 split at ha
 ·cases ha
 ·obtain ⟨r,hr⟩:∃ r,r=t.b.getD (D0b t n).toNat []:=⟨_,rfl⟩
  rw [← hr] at ha
  have hrB:∀ x∈r,qw x≤B:=fun x hx=>by
   by_cases hk:(D0b t n).toNat<t.b.length
   ·rw [hr] at hx; exact h _ (gDL hk) x hx
   ·rw [hr,f0,List.getElem?_eq_none oM] at hx; cases hx
  obtain ⟨x,hx,rfl⟩:=G0.1 ha
  have b1:=hrB x (List.mem_of_mem_drop hx)
  by_cases h0:r.getD 0 0=0
  ·rw [h0,Rat.div_def,Rat.inv_zero,Rat.mul_zero,d0y]; omega
  ·have b2:=h1j (a:=x) h0
   have b3:qw (r.getD 0 0)≤B:=by
    cases r with
    | nil=>exact absurd rfl h0
    | cons y r=>exact hrB y sM
   omega
theorem J1v {B:Nat}{M:List (List Rat)}{b:List Rat}(h:MB B M)(hb:∀ a∈b,qw a≤B)(hl:b.length=M.length):MB B (J5 M b):=by
 intro r hr a ha
 simp only [J5,G0,List.mem_range] at hr
 obtain ⟨i,hi,rfl⟩:=hr
 rcases List.mem_append.1 ha with h1 | h1
 ·exact h _ (gDL hi) a h1
 ·rw [List.mem_singleton.1 h1]; exact hb _ (v4 oM)
theorem d1c (c:Int)(m:List (List RQ))(b y:List RQ)(hw:WdM m)(hbw:∀ r∈b,r.wd)(hyw:∀ r∈y,r.wd):y3 E 4 [pMR c m,pVR b,pVR y] (bZ true):=by
 refine F2 (xs:=[bZ true]) Tryz.func4 rfl Tryz.ntmps4 Tryz.results4 sM fun F hG hX0 hnt hdf P0=>?_
 obtain ⟨L,hX,hN⟩:=pro hnt hX0 hG
 refine exr (swb (X3 (k:=3) (n:=2) pa2 rfl rfl (P0 _ rfl) L) t1 t0 ⟨rfl,rfl⟩ (aV L rfl (zn [(1,_),(2,_),(3,_)] [(3,_)] t3 t1 (T1 ?_))))
 refine exm (sl:=[(24,vb (!(o7 14 c m && smV 14 b && smV 14 y)))]) (sl0:=[(1,_),(2,_),(3,_)]) (hb:=[]) (hb0:=[(3,_)]) t3 t1 ?_ ?_
 ·rcases (by cases h1:o7 14 c m; exact .inl rfl; cases h2:smV 14 b; exact .inr (.inl ⟨rfl,rfl⟩); exact .inr (.inr ⟨rfl,rfl⟩):o7 14 c m=false∨(o7 14 c m=true∧smV 14 b=false)∨(o7 14 c m=true∧smV 14 b=true)) with h1 | ⟨h1,h2⟩ | ⟨h1,h2⟩
  ·refine lp2 ag24 sz24 L rfl rfl (cK hG hX cl11 hN (p0b 14 c m dC) L t2 (sw (P3 L) t1 t0 (mV L rfl (swn (g:=15) rfl (by rw [h1] <;> rfl) L rfl ?_))))
   refine swn (g:=15) rfl (by rw [h1] <;> rfl) L rfl ?_
   refine swn (g:=15) rfl (by rw [h1] <;> rfl) L rfl ?_
   refine sw (m4 (by rw [h1] <;> rfl) L) t2 t0 ?_
   refine mV L rfl (swn (g:=20) rfl rfl L rfl (swn (g:=20) rfl rfl L rfl (swn (g:=20) rfl rfl L rfl (sw (m4 rfl L) t2 t0 ?_))))
   exact R1 ⟨⟨ob rfl (by rw [h1] <;> rfl),rfl,rfl,rfl,trivial⟩,t1⟩
  ·refine lp2 ag24 sz24 L rfl rfl (cK hG hX cl11 hN (p0b 14 c m dC) L t2 (sw (P3 L) t1 t0 (mV L rfl (gV (g:=15) rfl (by rw [h1] <;> rfl) L rfl rfl ?_))))
   refine swg (g:=15) rfl (by rw [h1] <;> rfl) (c_c hG hX cl23 rfl hN (h0q 14 b dC) L) rfl t2 t0 ?_
   refine swg (g:=15) rfl (by rw [h1] <;> rfl) (P3 L) rfl t1 t0 ?_
   refine sw (U3 (by rw [h1] <;> rfl) L) t2 t0 ?_
   refine mV L rfl (swn (g:=20) rfl (by rw [h2] <;> rfl) L rfl ?_)
   refine swn (g:=20) rfl (by rw [h2] <;> rfl) L rfl ?_
   refine swn (g:=20) rfl (by rw [h2] <;> rfl) L rfl ?_
   refine sw (m4 (by rw [h2] <;> rfl) L) t2 t0 ?_
   exact R1 ⟨⟨ob rfl (by rw [h1,h2] <;> rfl),rfl,rfl,rfl,trivial⟩,t1⟩
  ·refine lp2 ag24 sz24 L rfl rfl (cK hG hX cl11 hN (p0b 14 c m dC) L t2 (sw (P3 L) t1 t0 (mV L rfl (gV (g:=15) rfl (by rw [h1] <;> rfl) L rfl rfl ?_))))
   refine swg (g:=15) rfl (by rw [h1] <;> rfl) (c_c hG hX cl23 rfl hN (h0q 14 b dC) L) rfl t2 t0 ?_
   refine swg (g:=15) rfl (by rw [h1] <;> rfl) (P3 L) rfl t1 t0 ?_
   refine sw (U3 (by rw [h1] <;> rfl) L) t2 t0 ?_
   refine mV L rfl (gV (g:=20) rfl (by rw [h2] <;> rfl) L rfl rfl ?_)
   refine swg (g:=20) rfl (by rw [h2] <;> rfl) (c_c hG hX cl23 rfl hN (h0q 14 y dC) L) rfl t2 t0 ?_
   refine swg (g:=20) rfl (by rw [h2] <;> rfl) (P3 L) rfl t1 t0 ?_
   refine sw (U3 (by rw [h2] <;> rfl) L) t2 t0 ?_
   exact R1 ⟨⟨ob rfl (by rw [h1,h2] <;> rfl),rfl,rfl,rfl,trivial⟩,t1⟩
 refine D2 rfl (fun hc=>?_) (fun hc=>?_)
 ·refine exr (cK hG hX cl12 hN g0d L t0 (aV L rfl (zn [(6,_)] [] t1 trivial (Y1 ?_))))
  refine Q0 (.tmp rfl) ?_
  rfl
 ·have hc:o7 14 c m=true∧smV 14 b=true∧smV 14 y=true:=by simpa [and_assoc] using hc
  obtain ⟨h1,h2,h3⟩:=hc
  obtain ⟨v,k1,k2⟩:=f1p hw hbw hyw h1 h2 h3
  have hm:=y0w dC hw h1
  have hbs:=q0j dC hbw h2
  have hsplit:((isM c m && b.all RQ.is)=false)∨(isM c m=true∧b.all RQ.is=true):=by
   cases h4:isM c m <;> cases h5:b.all RQ.is <;> simp
  rcases hsplit with hi | ⟨i1,i2⟩
  ·refine V1 (xq ?_)
   refine exr (lp2 ag24 sz24 L rfl rfl (mV L rfl (cK hG hX cl24 hN (solve_no c m b hm hbs.1 hbs.2 hi) L t2 (mV L rfl (sw (W3 rfl L) t1 t0 (sw (W3 rfl L) t1 t0 (sw (W3 rfl L) t1 t0 (aV L rfl (aV L rfl (aV L rfl (zn [(1,_),(2,_),(3,_),(7,_),(8,_),(9,_)] [(3,_)] t6 t1 ?_)))))))))))
   refine T1 (exd rF ?_)
   refine lp2 ag24 sz24 L rfl rfl (mV L rfl (mV L rfl (cK hG hX cl25 hN k1 L t3 (lp2 ag24 sz24 L rfl rfl (mV L rfl (mV L rfl (cK hG hX cl26 hN k2 L t3 (sw (k0q un4 L) t2 t0 ?_))))))))
   refine R1 ⟨i5 [⟨[3],[3],[33],[]⟩,⟨[1],[],[34],[]⟩,⟨[2],[],[35],[]⟩,⟨[33,34,35],[],[36],[]⟩,⟨[3],[3],[37],[]⟩,⟨[1],[],[38],[]⟩,⟨[2],[],[39],[]⟩,⟨[37,38,39],[],[40],[]⟩,⟨[36,40],[],[41],[]⟩] rF rF dC,[(1,_),(3,_),(7,_),(8,_),(9,_),(41,_)],[(3,_)],t6,t1,?_⟩
   refine T3 rfl sM ?_
   refine V1 (xq ?_)
   refine T1 (X1 ?_)
   refine exm (sl:=[(42,vb true)]) (sl0:=[(1,_),(3,_),(7,_),(8,_),(9,_)]) (hb:=[]) (hb0:=[(3,_)]) t5 t1 ?_ ?_
   ·rcases (by cases h1:isM c m; exact .inl rfl; exact .inr ⟨rfl,by rw [h1] at hi; simpa using hi⟩:isM c m=false∨(isM c m=true∧b.all RQ.is=false)) with h4 | ⟨h4,h5⟩
    ·refine lp2 ag24 sz24 L rfl rfl (cK hG hX cl15 hN (I8 c m hm) L t1 (sw (P3 L) t1 t0 (mV L rfl (swn (g:=46) rfl (by rw [h4] <;> rfl) L rfl ?_))))
     refine swn (g:=46) rfl (by rw [h4] <;> rfl) L rfl ?_
     refine swn (g:=46) rfl (by rw [h4] <;> rfl) L rfl ?_
     refine sw (m4 (by rw [h4] <;> rfl) L) t2 t0 ?_
     refine aV L rfl ?_
     exact R1 ⟨t6,t1⟩
    ·refine lp2 ag24 sz24 L rfl rfl (cK hG hX cl15 hN (I8 c m hm) L t1 (sw (P3 L) t1 t0 (mV L rfl (gV (g:=46) rfl (by rw [h4] <;> rfl) L rfl rfl ?_))))
     refine swg (g:=46) rfl (by rw [h4] <;> rfl) (c_c hG hX cl27 rfl hN (G7 b hbs.1 hbs.2) L) rfl t1 t0 ?_
     refine swg (g:=46) rfl (by rw [h4] <;> rfl) (P3 L) rfl t1 t0 ?_
     refine sw (U3 (by rw [h4] <;> rfl) L) t2 t0 ?_
     refine aV L rfl ?_
     exact R1 ⟨⟨ob rfl (by rw [h5] <;> rfl),rfl,rfl,rfl,rfl,rfl,trivial⟩,t1⟩
   refine v8 rfl rfl (exr (cK hG hX cl12 hN g0d L t0 (mV L rfl (gV (g:=52) rfl rfl L rfl rfl (swg (g:=52) rfl rfl (c_e L) rfl t2 t0 (sw (m4 rfl L) t2 t0 (aV L rfl (zn [(6,_)] [] t1 trivial (Y1 ?_)))))))))
   refine Q0 (.tmp rfl) ?_
   rfl
  ·obtain ⟨k,M,rfl,rfl,hM,hk,hl,hB⟩:=W0r dC hw h1 i1
   obtain ⟨u,rfl,ul,ub⟩:=V0s dC hbw h2 i2
   rw [P0w,g0p] at k1 k2
   have hri:=J0a hM hB dC
   have hrb:=p0j (v:=u) oM ub dC
   rw [k0j,O0,g0p]
   by_cases hlen:u.length=M.length
   ·have hKX:192*(M.length*k+M.length)≤192*210:=by have:=Nat.mul_le_mul hl hk; omega
    have H:=Q0j hM.rc hB hlen ub hl oM (V1n (Y:=192*210) (N:=14) hKX hl (by decide +kernel))
    have hsol:=g0x M.length k BB DD M u hM (hB.mono dC) (fun a ha=>Nat.le_trans (ub a ha) dC) rfl hlen H
    have hwl:∀ r∈J5 M u,r.length=k+1:=(K9 hM.rc).2
    have hRE:=b2w hwl (J1v hB ub hlen) (by rw [q7]; exact hl) oM
    have hrs:=f1r k BB 130000000 M u hM.len hlen hRE
    cases hcb:G0v k M u
    ·have hno:¬ Q0q k M u:=fun h=>by rw [W0x.2 h] at hcb; cases hcb
     obtain ⟨g1,g2,g3⟩:=g1v hM.rc hlen hno
     rw [g2] at hsol
     rw [hcb] at hrs
     have hzb:=M1d (n:=M.length) (H.be k (Nat.le_refl _)) dC
     have hchk:=B0v k 6 (BB+BB) M u (p0h (ech M (n4 u) k) M.length) hM hB ub hzb hlen g3 (by have:=V0 (BB+BB+6+1) hl; exact Nat.lt_of_le_of_lt (Nat.succ_le_succ this) dC) dC
     rw [g1] at hchk
     refine V1 (xq ?_)
     refine exr (lp2 ag24 sz24 L rfl rfl (mV L rfl (cK hG hX cl24 hN hsol L t2 (mV L rfl (sw (W3 rfl L) t1 t0 (sw (W3 rfl L) t1 t0 (sw (W3 rfl L) t1 t0 (aV L rfl (aV L rfl (aV L rfl (zn [(1,_),(2,_),(3,_),(7,_),(8,_),(9,_)] [(3,_)] t6 t1 ?_)))))))))))
     refine T1 (exd rF ?_)
     refine lp2 ag24 sz24 L rfl rfl (mV L rfl (mV L rfl (cK hG hX cl25 hN k1 L t3 (lp2 ag24 sz24 L rfl rfl (mV L rfl (mV L rfl (cK hG hX cl26 hN k2 L t3 (sw (k0q un4 L) t2 t0 ?_))))))))
     refine R1 ⟨i5 [⟨[3],[3],[33],[]⟩,⟨[1],[],[34],[]⟩,⟨[2],[],[35],[]⟩,⟨[33,34,35],[],[36],[]⟩,⟨[3],[3],[37],[]⟩,⟨[1],[],[38],[]⟩,⟨[2],[],[39],[]⟩,⟨[37,38,39],[],[40],[]⟩,⟨[36,40],[],[41],[]⟩] rF rF dC,[(1,_),(3,_),(7,_),(8,_),(9,_),(41,_)],[(3,_)],t6,t1,?_⟩
     refine T3 rfl sM ?_
     refine V1 (xq ?_)
     refine T1 (X1 (exr (lp2 ag24 sz24 L rfl rfl (cK hG hX cl15 hN hri L t1 (sw (P3 L) t1 t0 (mV L rfl (gV (g:=46) rfl rfl L rfl rfl (swg (g:=46) rfl rfl (c_c hG hX cl27 rfl hN hrb L) rfl t1 t0 (swg (g:=46) rfl rfl (P3 L) rfl t1 t0 (sw (U3 rfl L) t2 t0 (aV L rfl ?_)))))))))))
     refine zn [(1,_),(3,_),(7,_),(8,_),(9,_),(42,_)] [(3,_)] t6 t1 (T3 rfl rfl (exr (mV L rfl (sw (X2 un40 L) t1 t0 (sw (j2 un24 rfl sz22 dC rX L) t1 t1 ?_)))))
     refine sw (Z1 ag22 rF rF L) t1 t1 ?_
     refine sw (X2 un22 L) t1 t0 (sw (c_n L) t2 t0 (aV L rfl (zn [(1,_),(3,_),(7,_),(8,_),(9,_),(56,_)] [(3,_)] t6 t1 (T3 rfl sO ?_))))
     refine V1 (xq ?_)
     refine exr (lp2 ag24 sz24 L rfl rfl (mV L rfl (cK hG hX cl28 hN hrs L t2 (mV L rfl (sw (W3 rfl L) t1 t0 (sw (W3 rfl L) t1 t0 (aV L rfl (aV L rfl (zn [(1,_),(3,_),(7,_),(8,_),(9,_),(10,_),(11,_)] [(3,_)] t7 t1 (T1 (exr ?_)))))))))))
     refine mV L rfl (zn [(1,_),(3,_),(7,_),(8,_),(9,_),(10,_),(74,_)] [(3,_)] t7 t1 (T3 rfl rfl ?_))
     refine V1 (xq ?_)
     refine exr (cK hG hX cl12 hN g0d L t0 (mV L rfl (gV (g:=93) rfl rfl L rfl rfl (swg (g:=93) rfl rfl (c_e L) rfl t2 t0 (sw (m4 rfl L) t2 t0 (mV L rfl (swg (g:=97) rfl rfl (R6 ag24 sz24 rF (by exact al2) rfl L) rfl t1 t1 ?_)))))))
     refine gV (g:=97) rfl rfl L rfl rfl (gV (g:=97) rfl rfl L rfl rfl (swg (g:=97) rfl rfl (c_c hG hX cl26 rfl hN hchk L) rfl t3 t0 (sw (m4 rfl L) t2 t0 (aV L rfl (zn [(6,_)] [] t1 trivial (Y1 ?_))))))
     refine Q0 (.tmp rfl) ?_
     rfl
    ·have hcq:=W0x.1 hcb
     obtain ⟨g1,g2⟩:=v1q ⟨hM.rc,hlen⟩ hcq
     have hx:G0w k (ech M (n4 u) k) M.length=K7 k M u:=by rw [G0w,if_pos (show D0b _ _<0 from g1),g2]
     have hxb:∀ a∈K7 k M u,qw a≤BB:=by
      rw [← g2]; exact J1n dC fun i=>P1z (H.be k (Nat.le_refl _)) dC
     have hxl:(K7 k M u).length=k:=W0q
     have hap:=Y0d k 6 BB M (K7 k M u) oM hM.len hxl oM hB hxb dC dC (Nat.lt_of_le_of_lt (Nat.succ_le_succ (V0 (6+BB+1) hk)) dC)
     rw [g1g hM.len hlen hcq] at hap
     rw [hx,show y0v (ech M (n4 u) k) M.length=0 from if_pos g1] at hsol
     rw [hcb,if_pos rfl] at hrs
     refine V1 (xq ?_)
     refine exr (lp2 ag24 sz24 L rfl rfl (mV L rfl (cK hG hX cl24 hN hsol L t2 (mV L rfl (sw (W3 rfl L) t1 t0 (sw (W3 rfl L) t1 t0 (sw (W3 rfl L) t1 t0 (aV L rfl (aV L rfl (aV L rfl (zn [(1,_),(2,_),(3,_),(7,_),(8,_),(9,_)] [(3,_)] t6 t1 ?_)))))))))))
     refine T1 (exd rF ?_)
     refine lp2 ag24 sz24 L rfl rfl (mV L rfl (mV L rfl (cK hG hX cl25 hN k1 L t3 (lp2 ag24 sz24 L rfl rfl (mV L rfl (mV L rfl (cK hG hX cl26 hN k2 L t3 (sw (k0q un4 L) t2 t0 ?_))))))))
     refine R1 ⟨i5 [⟨[3],[3],[33],[]⟩,⟨[1],[],[34],[]⟩,⟨[2],[],[35],[]⟩,⟨[33,34,35],[],[36],[]⟩,⟨[3],[3],[37],[]⟩,⟨[1],[],[38],[]⟩,⟨[2],[],[39],[]⟩,⟨[37,38,39],[],[40],[]⟩,⟨[36,40],[],[41],[]⟩] rF rF dC,[(1,_),(3,_),(7,_),(8,_),(9,_),(41,_)],[(3,_)],t6,t1,?_⟩
     refine T3 rfl sM ?_
     refine V1 (xq ?_)
     refine T1 (X1 (exr (lp2 ag24 sz24 L rfl rfl (cK hG hX cl15 hN hri L t1 (sw (P3 L) t1 t0 (mV L rfl (gV (g:=46) rfl rfl L rfl rfl (swg (g:=46) rfl rfl (c_c hG hX cl27 rfl hN hrb L) rfl t1 t0 (swg (g:=46) rfl rfl (P3 L) rfl t1 t0 (sw (U3 rfl L) t2 t0 (aV L rfl ?_)))))))))))
     refine zn [(1,_),(3,_),(7,_),(8,_),(9,_),(42,_)] [(3,_)] t6 t1 (T3 rfl rfl (exr (mV L rfl (sw (X2 un40 L) t1 t0 (sw (j2 un24 rfl sz22 dC rX L) t1 t1 ?_)))))
     refine sw (Z1 ag22 rF rF L) t1 t1 ?_
     refine sw (X2 un22 L) t1 t0 (sw (c_n L) t2 t0 (aV L rfl (zn [(1,_),(3,_),(7,_),(8,_),(9,_),(56,_)] [(3,_)] t6 t1 (T3 rfl sO ?_))))
     refine V1 (xq ?_)
     refine exr (lp2 ag24 sz24 L rfl rfl (mV L rfl (cK hG hX cl28 hN hrs L t2 (mV L rfl (sw (W3 rfl L) t1 t0 (sw (W3 rfl L) t1 t0 (aV L rfl (aV L rfl (zn [(1,_),(3,_),(7,_),(8,_),(9,_),(10,_),(11,_)] [(3,_)] t7 t1 (T1 (exr ?_)))))))))))
     refine mV L rfl (zn [(1,_),(3,_),(7,_),(8,_),(9,_),(10,_),(74,_)] [(3,_)] t7 t1 (v8 rfl rfl (exr (cK hG hX cl12 hN g0d L t0 (mV L rfl (gV (g:=76) rfl rfl L rfl rfl (swg (g:=76) rfl rfl (c_e L) rfl t2 t0 (sw (m4 rfl L) t2 t0 (mV L rfl (gV (g:=80) rfl rfl L rfl rfl (gV (g:=80) rfl rfl L rfl rfl ?_)))))))))))
     refine swg (g:=80) rfl rfl (c_c hG hX cl29 rfl hN (J0d oM hxb dC) L) rfl t2 t0 (sw (m4 rfl L) t2 t0 (mV L rfl (swg (g:=85) rfl rfl (R6 ag24 sz24 rF (by exact al2) rfl L) rfl t1 t1 ?_)))
     refine gV (g:=85) rfl rfl L rfl rfl (swg (g:=85) rfl rfl (c_c hG hX cl21 rfl hN hap L) rfl t2 t0 (gV (g:=85) rfl rfl L rfl rfl (swg (g:=85) rfl rfl (c_c hG hX cl29 rfl hN (J0d oM ub dC) L) rfl t2 t0 (sw (m4 rfl L) t2 t0 (aV L rfl (zn [(6,_)] [] t1 trivial (Y1 ?_)))))))
     refine Q0 (.tmp rfl) ?_
     rfl
   ·refine V1 (xq ?_)
    refine exr (lp2 ag24 sz24 L rfl rfl (mV L rfl (cK hG hX cl24 hN (q1f k 6 M u hM hB ub dC oM hlen) L t2 (mV L rfl (sw (W3 rfl L) t1 t0 (sw (W3 rfl L) t1 t0 (sw (W3 rfl L) t1 t0 (aV L rfl (aV L rfl (aV L rfl (zn [(1,_),(2,_),(3,_),(7,_),(8,_),(9,_)] [(3,_)] t6 t1 ?_)))))))))))
    refine T1 (exd rF ?_)
    refine lp2 ag24 sz24 L rfl rfl (mV L rfl (mV L rfl (cK hG hX cl25 hN k1 L t3 (lp2 ag24 sz24 L rfl rfl (mV L rfl (mV L rfl (cK hG hX cl26 hN k2 L t3 (sw (k0q un4 L) t2 t0 ?_))))))))
    refine R1 ⟨i5 [⟨[3],[3],[33],[]⟩,⟨[1],[],[34],[]⟩,⟨[2],[],[35],[]⟩,⟨[33,34,35],[],[36],[]⟩,⟨[3],[3],[37],[]⟩,⟨[1],[],[38],[]⟩,⟨[2],[],[39],[]⟩,⟨[37,38,39],[],[40],[]⟩,⟨[36,40],[],[41],[]⟩] rF rF dC,[(1,_),(3,_),(7,_),(8,_),(9,_),(41,_)],[(3,_)],t6,t1,?_⟩
    refine T3 rfl sM ?_
    refine V1 (xq ?_)
    refine T1 (X1 (exr (lp2 ag24 sz24 L rfl rfl (cK hG hX cl15 hN hri L t1 (sw (P3 L) t1 t0 (mV L rfl (gV (g:=46) rfl rfl L rfl rfl (swg (g:=46) rfl rfl (c_c hG hX cl27 rfl hN hrb L) rfl t1 t0 (swg (g:=46) rfl rfl (P3 L) rfl t1 t0 (sw (U3 rfl L) t2 t0 (aV L rfl ?_)))))))))))
    refine zn [(1,_),(3,_),(7,_),(8,_),(9,_),(42,_)] [(3,_)] t6 t1 (T3 rfl rfl (exr (mV L rfl (sw (X2 un40 L) t1 t0 (sw (j2 un24 rfl sz22 dC rX L) t1 t1 ?_)))))
    refine sw (Z1 ag22 rF rF L) t1 t1 ?_
    refine sw (X2 un22 L) t1 t0 (sw (c_n L) t2 t0 (aV L rfl (zn [(1,_),(3,_),(7,_),(8,_),(9,_),(56,_)] [(3,_)] t6 t1 (v8 rfl sO (exr (cK hG hX cl12 hN g0d L t0 (mV L rfl (gV (g:=64) rfl rfl L rfl rfl (swg (g:=64) rfl rfl (c_e L) rfl t2 t0 (sw (m4 rfl L) t2 t0 (aV L rfl ?_)))))))))))
    refine zn [(6,_)] [] t1 trivial (Y1 ?_)
    refine Q0 (.tmp rfl) ?_
    rfl
end Go.Proofs.YtjagfionflbjbaaGreat.N
