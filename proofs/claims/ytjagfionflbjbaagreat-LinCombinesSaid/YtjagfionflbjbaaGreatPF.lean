/- Part F of the proof: lemmas for the walks of the given functions. No statement of its own. -/
import Derived.ChangeSame
import Derived.ChangeVars
import Derived.JoinedOf
import Derived.RowKit
import Derived.RowKitTokens
import Derived.LaidLaws
import Derived.LaidHandle
import Derived.Carry
import Derived.OpenShut
import Derived.Lib.SmallJoins
import Derived.Lib.LaidTab
import Derived.Lay
import Derived.LaidMore
import Derived.MakeChecks
import Derived.Stop.LaidErr
import Derived.ProofKit
import Derived.Test.YtjagfionflbjbaaGreatRows
import Derived.Test.YtjagfionflbjbaaGreatPE
set_option linter.unusedVariables false
set_option linter.unusedSimpArgs false
set_option linter.deprecated false
set_option maxRecDepth 100000
set_option maxHeartbeats 4000000
namespace Go.Proofs.YtjagfionflbjbaaGreat.N
open Go Go.Proofs.YtjagfionflbjbaaGreat.SH Go.Proofs.YtjagfionflbjbaaGreat.NumA
open Go.Proofs.Tryz renaming call11→cl11,call12→cl12,call13→cl13,call14→cl14,call15→cl15,call17→cl17,call19→cl19,call24→cl24,call25→cl25,call29→cl29,call30→cl30,call31→cl31,call33→cl33,call35→cl35,call38→cl38,call39→cl39,call40→cl40,call41→cl41,call47→cl47,call48→cl48,call49→cl49,isAgg24→ag24,isAgg3→ag3,isAgg47→ag47,sizeOf24→sz24,sizeOf3→sz3,sizeOf47→sz47,typeInfo3→ti3,typeInfo40→ti40,underlying22→un22,underlying27→un27,underlying4→un4,zeroValue24→zv24,zeroValue47→zv47
theorem vI (l:List Int)(h:sI l=true)(hl:l.length<1000):v3 E 48 [pJ l] (pV (iV l)):=B1v l hl fun z hz=>by simpa using s0.1 h z hz
theorem mtI (c:Int)(L:List (List Int)):v3 E 47 [vZ c,pMr (mI L)] (pMq c (mI L)):=y1q c (mI L)
theorem m1r (c:Int)(L:List (List Int))(h1:L.length<1000)(h:(L.all fun l=>decide (l.length<1000))=true)(hb:L.all sI=true):v3 E 17 [pMq c (mI L),pMq c (mI L)] (bZ true) :=
 H1v (B:=1) (by simp [mI]; omega) (fun r hr=>by
  obtain ⟨l,hl,rfl⟩:=G0.1 hr
  have:=s0.1 h l hl
  rw [m0g]; simp at this; omega) (s9 hb) dC
theorem J1n (L:List (List Int))(h1:L.length<1000)(h:(L.all fun l=>decide (l.length<1000))=true)(hb:L.all sI=true):v3 E 19 [pMr (mI L),pMr (mI L)] (bZ true) :=
 p1s (B:=1) (by simp [mI]; omega) (fun r hr=>by
  obtain ⟨l,hl,rfl⟩:=G0.1 hr
  have:=s0.1 h l hl
  rw [m0g]; simp at this; omega) (s9 hb) dC
theorem k1x (l:List Int)(h:sI l=true)(hl:l.length<1000):v3 E 29 [pV (iV l),pV (iV l)] (bZ true):=b1a (B:=1) sO (m0v h) dC
theorem F8  : v3 E 12 [] (bZ true):=by
 refine D2 (xs:=[bZ true]) Tryz.func12 rfl Tryz.ntmps12 Tryz.results12 sM fun F hG hX0 hnt hdf P0=>?_
 obtain ⟨L,hX,hN⟩:=pro hnt hX0 hG
 obtain ⟨nx,ny,hnon⟩:=V1x
 obtain ⟨cy,hcom⟩:=V1h
 have hc1:=G1q [-2,1] true rfl dC (by decide +kernel)
 have hc2:=G1q [2,-1] false rfl dC (by decide +kernel)
 refine exr (aV L rfl (zn [] [] trivial trivial (exr (sw (q4 (vs:=[_,_,_]) un27 ti3 rfl rfl dC dC rfl (K2 (.cons rfl .nil) rfl) rfl (.cons rfl (.atom rfl) rfl pu1 (.cons rfl (.atom rfl) rfl (.skip pu1) (.cons rfl (.atom rfl) rfl (.skip (.skip pu1)) .nil))) (.cons (.cons (.cons .nil))) L) t3 t0 (cK hG hX cl48 hN (vI [0,2,4] dC dC) L t1 (sw (q4 (vs:=[_,_,_]) un27 ti3 rfl rfl dC dC rfl (K2 (.cons rfl .nil) rfl) rfl (.cons rfl (.atom rfl) rfl pu1 (.cons rfl (.atom rfl) rfl (.skip pu1) (.cons rfl (.atom rfl) rfl (.skip (.skip pu1)) .nil))) (.cons (.cons (.cons .nil))) L) t3 t0 (cK hG hX cl48 hN (vI [1,1,1] dC dC) L t1 (sw (q4 (vs:=[_,_,_]) un27 ti3 rfl rfl dC dC rfl (K2 (.cons rfl .nil) rfl) rfl (.cons rfl (.atom rfl) rfl pu1 (.cons rfl (.atom rfl) rfl (.skip pu1) (.cons rfl (.atom rfl) rfl (.skip (.skip pu1)) .nil))) (.cons (.cons (.cons .nil))) L) t3 t0 (cK hG hX cl48 hN (vI [1,2,3] dC dC) L t1 (sw (q4 (vs:=[_,_,_]) un22 ti40 rfl rfl dC dC rfl (K2 (.cons rfl .nil) rfl) rfl (.cons rfl .sl rfl pu1 (.cons rfl .sl rfl (.skip pu1) (.cons rfl .sl rfl (.skip (.skip pu1)) .nil))) (.cons (.cons (.cons .nil))) L) t3 t0 (cK hG hX cl47 hN (mtI 3 [[0,2,4],[1,1,1],[1,2,3]]) L t2 ?_)))))))))))
 refine swb (R3 (k:=1) (n:=2) zv24 (.cons rfl (.cons rfl .nil)) rfl (P0 _ rfl) L) t0 t0 ⟨rfl,rfl⟩ (sb (U2 sz24 rF pa2 rfl pu2) t2 t1 ?_)
 refine zn [(1,_)] [(1,_)] t1 t1 (exr (lp2 ag24 sz24 L rfl rfl (cK hG hX cl13 hN P1y L t1 (mV L rfl (sw (O3 rfl L) t1 t0 (sw (O3 rfl L) t1 t0 (sw (O3 rfl L) t1 t0 (swb (R3 (k:=2) (n:=2) zv24 (.cons rfl (.cons rfl .nil)) rfl (P0 _ rfl) L) t0 t0 ⟨rfl,rfl⟩ (sb (U2 sz24 rF pa2 rfl pu2) t2 t1 ?_)))))))))
 refine aV L rfl (aV L rfl (zn [(1,_),(2,_),(3,_),(4,_)] [(1,_),(2,_)] t4 t2 (R1 (exd rF ?_))))
 refine mV L rfl (sw (c_n L) t2 t0 (mV L rfl (swg (g:=30) rfl rfl (R6 ag24 sz24 rF (by exact al2) rfl L) rfl t1 t1 ?_)))
 refine swg (g:=30) rfl rfl (q4 (vs:=[_,_,_]) un27 ti3 rfl rfl dC dC rfl (K2 (.cons rfl .nil) rfl) rfl (.cons rfl (.atom rfl) rfl pu1 (.cons rfl (.atom rfl) rfl (.skip pu1) (.cons rfl (.atom rfl) rfl (.skip (.skip pu1)) .nil))) (.cons (.cons (.cons .nil))) L) rfl t3 t0 (swg (g:=30) rfl rfl (c_c hG hX cl48 rfl hN (vI [1,0,-1] dC dC) L) rfl t1 t0 (swg (g:=30) rfl rfl (q4 (vs:=[_,_,_]) un27 ti3 rfl rfl dC dC rfl (K2 (.cons rfl .nil) rfl) rfl (.cons rfl (.atom rfl) rfl pu1 (.cons rfl (.atom rfl) rfl (.skip pu1) (.cons rfl (.atom rfl) rfl (.skip (.skip pu1)) .nil))) (.cons (.cons (.cons .nil))) L) rfl t3 t0 (swg (g:=30) rfl rfl (c_c hG hX cl48 rfl hN (vI [0,1,2] dC dC) L) rfl t1 t0 (swg (g:=30) rfl rfl (q4 (vs:=[_,_]) un22 ti40 rfl rfl dC dC rfl (K2 (.cons rfl .nil) rfl) rfl (.cons rfl .sl rfl pu1 (.cons rfl .sl rfl (.skip pu1) .nil)) (.cons (.cons .nil)) L) rfl t2 t0 (swg (g:=30) rfl rfl (c_c hG hX cl47 rfl hN (mtI 3 [[1,0,-1],[0,1,2]]) L) rfl t2 t0 (swg (g:=30) rfl rfl (c_c hG hX cl17 rfl hN (m1r 3 [[1,0,-1],[0,1,2]] dC dC dC) L) rfl t2 t0 (swg (g:=30) rfl rfl (C4 L) rfl t1 t0 (sw (y4 rfl L) t2 t0 (mV L rfl (gV (g:=41) rfl rfl L rfl rfl (swg (g:=41) rfl rfl (R2 un27 L) rfl t1 t0 ?_)))))))))))
 refine swg (g:=41) rfl rfl (c_n L) rfl t2 t0 (sw (y4 rfl L) t2 t0 (mV L rfl (gV (g:=46) rfl rfl L rfl rfl (swg (g:=46) rfl rfl (ixJ un27 sz3 (j:=0) rO dC sM L) rfl t2 t0 ?_))))
 refine swg (g:=46) rfl rfl (d4 ag3 (d1g (l:=[0,1]) (k:=0) dC) L) rfl t1 t0 (swg (g:=46) rfl rfl (c_n L) rfl t2 t0 (sw (y4 rfl L) t2 t0 (mV L rfl (gV (g:=52) rfl rfl L rfl rfl (swg (g:=52) rfl rfl (ixJ un27 sz3 (j:=1) rO dC sM L) rfl t2 t0 ?_)))))
 refine swg (g:=52) rfl rfl (d4 ag3 (d1g (l:=[0,1]) (k:=1) dC) L) rfl t1 t0 (swg (g:=52) rfl rfl (c_n L) rfl t2 t0 (sw (y4 rfl L) t2 t0 ?_))
 refine O1 ⟨d5 [⟨[4],[],[28],[]⟩,⟨[28],[],[29],[]⟩,⟨[29],[],[30],[]⟩,⟨[30,2],[2],[31],[]⟩,⟨[30],[],[32],[]⟩,⟨[30,32],[],[33],[]⟩,⟨[30],[],[34],[]⟩,⟨[30,34],[],[35],[]⟩,⟨[30,33,35],[],[36],[]⟩,⟨[30,36],[],[37],[]⟩,⟨[30,31,37],[],[38],[]⟩,⟨[30,38],[],[39],[]⟩,⟨[30,39],[],[40],[]⟩,⟨[40],[],[41],[]⟩,⟨[41,3],[],[42],[]⟩,⟨[41,42],[],[43],[]⟩,⟨[41,43],[],[44],[]⟩,⟨[41,44],[],[45],[]⟩,⟨[45],[],[46],[]⟩,⟨[46,3],[],[47],[]⟩,⟨[46,47],[],[48],[]⟩,⟨[46,48],[],[49],[]⟩,⟨[46,49],[],[50],[]⟩,⟨[46,50],[],[51],[]⟩,⟨[51],[],[52],[]⟩,⟨[52,3],[],[53],[]⟩,⟨[52,53],[],[54],[]⟩,⟨[52,54],[],[55],[]⟩,⟨[52,55],[],[56],[]⟩,⟨[52,56],[],[57],[]⟩] rF rF dC,[(1,_),(57,_)],[(1,_)],t2,t1,?_⟩
 refine Z3 rfl rfl ?_
 refine U1 (xq ?_)
 refine exr (lp2 ag24 sz24 L rfl rfl (cK hG hX cl14 hN P1v L t1 (mV L rfl (sw (O3 rfl L) t1 t0 (sw (O3 rfl L) t1 t0 (aV L rfl (aV L rfl (zn [(4,_),(5,_)] [] t2 trivial (R1 (exr (mV L rfl ?_)))))))))))
 refine sw (c_n L) t2 t0 (mV L rfl (gV (g:=65) rfl rfl L rfl rfl (swg (g:=65) rfl rfl (q4 (vs:=[_,_,_]) un27 ti3 rfl rfl dC dC rfl (K2 (.cons rfl .nil) rfl) rfl (.cons rfl (.atom rfl) rfl pu1 (.cons rfl (.atom rfl) rfl (.skip pu1) (.cons rfl (.atom rfl) rfl (.skip (.skip pu1)) .nil))) (.cons (.cons (.cons .nil))) L) rfl t3 t0 (swg (g:=65) rfl rfl (c_c hG hX cl48 rfl hN (vI [1,-2,1] dC dC) L) rfl t1 t0 (swg (g:=65) rfl rfl (q4 (vs:=[_]) un22 ti40 rfl rfl dC dC rfl (K2 (.cons rfl .nil) rfl) rfl (.cons rfl .sl rfl pu1 .nil) (.cons .nil) L) rfl t1 t0 (swg (g:=65) rfl rfl (c_c hG hX cl19 rfl hN (J1n [[1,-2,1]] dC dC dC) L) rfl t2 t0 (swg (g:=65) rfl rfl (C4 L) rfl t1 t0 (sw (y4 rfl L) t2 t0 (zn [(72,_)] [] t1 trivial (Z3 rfl rfl ?_))))))))))
 refine U1 (xq ?_)
 refine exr (sw (q4 (vs:=[_,_]) un27 ti3 rfl rfl dC dC rfl (K2 (.cons rfl .nil) rfl) rfl (.cons rfl (.atom rfl) rfl pu1 (.cons rfl (.atom rfl) rfl (.skip pu1) .nil)) (.cons (.cons .nil)) L) t2 t0 (cK hG hX cl48 hN (vI [1,1] dC dC) L t1 (sw (q4 (vs:=[_,_]) un27 ti3 rfl rfl dC dC rfl (K2 (.cons rfl .nil) rfl) rfl (.cons rfl (.atom rfl) rfl pu1 (.cons rfl (.atom rfl) rfl (.skip pu1) .nil)) (.cons (.cons .nil)) L) t2 t0 (cK hG hX cl48 hN (vI [1,-1] dC dC) L t1 (sw (q4 (vs:=[_,_]) un22 ti40 rfl rfl dC dC rfl (K2 (.cons rfl .nil) rfl) rfl (.cons rfl .sl rfl pu1 (.cons rfl .sl rfl (.skip pu1) .nil)) (.cons (.cons .nil)) L) t2 t0 (cK hG hX cl47 hN (mtI 2 [[1,1],[1,-1]]) L t2 (sw (q4 (vs:=[_,_]) un27 ti3 rfl rfl dC dC rfl (K2 (.cons rfl .nil) rfl) rfl (.cons rfl (.atom rfl) rfl pu1 (.cons rfl (.atom rfl) rfl (.skip pu1) .nil)) (.cons (.cons .nil)) L) t2 t0 (cK hG hX cl48 hN (vI [3,1] dC dC) L t1 (cK hG hX cl24 hN V1s L t2 (mV L rfl (sw (O3 rfl L) t1 t0 ?_)))))))))))
 refine sw (O3 rfl L) t1 t0 (sw (O3 rfl L) t1 t0 (aV L rfl (aV L rfl (aV L rfl (zn [(4,_),(6,_)] [] t2 trivial (R1 (exr (mV L rfl (sw (c_n L) t2 t0 (mV L rfl (gV (g:=88) rfl rfl L rfl rfl ?_)))))))))))
 refine swg (g:=88) rfl rfl (q4 (vs:=[_,_]) un27 ti3 rfl rfl dC dC rfl (K2 (.cons rfl .nil) rfl) rfl (.cons rfl (.atom rfl) rfl pu1 (.cons rfl (.atom rfl) rfl (.skip pu1) .nil)) (.cons (.cons .nil)) L) rfl t2 t0 (swg (g:=88) rfl rfl (c_c hG hX cl48 rfl hN (vI [2,1] dC dC) L) rfl t1 t0 (swg (g:=88) rfl rfl (c_c hG hX cl29 rfl hN (k1x [2,1] dC dC) L) rfl t2 t0 (swg (g:=88) rfl rfl (C4 L) rfl t1 t0 (sw (y4 rfl L) t2 t0 (zn [(94,_)] [] t1 trivial (Z3 rfl rfl ?_))))))
 refine U1 (xq ?_)
 refine exr (sw (q4 (vs:=[_,_]) un27 ti3 rfl rfl dC dC rfl (K2 (.cons rfl .nil) rfl) rfl (.cons rfl (.atom rfl) rfl pu1 (.cons rfl (.atom rfl) rfl (.skip pu1) .nil)) (.cons (.cons .nil)) L) t2 t0 (cK hG hX cl48 hN (vI [1,1] dC dC) L t1 (sw (q4 (vs:=[_,_]) un27 ti3 rfl rfl dC dC rfl (K2 (.cons rfl .nil) rfl) rfl (.cons rfl (.atom rfl) rfl pu1 (.cons rfl (.atom rfl) rfl (.skip pu1) .nil)) (.cons (.cons .nil)) L) t2 t0 (cK hG hX cl48 hN (vI [2,2] dC dC) L t1 (sw (q4 (vs:=[_,_]) un22 ti40 rfl rfl dC dC rfl (K2 (.cons rfl .nil) rfl) rfl (.cons rfl .sl rfl pu1 (.cons rfl .sl rfl (.skip pu1) .nil)) (.cons (.cons .nil)) L) t2 t0 (cK hG hX cl47 hN (mtI 2 [[1,1],[2,2]]) L t2 (swb (R3 (k:=8) (n:=2) zv24 (.cons rfl (.cons rfl .nil)) rfl (P0 _ rfl) L) t0 t0 ⟨rfl,rfl⟩ (sb (U2 sz24 rF pa2 rfl pu2) t2 t1 ?_))))))))
 refine zn [(8,_)] [(8,_)] t1 t1 (exd rF ?_)
 refine lp2 ag24 sz24 L rfl rfl (sw (q4 (vs:=[_,_]) un27 ti3 rfl rfl dC dC rfl (K2 (.cons rfl .nil) rfl) rfl (.cons rfl (.atom rfl) rfl pu1 (.cons rfl (.atom rfl) rfl (.skip pu1) .nil)) (.cons (.cons .nil)) L) t2 t0 (cK hG hX cl48 hN (vI [1,3] dC dC) L t1 (cK hG hX cl24 hN hnon L t2 (mV L rfl (sw (O3 rfl L) t1 t0 (sw (O3 rfl L) t1 t0 (sw (O3 rfl L) t1 t0 (aV L rfl ?_))))))))
 refine O1 ⟨d5 [⟨[8],[8],[102],[]⟩,⟨[],[],[103],[]⟩,⟨[103],[],[104],[]⟩,⟨[102,104],[],[105],[]⟩,⟨[105],[],[101],[]⟩,⟨[101],[],[106],[]⟩,⟨[101],[],[107],[]⟩,⟨[101],[],[108],[]⟩,⟨[108],[],[4],[]⟩] rF rF dC,[(4,_),(8,_)],[(8,_)],t2,t1,?_⟩
 refine R1 (exd rF ?_)
 refine mV L rfl (sw (c_n L) t2 t0 (mV L rfl (swg (g:=111) rfl rfl (R6 ag24 sz24 rF (by exact al2) rfl L) rfl t1 t1 ?_)))
 refine swg (g:=111) rfl rfl (q4 (vs:=[_,_]) un27 ti3 rfl rfl dC dC rfl (K2 (.cons rfl .nil) rfl) rfl (.cons rfl (.atom rfl) rfl pu1 (.cons rfl (.atom rfl) rfl (.skip pu1) .nil)) (.cons (.cons .nil)) L) rfl t2 t0 (swg (g:=111) rfl rfl (c_c hG hX cl48 rfl hN (vI [1,3] dC dC) L) rfl t1 t0 (swg (g:=111) rfl rfl (q4 (vs:=[_,_]) un27 ti3 rfl rfl dC dC rfl (K2 (.cons rfl .nil) rfl) rfl (.cons rfl (.atom rfl) rfl pu1 (.cons rfl (.atom rfl) rfl (.skip pu1) .nil)) (.cons (.cons .nil)) L) rfl t2 t0 (swg (g:=111) rfl rfl (c_c hG hX cl48 rfl hN (vI [-2,1] dC dC) L) rfl t1 t0 (swg (g:=111) rfl rfl (c_c hG hX cl25 rfl hN hc1 L) rfl t3 t0 (swg (g:=111) rfl rfl (C4 L) rfl t1 t0 (sw (y4 rfl L) t2 t0 (mV L rfl (swg (g:=120) rfl rfl (R6 ag24 sz24 rF (by exact al2) rfl L) rfl t1 t1 ?_))))))))
 refine swg (g:=120) rfl rfl (q4 (vs:=[_,_]) un27 ti3 rfl rfl dC dC rfl (K2 (.cons rfl .nil) rfl) rfl (.cons rfl (.atom rfl) rfl pu1 (.cons rfl (.atom rfl) rfl (.skip pu1) .nil)) (.cons (.cons .nil)) L) rfl t2 t0 (swg (g:=120) rfl rfl (c_c hG hX cl48 rfl hN (vI [1,3] dC dC) L) rfl t1 t0 (swg (g:=120) rfl rfl (q4 (vs:=[_,_]) un27 ti3 rfl rfl dC dC rfl (K2 (.cons rfl .nil) rfl) rfl (.cons rfl (.atom rfl) rfl pu1 (.cons rfl (.atom rfl) rfl (.skip pu1) .nil)) (.cons (.cons .nil)) L) rfl t2 t0 (swg (g:=120) rfl rfl (c_c hG hX cl48 rfl hN (vI [2,-1] dC dC) L) rfl t1 t0 (swg (g:=120) rfl rfl (c_c hG hX cl25 rfl hN hc2 L) rfl t3 t0 (sw (y4 rfl L) t2 t0 ?_)))))
 refine O1 ⟨d5 [⟨[4],[],[109],[]⟩,⟨[109],[],[110],[]⟩,⟨[110],[],[111],[]⟩,⟨[111,8],[8],[112],[]⟩,⟨[111],[],[113],[]⟩,⟨[111,113],[],[114],[]⟩,⟨[111],[],[115],[]⟩,⟨[111,115],[],[116],[]⟩,⟨[111,112,114,116],[],[117],[]⟩,⟨[111,117],[],[118],[]⟩,⟨[111,118],[],[119],[]⟩,⟨[119],[],[120],[]⟩,⟨[120,8],[8],[121],[]⟩,⟨[120],[],[122],[]⟩,⟨[120,122],[],[123],[]⟩,⟨[120],[],[124],[]⟩,⟨[120,124],[],[125],[]⟩,⟨[120,121,123,125],[],[126],[]⟩,⟨[120,126],[],[127],[]⟩] rF rF dC,[(127,_)],[],t1,trivial,?_⟩
 refine Z3 rfl rfl ?_
 refine U1 (xq ?_)
 refine exr (sw (q4 (vs:=[_,_]) un27 ti3 rfl rfl dC dC rfl (K2 (.cons rfl .nil) rfl) rfl (.cons rfl (.atom rfl) rfl pu1 (.cons rfl (.atom rfl) rfl (.skip pu1) .nil)) (.cons (.cons .nil)) L) t2 t0 (cK hG hX cl48 hN (vI [1,2] dC dC) L t1 (sw (q4 (vs:=[_,_]) un27 ti3 rfl rfl dC dC rfl (K2 (.cons rfl .nil) rfl) rfl (.cons rfl (.atom rfl) rfl pu1 (.cons rfl (.atom rfl) rfl (.skip pu1) .nil)) (.cons (.cons .nil)) L) t2 t0 (cK hG hX cl48 hN (vI [3,4] dC dC) L t1 (sw (q4 (vs:=[_,_]) un22 ti40 rfl rfl dC dC rfl (K2 (.cons rfl .nil) rfl) rfl (.cons rfl .sl rfl pu1 (.cons rfl .sl rfl (.skip pu1) .nil)) (.cons (.cons .nil)) L) t2 t0 (cK hG hX cl47 hN (mtI 2 [[1,2],[3,4]]) L t2 (sw (q4 (vs:=[_,_]) un27 ti3 rfl rfl dC dC rfl (K2 (.cons rfl .nil) rfl) rfl (.cons rfl (.atom rfl) rfl pu1 (.cons rfl (.atom rfl) rfl (.skip pu1) .nil)) (.cons (.cons .nil)) L) t2 t0 (cK hG hX cl48 hN (vI [0,1] dC dC) L t1 (sw (q4 (vs:=[_,_]) un27 ti3 rfl rfl dC dC rfl (K2 (.cons rfl .nil) rfl) rfl (.cons rfl (.atom rfl) rfl pu1 (.cons rfl (.atom rfl) rfl (.skip pu1) .nil)) (.cons (.cons .nil)) L) t2 t0 (cK hG hX cl48 hN (vI [1,0] dC dC) L t1 (sw (q4 (vs:=[_,_]) un22 ti40 rfl rfl dC dC rfl (K2 (.cons rfl .nil) rfl) rfl (.cons rfl .sl rfl pu1 (.cons rfl .sl rfl (.skip pu1) .nil)) (.cons (.cons .nil)) L) t2 t0 ?_)))))))))))
 refine cK hG hX cl47 hN (mtI 2 [[0,1],[1,0]]) L t2 (cK hG hX cl41 hN Q1s L t2 (mV L rfl (sw (O3 rfl L) t1 t0 (sw (O3 rfl L) t1 t0 (swb (R3 (k:=9) (n:=2) zv24 (.cons rfl (.cons rfl .nil)) rfl (P0 _ rfl) L) t0 t0 ⟨rfl,rfl⟩ (sb (U2 sz24 rF pa2 rfl pu2) t2 t1 ?_))))))
 refine aV L rfl (zn [(4,_),(9,_)] [(9,_)] t2 t1 (R1 (exd rF ?_)))
 refine mV L rfl (sw (c_n L) t2 t0 (mV L rfl (swg (g:=146) rfl rfl (R6 ag24 sz24 rF (by exact al2) rfl L) rfl t1 t1 ?_)))
 refine swg (g:=146) rfl rfl (q4 (vs:=[_,_]) un27 ti3 rfl rfl dC dC rfl (K2 (.cons rfl .nil) rfl) rfl (.cons rfl (.atom rfl) rfl pu1 (.cons rfl (.atom rfl) rfl (.skip pu1) .nil)) (.cons (.cons .nil)) L) rfl t2 t0 (swg (g:=146) rfl rfl (c_c hG hX cl48 rfl hN (vI [2,1] dC dC) L) rfl t1 t0 (swg (g:=146) rfl rfl (q4 (vs:=[_,_]) un27 ti3 rfl rfl dC dC rfl (K2 (.cons rfl .nil) rfl) rfl (.cons rfl (.atom rfl) rfl pu1 (.cons rfl (.atom rfl) rfl (.skip pu1) .nil)) (.cons (.cons .nil)) L) rfl t2 t0 (swg (g:=146) rfl rfl (c_c hG hX cl48 rfl hN (vI [4,3] dC dC) L) rfl t1 t0 (swg (g:=146) rfl rfl (q4 (vs:=[_,_]) un22 ti40 rfl rfl dC dC rfl (K2 (.cons rfl .nil) rfl) rfl (.cons rfl .sl rfl pu1 (.cons rfl .sl rfl (.skip pu1) .nil)) (.cons (.cons .nil)) L) rfl t2 t0 (swg (g:=146) rfl rfl (c_c hG hX cl47 rfl hN (mtI 2 [[2,1],[4,3]]) L) rfl t2 t0 (swg (g:=146) rfl rfl (c_c hG hX cl17 rfl hN (m1r 2 [[2,1],[4,3]] dC dC dC) L) rfl t2 t0 (swg (g:=146) rfl rfl (C4 L) rfl t1 t0 (sw (y4 rfl L) t2 t0 ?_))))))))
 refine O1 ⟨d5 [⟨[4],[],[144],[]⟩,⟨[144],[],[145],[]⟩,⟨[145],[],[146],[]⟩,⟨[146,9],[9],[147],[]⟩,⟨[146],[],[148],[]⟩,⟨[146,148],[],[149],[]⟩,⟨[146],[],[150],[]⟩,⟨[146,150],[],[151],[]⟩,⟨[146,149,151],[],[152],[]⟩,⟨[146,152],[],[153],[]⟩,⟨[146,147,153],[],[154],[]⟩,⟨[146,154],[],[155],[]⟩,⟨[146,155],[],[156],[]⟩] rF rF dC,[(9,_),(156,_)],[(9,_)],t2,t1,?_⟩
 refine Z3 rfl rfl ?_
 refine U1 (xq ?_)
 refine exr (lp2 ag24 sz24 L rfl rfl (cK hG hX cl31 hN P1w L t1 (mV L rfl (sw (O3 rfl L) t1 t0 (sw (O3 rfl L) t1 t0 (swb (R3 (k:=10) (n:=4) zv47 (.cons rfl (.cons rfl (.cons rfl (.cons rfl .nil)))) rfl (P0 _ rfl) L) t0 t0 ⟨rfl,rfl⟩ (sb (U2 sz47 rF pa4 rfl pu4) t2 t1 ?_)))))))
 refine aV L rfl (zn [(4,_),(10,_)] [(10,_)] t2 t1 (exr (sw (q4 (vs:=[_,_,_]) un27 ti3 rfl rfl dC dC rfl (K2 (.cons rfl .nil) rfl) rfl (.cons rfl (.atom rfl) rfl pu1 (.cons rfl (.atom rfl) rfl (.skip pu1) (.cons rfl (.atom rfl) rfl (.skip (.skip pu1)) .nil))) (.cons (.cons (.cons .nil))) L) t3 t0 (cK hG hX cl48 hN (vI [1,0,1] dC dC) L t1 (sw (q4 (vs:=[_,_,_]) un27 ti3 rfl rfl dC dC rfl (K2 (.cons rfl .nil) rfl) rfl (.cons rfl (.atom rfl) rfl pu1 (.cons rfl (.atom rfl) rfl (.skip pu1) (.cons rfl (.atom rfl) rfl (.skip (.skip pu1)) .nil))) (.cons (.cons (.cons .nil))) L) t3 t0 (cK hG hX cl48 hN (vI [2,0,2] dC dC) L t1 (sw (q4 (vs:=[_,_,_]) un27 ti3 rfl rfl dC dC rfl (K2 (.cons rfl .nil) rfl) rfl (.cons rfl (.atom rfl) rfl pu1 (.cons rfl (.atom rfl) rfl (.skip pu1) (.cons rfl (.atom rfl) rfl (.skip (.skip pu1)) .nil))) (.cons (.cons (.cons .nil))) L) t3 t0 (cK hG hX cl48 hN (vI [0,1,1] dC dC) L t1 (sw (q4 (vs:=[_,_,_]) un22 ti40 rfl rfl dC dC rfl (K2 (.cons rfl .nil) rfl) rfl (.cons rfl .sl rfl pu1 (.cons rfl .sl rfl (.skip pu1) (.cons rfl .sl rfl (.skip (.skip pu1)) .nil))) (.cons (.cons (.cons .nil))) L) t3 t0 (sw (q4 (vs:=[_,_,_]) un27 ti3 rfl rfl dC dC rfl (K2 (.cons rfl .nil) rfl) rfl (.cons rfl (.atom rfl) rfl pu1 (.cons rfl (.atom rfl) rfl (.skip pu1) (.cons rfl (.atom rfl) rfl (.skip (.skip pu1)) .nil))) (.cons (.cons (.cons .nil))) L) t3 t0 (cK hG hX cl48 hN (vI [3,1,4] dC dC) L t1 ?_)))))))))))
 refine cK hG hX cl30 hN hcom L t2 (mV L rfl (sw (O3 rfl L) t1 t0 (sw (O3 rfl L) t1 t0 (sw (O3 rfl L) t1 t0 (aV L rfl (aV L rfl (aV L rfl (zn [(4,_),(10,_),(11,_),(13,_)] [(10,_)] t4 t1 (exd rF ?_)))))))))
 refine mV L rfl (sw (c_e L) t2 t0 (mV L rfl (gV (g:=178) rfl rfl L rfl rfl (swg (g:=178) rfl rfl (c_e L) rfl t2 t0 (sw (O4 rfl L) t2 t0 (mV L rfl (swg (g:=182) rfl rfl (R6 ag47 sz47 rF (by exact al4) rfl L) rfl t1 t1 ?_)))))))
 refine swg (g:=182) rfl rfl (c_c hG hX cl49 rfl hN (d0x 2 dC dC) L) rfl t1 t0 (swg (g:=182) rfl rfl (c_c hG hX cl33 rfl hN (B0f ((2:Int):Rat) ((2:Int):Rat) (by decide +kernel) (by decide +kernel)) L) rfl t2 t0 ?_)
 refine sw (O4 rfl L) t2 t0 (mV L rfl (gV (g:=187) rfl rfl L rfl rfl (swg (g:=187) rfl rfl (q4 (vs:=[_,_,_]) un27 ti3 rfl rfl dC dC rfl (K2 (.cons rfl .nil) rfl) rfl (.cons rfl (.atom rfl) rfl pu1 (.cons rfl (.atom rfl) rfl (.skip pu1) (.cons rfl (.atom rfl) rfl (.skip (.skip pu1)) .nil))) (.cons (.cons (.cons .nil))) L) rfl t3 t0 (swg (g:=187) rfl rfl (c_c hG hX cl48 rfl hN (vI [3,0,1] dC dC) L) rfl t1 t0 (swg (g:=187) rfl rfl (c_c hG hX cl29 rfl hN (k1x [3,0,1] dC dC) L) rfl t2 t0 (sw (O4 rfl L) t2 t0 (aV L rfl ?_)))))))
 refine O1 ⟨d5 [⟨[4],[],[176],[]⟩,⟨[176],[],[177],[]⟩,⟨[177],[],[178],[]⟩,⟨[178,13],[],[179],[]⟩,⟨[178,179],[],[180],[]⟩,⟨[178,180],[],[181],[]⟩,⟨[181],[],[182],[]⟩,⟨[182,10],[10],[183],[]⟩,⟨[182],[],[184],[]⟩,⟨[182,183,184],[],[185],[]⟩,⟨[182,185],[],[186],[]⟩,⟨[186],[],[187],[]⟩,⟨[187,11],[],[188],[]⟩,⟨[187],[],[189],[]⟩,⟨[187,189],[],[190],[]⟩,⟨[187,188,190],[],[191],[]⟩,⟨[187,191],[],[192],[]⟩,⟨[192],[],[0],[]⟩] rF rF dC,[(0,_)],[],t1,trivial,?_⟩
 refine X1 ?_
 refine Q0 (.tmp rfl) ?_
 rfl
def WdM (m:List (List RQ)):Prop:=∀ r∈m,∀ q∈r,q.wd
end Go.Proofs.YtjagfionflbjbaaGreat.N
namespace Go.Proofs.YtjagfionflbjbaaGreat.SH
open Go Go.RowKit Go.ChangeShapes Go.WideShapes Go.ChangeAt
variable {H:Type} {enc:TypeId×Value→H} {P:Program}
theorem m0q (hl:laidOutB P=true){W W':World}(hb:Below W.heap.size W W'):∀ {ts:List TypeId} {vs:List Value} {ds:List (DataW H)} {ps:List MemPlace},
  (ts.all fun t=>P.readableRec t && decide (t<P.types.size))=true→DataW.TrodAll enc P W 0 (fun _=>true) true ts vs ds ps→(∀ x∈ps,x.block<W.heap.size) →
  DataW.TrodAll enc P W' 0 (fun b=>decide (b<W.heap.size)) true ts vs ds ps
 | [],vs,ds,ps,_,h,_=>by
  obtain ⟨rfl,rfl,rfl⟩:=trodAll_nil h
  rfl
 | t :: ts,vs,ds,ps,hr,h,hlt=>by
  obtain ⟨v,vs',d,ds',p,q,rfl,rfl,rfl,h1,h2⟩:=trodAll_cons h
  simp only [List.all_cons,j0,decide_eq_true_eq] at hr
  exact trodAll_cons_mk (Below.trod hl hr.1.1 hr.1.2 h1 hb fun x hx=>hlt x (List.mem_append_left _ hx)) (m0q hl hb hr.2 h2 fun x hx=>hlt x (List.mem_append_right _ hx))
theorem F1s {fn:Func}{s:ChangeSpec}{E7 fresh handsOn:Bool}{W W':World}{args:Array Value}{ds gs:List (DataW H)}{before:List MemPlace}{tb:TypeId}(hl:laidOutB P=true)(hr:(fn.params.toList.all fun t=>P.readableRec t && decide (t<P.types.size))=true)(htb:P.underlying tb=some .bool)(hrt:fn.resultTypes = #[tb])(hv:s.vars=[])
  (hW:DataW.Whole enc P fn.params.toList s.vars E7 W args.toList ds gs before) (hb:Below W.heap.size W W') (hs:s.fn H (ds++gs)={ results:=[.lit (.bool true)],args:=ds }):s.post enc P fn E7 fresh handsOn false W args (.bool true) W':=by
 have hW':=hW
 obtain ⟨p,q,hA,hV,rfl,hfz,hnd⟩:=hW
 rw [hv] at hV
 obtain ⟨rfl,rfl⟩:=trodVars_none hV
 refine ⟨ds,[],p++[],[],p,[],hW',?_,?_,?_,hb.frame _,fun h=>by cases h⟩
 ·rw [hs,hrt]; exact trodAll_mk1 (shut_bool htb true)
 ·rw [hs]; exact m0q hl hb hr hA fun x hx=>hW'.lt x (List.mem_append_left _ hx)
 ·rw [hs,hv]; rfl
end Go.Proofs.YtjagfionflbjbaaGreat.SH
set_option maxRecDepth 100000
namespace Go.Proofs.YtjagfionflbjbaaGreat.N
open Go Go.Proofs.YtjagfionflbjbaaGreat.SH Go.Proofs.YtjagfionflbjbaaGreat.NumA Go.Proofs.YtjagfionflbjbaaGreat Go.RowKit Go.ChangeShapes Go.WideShapes Go.ChangeAt Go.Joins
theorem own:ownKnob Tryz.prog.godebug=none:=by kernel_rfl
theorem M1g:laidOutB Tryz.prog=true:=by kernel_rfl
theorem F0y:Tryz.prog.cellsOf 45=2:=by kernel_rfl
theorem Y0f:Tryz.prog.cellsOf 47=4:=by kernel_rfl
theorem B1w:Tryz.prog.cellsOf 119=1:=by kernel_rfl
theorem p1n:Tryz.prog.cellsOf 43=1:=by kernel_rfl
theorem Q1k:Tryz.prog.cellsOf 4=1:=by kernel_rfl
theorem M1a:Tryz.prog.cellsOf 40=1:=by kernel_rfl
theorem Y0d {w:World}{a:Addr}{k:IntKind}{zs:List Int}{n:Nat}(hcell:∀ i,i<zs.length→w.cell? (a.add i)=some (.int k (zs.getD i 0)))(hn:n≤zs.length) :
  M7 (fun _=>True) (hp w) ((zs.take n).map fun z=>.a (.int k z)) (some a):=by
 by_cases h0:n=0
 ·subst h0; trivial
 ·obtain ⟨b,off,rfl,hc⟩:=ints_at hcell (by omega)
  refine M7.of trivial (Y4.of fun i y hy=>?_)
  rw [List.getElem?_map,List.getElem?_take] at hy
  split at hy
  ·rename_i hi
   have hi':i<zs.length:=by omega
   rw [J1 hi'] at hy
   simp only [Option.map_some,U0] at hy
   subst hy
   refine ⟨.int k zs[i],?_,rfl,by simp [Rel]⟩
   rw [← D0j,hc i hi',f0,J1 hi']
   rfl
  ·cases hy
section
variable {H:Type} {enc:TypeId×Value→H} {W:World}
theorem N0z {n:Nat}{cs:List Value}{y:DataW H×List MemPlace}(h:DataW.trod enc Tryz.prog W 0 (fun _=>true) true n 45 cs=some y) :
  ∃ neg ws c0 c1,Wd ws∧cs=[c0,c1]∧Rel (fun _=>True) (hp W) (.a (.bool neg)) c0∧Rel (fun _=>True) (hp W) (.sl ws.length (J4 ws)) c1∧c0.oneCell'=true∧c1.oneCell'=true:=by
 obtain ⟨y0,y1,m,-,hl,h0,h1⟩:=trod_struct2 Tryz.underlying45 h
 rw [F0y] at hl
 match cs,hl with
 | [c0,c1],_ =>
  have h0':DataW.trod enc Tryz.prog W 0 (fun _=>true) true m 4 [c0]=some y0:=by simpa [Q1k] using h0
  have h1':DataW.trod enc Tryz.prog W 0 (fun _=>true) true m 43 [c1]=some y1:=by simpa [p1n] using h1
  obtain ⟨b,hb,-⟩:=DataW.trod_bool Tryz.underlying4 h0'
  obtain rfl:c0 = .bool b:=by simpa using hb
  rcases open_ints Tryz.underlying43 Tryz.underlying119 B1w h1' with ⟨hcs,hx⟩ | ⟨a,len,cap,zs,hcs,_,hl,hm,hz,hx,hcell,hwz⟩
  ·obtain rfl:c1 = .slice none 0 0:=by simpa using hcs
   exact ⟨b,[],_,_,Wd.nil,rfl,by simp [Rel],⟨none,0,rfl,Nat.le_refl _,trivial⟩,rfl,rfl⟩
  ·obtain rfl:c1 = .slice (some a) len cap:=by simpa using hcs
   simp only [if_true] at hz
   have hlen:(zs.take len).length=len:=by rw [J0]; omega
   refine ⟨b,zs.take len,_,_,fun w hw=>?_,rfl,by simp [Rel],⟨some a,cap,by rw [hlen],by rw [hlen]; exact hl,Y0d hcell (by omega)⟩,rfl,rfl⟩
   have:=hwz w (List.mem_of_mem_take hw)
   simp only [Lit.wf,j0,decide_eq_true_eq] at this
   exact ⟨this.1,Int.lt_of_le_of_lt this.2 (by decide)⟩
theorem v1v {n:Nat}{cs:List Value}{y:DataW H×List MemPlace}(h:DataW.trod enc Tryz.prog W 0 (fun _=>true) true n 47 cs=some y) :
  ∃ r:RQ,r.wd∧I5 (fun _=>True) (hp W) (cR r) cs∧∀ c∈cs,c.oneCell'=true:=by
 obtain ⟨y0,y1,m,-,hl,h0,h1⟩:=trod_struct2 Tryz.underlying47 h
 rw [Y0f] at hl
 match cs,hl with
 | [c0,c1,c2,c3],_ =>
  have h0':DataW.trod enc Tryz.prog W 0 (fun _=>true) true m 45 [c0,c1]=some y0:=by simpa [F0y] using h0
  have h1':DataW.trod enc Tryz.prog W 0 (fun _=>true) true m 45 [c2,c3]=some y1:=by simpa [F0y] using h1
  obtain ⟨b,ws,d0,d1,w1,e1,a1,a2,o1,o2⟩:=N0z h0'
  obtain ⟨b',vs,d2,d3,w2,e2,a3,a4,o3,o4⟩:=N0z h1'
  simp only [List.cons.injEq,and_true] at e1 e2
  obtain ⟨rfl,rfl⟩:=e1
  obtain ⟨rfl,rfl⟩:=e2
  refine ⟨⟨b,ws,b',vs⟩,⟨w1,w2⟩,⟨_,_,rfl,a1,_,_,rfl,a2,_,_,rfl,a3,_,_,rfl,a4,rfl⟩,fun c hc=>?_⟩
  simp only [List.mem_cons,List.not_mem_nil,or_false] at hc
  rcases hc with rfl | rfl | rfl | rfl <;> assumption
theorem N0x {n:Nat}{v:Value}{y:DataW H×List MemPlace}(h:DataW.trod enc Tryz.prog W 0 (fun _=>true) true n 40 [v]=some y) :
  ∃ l:List RQ,(∀ r∈l,r.wd)∧Rel (fun _=>True) (hp W) (pVR l) v∧v.oneCell'=true:=by
 rcases DataW.trod_slice Tryz.underlying40 h with ⟨hcs,hx⟩ | ⟨a,len,cap,elems,rest,m,_,hcs,hx,_,hl,_,hlen,hel,_,_⟩
 ·obtain rfl:v = .slice none 0 0:=by simpa using hcs
  exact ⟨[],by simp,⟨none,0,rfl,Nat.le_refl _,trivial⟩,rfl⟩
 ·obtain rfl:v = .slice (some a) len cap:=by simpa using hcs
  have each:∀ i,i<len→∃ r:RQ,r.wd∧∀ j x,(cR r)[j]? = some x→∃ u,W.cell? ((a.add (i*4)).add j)=some u∧u.oneCell'=true∧Rel (fun _=>True) (hp W) x u:=fun i hi=>by
   have h1:=hel i hi
   rw [Y0f,J1 (by omega),Option.bind_eq_some_iff] at h1
   obtain ⟨cs,h2,h3⟩:=h1
   obtain ⟨-,h4,h5⟩:=World.cells?_some h2
   obtain ⟨r,hw,hr,ho⟩:=v1v h3
   refine ⟨r,hw,fun j x hx=>?_⟩
   obtain ⟨u,hu,hru⟩:=hr.get hx
   have hj:j<4:=by have:=(i1.1 hu).1; omega
   refine ⟨u,?_,ho u (M1 hu),hru⟩
   rw [← hu,← h5 j hj]
  have build:∀ k,k≤len→∃ l:List RQ,l.length=k∧(∀ r∈l,r.wd)∧∀ i,i<k→∀ j x,(cR (l.getD i default))[j]? = some x→∃ u,W.cell? ((a.add (i*4)).add j)=some u∧u.oneCell'=true∧Rel (fun _=>True) (hp W) x u:=fun k=>by
   induction k with
   | zero=>exact fun _=>⟨[],rfl,by simp,fun i hi=>absurd hi (Nat.not_lt_zero _)⟩
   | succ k ih =>
    intro hk
    obtain ⟨l,h1,h2,h3⟩:=ih (by omega)
    obtain ⟨r,hw,hr⟩:=each k (by omega)
    refine ⟨l++[r],by simp [h1],fun q hq=>?_,fun i hi j x hx=>?_⟩
    ·rcases List.mem_append.1 hq with hq | hq
     ·exact h2 q hq
     ·rw [List.mem_singleton.1 hq]; exact hw
    ·by_cases e:i<k
     ·refine h3 i e j x ?_
      rw [f0,X0 (by omega),← f0] at hx
      exact hx
     ·obtain rfl:i=k:=by omega
      refine hr j x ?_
      rw [f0,D0 (by omega),h1,Nat.sub_self] at hx
      exact hx
  obtain ⟨l,h1,h2,h3⟩:=build len (Nat.le_refl _)
  refine ⟨l,h2,⟨some a,cap,by rw [h1],by rw [h1]; exact hl,?_⟩,rfl⟩
  by_cases h0:l.length=0
  ·rw [E0 h0]; trivial
  ·obtain ⟨u0,hu0,-⟩:=h3 0 (by omega) 0 _ rfl
   obtain ⟨b,off,spot⟩:=a
   have hspot:spot=none:=by simpa [Addr.add] using World.cell?_spot hu0
   subst hspot
   refine M7.of trivial (Y4.of fun i x hx=>?_)
   have hi:i<l.length*4:=by
    have:=(i1.1 hx).1
    rwa [B0b] at this
   have hg:=n1c (v:=l) (i:=i / 4) (by omega)
   have hx':(cR (l.getD (i / 4) default))[i % 4]? = some x:=by
    rw [← hg,List.getElem?_take,if_pos (by omega),List.getElem?_drop,show i / 4*4+i % 4=i by omega]
    exact hx
   obtain ⟨u,hu,ho,hru⟩:=h3 (i / 4) (by omega) (i % 4) x hx'
   refine ⟨u,?_,ho,hru⟩
   rw [Go.WideShapes.add_plain,Go.WideShapes.add_plain,Nat.add_assoc,show i / 4*4+i % 4=i by omega] at hu
   rw [← D0j]; exact hu
theorem v1r {n:Nat}{v:Value}{y:DataW H×List MemPlace}(h:DataW.trod enc Tryz.prog W 0 (fun _=>true) true n 22 [v]=some y) :
  ∃ m:List (List RQ),WdM m∧Rel (fun _=>True) (hp W) (.sl m.length (b0f m)) v∧v.oneCell'=true:=by
 rcases DataW.trod_slice Tryz.underlying22 h with ⟨hcs,hx⟩ | ⟨a,len,cap,elems,rest,m,_,hcs,hx,_,hl,_,hlen,hel,_,_⟩
 ·obtain rfl:v = .slice none 0 0:=by simpa using hcs
  exact ⟨[],by simp [WdM],⟨none,0,rfl,Nat.le_refl _,trivial⟩,rfl⟩
 ·obtain rfl:v = .slice (some a) len cap:=by simpa using hcs
  have each:∀ i,i<len→∃ (l:List RQ) (u:Value),(∀ r∈l,r.wd)∧W.cell? (a.add i)=some u∧u.oneCell'=true∧Rel (fun _=>True) (hp W) (pVR l) u:=fun i hi=>by
   have h1:=hel i hi
   rw [M1a,J1 (by omega),Option.bind_eq_some_iff] at h1
   obtain ⟨cs,h2,h3⟩:=h1
   obtain ⟨-,h4,h5⟩:=World.cells?_some h2
   match cs,h4 with
   | [u],_ =>
    obtain ⟨l,hw,hr,ho⟩:=N0x h3
    refine ⟨l,u,hw,?_,ho,hr⟩
    have:=h5 0 (by decide)
    rw [Nat.mul_one] at this
    simpa [Addr.add] using this
  have build:∀ k,k≤len→∃ l:List (List RQ),l.length=k∧WdM l∧∀ i,i<k→∃ u,W.cell? (a.add i)=some u∧u.oneCell'=true∧Rel (fun _=>True) (hp W) (pVR (l.getD i [])) u:=fun k=>by
   induction k with
   | zero=>exact fun _=>⟨[],rfl,by simp [WdM],fun i hi=>absurd hi (Nat.not_lt_zero _)⟩
   | succ k ih =>
    intro hk
    obtain ⟨l,h1,h2,h3⟩:=ih (by omega)
    obtain ⟨r,u,hw,hc,ho,hr⟩:=each k (by omega)
    refine ⟨l++[r],by simp [h1],fun q hq=>?_,fun i hi=>?_⟩
    ·rcases List.mem_append.1 hq with hq | hq
     ·exact h2 q hq
     ·rw [List.mem_singleton.1 hq]; exact hw
    ·by_cases e:i<k
     ·obtain ⟨u,g1,g2,g3⟩:=h3 i e
      refine ⟨u,g1,g2,?_⟩
      rwa [f0,X0 (by omega),← f0]
     ·obtain rfl:i=k:=by omega
      refine ⟨u,hc,ho,?_⟩
      rwa [f0,D0 (by omega),h1,Nat.sub_self]
  obtain ⟨l,h1,h2,h3⟩:=build len (Nat.le_refl _)
  refine ⟨l,h2,⟨some a,cap,by rw [h1],by rw [h1]; exact hl,?_⟩,rfl⟩
  by_cases h0:l.length=0
  ·rw [E0 h0]; trivial
  ·obtain ⟨u0,hu0,-⟩:=h3 0 (by omega)
   obtain ⟨b,off,spot⟩:=a
   have hspot:spot=none:=by simpa [Addr.add] using World.cell?_spot hu0
   subst hspot
   refine M7.of trivial (Y4.of fun i x hx=>?_)
   have hi:i<l.length:=by
    have:=(i1.1 hx).1
    rwa [P0p] at this
   rw [d0h hi] at hx
   obtain rfl:=Option.some.inj hx
   obtain ⟨u,hu,ho,hru⟩:=h3 i (by omega)
   refine ⟨u,?_,ho,hru⟩
   rw [Go.WideShapes.add_plain] at hu
   rw [← D0j]; exact hu
theorem H1a {r:Reach}{b0:Nat}{v:Value}{d:DataW H}{p:List MemPlace}(hv:Value.okWide Tryz.prog W r b0 40 v)(h:DataW.Trod enc Tryz.prog W 0 (fun _=>true) true 40 v d p) :
  ∃ l:List RQ,(∀ r∈l,r.wd)∧Rel (fun _=>True) (hp W) (pVR l) v:=by
 obtain ⟨a,k,c,rfl⟩:=okWide_slice Tryz.underlying40 hv
 obtain ⟨n,h⟩:=h
 obtain ⟨l,hw,hr,-⟩:=N0x h
 exact ⟨l,hw,hr⟩
theorem H1s {r:Reach}{b0:Nat}{v:Value}{d:DataW H}{p:List MemPlace}(hv:Value.okWide Tryz.prog W r b0 22 v)(h:DataW.Trod enc Tryz.prog W 0 (fun _=>true) true 22 v d p) :
  ∃ m:List (List RQ),WdM m∧Rel (fun _=>True) (hp W) (.sl m.length (b0f m)) v:=by
 obtain ⟨a,k,c,rfl⟩:=okWide_slice Tryz.underlying22 hv
 obtain ⟨n,h⟩:=h
 obtain ⟨m,hw,hr,-⟩:=v1r h
 exact ⟨m,hw,hr⟩
end
end Go.Proofs.YtjagfionflbjbaaGreat.N
set_option maxRecDepth 100000
set_option maxHeartbeats 4000000
namespace Go.Proofs.YtjagfionflbjbaaGreat.N
open Go Go.Proofs.YtjagfionflbjbaaGreat.SH Go.Proofs.YtjagfionflbjbaaGreat.NumA
open Go.Proofs.Tryz renaming call11→cl11,call12→cl12,call13→cl13,call14→cl14,call15→cl15,call16→cl16,call17→cl17,call18→cl18,call19→cl19,call20→cl20,call21→cl21,call22→cl22,call23→cl23,call24→cl24,call25→cl25,call26→cl26,call27→cl27,call28→cl28,call29→cl29,call30→cl30,call31→cl31,call32→cl32,call33→cl33,call34→cl34,call35→cl35,call36→cl36,call37→cl37,isAgg22→ag22,isAgg24→ag24,isAgg3→ag3,isAgg40→ag40,isAgg47→ag47,sizeOf22→sz22,sizeOf24→sz24,sizeOf3→sz3,sizeOf40→sz40,sizeOf47→sz47,typeInfo40→ti40,typeInfo47→ti47,underlying22→un22,underlying24→un24,underlying27→un27,underlying40→un40,underlying4→un4,zeroValue24→zv24,zeroValue47→zv47
theorem V1n {X Y n N:Nat}(h:X≤Y)(hn:n≤N)(hY:g0n Y N≤700000000):g0n X n≤700000000:=by
 refine Nat.le_trans (v0n hn) (Nat.le_trans ?_ hY)
 unfold g0n
 have:=Nat.mul_le_mul_left (2 ^ N) (show X+1≤Y+1 by omega)
 omega
theorem G1r {u v:List Rat}(huv:u.length=v.length):∀ k,k≤u.length→dtF u v k=sN k fun t=>u.getD t 0*v.getD t 0
 | 0,_=>rfl
 | k+1,h=>by rw [W0f oM huv,G1r huv k oM]; rfl
theorem m1x {u v:List Rat}(huv:u.length=v.length):O9 u v=sN u.length fun t=>u.getD t 0*v.getD t 0:=by
 rw [← G1r huv _ (Nat.le_refl _),q0h,dtR,dtF,C0 sO]
theorem H1j {M:List (List Rat)}{j t:Nat}:(K6 M j).getD t 0=ent M t j:=by
 by_cases h:t<M.length
 ·simp [K6,ent,f0,h]
 ·rw [ent,show M.getD t []=[] by simp [f0,show M.length≤t by omega]]
  simp [K6,f0,show M.length≤t by omega]
theorem m1c {c A B:Nat}{L:List (List Rat)}{r:List Rat}(hL:RL c (lpr L))(hr:r.length=c)(hA:∀ j,qw (r.getD j 0)≤A)(hA1:1≤A)(hB:MB B L)(hB1:1≤B):∀ k,k≤L.length→(∀ j,qw ((j8 (L.take k) r).getD j 0)≤A+k*(A+B+2))∧∀ t,k≤t→t<L.length→(j8 (L.take k) r).getD (s3 (L.getD t [])) 0=r.getD (s3 (L.getD t [])) 0
 | 0,_=>⟨fun j=>by rw [List.take_zero]; show qw (r.getD j 0)≤_; have:=hA j; omega,fun t _ _=>by rw [List.take_zero]; rfl⟩
 | k+1,h=>by
  obtain ⟨h1,h2⟩:=m1c hL hr hA hA1 hB hB1 k oM
  have hk:k<L.length:=h
  have hlen:=K0q (fun q hq=>hL.len (s3 q,q) (j6.2 ⟨hq,rfl⟩)) hr k
  have hqk:=hL.len (s3 (L.getD k []),L.getD k []) (j6.2 ⟨gDL hk,rfl⟩)
  have hll:(L.getD k []).length=(j8 (L.take k) r).length:=by rw [hlen]; exact hqk
  have hq:∀ j,qw ((L.getD k []).getD j 0)≤B:=fun j=>by
   by_cases hj:j<(L.getD k []).length
   ·exact hB _ (gDL hk) _ (j4 hj)
   ·rw [f0,List.getElem?_eq_none oM]; show qw 0≤B; rw [d0m]; exact hB1
  refine ⟨fun j=>?_,fun t ht htl=>?_⟩
  ·rw [w0q hk,T7 hll,h2 k (Nat.le_refl _) hk]
   have a1:=H1y ((j8 (L.take k) r).getD j 0) (r.getD (s3 (L.getD k [])) 0*(L.getD k []).getD j 0)
   have a2:=d9 (r.getD (s3 (L.getD k [])) 0) ((L.getD k []).getD j 0)
   have a3:=h1 j
   have a4:=hA (s3 (L.getD k []))
   have a5:=hq j
   rw [Nat.add_mul]; omega
  ·have hne:s3 (L.getD t [])≠s3 (L.getD k []):=by
    have ha:=hL.asc
    rw [lpr,List.pairwise_map,List.pairwise_iff_getElem] at ha
    have:=ha k t hk htl oM
    rw [f0,f0,J1 hk,J1 htl]
    simp only [Option.getD_some] at this ⊢; omega
   have hz:(L.getD k []).getD (s3 (L.getD t [])) 0=0:=hL.oth (s3 (L.getD t []),L.getD t []) (j6.2 ⟨gDL htl,rfl⟩) (s3 (L.getD k []),L.getD k []) (j6.2 ⟨gDL hk,rfl⟩) hne
   rw [w0q hk,T7 hll,hz,h2 t oM htl]; grind
theorem K1j {v:List Rat}{j:Nat}(hj:j<v.length):v[j]=v.getD j 0:=by simp [f0,hj]
theorem m1h {B:Nat}{M:List (List Rat)}(h:MB B M)(i:Nat):MB B (M.take i):=fun r hr=>h r (List.mem_of_mem_take hr)
theorem W1s {c:Nat}{M:List (List Rat)}(hl:∀ r∈M,r.length=c)(hB:MB 6 M)(hn:M.length≤14)(hc:c≤15):RE c BB 130000000 M:=by
 have key:∀ i,i≤M.length→∀ X,g0n (192*(i*c+0)) i≤X→MB (X / 32+1) (m4 (M.take i)):=fun i hi X hX=>by
  have rc:RC i c (M.take i):=⟨by rw [J0]; omega,fun r hr=>hl r (List.mem_of_mem_take hr)⟩
  have hC:=Q1g (l:=[]) rc (m1h hB i) sM fun _ _=>.inl (j1n (n:=i))
  have h1:=(N1f ((k1v rc Q0x hC (Nat.le_refl c) (Nat.le_refl i)).mono hX)).1
  rw [(n1y rc (Q0x (n:=i))).1]
  exact m1h h1 _
 have mono:∀ {X Y n N:Nat},X≤Y→n≤N→g0n X n≤g0n Y N:=fun {X Y n N} h hn=>by
  refine Nat.le_trans (v0n hn) ?_
  unfold g0n
  have:=Nat.mul_le_mul_left (2 ^ N) (show X+1≤Y+1 by omega)
  omega
 refine ⟨hl,by omega,by omega,fun i hi=>?_,fun i hi k a ha=>?_,by decide⟩
 ·refine (key i hi 700000000 (Nat.le_trans (mono (Y:=192*210) (N:=14) ?_ oM) (by decide +kernel))).mono dC
  have:=Nat.mul_le_mul (show i≤14 by omega) hc; omega
 ·have hb:=(key i oM 307000000 (Nat.le_trans (mono (Y:=192*195) (N:=13) (by have:=Nat.mul_le_mul (show i≤13 by omega) hc; omega) oM) (by decide +kernel))).mono (show 307000000 / 32+1≤9600000 by decide)
  have hrl:=(B8 (c:=c) (m:=M.take i) fun r hr=>hl r (List.mem_of_mem_take hr)).1
  have hlen:=p0a (M.take i)
  rw [J0] at hlen
  obtain ⟨L,hL⟩:∃ L,L=m4 (M.take i):=⟨_,rfl⟩
  rw [← hL] at ha hb hrl hlen
  obtain ⟨j,hj,rfl⟩:=List.getElem_of_mem ha
  have hA:∀ j,qw ((M.getD i []).getD j 0)≤6:=fun j=>by
   by_cases hj:j<(M.getD i []).length
   ·exact hB _ (gDL hi) _ (j4 hj)
   ·rw [f0,List.getElem?_eq_none oM]; show qw 0≤6; rw [d0m]; decide
  have e:(j8 (L.take k) (M.getD i []))[j]=(j8 (L.take k) (M.getD i [])).getD j 0:=K1j hj
  rw [e]
  have hkk:L.take k=L.take (min k L.length):=by rw [List.take_eq_take_iff]; omega
  rw [hkk]
  have h1:=(m1c hrl (hl _ (gDL hi)) hA dC hb dC (min k L.length) oM).1 j
  have h2:min k L.length*(6+9600000+2)≤13*(6+9600000+2):=V0 _ oM
  omega
theorem Y0a {pv:List Nat}{g:Nat→Rat}{x:List Rat}{a:Rat}:∀ {k:Nat},a∈n0y pv g x k→a∈x∨∃ i,i<k∧a=g i
 | 0,h=>.inl h
 | k+1,h=>by
  rw [y8] at h
  rcases List.mem_or_eq_of_mem_set h with h | h
  ·rcases Y0a h with h | ⟨i,hi,e⟩
   ·exact .inl h
   ·exact .inr ⟨i,by omega,e⟩
  ·exact .inr ⟨k,by omega,h⟩
theorem P1x {B i j:Nat}{M:List (List Rat)}(h:MB B M)(h1:1≤B):qw (ent M i j)≤B:=by
 rcases v0h (m:=M) (i:=i) (j:=j) with e | ⟨r,hr,ha⟩
 ·rw [e,d0m]; exact h1
 ·exact h r hr _ ha
theorem k0a {n:Nat}{v:List RQ}(hn:n<1000)(hw:∀ r∈v,r.wd)(h:smV n v=true):v.length<1000000000∧∀ r∈v,r.sm:=by
 rw [smV,j0,decide_eq_true_iff,s0] at h
 refine ⟨by omega,fun a ha=>?_⟩
 have h2:=h.2 a ha
 rw [smW,decide_eq_true_iff] at h2
 exact ⟨hw a ha,by omega,by omega⟩
theorem K1d {n:Nat}{v:List RQ}(hn:n<1000)(hw:∀ r∈v,r.wd)(h:smV n v=true)(hi:v.all RQ.is=true):∃ l:List Rat,v=l.map RQ.of∧l.length≤n∧∀ a∈l,qw a≤6:=by
 obtain ⟨l,rfl⟩:=Q1j (k0a hn hw h).2 hi
 rw [smV,j0,decide_eq_true_iff,s0,O0] at h
 refine ⟨l,rfl,h.1,fun a ha=>?_⟩
 have h2:=h.2 _ (List.mem_map_of_mem ha)
 rw [smW,decide_eq_true_iff] at h2
 exact Nat.max_le.2 h2
theorem W0h {c:Nat}{M:List (List Rat)}{b:List Rat}:w0p c M b=true↔Y0s c M b:=by
 unfold w0p Y0s; simp
theorem F1a {c:Nat}{pv:List Nat}{g:Nat→Rat}:(d0a c pv g).length=c:=by simp [d0a]
theorem M1s {B c:Nat}{pv:List Nat}{g:Nat→Rat}(h1:1≤B)(hg:∀ i,qw (g i)≤B):∀ a∈d0a c pv g,qw a≤B:=fun a ha=>by
 rcases Y0a ha with h | ⟨i,_,rfl⟩
 ·rw [List.eq_of_mem_replicate h,d0m]; exact h1
 ·exact hg i
theorem q1n {r:List Rat}{i:Nat}(h:i+1<r.length):(B0q r).getD i 0=r.getD (i+1) 0*(r.getD 0 0)⁻¹:=by
 have:(B0q r).getD i 0=r.getD (i+1) 0 / r.getD 0 0:=by
  simp [B0q,f0,h,Nat.add_comm 1 i]
 rw [this,Rat.div_def]
theorem D1v {r:List Rat}:(B0q r).length=r.length - 1:=by simp [B0q]
theorem P1r {n:Nat}{f:Nat→Rat}{q:Rat}:sN n (fun i=>f i*q)=q*sN n f:=by
 rw [← g0q]; exact F6 fun _ _=>Rat.mul_comm _ _
theorem f1w {c n:Nat}{M:List (List Rat)}{b:List Rat}(h:RC n c M)(hb:b.length=n)(hc:¬ Y0s c M b):G0p c M b (j0m (ech M (Y3 b) c) n)=true∧n0r (ech M (Y3 b) c) n=4∧(j0m (ech M (Y3 b) c) n).length=n:=by
 obtain ⟨k,h1,h2,h3,h4,h5,h6⟩:=Go.Proofs.YtjagfionflbjbaaGreat.NumA.solve_no ⟨h,hb⟩ hc
 have hF:B0z (ech M (Y3 b) c) n=(k:Int):=h1
 have hrb:=(v6 h (D0g hb) c (Nat.le_refl _)).2.1
 obtain ⟨r,hr⟩:∃ r,r=(ech M (Y3 b) c).b.getD k []:=⟨_,rfl⟩
 have hrl:r.length=n+1:=by rw [hr]; exact hrb.get h3
 have hy:j0m (ech M (Y3 b) c) n=B0q r:=by
  rw [j0m,hF,if_neg oM,hr]; rfl
 have hr0:r.getD 0 0≠0:=by rw [hr]; exact h4
 have hyl:(B0q r).length=n:=by rw [D1v,hrl]; rfl
 have key:∀ (g:Nat→Rat),sN n (fun i=>(B0q r).getD i 0*g i)=(r.getD 0 0)⁻¹*sN n (fun i=>r.getD (i+1) 0*g i):=fun g=>by
  rw [← P1r]
  refine F6 fun i hi=>?_
  rw [q1n oM]; grind
 refine ⟨?_,by rw [n0r,hF,if_neg oM],by rw [hy,hyl]⟩
 rw [hy,G0p,j0,decide_eq_true_iff]
 constructor
 ·rw [Q0k,s0]
  intro j hj
  have hj:=List.mem_range.1 hj
  rw [decide_eq_true_iff,H0c (by rw [hyl,h.1]),m1x (by rw [hyl,X6,h.1]),hyl]
  have e:sN n (fun t=>(B0q r).getD t 0*(K6 M j).getD t 0)=sN n (fun t=>(B0q r).getD t 0*ent M t j):=F6 fun t _=>by rw [H1j]
  rw [e,key]
  have:=h5 j hj
  rw [show sN n (fun i=>r.getD (i+1) 0*ent M i j)=0 by rw [hr]; exact this,Rat.mul_zero]
 ·rw [m1x (by rw [hyl,hb]),hyl,key,show sN n (fun i=>r.getD (i+1) 0*b.getD i 0)=r.getD 0 0 by rw [hr]; exact h6]
  exact Rat.inv_mul_cancel _ hr0
theorem k1d {B n:Nat}{t:ESt}(h:MB B t.b)(h1:1≤B):∀ a∈j0m t n,qw a≤B+B:=by
 intro a ha
 unfold j0m at ha
 split at ha
 ·cases ha
 ·obtain ⟨r,hr⟩:∃ r,r=t.b.getD (B0z t n).toNat []:=⟨_,rfl⟩
  rw [← hr] at ha
  have hrB:∀ x∈r,qw x≤B:=fun x hx=>by
   by_cases hk:(B0z t n).toNat<t.b.length
   ·rw [hr] at hx; exact h _ (gDL hk) x hx
   ·rw [hr,f0,List.getElem?_eq_none oM] at hx; cases hx
  obtain ⟨x,hx,rfl⟩:=G0.1 ha
  have b1:=hrB x (List.mem_of_mem_drop hx)
  by_cases h0:r.getD 0 0=0
  ·rw [h0,Rat.div_def,Rat.inv_zero,Rat.mul_zero,d0m]; omega
  ·have b2:=f1r (a:=x) h0
   have b3:qw (r.getD 0 0)≤B:=by
    cases r with
    | nil=>exact absurd rfl h0
    | cons y r=>exact hrB y sM
   omega
theorem J1v {B:Nat}{M:List (List Rat)}{b:List Rat}(h:MB B M)(hb:∀ a∈b,qw a≤B)(hl:b.length=M.length):MB B (J5 M b):=by
 intro r hr a ha
 simp only [J5,G0,List.mem_range] at hr
 obtain ⟨i,hi,rfl⟩:=hr
 rcases List.mem_append.1 ha with h1 | h1
 ·exact h _ (gDL hi) a h1
 ·rw [List.mem_singleton.1 h1]; exact hb _ (j4 oM)
theorem D1f {n:Nat}{vs:List (List RQ)}(hn:n<1000)(hw:WdM vs)(hl:vs.length<1000000000)(h:vs.all (smV n)=true):MSm vs :=
 ⟨hl,fun r hr=>k0a hn (hw r hr) (s0.1 h r hr)⟩
theorem P1n {n:Nat}{vs:List (List RQ)}(hn:n<1000)(hw:WdM vs)(h:vs.all (smV n)=true)(hi:(vs.all fun r=>r.all RQ.is)=true):∃ V:List (List Rat),vs=V.map (List.map RQ.of)∧MB 6 V∧∀ r∈V,r.length≤n:=by
 obtain ⟨V,rfl⟩:=Y1q (fun r hr=>(k0a hn (hw r hr) (s0.1 h r hr)).2) hi
 have key:∀ r∈V,r.length≤n∧∀ a∈r,qw a≤6:=fun r hr=>by
  have h1:=s0.1 h _ (List.mem_map_of_mem hr)
  rw [smV,j0,decide_eq_true_iff,s0,O0] at h1
  refine ⟨h1.1,fun a ha=>?_⟩
  have h2:=h1.2 _ (List.mem_map_of_mem ha)
  rw [smW,decide_eq_true_iff] at h2
  exact Nat.max_le.2 h2
 exact ⟨V,rfl,fun r hr a ha=>(key r hr).2 a ha,fun r hr=>(key r hr).1⟩
theorem Q1w {k:Nat}{V:List (List Rat)}(hk:k≤400)(hV:V.length≤60):MOk V.length (trM k V):=⟨by simpa using hk,hV,(V0k (c:=k) (M:=V)).2⟩
theorem M1q {V:List (List Rat)}{w:List Rat}(hV:∀ r∈V,r.length=w.length)(hk:V.length≤14)(hw:w.length≤14)(hB:MB 6 V)(hwB:∀ a∈w,qw a≤6):EU w.length V.length (w.length+1) BB DD (trM w.length V) (Y3 w) :=
 have h1:=Nat.mul_le_mul hw hk
 V0n V0k (h1p hV hB) rfl hwB hw oM (V1n (Y:=192*210) (N:=14) oM hw (by decide +kernel))
def fmK (vs:List (List RQ))(w:List RQ)(k:Nat):Bool:=w.all RQ.is && (vs.take k).all fun r=>r.all RQ.is
def ftK (vs:List (List RQ))(w:List RQ)(k:Nat):Bool:=(vs.take k).all fun r=>decide (r.length=w.length)
theorem K0h {α:Type}{p:α→Bool}{v:List α}{k:Nat}{d:α}(h:k<v.length):(v.take (k+1)).all p=((v.take k).all p && p (v.getD k d)):=by
 rw [I1,List.all_append]; simp [f0,h]
theorem D1b {vs:List (List RQ)}{w:List RQ}{k:Nat}(h:k<vs.length):fmK vs w (k+1)=(fmK vs w k && (vs.getD k []).all RQ.is):=by
 rw [fmK,fmK,K0h (d:=[]) h,Bool.and_assoc]
theorem y1p {vs:List (List RQ)}{w:List RQ}{k:Nat}(h:k<vs.length):ftK vs w (k+1)=(ftK vs w k && decide ((vs.getD k []).length=w.length)):=by
 rw [ftK,ftK,K0h (d:=[]) h]
theorem B1y {k:Nat}{M:List (List Rat)}{u:List Rat}(hM:MOk k M)(hB:MB 6 M)(hlen:u.length=M.length)(ub:∀ a∈u,qw a≤6)(H:EU u.length k (u.length+1) BB DD M (Y3 u))(hl:u.length≤12):(w0p k M u=false∧n0r (ech M (Y3 u) k) u.length=4∧v3 E 26 [pMq k M,pV u,pV (j0m (ech M (Y3 u) k) u.length)] (bZ true))∨(w0p k M u=true∧n0r (ech M (Y3 u) k) u.length=0∧y0f k (ech M (Y3 u) k) u.length=X7 k M u∧v3 E 29 [pV (X7 k M u),pV (X7 k M u)] (bZ true)):=by
 have rT:RC u.length k M:=⟨hlen.symm,hM.len⟩
 cases hcb:w0p k M u with
 | false =>
  have hno:¬ Y0s k M u:=fun h=>by rw [W0h.2 h] at hcb; cases hcb
  obtain ⟨g1,g2,g3⟩:=f1w rT rfl hno
  have hzb:=k1d (n:=u.length) (H.be k (Nat.le_refl _)) dC
  have hchk:=b1d k 6 (BB+BB) M u (j0m (ech M (Y3 u) k) u.length) hM hB ub hzb hlen (by rw [g3,hlen]) (by have:=V0 (BB+BB+6+1) (show M.length≤14 by omega); exact Nat.lt_of_le_of_lt (Nat.succ_le_succ this) dC) dC
  rw [g1] at hchk
  exact .inl ⟨rfl,g2,hchk⟩
 | true =>
  have hcq:=W0h.1 hcb
  obtain ⟨g1,g2⟩:=p1j ⟨rT,rfl⟩ hcq
  have kx:y0f k (ech M (Y3 u) k) u.length=X7 k M u:=by rw [y0f,if_pos (show B0z _ _<0 from g1),g2]
  have hxb:∀ a∈X7 k M u,qw a≤BB:=by
   rw [← g2]; exact M1s dC fun i=>P1x (H.be k (Nat.le_refl _)) dC
  have hxl:(X7 k M u).length=k:=F1a
  exact .inr ⟨rfl,if_pos g1,kx,b1a (by rw [hxl]; have:=hM.cols; omega) hxb dC⟩
theorem J0v (vs:List (List RQ))(w:List RQ)(hv:WdM vs)(hw:∀ r∈w,r.wd):v3 E 5 [pMs vs,pVR w] (bZ true):=by
 refine D2 (xs:=[bZ true]) Tryz.func5 rfl Tryz.ntmps5 Tryz.results5 sM fun F hG hX0 hnt hdf P0=>?_
 obtain ⟨L,hX,hN⟩:=pro hnt hX0 hG
 refine exr (aV L rfl (zn [(0,_),(1,_)] [] t2 trivial (R1 ?_)))
 refine exm (sl:=[(24,vb (!(decide (vs.length≤10) && smV 12 w)))]) (sl0:=[(0,_),(1,_)]) (hb:=[]) (hb0:=[]) t2 t0 ?_ ?_
 ·rcases (by omega:10<vs.length∨vs.length≤10) with h | h
  ·refine mV L rfl (sw (R2 un22 L) t1 t0 (sw (i7 L) t2 t0 (mV L rfl (swn (g:=20) rfl (decide_eq_true oM) L rfl (swn (g:=20) rfl (decide_eq_true oM) L rfl (swn (g:=20) rfl (decide_eq_true oM) L rfl (sw (O4 (decide_eq_true oM) L) t2 t0 ?_)))))))
   exact O1 ⟨⟨ob rfl (by rw [decide_eq_false (show ¬ vs.length≤10 by omega)] <;> rfl),rfl,rfl,trivial⟩,trivial⟩
  ·refine mV L rfl (sw (R2 un22 L) t1 t0 (sw (i7 L) t2 t0 (mV L rfl (gV (g:=20) rfl (decide_eq_false oM) L rfl rfl (swg (g:=20) rfl (decide_eq_false oM) (c_c hG hX cl23 rfl hN (F0g 12 w dC) L) rfl t2 t0 (swg (g:=20) rfl (decide_eq_false oM) (C4 L) rfl t1 t0 (sw (y4 (decide_eq_false oM) L) t2 t0 ?_)))))))
   exact O1 ⟨⟨ob rfl (by rw [decide_eq_true (show vs.length≤10 by omega)] <;> rfl),rfl,rfl,trivial⟩,trivial⟩
 refine j2 rfl (fun hc=>?_) (fun hc=>?_)
 ·refine exr (cK hG hX cl12 hN F8 L t0 (aV L rfl (zn [(4,_)] [] t1 trivial (X1 ?_))))
  refine Q0 (.tmp rfl) ?_
  rfl
 ·have hc:vs.length≤10∧smV 12 w=true:=by simpa using hc
  obtain ⟨h10,hsw⟩:=hc
  have hws:=k0a dC hw hsw
  have hwl:w.length≤12:=by rw [smV,j0,decide_eq_true_iff] at hsw; exact hsw.1
  refine U1 (xq ?_)
  refine exr (mV L rfl (cK hG hX cl27 hN (k0p w hws.1 hws.2) L t1 (aV L rfl (aV L rfl (zn [(0,_),(1,_),(5,_),(6,_)] [] t4 trivial (exr (mV L rfl (sw (R2 un22 L) t1 t0 (sw (G7 (vs:=[_]) un24 zv24 (.cons rfl (.cons rfl .nil)) ((J2.cons sz3 (J2.cons sz22 J2.nil))).to rfl (.cons rfl (.atom rfl) rfl pu1 .nil) (.cons (.cons .nil)) L) t1 t0 (swb (R3 (k:=7) (n:=2) zv24 (.cons rfl (.cons rfl .nil)) rfl (P0 _ rfl) L) t0 t0 ⟨rfl,rfl⟩ (sb (U2 sz24 rF pa2 rfl pu2) t2 t1 ?_)))))))))))
  refine zn [(0,_),(1,_),(5,_),(6,_),(7,_)] [(7,_)] t5 t1 (R1 (exr (aV L rfl (zn [(0,_),(1,_),(5,_),(6,_),(7,_),(8,_)] [(7,_)] t6 t1 (V1 ?_)))))
  refine exl (α:=Nat) (fun k=>[(8,vi (k:Int)),(5,vb (fmK vs w k)),(6,vb (ftK vs w k))]) (fun k=>[]) (fun k=>k≤vs.length∧(vs.take k).all (smV 12)=true) (fun k=>vs.length - k) (0) (sl:=[(0,_),(1,_),(7,_)]) (hb:=[(7,_)]) ?_ ⟨oR,ob rfl (by simp [fmK]),ob rfl (by simp [ftK]),rfl,rfl,rfl,trivial⟩ t1 ?_
  ·exact ⟨Nat.zero_le _,rfl⟩
  intro k hk
  obtain ⟨hk,hsm⟩:=hk
  refine R1 (exr (mV L rfl (mV L rfl (sw (R2 un22 L) t1 t0 (sw (P3 L) t2 t0 (zn [(0,_),(1,_),(5,_),(6,_),(7,_),(8,_),(34,_)] [(7,_)] t7 t1 ?_))))))
  refine j2 rfl (fun he=>?_) (fun he=>?_)
  ·have he:=dt he
   have hk2:k<vs.length:=by omega
   refine U1 (xq ?_)
   refine R1 (V1 (R1 (exr (mV L rfl (mV L rfl (sw (ixJ un22 sz40 (j:=k) rO oM sM L) t2 t0 ?_))))))
   refine sw (d4 ag40 (d0h hk2) L) t1 t0 (cK hG hX cl23 hN (F0g 12 (vs.getD k []) dC) L t2 (sw (C4 L) t1 t0 (zn [(0,_),(1,_),(5,_),(6,_),(7,_),(8,_),(42,_)] [(7,_)] t7 t1 ?_)))
   refine j2 rfl (fun hz=>?_) (fun hz=>?_)
   ·refine exr (cK hG hX cl12 hN F8 L t0 (aV L rfl (zn [(4,_)] [] t1 trivial (X1 ?_))))
    refine Q0 (.tmp rfl) ?_
    rfl
   ·have hz:smV 12 (vs.getD k [])=true:=by simpa using hz
    have hrs:=k0a dC (hv _ (gDL hk2)) hz
    have e1:=D1b (w:=w) hk2
    have e2:=y1p (w:=w) hk2
    refine U1 (xq ?_)
    refine exm (sl:=[(5,vb (fmK vs w (k+1)))]) (sl0:=[(0,_),(1,_),(6,_),(7,_),(8,_)]) (hb:=[]) (hb0:=[(7,_)]) t5 t1 ?_ ?_
    ·rcases Bool.eq_false_or_eq_true (fmK vs w k) with h | h
     ·refine mV L rfl (mV L rfl (gV (g:=45) rfl h L rfl rfl (gV (g:=45) rfl h L rfl rfl (swg (g:=45) rfl h (ixJ un22 sz40 (j:=k) rO oM sM L) rfl t2 t0 ?_))))
      refine swg (g:=45) rfl h (d4 ag40 (d0h hk2) L) rfl t1 t0 (swg (g:=45) rfl h (c_c hG hX cl27 rfl hN (k0p (vs.getD k []) hrs.1 hrs.2) L) rfl t1 t0 (sw (O4 h L) t2 t0 (aV L rfl ?_)))
      exact O1 ⟨⟨ob rfl (by rw [e1,h,Bool.true_and]),rfl,rfl,rfl,rfl,rfl,trivial⟩,t1⟩
     ·refine mV L rfl (mV L rfl (swn (g:=45) rfl h L rfl (swn (g:=45) rfl h L rfl (swn (g:=45) rfl h L rfl (swn (g:=45) rfl h L rfl (swn (g:=45) rfl h L rfl (sw (y4 h L) t2 t0 (aV L rfl ?_))))))))
      exact O1 ⟨⟨ob rfl (by rw [e1,h,Bool.false_and]),rfl,rfl,rfl,rfl,rfl,trivial⟩,t1⟩
    rcases Bool.eq_false_or_eq_true (ftK vs w k) with h | h
    ·refine j3 (mV L rfl (mV L rfl (gV (g:=53) rfl h L rfl rfl (gV (g:=53) rfl h L rfl rfl (swg (g:=53) rfl h (ixJ un22 sz40 (j:=k) rO oM sM L) rfl t2 t0 ?_)))))
     refine swg (g:=53) rfl h (d4 ag40 (d0h hk2) L) rfl t1 t0 (swg (g:=53) rfl h (R2 un40 L) rfl t1 t0 (gV (g:=53) rfl h L rfl rfl (swg (g:=53) rfl h (R2 un40 L) rfl t1 t0 (swg (g:=53) rfl h (c_e L) rfl t2 t0 (sw (O4 h L) t2 t0 (aV L rfl (O1 (j3 (mV L rfl (sw (B3 L (w64 oM oM)) t2 t0 (aV L rfl ?_)))))))))))
     refine O1 ?_
     exact ⟨k+1,⟨by omega,j0r hk2 hsm hz⟩,by omega,l3 ⟨oR,oR,ob rfl (by rw [e2,h,Bool.true_and,decide_eq_decide.2 (show (vs.getD k []).length=w.length↔((vs.getD k []).length:Int)=w.length by omega)]),rfl,rfl,rfl,trivial⟩ t1⟩
    ·refine j3 (mV L rfl (mV L rfl (swn (g:=53) rfl h L rfl (swn (g:=53) rfl h L rfl (swn (g:=53) rfl h L rfl (swn (g:=53) rfl h L rfl (swn (g:=53) rfl h L rfl (swn (g:=53) rfl h L rfl (swn (g:=53) rfl h L rfl (swn (g:=53) rfl h L rfl (sw (y4 h L) t2 t0 ?_)))))))))))
     refine aV L rfl (O1 (j3 (mV L rfl (sw (B3 L (w64 oM oM)) t2 t0 (aV L rfl (O1 ?_))))))
     exact ⟨k+1,⟨by omega,j0r hk2 hsm hz⟩,by omega,l3 ⟨oR,oR,ob rfl (by rw [e2,h,Bool.false_and]),rfl,rfl,rfl,trivial⟩ t1⟩
  ·have he:=df he
   have hkv:k=vs.length:=by omega
   subst hkv
   rw [I0] at hsm
   have hms:=D1f dC hv oM hsm
   have hfm:fmK vs w vs.length=(w.all RQ.is && vs.all fun r=>r.all RQ.is):=by rw [fmK,I0]
   have hft:ftK vs w vs.length=vs.all fun r=>decide (r.length=w.length):=by rw [ftK,I0]
   rcases Bool.eq_false_or_eq_true (N0g vs w) with hi | hi
   ·have hi1:=hi
    rw [N0g,j0] at hi1
    rw [hi1.1,hi1.2] at hfm
    rw [hfm]
    rcases Bool.eq_false_or_eq_true (vs.all fun r=>decide (r.length=w.length)) with hfit | hfit
    ·rw [hfit] at hft
     rw [hft]
     clear hfm hft hms hi
     obtain ⟨V,rfl,hB,_⟩:=P1n dC hv hsm hi1.1
     obtain ⟨u,rfl,ul,ub⟩:=K1d dC hw hsw hi1.2
     have hV:∀ r∈V,r.length=u.length:=fun r hr=>by
      have:=s0.1 hfit _ (List.mem_map_of_mem hr)
      simpa using this
     rw [O0] at h10
     have H:=M1q hV oM oM hB ub
     have hcm:=p0g BB DD V u hV oM oM (hB.mono dC) (fun a ha=>Nat.le_trans (ub a ha) dC) H
     obtain ⟨M,hMt⟩:∃ M,M=trM u.length V:=⟨_,rfl⟩
     have rT:RC u.length V.length M:=by rw [hMt]; exact V0k
     have bT:MB 6 M:=by rw [hMt]; exact h1p hV hB
     have okT:MOk V.length M:=by rw [hMt]; exact Q1w oM oM
     rw [← hMt] at H hcm
     have hlen:u.length=M.length:=rT.1.symm
     have rT2:RC M.length V.length M:=⟨rfl,rT.2⟩
     have hRE:=W1s (w9 rT2).2 (J1v bT ub hlen) (by rw [s7]; omega) oM
     have hrs:=h1q V.length BB 130000000 M u rT.2 hlen hRE
     have hzb:=k1d (n:=u.length) (H.be V.length (Nat.le_refl _)) dC
     have hfin:=B1y okT bT hlen ub H ul
     obtain ⟨X,hXx⟩:∃ X,X=y0f V.length (ech M (Y3 u) V.length) u.length:=⟨_,rfl⟩
     obtain ⟨Y,hYy⟩:∃ Y,Y=j0m (ech M (Y3 u) V.length) u.length:=⟨_,rfl⟩
     obtain ⟨ee,hee⟩:∃ ee,ee=n0r (ech M (Y3 u) V.length) u.length:=⟨_,rfl⟩
     rw [← hXx,← hYy,← hee] at hcm hfin
     clear hXx hYy hee H hRE hzb
     rw [P1z,v0p,O0]
     refine G2 (xq ?_)
     refine exr (mV L rfl (mV L rfl (cK hG hX cl30 hN hcm L t2 (mV L rfl (sw (O3 rfl L) t1 t0 (sw (O3 rfl L) t1 t0 (sw (O3 rfl L) t1 t0 (aV L rfl (aV L rfl (aV L rfl (zn [(0,_),(1,_),(5,_),(6,_),(7,_),(9,_),(10,_),(11,_)] [(7,_)] t8 t1 ?_)))))))))))
     refine R1 (exr (mV L rfl (sw (C4 L) t1 t0 (zn [(0,_),(1,_),(6,_),(7,_),(9,_),(10,_),(11,_),(71,_)] [(7,_)] t8 t1 (Z3 rfl rfl ?_)))))
     refine U1 (xq ?_)
     refine R1 (exr (mV L rfl (sw (C4 L) t1 t0 (zn [(0,_),(1,_),(7,_),(9,_),(10,_),(11,_),(78,_)] [(7,_)] t7 t1 (Z3 rfl rfl ?_)))))
     refine U1 (xq ?_)
     refine R1 (exr (aV L rfl (zn [(0,_),(1,_),(7,_),(9,_),(10,_),(11,_),(12,_)] [(7,_)] t7 t1 (V1 ?_))))
     refine exl (α:=(Nat×List (List Rat))) (fun x=>[(12,vi (x.1:Int))]) (fun x=>[(7,⟨24,2,.mix [.p (vZ V.length),D0a 111 x.2]⟩)]++D0c 111 x.2) (fun x=>x.1≤u.length∧trM x.1 V=x.2) (fun x=>u.length - x.1) ((0,[])) (sl:=[(0,_),(1,_),(7,_),(9,_),(10,_),(11,_)]) (hb:=[]) ?_ ⟨oR,rfl,rfl,rfl,rfl,rfl,rfl,trivial⟩ (hbI (l':=[(7,_)]) rfl t1) ?_
     ·exact ⟨Nat.zero_le _,rfl⟩
     intro x hx
     obtain ⟨j,T⟩:=x
     obtain ⟨hj,hT⟩:=hx
     simp only at hj hT
     rcases T with _ | ⟨q,T⟩
     ·dsimp only [D0a,D0c,List.append_nil]
      refine R1 (exr (mV L rfl (mV L rfl (sw (R2 un40 L) t1 t0 (sw (P3 L) t2 t0 (zn [(0,_),(1,_),(7,_),(9,_),(10,_),(11,_),(12,_),(87,_)] [(7,_)] t8 t1 ?_))))))
      refine j2 rfl (fun hc=>?_) (fun hc=>?_)
      ·have hc:=dt hc
       have hju:j<u.length:=by omega
       have ht:=p0y j V
       rw [hT] at ht
       refine U1 (xq ?_)
       refine R1 (V1 (exr (swb (f9 (k:=90) (sz:=4) un40 ti47 (P0 _ rfl) L) t0 t0 ⟨rfl,rfl⟩ (aV L rfl ?_))))
       refine O1 ⟨[(0,_),(1,_),(7,_),(9,_),(10,_),(11,_),(12,_),(13,.ref 90 0 0 0)],[(7,_),(90,T3 [])],t8,t2,?_⟩
       refine R1 (exr (aV L rfl (zn [(0,_),(1,_),(7,_),(9,_),(10,_),(11,_),(12,_),(13,_),(14,_)] [(7,_),(90,_)] t9 t2 (V1 ?_))))
       refine exl (α:=Nat) (fun i=>[(14,vi (i:Int)),(13,.ref 90 0 i (i*4))]) (fun i=>[(90,T3 (K6 (V.take i) j))]) (fun i=>i≤V.length) (fun i=>V.length - i) (0) (sl:=[(0,_),(1,_),(7,_),(9,_),(10,_),(11,_),(12,_)]) (hb:=[(7,_)]) ?_ ⟨oR,oR,rfl,rfl,rfl,rfl,rfl,rfl,rfl,trivial⟩ t2 ?_
       ·exact Nat.zero_le _
       intro i hi
       refine R1 (exr (mV L rfl (mV L rfl (sw (R2 un22 L) t1 t0 (sw (P3 L) t2 t0 (zn [(0,_),(1,_),(7,_),(9,_),(10,_),(11,_),(12,_),(13,_),(14,_),(94,_)] [(7,_),(90,_)] t10 t2 ?_))))))
       refine j2 rfl (fun hf=>?_) (fun hf=>?_)
       ·have hf:=dt hf
        have hi2:i<V.length:=by omega
        have hrl:=hV _ (gDL hi2)
        refine U1 (xq ?_)
        refine R1 (V1 (j3 (mV L rfl (mV L rfl (mV L rfl (sw (ixJ un22 sz40 (j:=i) rO oM sM L) t2 t0 ?_))))))
        refine sw (d4 ag40 (b7 hi2) L) t1 t0 (mV L rfl (sw (Z1 un40 sz47 oM oM sM dC L) t2 t0 ?_))
        refine sw (L6 ag47 sz47 (M6 (show j<(V.getD i []).length by omega)) rfl L) t1 t0 ?_
        refine sw (q4 (vs:=[_]) un40 ti47 rfl rfl dC dC rfl (K2 (.cons rfl (.cons rfl (.cons rfl (.cons rfl .nil)))) rfl) rfl (.cons rfl pa4 rfl pu4 .nil) (.cons (.cons (.cons (.cons .nil)))) L) t1 t0 (swb (apP (sz:=4) un40 un40 ti47 rfl rfl rfl dC (by exact (by first | (simp; done) | (simp; omega))) oF sM rfl rfl rfl (by first | (simp [Tryz.t47]; done) | (simp [Tryz.t47]; omega)) oM (P0 _ rfl) L) t2 t1 t0 ?_)
        refine aV L rfl (O1 (j3 (mV L rfl (sw (B3 L (w64 oM oM)) t2 t0 (aV L rfl (O1 ?_))))))
        exact ⟨i+1,oM,by omega,l3 ⟨oR,ov rfl sO,rfl,rfl,rfl,rfl,rfl,rfl,rfl,trivial⟩ ⟨obl rfl ((L9 _ _).trans (by rw [g9 hi2])),rfl,trivial⟩⟩
       ·have hf:=df hf
        have hiv:i=V.length:=by omega
        subst hiv
        rw [I0]
        refine G2 (xq ?_)
        refine s4 [90] (sl:=[(0,_),(1,_),(7,_),(9,_),(10,_),(11,_),(12,_),(13,_)]) (hb:=[(7,_)]) (F3 hX0) ⟨⟨_,rfl,.same⟩,⟨_,rfl,.same⟩,⟨_,rfl,.same⟩,⟨_,rfl,.same⟩,⟨_,rfl,.same⟩,⟨_,rfl,.same⟩,⟨_,rfl,.same⟩,⟨_,rfl,(.ref rfl rfl (by exact (by first | (simp; done) | (simp; omega))) (by first | rfl | omega))⟩,trivial⟩ ⟨⟨rfl,_,rfl,.same⟩,trivial⟩ ?_
        rw [show L2.sl V.length (L5 (K6 V j))=pV (K6 V j) by rw [pV,X6]]
        refine j3 (sw (i2 un24 rfl sz22 dC rX L) t1 t1 ?_)
        refine sw (Y1 ag22 rF rF L) t1 t1 ?_
        refine mV L rfl (sw (q4 (vs:=[_]) un22 ti40 rfl rfl dC dC rfl (K2 (.cons rfl .nil) rfl) rfl (.cons rfl .sl rfl pu1 .nil) (.cons .nil) L) t1 t0 (swb (apN (k:=111) (sz:=1) un22 un22 ti40 rfl rfl rfl dC sM rfl (by first | (simp [Tryz.t40]; done) | (simp [Tryz.t40]; omega)) oM (P0 _ rfl) L) t2 t0 ⟨rfl,rfl⟩ ?_))
        refine sw (i2 un24 rfl sz22 dC rX L) t1 t1 ?_
        refine sb (U2 sz22 rF .ref rfl (.skip pu1)) t2 t1 ?_
        refine O1 (j3 (mV L rfl (sw (B3 L (w64 oM oM)) t2 t0 (aV L rfl (O1 ?_)))))
        exact ⟨(j+1,[K6 V j]),⟨by simp only; omega,ht⟩,(by simp only; omega),l3 ⟨oR,rfl,rfl,rfl,rfl,rfl,rfl,trivial⟩ (hbI (l':=[(7,_),(111,_)]) rfl ⟨rfl,obl rfl (by simp [M5]),trivial⟩)⟩
      ·have hc:=df hc
       have hju:j=u.length:=by omega
       subst hju
       rw [← hMt] at hT
       subst hT
       refine G2 (xq ?_)
       refine s4 [] (sl:=[(1,_),(7,_),(9,_),(10,_),(11,_)]) (hb:=[(7,_)]) (F3 hX0) ⟨⟨_,rfl,.same⟩,⟨_,rfl,.same⟩,⟨_,rfl,.same⟩,⟨_,rfl,.same⟩,⟨_,rfl,.same⟩,trivial⟩ ⟨⟨rfl,_,rfl,(.mix (.cons .same (.cons (.p .nil) .nil)))⟩,trivial⟩ ?_
       rcases hfin with ⟨c1,rfl,c3⟩ | ⟨c1,rfl,rfl,c4⟩
       ·rw [c1] at hrs
        refine exr (lp2 ag24 sz24 L rfl rfl (mV L rfl (cK hG hX cl28 hN hrs L t2 (mV L rfl (sw (O3 rfl L) t1 t0 (sw (O3 rfl L) t1 t0 (aV L rfl (aV L rfl (zn [(1,_),(7,_),(9,_),(10,_),(11,_),(15,_),(16,_)] [(7,_)] t7 t1 (R1 (exr ?_)))))))))))
        refine mV L rfl (zn [(1,_),(7,_),(9,_),(10,_),(11,_),(15,_),(119,_)] [(7,_)] t7 t1 (Z3 rfl rfl ?_))
        refine U1 (xq ?_)
        refine exr (cK hG hX cl12 hN F8 L t0 (mV L rfl (gV (g:=131) rfl rfl L rfl rfl (swg (g:=131) rfl rfl (c_e L) rfl t2 t0 (sw (O4 rfl L) t2 t0 (mV L rfl (swg (g:=135) rfl rfl (R6 ag24 sz24 rF (by exact al2) rfl L) rfl t1 t1 ?_)))))))
        refine gV (g:=135) rfl rfl L rfl rfl (gV (g:=135) rfl rfl L rfl rfl (swg (g:=135) rfl rfl (c_c hG hX cl26 rfl hN c3 L) rfl t3 t0 (sw (O4 rfl L) t2 t0 (aV L rfl (zn [(4,_)] [] t1 trivial (X1 ?_))))))
        refine Q0 (.tmp rfl) ?_
        rfl
       ·rw [c1,if_pos rfl] at hrs
        refine exr (lp2 ag24 sz24 L rfl rfl (mV L rfl (cK hG hX cl28 hN hrs L t2 (mV L rfl (sw (O3 rfl L) t1 t0 (sw (O3 rfl L) t1 t0 (aV L rfl (aV L rfl (zn [(1,_),(7,_),(9,_),(10,_),(11,_),(15,_),(16,_)] [(7,_)] t7 t1 (R1 (exr ?_)))))))))))
        refine mV L rfl (zn [(1,_),(7,_),(9,_),(10,_),(11,_),(15,_),(119,_)] [(7,_)] t7 t1 (P8 rfl rfl (exr (cK hG hX cl12 hN F8 L t0 (mV L rfl (gV (g:=121) rfl rfl L rfl rfl (swg (g:=121) rfl rfl (c_e L) rfl t2 t0 (sw (O4 rfl L) t2 t0 (mV L rfl (gV (g:=125) rfl rfl L rfl rfl (gV (g:=125) rfl rfl L rfl rfl ?_)))))))))))
        refine swg (g:=125) rfl rfl (c_c hG hX cl29 rfl hN c4 L) rfl t2 t0 (sw (O4 rfl L) t2 t0 (aV L rfl (zn [(4,_)] [] t1 trivial (X1 ?_))))
        refine Q0 (.tmp rfl) ?_
        rfl
     ·dsimp only [D0a,D0c]
      have hTl:(q :: T).length=j:=by rw [← hT,G0k]
      have hTl2:T.length+1=j:=hTl
      refine R1 (exr (mV L rfl (mV L rfl (sw (R2 un40 L) t1 t0 (sw (P3 L) t2 t0 (zn [(0,_),(1,_),(7,_),(9,_),(10,_),(11,_),(12,_),(87,_)] [(7,_),(111,_)] t8 t2 ?_))))))
      refine j2 rfl (fun hc=>?_) (fun hc=>?_)
      ·have hc:=dt hc
       have hju:j<u.length:=by omega
       have ht:=p0y j V
       rw [hT] at ht
       refine U1 (xq ?_)
       refine R1 (V1 (exr (swb (f9 (k:=90) (sz:=4) un40 ti47 (P0 _ rfl) L) t0 t0 ⟨rfl,rfl⟩ (aV L rfl ?_))))
       refine O1 ⟨[(0,_),(1,_),(7,_),(9,_),(10,_),(11,_),(12,_),(13,.ref 90 0 0 0)],[(7,_),(90,T3 []),(111,_)],t8,t3,?_⟩
       refine R1 (exr (aV L rfl (zn [(0,_),(1,_),(7,_),(9,_),(10,_),(11,_),(12,_),(13,_),(14,_)] [(7,_),(90,_),(111,_)] t9 t3 (V1 ?_))))
       refine exl (α:=Nat) (fun i=>[(14,vi (i:Int)),(13,.ref 90 0 i (i*4))]) (fun i=>[(90,T3 (K6 (V.take i) j))]) (fun i=>i≤V.length) (fun i=>V.length - i) (0) (sl:=[(0,_),(1,_),(7,_),(9,_),(10,_),(11,_),(12,_)]) (hb:=[(7,_),(111,_)]) ?_ ⟨oR,oR,rfl,rfl,rfl,rfl,rfl,rfl,rfl,trivial⟩ t3 ?_
       ·exact Nat.zero_le _
       intro i hi
       refine R1 (exr (mV L rfl (mV L rfl (sw (R2 un22 L) t1 t0 (sw (P3 L) t2 t0 (zn [(0,_),(1,_),(7,_),(9,_),(10,_),(11,_),(12,_),(13,_),(14,_),(94,_)] [(7,_),(90,_),(111,_)] t10 t3 ?_))))))
       refine j2 rfl (fun hf=>?_) (fun hf=>?_)
       ·have hf:=dt hf
        have hi2:i<V.length:=by omega
        have hrl:=hV _ (gDL hi2)
        refine U1 (xq ?_)
        refine R1 (V1 (j3 (mV L rfl (mV L rfl (mV L rfl (sw (ixJ un22 sz40 (j:=i) rO oM sM L) t2 t0 ?_))))))
        refine sw (d4 ag40 (b7 hi2) L) t1 t0 (mV L rfl (sw (Z1 un40 sz47 oM oM sM dC L) t2 t0 ?_))
        refine sw (L6 ag47 sz47 (M6 (show j<(V.getD i []).length by omega)) rfl L) t1 t0 ?_
        refine sw (q4 (vs:=[_]) un40 ti47 rfl rfl dC dC rfl (K2 (.cons rfl (.cons rfl (.cons rfl (.cons rfl .nil)))) rfl) rfl (.cons rfl pa4 rfl pu4 .nil) (.cons (.cons (.cons (.cons .nil)))) L) t1 t0 (swb (apP (sz:=4) un40 un40 ti47 rfl rfl rfl dC (by exact (by first | (simp; done) | (simp; omega))) oF sM rfl rfl rfl (by first | (simp [Tryz.t47]; done) | (simp [Tryz.t47]; omega)) oM (P0 _ rfl) L) t2 t1 t0 ?_)
        refine aV L rfl (O1 (j3 (mV L rfl (sw (B3 L (w64 oM oM)) t2 t0 (aV L rfl (O1 ?_))))))
        exact ⟨i+1,oM,by omega,l3 ⟨oR,ov rfl sO,rfl,rfl,rfl,rfl,rfl,rfl,rfl,trivial⟩ ⟨obl rfl ((L9 _ _).trans (by rw [g9 hi2])),rfl,rfl,trivial⟩⟩
       ·have hf:=df hf
        have hiv:i=V.length:=by omega
        subst hiv
        rw [I0]
        refine G2 (xq ?_)
        refine s4 [90] (sl:=[(0,_),(1,_),(7,_),(9,_),(10,_),(11,_),(12,_),(13,_)]) (hb:=[(7,_),(111,_)]) (F3 hX0) ⟨⟨_,rfl,.same⟩,⟨_,rfl,.same⟩,⟨_,rfl,.same⟩,⟨_,rfl,.same⟩,⟨_,rfl,.same⟩,⟨_,rfl,.same⟩,⟨_,rfl,.same⟩,⟨_,rfl,(.ref rfl rfl (by exact (by first | (simp; done) | (simp; omega))) (by first | rfl | omega))⟩,trivial⟩ ⟨⟨rfl,_,rfl,.same⟩,⟨rfl,_,rfl,.same⟩,trivial⟩ ?_
        rw [show L2.sl V.length (L5 (K6 V j))=pV (K6 V j) by rw [pV,X6]]
        refine j3 (sw (i2 un24 rfl sz22 dC rX L) t1 t1 ?_)
        refine sw (Y1 ag22 rF rF L) t1 t1 ?_
        refine mV L rfl (sw (q4 (vs:=[_]) un22 ti40 rfl rfl dC dC rfl (K2 (.cons rfl .nil) rfl) rfl (.cons rfl .sl rfl pu1 .nil) (.cons .nil) L) t1 t0 (swb (apP (sz:=1) un22 un22 ti40 rfl rfl rfl dC (by exact (G5 _)) oF sM rfl rfl rfl (by first | (simp [Tryz.t40]; done) | (simp [Tryz.t40]; omega)) oM (P0 _ rfl) L) t2 t1 t0 ?_))
        refine sw (i2 un24 rfl sz22 dC rX L) t1 t1 ?_
        refine sb (U2 sz22 rF .ref rfl (.skip pu1)) t2 t1 ?_
        refine O1 (j3 (mV L rfl (sw (B3 L (w64 oM oM)) t2 t0 (aV L rfl (O1 ?_)))))
        exact ⟨(j+1,q :: T++[K6 V j]),⟨by simp only; omega,ht⟩,(by simp only; omega),l3 ⟨oR,rfl,rfl,rfl,rfl,rfl,rfl,trivial⟩ (hbI (l':=[(7,_),(111,_)]) rfl ⟨obl rfl sM,obl rfl (y1s _ (q :: T) _ rfl),trivial⟩)⟩
      ·have hc:=df hc
       have hju:j=u.length:=by omega
       subst hju
       rw [← hMt] at hT
       subst hT
       refine G2 (xq ?_)
       refine s4 [111] (sl:=[(1,_),(7,_),(9,_),(10,_),(11,_)]) (hb:=[(7,_)]) (F3 hX0) ⟨⟨_,rfl,.same⟩,⟨_,rfl,.same⟩,⟨_,rfl,.same⟩,⟨_,rfl,.same⟩,⟨_,rfl,.same⟩,trivial⟩ ⟨⟨rfl,_,rfl,(.mix (.cons .same (.cons (.ref rfl rfl (by exact (G5 _)) (by first | rfl | omega)) .nil)))⟩,trivial⟩ ?_
       rcases hfin with ⟨c1,rfl,c3⟩ | ⟨c1,rfl,rfl,c4⟩
       ·rw [c1] at hrs
        refine exr (lp2 ag24 sz24 L rfl rfl (mV L rfl (cK hG hX cl28 hN hrs L t2 (mV L rfl (sw (O3 rfl L) t1 t0 (sw (O3 rfl L) t1 t0 (aV L rfl (aV L rfl (zn [(1,_),(7,_),(9,_),(10,_),(11,_),(15,_),(16,_)] [(7,_)] t7 t1 (R1 (exr ?_)))))))))))
        refine mV L rfl (zn [(1,_),(7,_),(9,_),(10,_),(11,_),(15,_),(119,_)] [(7,_)] t7 t1 (Z3 rfl rfl ?_))
        refine U1 (xq ?_)
        refine exr (cK hG hX cl12 hN F8 L t0 (mV L rfl (gV (g:=131) rfl rfl L rfl rfl (swg (g:=131) rfl rfl (c_e L) rfl t2 t0 (sw (O4 rfl L) t2 t0 (mV L rfl (swg (g:=135) rfl rfl (R6 ag24 sz24 rF (by exact al2) rfl L) rfl t1 t1 ?_)))))))
        refine gV (g:=135) rfl rfl L rfl rfl (gV (g:=135) rfl rfl L rfl rfl (swg (g:=135) rfl rfl (c_c hG hX cl26 rfl hN c3 L) rfl t3 t0 (sw (O4 rfl L) t2 t0 (aV L rfl (zn [(4,_)] [] t1 trivial (X1 ?_))))))
        refine Q0 (.tmp rfl) ?_
        rfl
       ·rw [c1,if_pos rfl] at hrs
        refine exr (lp2 ag24 sz24 L rfl rfl (mV L rfl (cK hG hX cl28 hN hrs L t2 (mV L rfl (sw (O3 rfl L) t1 t0 (sw (O3 rfl L) t1 t0 (aV L rfl (aV L rfl (zn [(1,_),(7,_),(9,_),(10,_),(11,_),(15,_),(16,_)] [(7,_)] t7 t1 (R1 (exr ?_)))))))))))
        refine mV L rfl (zn [(1,_),(7,_),(9,_),(10,_),(11,_),(15,_),(119,_)] [(7,_)] t7 t1 (P8 rfl rfl (exr (cK hG hX cl12 hN F8 L t0 (mV L rfl (gV (g:=121) rfl rfl L rfl rfl (swg (g:=121) rfl rfl (c_e L) rfl t2 t0 (sw (O4 rfl L) t2 t0 (mV L rfl (gV (g:=125) rfl rfl L rfl rfl (gV (g:=125) rfl rfl L rfl rfl ?_)))))))))))
        refine swg (g:=125) rfl rfl (c_c hG hX cl29 rfl hN c4 L) rfl t2 t0 (sw (O4 rfl L) t2 t0 (aV L rfl (zn [(4,_)] [] t1 trivial (X1 ?_))))
        refine Q0 (.tmp rfl) ?_
        rfl
    ·rw [hfit] at hft
     rw [hft]
     refine G2 (xq ?_)
     refine exr (mV L rfl (mV L rfl (cK hG hX cl30 hN (d1q vs w hms hws.1 hws.2 hi hfit) L t2 (mV L rfl (sw (O3 rfl L) t1 t0 (sw (O3 rfl L) t1 t0 (sw (O3 rfl L) t1 t0 (aV L rfl (aV L rfl (aV L rfl (zn [(0,_),(1,_),(5,_),(6,_),(7,_),(9,_),(10,_),(11,_)] [(7,_)] t8 t1 ?_)))))))))))
     refine R1 (exr (mV L rfl (sw (C4 L) t1 t0 (zn [(0,_),(1,_),(6,_),(7,_),(9,_),(10,_),(11,_),(71,_)] [(7,_)] t8 t1 (Z3 rfl rfl ?_)))))
     refine U1 (xq ?_)
     refine R1 (exr (mV L rfl (sw (C4 L) t1 t0 (zn [(0,_),(1,_),(7,_),(9,_),(10,_),(11,_),(78,_)] [(7,_)] t7 t1 (P8 rfl rfl (exr (cK hG hX cl12 hN F8 L t0 (mV L rfl (gV (g:=80) rfl rfl L rfl rfl (swg (g:=80) rfl rfl (c_e L) rfl t2 t0 (sw (O4 rfl L) t2 t0 ?_)))))))))))
     refine aV L rfl (zn [(4,_)] [] t1 trivial (X1 ?_))
     refine Q0 (.tmp rfl) ?_
     rfl
   ·have hi2:fmK vs w vs.length=false:=by rw [hfm,Bool.and_comm]; exact hi
    rw [hi2]
    refine G2 (xq ?_)
    refine exr (mV L rfl (mV L rfl (cK hG hX cl30 hN (f1m vs w hms hws.1 hws.2 hi) L t2 (mV L rfl (sw (O3 rfl L) t1 t0 (sw (O3 rfl L) t1 t0 (sw (O3 rfl L) t1 t0 (aV L rfl (aV L rfl (aV L rfl (zn [(0,_),(1,_),(5,_),(6,_),(7,_),(9,_),(10,_),(11,_)] [(7,_)] t8 t1 ?_)))))))))))
    refine R1 (exr (mV L rfl (sw (C4 L) t1 t0 (zn [(0,_),(1,_),(6,_),(7,_),(9,_),(10,_),(11,_),(71,_)] [(7,_)] t8 t1 (P8 rfl rfl (exr (cK hG hX cl12 hN F8 L t0 (mV L rfl (gV (g:=73) rfl rfl L rfl rfl (swg (g:=73) rfl rfl (c_e L) rfl t2 t0 (sw (O4 rfl L) t2 t0 ?_)))))))))))
    refine aV L rfl (zn [(4,_)] [] t1 trivial (X1 ?_))
    refine Q0 (.tmp rfl) ?_
    rfl
end Go.Proofs.YtjagfionflbjbaaGreat.N
