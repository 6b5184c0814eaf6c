/- Part F of the proof: lemmas for the walks of the given functions. No statement of its own. -/
import Derived.ChangeSame
import Derived.ChangeVars
import Derived.JoinedOf
import Derived.RowKit
import Derived.RowKitTokens
import Derived.LaidLaws
import Derived.LaidHandle
import Derived.Carry
import Derived.OpenShut
import Derived.Lib.SmallJoins
import Derived.Lib.LaidTab
import Derived.Lay
import Derived.LaidMore
import Derived.MakeChecks
import Derived.Stop.LaidErr
import Derived.ProofKit
import Derived.Test.YtjagfionflbjbaaGreatRows
import Derived.Test.YtjagfionflbjbaaGreatPE
set_option linter.unusedVariables false
set_option linter.unusedSimpArgs false
set_option linter.deprecated false
set_option maxRecDepth 100000
set_option maxHeartbeats 4000000
namespace Go.Proofs.YtjagfionflbjbaaGreat.N
open Go Go.Proofs.YtjagfionflbjbaaGreat.SH Go.Proofs.YtjagfionflbjbaaGreat.NumA
open Go.Proofs.Tryz renaming call103→cl103,call104→cl104,call11→cl11,call12→cl12,call132→cl132,call133→cl133,call13→cl13,call14→cl14,call15→cl15,call16→cl16,call17→cl17,call19→cl19,call22→cl22,call23→cl23,call24→cl24,call25→cl25,call27→cl27,call29→cl29,call30→cl30,call31→cl31,call33→cl33,call34→cl34,call35→cl35,call37→cl37,call38→cl38,call39→cl39,call40→cl40,call41→cl41,call47→cl47,call48→cl48,call49→cl49,call57→cl57,call58→cl58,call59→cl59,call60→cl60,call61→cl61,call62→cl62,call63→cl63,call71→cl71,call75→cl75,call76→cl76,call84→cl84,isAgg22→ag22,isAgg24→ag24,isAgg3→ag3,isAgg40→ag40,isAgg43→ag43,isAgg47→ag47,sizeOf22→sz22,sizeOf24→sz24,sizeOf3→sz3,sizeOf40→sz40,sizeOf43→sz43,sizeOf45→sz45,sizeOf47→sz47,typeInfo3→ti3,typeInfo40→ti40,typeInfo47→ti47,underlying22→un22,underlying24→un24,underlying27→un27,underlying40→un40,underlying43→un43,underlying45→un45,underlying47→un47,underlying4→un4,zeroValue24→zv24,zeroValue47→zv47
def dtF (u v:List Rat)(k:Nat):Rat:=sumQ ((List.zipWith (· * ·) u v).take k)
theorem zipQ_get {u v:List Rat}{k:Nat}(h:k<u.length)(hv:u.length=v.length):(List.zipWith (· * ·) u v).getD k 0=u.getD k 0*v.getD k 0:=by
 have h2:k<v.length:=by omega
 simp [List.getD_eq_getElem?_getD,List.getElem?_zipWith,h,h2]
theorem dtF_succ {u v:List Rat}{k:Nat}(h:k<u.length)(hv:u.length=v.length):dtF u v (k+1)=dtF u v k+u.getD k 0*v.getD k 0:=by
 rw [dtF,sumQ_take sO,zipQ_get h hv]; rfl
theorem zipQ_bd {B C:Nat}{u v:List Rat}(hB:∀ a∈u,qw a≤B)(hC:∀ a∈v,qw a≤C):∀ a∈List.zipWith (· * ·) u v,qw a≤B+C:=by
 intro a ha
 rw [← List.map_uncurry_zip_eq_zipWith] at ha
 obtain ⟨p,h1,rfl⟩:=List.mem_map.1 ha
 have h2:=List.of_mem_zip (a:=p.1) (b:=p.2) h1
 have:=qw_mul p.1 p.2
 have:=hB _ h2.1
 have:=hC _ h2.2
 simp only [Function.uncurry]; omega
def dtR (u v:List Rat):Rat:=sumQ (List.zipWith (· * ·) u v)
theorem foldl_add (c:Rat):∀ v:List Rat,v.foldl (· + ·) c=c+v.foldl (· + ·) 0
 | []=>by simp [Rat.add_zero]
 | a :: v=>by
  rw [List.foldl_cons,List.foldl_cons,foldl_add (c+a),foldl_add (0+a),Rat.zero_add,Rat.add_assoc]
theorem sumQ_cons (a:Rat)(v:List Rat):sumQ (a :: v)=a+sumQ v:=by
 rw [sumQ,List.foldl_cons,foldl_add,Rat.zero_add]; rfl
theorem dotQ_dtR:∀ u v:List Rat,dotQ u v=dtR u v
 | [],_=>rfl
 | _ :: _,[]=>rfl
 | a :: u,b :: v=>by
  have ih:=dotQ_dtR u v
  rw [dtR,List.zipWith_cons_cons,sumQ_cons,← dtR,← ih,dotQ,dotT,List.zip_cons_cons]
  by_cases h:a≠0∧b≠0
  ·rw [List.filter_cons_of_pos (by simpa using h),List.map_cons,sumQ_cons]; rfl
  ·rw [List.filter_cons_of_neg (by simpa using h)]
   have e:a*b=0:=by
    rcases Classical.em (a=0) with h1 | h1
    ·rw [h1,Rat.zero_mul]
    ·rcases Classical.em (b=0) with h2 | h2
     ·rw [h2,Rat.mul_zero]
     ·exact absurd ⟨h1,h2⟩ h
   rw [e,Rat.zero_add]; rfl
theorem dtF_bd {B C:Nat}{u v:List Rat}{k:Nat}(hv:u.length=v.length)(hB:∀ a∈u,qw a≤B)(hC:∀ a∈v,qw a≤C):qw (dtF u v k)≤u.length*(B+C+1)+1:=by
 have:=qw_sum_take (k:=k) (zipQ_bd hB hC)
 rwa [List.length_zipWith,hv,Nat.min_self,← hv] at this
theorem rdot_says (u v:List Rat)(B C:Nat)(huv:u.length=v.length)(hl:u.length<1000000000)(hB:∀ a∈u,qw a≤B)(hC:∀ a∈v,qw a≤C)(hBl:B<500000000)(hCl:C<500000000)(hb:u.length*(B+C+1)+1<900000000):Says E 63 [pV u,pV v] (pQ (dotQ u v)):=by
 refine says_of (xs:=[pQ (dotQ u v)]) Tryz.func63 rfl Tryz.ntmps63 Tryz.results63 sM fun F hG hX0 hnt hdf P0=>?_
 obtain ⟨L,hX,hN⟩:=pro hnt hX0 hG
 refine exr (swb (c_al (k:=4) (n:=4) zv47 (.cons rfl (.cons rfl (.cons rfl (.cons rfl .nil)))) rfl (P0 _ rfl) L) t0 t0 ⟨rfl,rfl⟩ (zn [(0,_),(1,_),(4,_)] [(4,_)] t3 t1 (exr (cK hG hX cl60 hN (rzero_says) L t0 (swb (c_al (k:=5) (n:=4) zv47 (.cons rfl (.cons rfl (.cons rfl (.cons rfl .nil)))) rfl (P0 _ rfl) L) t0 t0 ⟨rfl,rfl⟩ (sb (c_sm sz47 rF pa4 rfl pu4) t2 t1 ?_))))))
 refine zn [(0,_),(1,_),(4,_),(5,_)] [(4,_),(5,_)] t4 t2 (ex_seq (exr (aV L rfl (zn [(0,_),(1,_),(4,_),(5,_),(6,_)] [(4,_),(5,_)] t5 t2 (ex_block ?_)))))
 refine exl (α:=Nat) (fun k=>[(6,vi (k:Int))]) (fun k=>[(5,bQ (dtF u v k))]) (fun k=>k≤u.length) (fun k=>u.length - k) (0) (sl:=[(0,_),(1,_),(4,_),(5,_)]) (hb:=[(4,_)]) ?_ ⟨oR,rfl,rfl,rfl,rfl,trivial⟩ t2 ?_
 ·exact Nat.zero_le _
 intro k hk
 refine ex_seq (exr (mV L rfl (mV L rfl (sw (c_ln un40 L) t1 t0 (sw (c_ls L) t2 t0 (zn [(0,_),(1,_),(4,_),(5,_),(6,_),(12,_)] [(4,_),(5,_)] t6 t2 ?_))))))
 refine ex_if rfl (fun hc=>?_) (fun hc=>?_)
 ·have hc:=dt hc
  have hk2:k<u.length:=by omega
  have hk3:k<v.length:=by omega
  have b1:qw (u.getD k 0)≤B:=hB _ (getD_mem hk2)
  have b2:qw (v.getD k 0)≤C:=hC _ (getD_mem hk3)
  have b3:=dtF_bd (k:=k) huv hB hC
  have b4:=qw_mul (u.getD k 0) (v.getD k 0)
  refine ex_skip (xq ?_)
  refine ex_seq (ex_block (exd rF ?_))
  refine mV L rfl (mV L rfl (sw (core_indexAddrJ un40 sz47 oM oM sM dC L) t2 t0 ?_))
  refine sw (c_la ag47 sz47 (getQ hk2) rfl L) t1 t0 (mV L rfl (mV L rfl (sw (core_indexAddrJ un40 sz47 oM oM sM dC L) t2 t0 ?_)))
  refine sw (c_la ag47 sz47 (getQ hk3) rfl L) t1 t0 (cK hG hX cl37 hN (rqmul_says (u.getD k 0) (v.getD k 0) oM oM) L t2 (swb (c_al (k:=7) (n:=4) zv47 (.cons rfl (.cons rfl (.cons rfl (.cons rfl .nil)))) rfl (P0 _ rfl) L) t0 t0 ⟨rfl,rfl⟩ (sb (c_sm sz47 rF pa4 rfl pu4) t2 t1 ?_)))
  refine seq_nil ⟨aok rfl rfl,[(0,_),(1,_),(4,_),(5,_),(6,_),(7,_)],[(4,_),(5,_),(7,_)],t6,t3,?_⟩
  refine exr0 (lp4 ag47 sz47 L rfl rfl (lp4 ag47 sz47 L rfl rfl (cK hG hX cl76 hN (rqadd_says (dtF u v k) (u.getD k 0*v.getD k 0) oM oM) L t2 (sb (c_sm sz47 rF pa4 rfl pu4) t2 t1 ?_))))
  refine seq_nil (exr0 (mV L rfl (sw (c_ad L (w64 oM oM)) t2 t0 (aV L rfl (seq_nil ?_)))))
  exact ⟨k+1,oM,by omega,le_of ⟨oR,rfl,rfl,rfl,rfl,trivial⟩ ⟨obl rfl (by rw [dtF_succ hk2 huv]),rfl,trivial⟩⟩
 ·have hc:=df hc
  refine ex_exit (xq ?_)
  refine exr (lp4 ag47 sz47 L rfl rfl (sb (c_sm sz47 rF pa4 rfl pu4) t2 t1 ?_))
  refine zn [(4,_)] [(4,_)] t1 t1 (ex_ret ?_)
  refine ⟨.inr rfl,ResVs.cast (.cons (.agg rfl rfl rfl ag47 sz47 (.cons (.cons (.cons (.cons .nil))))) .nil) ?_⟩
  rw [dtF,List.take_of_length_le sO,← dtR,← dotQ_dtR]
theorem rcol_says (c j:Nat)(M:List (List Rat))(hl:M.length<1000000000)(hr:∀ r∈M,r.length=c)(hj:j<c)(hc:c<1000000000):Says E 84 [pMq c M,vZ j] (pV (colM M j)):=by
 refine says_of (xs:=[pV (colM M j)]) Tryz.func84 rfl Tryz.ntmps84 Tryz.results84 sM fun F hG hX0 hnt hdf P0=>?_
 obtain ⟨L,hX,hN⟩:=pro hnt hX0 hG
 refine exr (swb (c_bx (k:=2) (n:=2) pa2 rfl rfl (P0 _ rfl) L) t1 t0 ⟨rfl,rfl⟩ (aV L rfl (zn [(1,_),(2,_)] [(2,_)] t2 t1 (exr (sw (c_fa un24 rfl sz22 dC rX L) t1 t1 ?_)))))
 refine sw (c_l1 ag22 rF rF L) t1 t1 ?_
 refine sw (c_ln un22 L) t1 t0 (swb (core_make (sz:=4) (k:=10) un40 ti47 rfl rfl dC rfl rfl rfl (show (0:Int)=((0:Nat):Int) from rfl) rfl (Nat.zero_le _) (by simp [Tryz.t47]; omega) oM (P0 _ rfl) L) t2 t0 ⟨rfl,rfl⟩ ?_)
 refine aV L rfl ?_
 refine seq_nil ⟨[(1,_),(2,_),(5,.ref 10 0 0 0)],[(2,_),(10,rowBlk [])],t3,t2,?_⟩
 refine ex_seq (exr (aV L rfl (zn [(1,_),(2,_),(5,_),(6,_)] [(2,_),(10,_)] t4 t2 (ex_block ?_))))
 refine exl (α:=Nat) (fun k=>[(6,vi (k:Int)),(5,.ref 10 0 k (k*4))]) (fun k=>[(10,rowBlk (colM (M.take k) j))]) (fun k=>k≤M.length) (fun k=>M.length - k) (0) (sl:=[(1,_),(2,_)]) (hb:=[(2,_)]) ?_ ⟨oR,oR,rfl,rfl,trivial⟩ t2 ?_
 ·exact Nat.zero_le _
 intro k hk
 refine ex_seq (exr (mV L rfl (sw (c_fa un24 rfl sz22 dC rX L) t1 t1 ?_)))
 refine sw (c_l1 ag22 rF rF L) t1 t1 ?_
 refine sw (c_ln un22 L) t1 t0 (sw (c_ls L) t2 t0 (zn [(1,_),(2,_),(5,_),(6,_),(15,_)] [(2,_),(10,_)] t5 t2 ?_))
 refine ex_if rfl (fun he=>?_) (fun he=>?_)
 ·have he:=dt he
  have hk2:k<M.length:=by omega
  have hrl:=hr _ (gDL hk2)
  refine ex_skip (xq ?_)
  refine ex_seq (ex_block (exr0 (mV L rfl (sw (c_fa un24 rfl sz22 dC rX L) t1 t1 ?_))))
  refine sw (c_l1 ag22 rF rF L) t1 t1 ?_
  refine mV L rfl (sw (ixJ un22 sz40 (j:=k) rO oM sM L) t2 t0 ?_)
  refine sw (c_li ag40 (getM0 hk2) L) t1 t0 (mV L rfl (sw (core_indexAddrJ un40 sz47 oM oM sM dC L) t2 t0 ?_))
  refine sw (c_la ag47 sz47 (getQ (show j<(M.getD k []).length by omega)) rfl L) t1 t0 ?_
  refine sw (c_bI (vs:=[_]) un40 ti47 rfl rfl dC dC rfl (zs_made (.cons rfl (.cons rfl (.cons rfl (.cons rfl .nil)))) rfl) rfl (.cons rfl pa4 rfl pu4 .nil) (.cons (.cons (.cons (.cons .nil)))) L) t1 t0 (swb (apP (sz:=4) un40 un40 ti47 rfl rfl rfl dC (by exact (by first | (simp; done) | (simp; omega))) oF sM rfl rfl rfl (by first | (simp [Tryz.t47]; done) | (simp [Tryz.t47]; omega)) oM (P0 _ rfl) L) t2 t1 t0 ?_)
  refine aV L rfl (seq_nil (exr0 (mV L rfl (sw (c_ad L (w64 oM oM)) t2 t0 (aV L rfl (seq_nil ?_))))))
  exact ⟨k+1,oM,by omega,le_of ⟨oR,ov rfl sO,rfl,rfl,trivial⟩ ⟨obl rfl ((rowSn _ _).trans (by rw [colM_take hk2])),rfl,trivial⟩⟩
 ·have he:=df he
  have hkM:k=M.length:=by omega
  subst hkM
  rw [List.take_length]
  refine ex_exit (xq ?_)
  refine ex_cv [10] (sl:=[(5,_)]) (hb:=[]) (own_none hX0) ⟨⟨_,rfl,(.ref rfl rfl (by exact (by first | (simp; done) | (simp; omega))) (by first | rfl | omega))⟩,trivial⟩ t0 ?_
  refine exr (mV L rfl (aV L rfl (zn [(4,_)] [] t1 trivial (ex_ret ?_))))
  refine ⟨.inr rfl,ResVs.cast (.cons (.tmp rfl) .nil) ?_⟩
  simp
theorem runder_says (c B C:Nat)(y:List Rat)(M:List (List Rat))(hl:M.length<1000000000)(hr:∀ r∈M,r.length=c)(hy:y.length=M.length)(hc:c<1000000000)(hB:MB B M)(hC:∀ a∈y,qw a≤C)(hBl:B<500000000)(hCl:C<500000000)(hb:M.length*(C+B+1)+1<900000000):Says E 71 [pV y,pMq c M] (pV (mulR y M c)):=by
 refine says_of (xs:=[pV (mulR y M c)]) Tryz.func71 rfl Tryz.ntmps71 Tryz.results71 sM fun F hG hX0 hnt hdf P0=>?_
 obtain ⟨L,hX,hN⟩:=pro hnt hX0 hG
 refine exr (swb (c_bx (k:=3) (n:=2) pa2 rfl rfl (P0 _ rfl) L) t1 t0 ⟨rfl,rfl⟩ (aV L rfl (zn [(0,_),(3,_)] [(3,_)] t2 t1 (exr (sw (c_fa un24 rfl sz3 dC rX L) t1 t1 ?_)))))
 refine sw (c_l1 ag3 rF rF L) t1 t1 ?_
 refine swb (core_make (sz:=4) (k:=9) un40 ti47 rfl rfl dC rfl rfl rfl (show (0:Int)=((0:Nat):Int) from rfl) rfl (Nat.zero_le _) (by simp [Tryz.t47]; omega) oM (P0 _ rfl) L) t2 t0 ⟨rfl,rfl⟩ ?_
 refine aV L rfl ?_
 refine seq_nil ⟨[(0,_),(3,_),(5,.ref 9 0 0 0)],[(3,_),(9,rowBlk [])],t3,t2,?_⟩
 refine ex_seq (exr (aV L rfl (zn [(0,_),(3,_),(5,_),(6,_)] [(3,_),(9,_)] t4 t2 (ex_block ?_))))
 refine exl (α:=Nat) (fun k=>[(6,vi (k:Int)),(5,.ref 9 0 k (k*4))]) (fun k=>[(9,rowBlk (mulR y M k))]) (fun k=>k≤c) (fun k=>c - k) (0) (sl:=[(0,_),(3,_)]) (hb:=[(3,_)]) ?_ ⟨oR,oR,rfl,rfl,trivial⟩ t2 ?_
 ·exact Nat.zero_le _
 intro k hk
 refine ex_seq (exr (mV L rfl (sw (c_fa un24 rfl sz3 dC rX L) t1 t1 ?_)))
 refine sw (c_l1 ag3 rF rF L) t1 t1 ?_
 refine sw (c_ls L) t2 t0 (zn [(0,_),(3,_),(5,_),(6,_),(13,_)] [(3,_),(9,_)] t5 t2 ?_)
 refine ex_if rfl (fun he=>?_) (fun he=>?_)
 ·have he:=dt he
  have hk2:k<c:=by omega
  refine ex_skip (xq ?_)
  refine ex_seq (ex_block (exr0 (mV L rfl (mV L rfl (lp2 ag24 sz24 L rfl rfl (mV L rfl (cK hG hX cl84 hN (rcol_says c k M hl hr hk2 hc) L t2 (cK hG hX cl63 hN (rdot_says y (colM M k) C B (by rw [colM_length]; exact hy) oM hC (colB hB hk2 hr) hCl hBl (by rw [hy]; exact hb)) L t2 ?_))))))))
  refine sw (c_bI (vs:=[_]) un40 ti47 rfl rfl dC dC rfl (zs_made (.cons rfl (.cons rfl (.cons rfl (.cons rfl .nil)))) rfl) rfl (.cons rfl pa4 rfl pu4 .nil) (.cons (.cons (.cons (.cons .nil)))) L) t1 t0 (swb (apP (sz:=4) un40 un40 ti47 rfl rfl rfl dC (by exact (by first | (simp; done) | (simp; omega))) oF sM rfl rfl rfl (by first | (simp [Tryz.t47]; done) | (simp [Tryz.t47]; omega)) oM (P0 _ rfl) L) t2 t1 t0 ?_)
  refine aV L rfl (seq_nil (exr0 (mV L rfl (sw (c_ad L (w64 oM oM)) t2 t0 (aV L rfl (seq_nil ?_))))))
  exact ⟨k+1,oM,by omega,le_of ⟨oR,ov rfl sO,rfl,rfl,trivial⟩ ⟨obl rfl ((rowSn _ _).trans (by rw [mulR_succ])),rfl,trivial⟩⟩
 ·have he:=df he
  have hkM:k=c:=by omega
  subst hkM
  refine ex_exit (xq ?_)
  refine ex_cv [9] (sl:=[(5,_)]) (hb:=[]) (own_none hX0) ⟨⟨_,rfl,(.ref rfl rfl (by exact (by first | (simp; done) | (simp; omega))) (by first | rfl | omega))⟩,trivial⟩ t0 ?_
  refine exr (mV L rfl (aV L rfl (zn [(4,_)] [] t1 trivial (ex_ret ?_))))
  refine ⟨.inr rfl,ResVs.cast (.cons (.tmp rfl) .nil) ?_⟩
  simp
theorem rmisq_says {c B:Nat}{M:List (List Rat)}(h:MOk c M)(hB:MB B M)(hb:B<1000000000):Says E 15 [pMq c M] (bZ true):=by
 have:=rmis_says c _ (msm_of h hB hb)
 rwa [isM_of h,pMR_of] at this
theorem rmmul_no1 (c d:Int)(m n:List (List RQ))(hm:MSm m)(h:isM c m=false):Says E 35 [pMR c m,pMR d n] (.tup [pMq 0 [],vZ 3]):=by
 refine says_of (xs:=[pMq 0 [],vZ 3]) Tryz.func35 rfl Tryz.ntmps35 Tryz.results35 sM fun F hG hX0 hnt hdf P0=>?_
 obtain ⟨L,hX,hN⟩:=pro hnt hX0 hG
 refine exr (swb (c_bx (k:=2) (n:=2) pa2 rfl rfl (P0 _ rfl) L) t1 t0 ⟨rfl,rfl⟩ (swb (c_bx (k:=3) (n:=2) pa2 rfl rfl (P0 _ rfl) L) t1 t0 ⟨rfl,rfl⟩ (swb (c_al (k:=4) (n:=2) zv24 (.cons rfl (.cons rfl .nil)) rfl (P0 _ rfl) L) t0 t0 ⟨rfl,rfl⟩ (aV L rfl (zn [(2,_),(3,_),(4,_)] [(2,_),(3,_),(4,_)] t3 t3 (ex_seq (exr (lp2 ag24 sz24 L rfl rfl (cK hG hX cl15 hN (rmis_says c m hm) L t1 (sw (c_no L) t1 t0 (mV L rfl ?_)))))))))))
 refine swn (g:=11) rfl (by rw [h] <;> rfl) L rfl ?_
 refine swn (g:=11) rfl (by rw [h] <;> rfl) L rfl ?_
 refine swn (g:=11) rfl (by rw [h] <;> rfl) L rfl ?_
 refine sw (c_pt (by rw [h]; rfl) L) t2 t0 ?_
 refine zn [(2,_),(3,_),(4,_),(15,_)] [(2,_),(3,_),(4,_)] t4 t3 (ex_true rfl rfl (exr (sw (c_pc (c_bp (vs:=[]) un24 zv24 (.cons rfl (.cons rfl .nil)) ((Places.cons sz3 (Places.cons sz22 Places.nil))).to rfl .nil (.cons (.cons .nil)) L) (.agg (.cons .same (.cons .nil .nil)))) t0 t0 (sb (c_sm sz24 rF pa2 rfl pu2) t2 t1 ?_))))
 refine aV L rfl (zn [(4,_),(5,_)] [(4,_)] t2 t1 (ex_ret ?_))
 refine ⟨.inr rfl,ResVs.cast (.cons (.agg rfl rfl rfl ag24 sz24 (.cons (.cons .nil))) (.cons (.tmp rfl) .nil)) ?_⟩
 rfl
theorem rmmul_no2 (c d:Int)(m n:List (List RQ))(hm:MSm m)(hn:MSm n)(h:isM c m=true)(h2:isM d n=false):Says E 35 [pMR c m,pMR d n] (.tup [pMq 0 [],vZ 3]):=by
 refine says_of (xs:=[pMq 0 [],vZ 3]) Tryz.func35 rfl Tryz.ntmps35 Tryz.results35 sM fun F hG hX0 hnt hdf P0=>?_
 obtain ⟨L,hX,hN⟩:=pro hnt hX0 hG
 refine exr (swb (c_bx (k:=2) (n:=2) pa2 rfl rfl (P0 _ rfl) L) t1 t0 ⟨rfl,rfl⟩ (swb (c_bx (k:=3) (n:=2) pa2 rfl rfl (P0 _ rfl) L) t1 t0 ⟨rfl,rfl⟩ (swb (c_al (k:=4) (n:=2) zv24 (.cons rfl (.cons rfl .nil)) rfl (P0 _ rfl) L) t0 t0 ⟨rfl,rfl⟩ (aV L rfl (zn [(2,_),(3,_),(4,_)] [(2,_),(3,_),(4,_)] t3 t3 (ex_seq (exr (lp2 ag24 sz24 L rfl rfl (cK hG hX cl15 hN (rmis_says c m hm) L t1 (sw (c_no L) t1 t0 (mV L rfl ?_)))))))))))
 refine swg (g:=11) rfl (by rw [h] <;> rfl) (c_lp ag24 sz24 rF (by exact al2) rfl L) rfl t1 t1 ?_
 refine swg (g:=11) rfl (by rw [h] <;> rfl) (c_c hG hX cl15 rfl hN (rmis_says d n hn) L) rfl t1 t0 ?_
 refine swg (g:=11) rfl (by rw [h] <;> rfl) (c_no L) rfl t1 t0 ?_
 refine sw (c_pf (by rw [h]; rfl) L) t2 t0 ?_
 refine zn [(2,_),(3,_),(4,_),(15,_)] [(2,_),(3,_),(4,_)] t4 t3 (ex_true rfl (by rw [h2]; rfl) ?_)
 refine exr (sw (c_pc (c_bp (vs:=[]) un24 zv24 (.cons rfl (.cons rfl .nil)) ((Places.cons sz3 (Places.cons sz22 Places.nil))).to rfl .nil (.cons (.cons .nil)) L) (.agg (.cons .same (.cons .nil .nil)))) t0 t0 (sb (c_sm sz24 rF pa2 rfl pu2) t2 t1 ?_))
 refine aV L rfl (zn [(4,_),(5,_)] [(4,_)] t2 t1 (ex_ret ?_))
 refine ⟨.inr rfl,ResVs.cast (.cons (.agg rfl rfl rfl ag24 sz24 (.cons (.cons .nil))) (.cons (.tmp rfl) .nil)) ?_⟩
 rfl
theorem rmmul_arg (c d B:Nat)(M N:List (List Rat))(h:MOk c M)(h2:MOk d N)(hB:MB B M)(hB2:MB B N)(hb:B<1000000000)(hcN:c≠N.length):Says E 35 [pMq c M,pMq d N] (.tup [pMq 0 [],vZ 1]):=by
 refine says_of (xs:=[pMq 0 [],vZ 1]) Tryz.func35 rfl Tryz.ntmps35 Tryz.results35 sM fun F hG hX0 hnt hdf P0=>?_
 obtain ⟨L,hX,hN⟩:=pro hnt hX0 hG
 refine exr (swb (c_bx (k:=2) (n:=2) pa2 rfl rfl (P0 _ rfl) L) t1 t0 ⟨rfl,rfl⟩ (swb (c_bx (k:=3) (n:=2) pa2 rfl rfl (P0 _ rfl) L) t1 t0 ⟨rfl,rfl⟩ (swb (c_al (k:=4) (n:=2) zv24 (.cons rfl (.cons rfl .nil)) rfl (P0 _ rfl) L) t0 t0 ⟨rfl,rfl⟩ (aV L rfl (zn [(2,_),(3,_),(4,_)] [(2,_),(3,_),(4,_)] t3 t3 (ex_seq (exr (lp2 ag24 sz24 L rfl rfl (cK hG hX cl15 hN (rmisq_says h hB hb) L t1 (sw (c_no L) t1 t0 (mV L rfl ?_)))))))))))
 refine swg (g:=11) rfl rfl (c_lp ag24 sz24 rF (by exact al2) rfl L) rfl t1 t1 ?_
 refine swg (g:=11) rfl rfl (c_c hG hX cl15 rfl hN (rmisq_says h2 hB2 hb) L) rfl t1 t0 (swg (g:=11) rfl rfl (c_no L) rfl t1 t0 (sw (c_pf rfl L) t2 t0 (zn [(2,_),(3,_),(4,_),(15,_)] [(2,_),(3,_),(4,_)] t4 t3 (ex_false rfl rfl ?_))))
 refine ex_skip (xq ?_)
 refine ex_seq (exr (sw (c_fa un24 rfl sz3 dC rX L) t1 t1 ?_))
 refine sw (c_l1 ag3 rF rF L) t1 t1 ?_
 refine sw (c_fa un24 rfl sz22 dC rX L) t1 t1 ?_
 refine sw (c_l1 ag22 rF rF L) t1 t1 ?_
 refine sw (c_ln un22 L) t1 t0 (sw (c_n L) t2 t0 (zn [(2,_),(3,_),(4,_),(22,_)] [(2,_),(3,_),(4,_)] t4 t3 (ex_true rfl sO (exr (sw (c_pc (c_bp (vs:=[]) un24 zv24 (.cons rfl (.cons rfl .nil)) ((Places.cons sz3 (Places.cons sz22 Places.nil))).to rfl .nil (.cons (.cons .nil)) L) (.agg (.cons .same (.cons .nil .nil)))) t0 t0 (sb (c_sm sz24 rF pa2 rfl pu2) t2 t1 ?_))))))
 refine aV L rfl (zn [(4,_),(5,_)] [(4,_)] t2 t1 (ex_ret ?_))
 refine ⟨.inr rfl,ResVs.cast (.cons (.agg rfl rfl rfl ag24 sz24 (.cons (.cons .nil))) (.cons (.tmp rfl) .nil)) ?_⟩
 rfl
theorem rmmul_says (c d B:Nat)(M N:List (List Rat))(h:MOk c M)(h2:MOk d N)(hB:MB B M)(hB2:MB B N)(hb:B<1000000)(hcN:c=N.length):Says E 35 [pMq c M,pMq d N] (.tup [pMq d (mulM d M N),vZ 0]):=by
 refine says_of (xs:=[pMq d (mulM d M N),vZ 0]) Tryz.func35 rfl Tryz.ntmps35 Tryz.results35 sM fun F hG hX0 hnt hdf P0=>?_
 obtain ⟨L,hX,hN⟩:=pro hnt hX0 hG
 have hc60:=h.cols
 have hd60:=h2.cols
 have hr4:=h.rows
 have hr5:=h2.rows
 have hk:N.length*(B+B+1)+1<900000000:=by
  have:=Nat.mul_le_mul_right (B+B+1) (show N.length≤60 by omega)
  omega
 refine exr (swb (c_bx (k:=2) (n:=2) pa2 rfl rfl (P0 _ rfl) L) t1 t0 ⟨rfl,rfl⟩ (swb (c_bx (k:=3) (n:=2) pa2 rfl rfl (P0 _ rfl) L) t1 t0 ⟨rfl,rfl⟩ (swb (c_al (k:=4) (n:=2) zv24 (.cons rfl (.cons rfl .nil)) rfl (P0 _ rfl) L) t0 t0 ⟨rfl,rfl⟩ (aV L rfl (zn [(2,_),(3,_),(4,_)] [(2,_),(3,_),(4,_)] t3 t3 (ex_seq (exr (lp2 ag24 sz24 L rfl rfl (cK hG hX cl15 hN (rmisq_says h hB oM) L t1 (sw (c_no L) t1 t0 (mV L rfl ?_)))))))))))
 refine swg (g:=11) rfl rfl (c_lp ag24 sz24 rF (by exact al2) rfl L) rfl t1 t1 ?_
 refine swg (g:=11) rfl rfl (c_c hG hX cl15 rfl hN (rmisq_says h2 hB2 oM) L) rfl t1 t0 (swg (g:=11) rfl rfl (c_no L) rfl t1 t0 (sw (c_pf rfl L) t2 t0 (zn [(2,_),(3,_),(4,_),(15,_)] [(2,_),(3,_),(4,_)] t4 t3 (ex_false rfl rfl ?_))))
 refine ex_skip (xq ?_)
 refine ex_seq (exr (sw (c_fa un24 rfl sz3 dC rX L) t1 t1 ?_))
 refine sw (c_l1 ag3 rF rF L) t1 t1 ?_
 refine sw (c_fa un24 rfl sz22 dC rX L) t1 t1 ?_
 refine sw (c_l1 ag22 rF rF L) t1 t1 ?_
 refine sw (c_ln un22 L) t1 t0 (sw (c_n L) t2 t0 (zn [(2,_),(3,_),(4,_),(22,_)] [(2,_),(3,_),(4,_)] t4 t3 (ex_false rfl sO ?_)))
 refine ex_skip (xq ?_)
 refine exr (sw (c_fa un24 rfl sz3 dC rX L) t1 t1 ?_)
 refine sw (c_l1 ag3 rF rF L) t1 t1 ?_
 refine sw (c_bp (vs:=[_]) un24 zv24 (.cons rfl (.cons rfl .nil)) ((Places.cons sz3 (Places.cons sz22 Places.nil))).to rfl (.cons rfl (.atom rfl) rfl pu1 .nil) (.cons (.cons .nil)) L) t1 t0 (swb (c_al (k:=6) (n:=2) zv24 (.cons rfl (.cons rfl .nil)) rfl (P0 _ rfl) L) t0 t0 ⟨rfl,rfl⟩ (sb (c_sm sz24 rF pa2 rfl pu2) t2 t1 ?_))
 refine zn [(2,_),(3,_),(4,_),(6,_)] [(2,_),(3,_),(4,_),(6,_)] t4 t4 (ex_seq (exr (aV L rfl (zn [(2,_),(3,_),(4,_),(6,_),(7,_)] [(2,_),(3,_),(4,_),(6,_)] t5 t4 (ex_block ?_)))))
 refine exl (α:=(Nat×List (List Rat))) (fun x=>[(7,vi (x.1:Int))]) (fun x=>[(6,⟨24,2,.mix [.p (vZ d),matV 44 x.2]⟩)]++matB 44 x.2) (fun x=>x.1≤M.length∧mulM d (M.take x.1) N=x.2) (fun x=>M.length - x.1) ((0,[])) (sl:=[(2,_),(3,_),(4,_),(6,_)]) (hb:=[(2,_),(3,_),(4,_)]) ?_ ⟨oR,rfl,rfl,rfl,rfl,trivial⟩ (hbI (l':=[(6,_),(2,_),(3,_),(4,_)]) rfl t4) ?_
 ·exact ⟨Nat.zero_le _,rfl⟩
 intro x hx
 obtain ⟨i,T⟩:=x
 obtain ⟨hi,hT⟩:=hx
 simp only at hi hT
 rcases T with _ | ⟨q,T⟩
 ·dsimp only [matV,matB,List.append_nil]
  refine ex_seq (exr (mV L rfl (sw (c_fa un24 rfl sz22 dC rX L) t1 t1 ?_)))
  refine sw (c_l1 ag22 rF rF L) t1 t1 ?_
  refine sw (c_ln un22 L) t1 t0 (sw (c_ls L) t2 t0 (zn [(2,_),(3,_),(4,_),(6,_),(7,_),(31,_)] [(2,_),(3,_),(4,_),(6,_)] t6 t4 ?_))
  refine ex_if rfl (fun hc=>?_) (fun hc=>?_)
  ·have hc:=dt hc
   have hia:i<M.length:=by omega
   have ht:=mulM_take (N:=N) (d:=d) hia
   rw [hT] at ht
   have hrl:=h.get hia
   refine ex_skip (xq ?_)
   refine ex_seq (ex_block (exd0 rF ?_))
   refine sw (c_fa un24 rfl sz22 dC rX L) t1 t1 ?_
   refine sw (c_l1 ag22 rF rF L) t1 t1 ?_
   refine sw (c_fa un24 rfl sz22 dC rX L) t1 t1 ?_
   refine sw (c_l1 ag22 rF rF L) t1 t1 ?_
   refine mV L rfl (sw (ixJ un22 sz40 (j:=i) rO oM sM L) t2 t0 ?_)
   refine sw (c_li ag40 (getM0 hia) L) t1 t0 (lp2 ag24 sz24 L rfl rfl (cK hG hX cl71 hN (runder_says d B B (M.getD i []) N oM h2.len oM oM hB2 (hB _ (gDL hia)) oM oM hk) L t2 (sw (c_bI (vs:=[_]) un22 ti40 rfl rfl dC dC rfl (zs_made (.cons rfl .nil) rfl) rfl (.cons rfl .sl rfl pu1 .nil) (.cons .nil) L) t1 t0 (swb (apN (k:=44) (sz:=1) un22 un22 ti40 rfl rfl rfl dC sM rfl (by first | (simp [Tryz.t40]; done) | (simp [Tryz.t40]; omega)) oM (P0 _ rfl) L) t2 t0 ⟨rfl,rfl⟩ ?_))))
   refine sw (c_fa un24 rfl sz22 dC rX L) t1 t1 ?_
   refine sb (c_sm sz22 rF .ref rfl (.skip pu1)) t2 t1 ?_
   refine seq_nil ⟨aok rfl rfl,?_⟩
   refine exr0 (mV L rfl (sw (c_ad L (w64 oM oM)) t2 t0 (aV L rfl (seq_nil ?_))))
   exact ⟨(i+1,[mulR (M.getD i []) N d]),⟨by simp only; omega,ht⟩,(by simp only; omega),le_of ⟨oR,rfl,rfl,rfl,rfl,trivial⟩ (hbI (l':=[(6,_),(44,_),(2,_),(3,_),(4,_)]) rfl ⟨rfl,obl rfl (by simp [encM]),rfl,rfl,rfl,trivial⟩)⟩
  ·have hc:=df hc
   have hia:i=M.length:=by omega
   subst hia
   rw [List.take_length] at hT
   refine ex_exit (xq ?_)
   refine exr (sw (c_pc (c_lp ag24 sz24 rF (by exact al2) rfl L) (.agg (.cons .same (.cons .nil .nil)))) t1 t1 ?_)
   refine sb (c_sm sz24 rF pa2 rfl pu2) t2 t1 ?_
   refine aV L rfl (zn [(4,_),(5,_)] [(4,_)] t2 t1 (ex_ret ?_))
   refine ⟨.inr rfl,ResVs.cast (.cons (.agg rfl rfl rfl ag24 sz24 (.cons (.cons .nil))) (.cons (.tmp rfl) .nil)) ?_⟩
   rw [hT]; rfl
 ·dsimp only [matV,matB]
  have hTl:(q :: T).length=i:=by rw [← hT,mulM_length,List.length_take]; omega
  have hTl2:T.length+1=i:=hTl
  refine ex_seq (exr (mV L rfl (sw (c_fa un24 rfl sz22 dC rX L) t1 t1 ?_)))
  refine sw (c_l1 ag22 rF rF L) t1 t1 ?_
  refine sw (c_ln un22 L) t1 t0 (sw (c_ls L) t2 t0 (zn [(2,_),(3,_),(4,_),(6,_),(7,_),(31,_)] [(2,_),(3,_),(4,_),(6,_),(44,_)] t6 t5 ?_))
  refine ex_if rfl (fun hc=>?_) (fun hc=>?_)
  ·have hc:=dt hc
   have hia:i<M.length:=by omega
   have ht:=mulM_take (N:=N) (d:=d) hia
   rw [hT] at ht
   have hrl:=h.get hia
   refine ex_skip (xq ?_)
   refine ex_seq (ex_block (exd0 rF ?_))
   refine sw (c_fa un24 rfl sz22 dC rX L) t1 t1 ?_
   refine sw (c_l1 ag22 rF rF L) t1 t1 ?_
   refine sw (c_fa un24 rfl sz22 dC rX L) t1 t1 ?_
   refine sw (c_l1 ag22 rF rF L) t1 t1 ?_
   refine mV L rfl (sw (ixJ un22 sz40 (j:=i) rO oM sM L) t2 t0 ?_)
   refine sw (c_li ag40 (getM0 hia) L) t1 t0 (lp2 ag24 sz24 L rfl rfl (cK hG hX cl71 hN (runder_says d B B (M.getD i []) N oM h2.len oM oM hB2 (hB _ (gDL hia)) oM oM hk) L t2 (sw (c_bI (vs:=[_]) un22 ti40 rfl rfl dC dC rfl (zs_made (.cons rfl .nil) rfl) rfl (.cons rfl .sl rfl pu1 .nil) (.cons .nil) L) t1 t0 (swb (apP (sz:=1) un22 un22 ti40 rfl rfl rfl dC (by exact (encM_length _)) oF sM rfl rfl rfl (by first | (simp [Tryz.t40]; done) | (simp [Tryz.t40]; omega)) oM (P0 _ rfl) L) t2 t1 t0 ?_))))
   refine sw (c_fa un24 rfl sz22 dC rX L) t1 t1 ?_
   refine sb (c_sm sz22 rF .ref rfl (.skip pu1)) t2 t1 ?_
   refine seq_nil ⟨aoks [⟨[6],[6],[34],[]⟩,⟨[34],[6],[35],[]⟩,⟨[2],[2],[36],[]⟩,⟨[36],[2],[37],[]⟩,⟨[7],[],[38],[]⟩,⟨[37,38],[],[39],[]⟩,⟨[39],[],[40],[]⟩,⟨[3],[3],[41],[]⟩,⟨[40,41],[],[42],[]⟩,⟨[42],[],[43],[]⟩,⟨[35,43],[44],[44],[44]⟩,⟨[6],[6],[45],[]⟩,⟨[45,44],[6],[],[6]⟩] rF rF dC,?_⟩
   refine exr0 (mV L rfl (sw (c_ad L (w64 oM oM)) t2 t0 (aV L rfl (seq_nil ?_))))
   exact ⟨(i+1,q :: T++[mulR (M.getD i []) N d]),⟨by simp only; omega,ht⟩,(by simp only; omega),le_of ⟨oR,rfl,rfl,rfl,rfl,trivial⟩ (hbI (l':=[(6,_),(44,_),(2,_),(3,_),(4,_)]) rfl ⟨obl rfl sM,obl rfl (matSn _ (q :: T) _ rfl),rfl,rfl,rfl,trivial⟩)⟩
  ·have hc:=df hc
   have hia:i=M.length:=by omega
   subst hia
   rw [List.take_length] at hT
   refine ex_exit (xq ?_)
   refine exr (sw (c_lA ag24 sz24 rF (by exact (.cons (.cons .nil))) rfl L) t1 t1 ?_)
   refine sb (c_sm sz24 rF .agg rfl pu2) t2 t1 ?_
   refine aV L rfl (zn [(4,_),(5,_)] [(4,_),(44,_)] t2 t2 (ex_cv [44] (sl:=[(4,_),(5,_)]) (hb:=[(4,_)]) (own_none hX0) ⟨⟨_,rfl,.same⟩,⟨_,rfl,.same⟩,trivial⟩ ⟨⟨rfl,_,rfl,(.mix (.cons .same (.cons (.ref rfl rfl (by exact (encM_length _)) (by first | rfl | omega)) .nil)))⟩,trivial⟩ ?_))
   refine ex_ret ?_
   refine ⟨.inr rfl,ResVs.cast (.cons (.agg rfl rfl rfl ag24 sz24 (.cons (.cons .nil))) (.cons (.tmp rfl) .nil)) ?_⟩
   rw [hT]
theorem rtrans_no (c:Int)(m:List (List RQ))(hm:MSm m)(h:isM c m=false):Says E 39 [pMR c m] (.tup [pMq 0 [],vZ 3]):=by
 refine says_of (xs:=[pMq 0 [],vZ 3]) Tryz.func39 rfl Tryz.ntmps39 Tryz.results39 sM fun F hG hX0 hnt hdf P0=>?_
 obtain ⟨L,hX,hN⟩:=pro hnt hX0 hG
 refine exr (swb (c_bx (k:=1) (n:=2) pa2 rfl rfl (P0 _ rfl) L) t1 t0 ⟨rfl,rfl⟩ (swb (c_al (k:=2) (n:=2) zv24 (.cons rfl (.cons rfl .nil)) rfl (P0 _ rfl) L) t0 t0 ⟨rfl,rfl⟩ (aV L rfl (zn [(1,_),(2,_)] [(1,_),(2,_)] t2 t2 (ex_seq (exr (lp2 ag24 sz24 L rfl rfl (cK hG hX cl15 hN (rmis_says c m hm) L t1 (sw (c_no L) t1 t0 (zn [(1,_),(2,_),(8,_)] [(1,_),(2,_)] t3 t2 (ex_true rfl (by rw [h]; rfl) ?_)))))))))))
 refine exr (sw (c_pc (c_bp (vs:=[]) un24 zv24 (.cons rfl (.cons rfl .nil)) ((Places.cons sz3 (Places.cons sz22 Places.nil))).to rfl .nil (.cons (.cons .nil)) L) (.agg (.cons .same (.cons .nil .nil)))) t0 t0 (sb (c_sm sz24 rF pa2 rfl pu2) t2 t1 ?_))
 refine aV L rfl (zn [(2,_),(3,_)] [(2,_)] t2 t1 (ex_ret ?_))
 refine ⟨.inr rfl,ResVs.cast (.cons (.agg rfl rfl rfl ag24 sz24 (.cons (.cons .nil))) (.cons (.tmp rfl) .nil)) ?_⟩
 rfl
theorem rtrans_lim (c B:Nat)(M:List (List Rat))(h:MOk c M)(hB:MB B M)(hb:B<1000000000)(hM:60<M.length):Says E 39 [pMq c M] (.tup [pMq 0 [],vZ 2]):=by
 refine says_of (xs:=[pMq 0 [],vZ 2]) Tryz.func39 rfl Tryz.ntmps39 Tryz.results39 sM fun F hG hX0 hnt hdf P0=>?_
 obtain ⟨L,hX,hN⟩:=pro hnt hX0 hG
 refine exr (swb (c_bx (k:=1) (n:=2) pa2 rfl rfl (P0 _ rfl) L) t1 t0 ⟨rfl,rfl⟩ (swb (c_al (k:=2) (n:=2) zv24 (.cons rfl (.cons rfl .nil)) rfl (P0 _ rfl) L) t0 t0 ⟨rfl,rfl⟩ (aV L rfl (zn [(1,_),(2,_)] [(1,_),(2,_)] t2 t2 (ex_seq (exr (lp2 ag24 sz24 L rfl rfl (cK hG hX cl15 hN (rmisq_says h hB hb) L t1 (sw (c_no L) t1 t0 (zn [(1,_),(2,_),(8,_)] [(1,_),(2,_)] t3 t2 (ex_false rfl rfl ?_)))))))))))
 refine ex_skip (xq ?_)
 refine ex_seq (exr (sw (c_fa un24 rfl sz22 dC rX L) t1 t1 ?_))
 refine sw (c_l1 ag22 rF rF L) t1 t1 ?_
 refine sw (c_ln un22 L) t1 t0 (sw (c_gt L) t2 t0 (zn [(1,_),(2,_),(13,_)] [(1,_),(2,_)] t3 t2 (ex_true rfl sO (exr (sw (c_pc (c_bp (vs:=[]) un24 zv24 (.cons rfl (.cons rfl .nil)) ((Places.cons sz3 (Places.cons sz22 Places.nil))).to rfl .nil (.cons (.cons .nil)) L) (.agg (.cons .same (.cons .nil .nil)))) t0 t0 (sb (c_sm sz24 rF pa2 rfl pu2) t2 t1 ?_))))))
 refine aV L rfl (zn [(2,_),(3,_)] [(2,_)] t2 t1 (ex_ret ?_))
 refine ⟨.inr rfl,ResVs.cast (.cons (.agg rfl rfl rfl ag24 sz24 (.cons (.cons .nil))) (.cons (.tmp rfl) .nil)) ?_⟩
 rfl
theorem rtrans_says (c B:Nat)(M:List (List Rat))(h:MOk c M)(hB:MB B M)(hb:B<1000000000)(hM:M.length≤60):Says E 39 [pMq c M] (.tup [pMq M.length (trM c M),vZ 0]):=by
 refine says_of (xs:=[pMq M.length (trM c M),vZ 0]) Tryz.func39 rfl Tryz.ntmps39 Tryz.results39 sM fun F hG hX0 hnt hdf P0=>?_
 obtain ⟨L,hX,hN⟩:=pro hnt hX0 hG
 have hc60:=h.cols
 refine exr (swb (c_bx (k:=1) (n:=2) pa2 rfl rfl (P0 _ rfl) L) t1 t0 ⟨rfl,rfl⟩ (swb (c_al (k:=2) (n:=2) zv24 (.cons rfl (.cons rfl .nil)) rfl (P0 _ rfl) L) t0 t0 ⟨rfl,rfl⟩ (aV L rfl (zn [(1,_),(2,_)] [(1,_),(2,_)] t2 t2 (ex_seq (exr (lp2 ag24 sz24 L rfl rfl (cK hG hX cl15 hN (rmisq_says h hB hb) L t1 (sw (c_no L) t1 t0 (zn [(1,_),(2,_),(8,_)] [(1,_),(2,_)] t3 t2 (ex_false rfl rfl ?_)))))))))))
 refine ex_skip (xq ?_)
 refine ex_seq (exr (sw (c_fa un24 rfl sz22 dC rX L) t1 t1 ?_))
 refine sw (c_l1 ag22 rF rF L) t1 t1 ?_
 refine sw (c_ln un22 L) t1 t0 (sw (c_gt L) t2 t0 (zn [(1,_),(2,_),(13,_)] [(1,_),(2,_)] t3 t2 (ex_false rfl sO ?_)))
 refine ex_skip (xq ?_)
 refine exr (sw (c_fa un24 rfl sz22 dC rX L) t1 t1 ?_)
 refine sw (c_l1 ag22 rF rF L) t1 t1 ?_
 refine sw (c_ln un22 L) t1 t0 (sw (c_bp (vs:=[_]) un24 zv24 (.cons rfl (.cons rfl .nil)) ((Places.cons sz3 (Places.cons sz22 Places.nil))).to rfl (.cons rfl (.atom rfl) rfl pu1 .nil) (.cons (.cons .nil)) L) t1 t0 (swb (c_al (k:=4) (n:=2) zv24 (.cons rfl (.cons rfl .nil)) rfl (P0 _ rfl) L) t0 t0 ⟨rfl,rfl⟩ (sb (c_sm sz24 rF pa2 rfl pu2) t2 t1 ?_)))
 refine zn [(1,_),(2,_),(4,_)] [(1,_),(2,_),(4,_)] t3 t3 (ex_seq (exr (aV L rfl (zn [(1,_),(2,_),(4,_),(5,_)] [(1,_),(2,_),(4,_)] t4 t3 (ex_block ?_)))))
 refine exl (α:=(Nat×List (List Rat))) (fun x=>[(5,vi (x.1:Int))]) (fun x=>[(4,⟨24,2,.mix [.p (vZ M.length),matV 31 x.2]⟩)]++matB 31 x.2) (fun x=>x.1≤c∧trM x.1 M=x.2) (fun x=>c - x.1) ((0,[])) (sl:=[(1,_),(2,_),(4,_)]) (hb:=[(1,_),(2,_)]) ?_ ⟨oR,rfl,rfl,rfl,trivial⟩ (hbI (l':=[(4,_),(1,_),(2,_)]) rfl t3) ?_
 ·exact ⟨Nat.zero_le _,rfl⟩
 intro x hx
 obtain ⟨j,T⟩:=x
 obtain ⟨hj,hT⟩:=hx
 simp only at hj hT
 rcases T with _ | ⟨q,T⟩
 ·dsimp only [matV,matB,List.append_nil]
  refine ex_seq (exr (mV L rfl (sw (c_fa un24 rfl sz3 dC rX L) t1 t1 ?_)))
  refine sw (c_l1 ag3 rF rF L) t1 t1 ?_
  refine sw (c_ls L) t2 t0 (zn [(1,_),(2,_),(4,_),(5,_),(22,_)] [(1,_),(2,_),(4,_)] t5 t3 ?_)
  refine ex_if rfl (fun hc=>?_) (fun hc=>?_)
  ·have hc:=dt hc
   have hjc:j<c:=by omega
   have ht:=trM_succ j M
   rw [hT] at ht
   refine ex_skip (xq ?_)
   refine ex_seq (ex_block (exd0 rF ?_))
   refine sw (c_fa un24 rfl sz22 dC rX L) t1 t1 ?_
   refine sw (c_l1 ag22 rF rF L) t1 t1 ?_
   refine lp2 ag24 sz24 L rfl rfl (mV L rfl (cK hG hX cl84 hN (rcol_says c j M oM h.len hjc oM) L t2 (sw (c_bI (vs:=[_]) un22 ti40 rfl rfl dC dC rfl (zs_made (.cons rfl .nil) rfl) rfl (.cons rfl .sl rfl pu1 .nil) (.cons .nil) L) t1 t0 (swb (apN (k:=31) (sz:=1) un22 un22 ti40 rfl rfl rfl dC sM rfl (by first | (simp [Tryz.t40]; done) | (simp [Tryz.t40]; omega)) oM (P0 _ rfl) L) t2 t0 ⟨rfl,rfl⟩ ?_))))
   refine sw (c_fa un24 rfl sz22 dC rX L) t1 t1 ?_
   refine sb (c_sm sz22 rF .ref rfl (.skip pu1)) t2 t1 ?_
   refine seq_nil ⟨aok rfl rfl,?_⟩
   refine exr0 (mV L rfl (sw (c_ad L (w64 oM oM)) t2 t0 (aV L rfl (seq_nil ?_))))
   exact ⟨(j+1,[colM M j]),⟨by simp only; omega,ht⟩,(by simp only; omega),le_of ⟨oR,rfl,rfl,rfl,trivial⟩ (hbI (l':=[(4,_),(31,_),(1,_),(2,_)]) rfl ⟨rfl,obl rfl (by simp [encM]),rfl,rfl,trivial⟩)⟩
  ·have hc:=df hc
   have hjc:j=c:=by omega
   subst hjc
   refine ex_exit (xq ?_)
   refine exr (sw (c_pc (c_lp ag24 sz24 rF (by exact al2) rfl L) (.agg (.cons .same (.cons .nil .nil)))) t1 t1 ?_)
   refine sb (c_sm sz24 rF pa2 rfl pu2) t2 t1 ?_
   refine aV L rfl (zn [(2,_),(3,_)] [(2,_)] t2 t1 (ex_ret ?_))
   refine ⟨.inr rfl,ResVs.cast (.cons (.agg rfl rfl rfl ag24 sz24 (.cons (.cons .nil))) (.cons (.tmp rfl) .nil)) ?_⟩
   rw [hT]; rfl
 ·dsimp only [matV,matB]
  have hTl:(q :: T).length=j:=by rw [← hT,trM_length]
  have hTl2:T.length+1=j:=hTl
  refine ex_seq (exr (mV L rfl (sw (c_fa un24 rfl sz3 dC rX L) t1 t1 ?_)))
  refine sw (c_l1 ag3 rF rF L) t1 t1 ?_
  refine sw (c_ls L) t2 t0 (zn [(1,_),(2,_),(4,_),(5,_),(22,_)] [(1,_),(2,_),(4,_),(31,_)] t5 t4 ?_)
  refine ex_if rfl (fun hc=>?_) (fun hc=>?_)
  ·have hc:=dt hc
   have hjc:j<c:=by omega
   have ht:=trM_succ j M
   rw [hT] at ht
   refine ex_skip (xq ?_)
   refine ex_seq (ex_block (exd0 rF ?_))
   refine sw (c_fa un24 rfl sz22 dC rX L) t1 t1 ?_
   refine sw (c_l1 ag22 rF rF L) t1 t1 ?_
   refine lp2 ag24 sz24 L rfl rfl (mV L rfl (cK hG hX cl84 hN (rcol_says c j M oM h.len hjc oM) L t2 (sw (c_bI (vs:=[_]) un22 ti40 rfl rfl dC dC rfl (zs_made (.cons rfl .nil) rfl) rfl (.cons rfl .sl rfl pu1 .nil) (.cons .nil) L) t1 t0 (swb (apP (sz:=1) un22 un22 ti40 rfl rfl rfl dC (by exact (encM_length _)) oF sM rfl rfl rfl (by first | (simp [Tryz.t40]; done) | (simp [Tryz.t40]; omega)) oM (P0 _ rfl) L) t2 t1 t0 ?_))))
   refine sw (c_fa un24 rfl sz22 dC rX L) t1 t1 ?_
   refine sb (c_sm sz22 rF .ref rfl (.skip pu1)) t2 t1 ?_
   refine seq_nil ⟨aoks [⟨[4],[4],[25],[]⟩,⟨[25],[4],[26],[]⟩,⟨[1],[1],[27],[]⟩,⟨[5],[],[28],[]⟩,⟨[27,28],[],[29],[]⟩,⟨[29],[],[30],[]⟩,⟨[26,30],[31],[31],[31]⟩,⟨[4],[4],[32],[]⟩,⟨[32,31],[4],[],[4]⟩] rF rF dC,?_⟩
   refine exr0 (mV L rfl (sw (c_ad L (w64 oM oM)) t2 t0 (aV L rfl (seq_nil ?_))))
   exact ⟨(j+1,q :: T++[colM M j]),⟨by simp only; omega,ht⟩,(by simp only; omega),le_of ⟨oR,rfl,rfl,rfl,trivial⟩ (hbI (l':=[(4,_),(31,_),(1,_),(2,_)]) rfl ⟨obl rfl sM,obl rfl (matSn _ (q :: T) _ rfl),rfl,rfl,trivial⟩)⟩
  ·have hc:=df hc
   have hjc:j=c:=by omega
   subst hjc
   refine ex_exit (xq ?_)
   refine exr (sw (c_lA ag24 sz24 rF (by exact (.cons (.cons .nil))) rfl L) t1 t1 ?_)
   refine sb (c_sm sz24 rF .agg rfl pu2) t2 t1 ?_
   refine aV L rfl (zn [(2,_),(3,_)] [(2,_),(31,_)] t2 t2 (ex_cv [31] (sl:=[(2,_),(3,_)]) (hb:=[(2,_)]) (own_none hX0) ⟨⟨_,rfl,.same⟩,⟨_,rfl,.same⟩,trivial⟩ ⟨⟨rfl,_,rfl,(.mix (.cons .same (.cons (.ref rfl rfl (by exact (encM_length _)) (by first | rfl | omega)) .nil)))⟩,trivial⟩ ?_))
   refine ex_ret ?_
   refine ⟨.inr rfl,ResVs.cast (.cons (.agg rfl rfl rfl ag24 sz24 (.cons (.cons .nil))) (.cons (.tmp rfl) .nil)) ?_⟩
   rw [hT]
@[reducible] def pMr (m:List (List Rat)):Pure:=.sl m.length (encM m)
theorem getPi {l:List Nat}{k:Nat}(h:k<l.length):(encP l)[k]? = some (vZ (l.getD k 0)):=by simp [encP,List.getD_eq_getElem?_getD,h]


theorem RQ.of_inj {a b:Rat}(h:RQ.of a=RQ.of b):a=b:=by
 have h1:=congrArg (fun r=>sg r.m (val r.ws)) h
 have h2:=congrArg (fun r=>sg r.n (val r.vs)) h
 simp only [RQ.of,sg_of] at h1 h2
 exact Rat.ext h1 (by exact_mod_cast h2)
theorem RQ.of_iff {a b:Rat}:RQ.of a=RQ.of b↔a=b:=⟨RQ.of_inj,fun h=>by rw [h]⟩
theorem rsameQ_says (a b:Rat)(ha:qw a<1000000000)(hb:qw b<1000000000):Says E 33 [pQ a,pQ b] (bZ (decide (a=b))):=by
 have:=rqsame_says (RQ.of a) (RQ.of b) (RQ.sm_of ha) (RQ.sm_of hb)
 rwa [decide_eq_decide.2 RQ.of_iff] at this
theorem sm_all {B:Nat}{v:List Rat}(h:∀ a∈v,qw a≤B)(hb:B<1000000000):∀ r∈v.map RQ.of,r.sm:=fun r hr=>by
 obtain ⟨a,ha,rfl⟩:=List.mem_map.1 hr
 exact RQ.sm_of (Nat.lt_of_le_of_lt (h a ha) hb)


theorem getRj:∀ {v:List RQ}{i:Nat}(j:Nat),i<v.length→j<4→(encR v)[i*4+j]? = (cR (v.getD i default))[j]?
 | [],i,j,h,_=>by simp at h
 | a :: v,0,j,_,h2=>by
  rw [encR,Nat.zero_mul,Nat.zero_add,List.getElem?_append_left (by simp [cR]; omega)]; rfl
 | a :: v,i+1,j,h,h2=>by
  have:=getRj (v:=v) (i:=i) j (by simpa using h) h2
  rw [encR,List.getElem?_append_right (by simp [cR]; omega),show (i+1)*4+j - (cR a).length=i*4+j by simp [cR]; omega,this]
  simp
theorem getRa {v:List RQ}{i:Nat}(h:i<v.length):(encR v)[i*4+0+1]? = some (.sl (v.getD i default).ws.length (encW (v.getD i default).ws)):=getRj 1 h dC
theorem getRd {v:List RQ}{i:Nat}(h:i<v.length):(encR v)[i*4+2+1]? = some (.sl (v.getD i default).vs.length (encW (v.getD i default).vs)):=getRj 3 h dC
def iV (l:List Int):List Rat:=l.map fun z:Int=>(z:Rat)
@[simp] theorem iV_length (l:List Int):(iV l).length=l.length:=by simp [iV]
@[reducible] def pJ (l:List Int):Pure:=.sl l.length (l.map vZ)
theorem getJ {l:List Int}{k:Nat}(h:k<l.length):(l.map vZ)[k]? = some (vZ (l.getD k 0)):=by simp [List.getD_eq_getElem?_getD,h]
theorem iV_take {l:List Int}{k:Nat}(h:k<l.length):iV (l.take (k+1))=iV (l.take k)++[((l.getD k 0:Int):Rat)]:=by
 rw [List.take_add_one,iV,List.map_append]; simp [iV,List.getD_eq_getElem?_getD,h]
theorem vec_says (l:List Int)(hl:l.length<1000)(hb:∀ z∈l,-1000≤z∧z<1000):Says E 48 [pJ l] (pV (iV l)):=by
 refine says_of (xs:=[pV (iV l)]) Tryz.func48 rfl Tryz.ntmps48 Tryz.results48 sM fun F hG hX0 hnt hdf P0=>?_
 obtain ⟨L,hX,hN⟩:=pro hnt hX0 hG
 refine exr (aV L rfl (zn [(0,_)] [] t1 trivial (exr (swb (core_bs0R (k:=5) (sz:=4) un40 ti47 (P0 _ rfl) L) t0 t0 ⟨rfl,rfl⟩ (aV L rfl ?_)))))
 refine seq_nil ⟨[(0,_),(3,.ref 5 0 0 0)],[(5,rowBlk [])],t2,t1,?_⟩
 refine ex_seq (exr (aV L rfl (zn [(0,_),(3,_),(4,_)] [(5,_)] t3 t1 (ex_block ?_))))
 refine exl (α:=Nat) (fun k=>[(4,vi (k:Int)),(3,.ref 5 0 k (k*4))]) (fun k=>[(5,rowBlk (iV (l.take k)))]) (fun k=>k≤l.length) (fun k=>l.length - k) (0) (sl:=[(0,_)]) (hb:=[]) ?_ ⟨oR,oR,rfl,trivial⟩ t1 ?_
 ·exact Nat.zero_le _
 intro k hk
 refine ex_seq (exr (mV L rfl (mV L rfl (sw (c_ln un27 L) t1 t0 (sw (c_ls L) t2 t0 (zn [(0,_),(3,_),(4,_),(9,_)] [(5,_)] t4 t1 ?_))))))
 refine ex_if rfl (fun hc=>?_) (fun hc=>?_)
 ·have hc:=dt hc
  have hk2:k<l.length:=by omega
  have hz:=hb (l.getD k 0) (by simp [List.getD_eq_getElem?_getD,hk2])
  refine ex_skip (xq ?_)
  refine ex_seq (ex_block (exr0 (mV L rfl (mV L rfl (mV L rfl (sw (ixJ un27 sz3 (j:=k) rO oM sM L) t2 t0 ?_))))))
  refine sw (c_li ag3 (getJ hk2) L) t1 t0 (cK hG hX cl49 hN (rwhole_says (l.getD k 0) oM oM) L t1 (sw (c_bI (vs:=[_]) un40 ti47 rfl rfl dC dC rfl (zs_made (.cons rfl (.cons rfl (.cons rfl (.cons rfl .nil)))) rfl) rfl (.cons rfl pa4 rfl pu4 .nil) (.cons (.cons (.cons (.cons .nil)))) L) t1 t0 (swb (apP (sz:=4) un40 un40 ti47 rfl rfl rfl dC (by exact (by first | (simp; omega) | (simp; done))) oF sM rfl rfl rfl (by first | (simp [Tryz.t47]; done) | (simp [Tryz.t47]; omega)) oM (P0 _ rfl) L) t2 t1 t0 ?_)))
  refine aV L rfl (seq_nil (exr0 (mV L rfl (sw (c_ad L (w64 oM oM)) t2 t0 (aV L rfl (seq_nil ?_))))))
  exact ⟨k+1,oM,by omega,le_of ⟨oR,ov rfl sO,rfl,trivial⟩ ⟨obl rfl ((rowSn _ _).trans (by rw [iV_take hk2])),trivial⟩⟩
 ·have hc:=df hc
  have hkl:k=l.length:=by omega
  rw [List.take_of_length_le oM]
  subst hkl
  refine ex_exit (xq ?_)
  refine ex_cv [5] (sl:=[(3,_)]) (hb:=[]) (own_none hX0) ⟨⟨_,rfl,(.ref rfl rfl (by exact (by first | (simp; omega) | (simp; done))) (by first | rfl | omega))⟩,trivial⟩ t0 ?_
  refine exr (mV L rfl (aV L rfl (zn [(2,_)] [] t1 trivial (ex_ret ?_))))
  refine ⟨.inr rfl,ResVs.cast (.cons (.tmp rfl) .nil) ?_⟩
  simp
theorem mat_says (c:Int)(M:List (List Rat)):Says E 47 [vZ c,pMr M] (.agg [vZ c,pMr M]):=by
 refine says_of (xs:=[.agg [vZ c,pMr M]]) Tryz.func47 rfl Tryz.ntmps47 Tryz.results47 sM fun F hG hX0 hnt hdf P0=>?_
 obtain ⟨L,hX,hN⟩:=pro hnt hX0 hG
 refine exr (swb (c_al (k:=4) (n:=2) zv24 (.cons rfl (.cons rfl .nil)) rfl (P0 _ rfl) L) t0 t0 ⟨rfl,rfl⟩ (zn [(0,_),(1,_),(4,_)] [(4,_)] t3 t1 (exr (mV L rfl (mV L rfl (sw (c_bp (vs:=[_,_]) un24 zv24 (.cons rfl (.cons rfl .nil)) ((Places.cons sz3 (Places.cons sz22 Places.nil))).to rfl (.cons rfl (.atom rfl) rfl pu1 (.cons rfl .sl rfl (.skip pu1) .nil)) (.cons (.cons .nil)) L) t2 t0 (sb (c_sm sz24 rF pa2 rfl pu2) t2 t1 ?_)))))))
 refine zn [(4,_)] [(4,_)] t1 t1 (ex_ret ?_)
 refine ⟨.inr rfl,ResVs.cast (.cons (.agg rfl rfl rfl ag24 sz24 (.cons (.cons .nil))) .nil) ?_⟩
 rfl
def smW (k:Nat)(r:RQ):Bool:=decide (r.ws.length≤k∧r.vs.length≤k)
def smV (n:Nat)(v:List RQ):Bool:=decide (v.length≤n) && v.all (smW 6)
theorem or3 (p q:Prop):p∨(¬p∧q)∨(¬p∧¬q):=by
 rcases Classical.em p with h | h
 ·exact .inl h
 ·rcases Classical.em q with h2 | h2
  ·exact .inr (.inl ⟨h,h2⟩)
  ·exact .inr (.inr ⟨h,h2⟩)
theorem small_says (n:Nat)(v:List RQ)(hn:n<1000):Says E 23 [pVR v,vZ n] (bZ (smV n v)):=by
 refine says_of (xs:=[bZ (smV n v)]) Tryz.func23 rfl Tryz.ntmps23 Tryz.results23 sM fun F hG hX0 hnt hdf P0=>?_
 obtain ⟨L,hX,hN⟩:=pro hnt hX0 hG
 refine exr (aV L rfl (zn [(0,_),(1,_)] [] t2 trivial (ex_seq (exr (mV L rfl (sw (c_ln un40 L) t1 t0 (mV L rfl (sw (c_gt L) t2 t0 (zn [(0,_),(9,_)] [] t2 trivial ?_)))))))))
 refine ex_if rfl (fun hc=>?_) (fun hc=>?_)
 ·have hc:=dt hc
  refine exr (aV L rfl (zn [(4,_)] [] t1 trivial (ex_ret ?_)))
  refine ⟨.inr rfl,ResVs.cast (.cons (.tmp rfl) .nil) ?_⟩
  rw [smV,decide_eq_false oM,Bool.false_and]
 ·have hc:=df hc
  have hl:v.length≤n:=by omega
  refine ex_skip (xq ?_)
  refine ex_seq (exr (aV L rfl (zn [(0,_),(5,_)] [] t2 trivial (ex_block ?_))))
  refine exl (α:=Nat) (fun k=>[(5,vi (k:Int))]) (fun k=>[]) (fun k=>k≤v.length∧(v.take k).all (smW 6)=true) (fun k=>v.length - k) (0) (sl:=[(0,_)]) (hb:=[]) ?_ ⟨oR,rfl,trivial⟩ t0 ?_
  ·exact ⟨Nat.zero_le _,rfl⟩
  intro k hk
  obtain ⟨hk,hw⟩:=hk
  refine ex_seq (exr (mV L rfl (mV L rfl (sw (c_ln un40 L) t1 t0 (sw (c_ls L) t2 t0 (zn [(0,_),(5,_),(13,_)] [] t3 trivial ?_))))))
  refine ex_if rfl (fun hc=>?_) (fun hc=>?_)
  ·have hc:=dt hc
   have hk2:k<v.length:=by omega
   have ha:=getRa hk2
   have hd:=getRd hk2
   obtain ⟨r,hr⟩:∃ r,r=v.getD k default:=⟨_,rfl⟩
   rw [← hr] at ha hd
   refine ex_skip (xq ?_)
   refine ex_seq (ex_block ?_)
   refine exm (sl:=[(33,vb (!smW 6 r))]) (sl0:=[(0,_),(5,_)]) (hb:=[]) (hb0:=[]) t2 t0 ?_ ?_
   ·rcases or3 ((r.ws.length:Int) > 6) ((r.vs.length:Int) > 6) with h1 | ⟨h1,h2⟩ | ⟨h1,h2⟩
    ·refine mV L rfl (mV L rfl (sw (core_indexAddrJ un40 sz47 oM oM sM dC L) t2 t0 ?_))
     refine sw (c_fi un47 rfl sz45 dC L) t1 t0 (sw (c_fi un45 rfl sz43 dC L) t1 t0 (sw (c_li ag43 ha L) t1 t0 (sw (c_ln un43 L) t1 t0 (sw (c_gt L) t2 t0 (mV L rfl (swn (g:=24) rfl (decide_eq_true h1) L rfl (swn (g:=24) rfl (decide_eq_true h1) L rfl (swn (g:=24) rfl (decide_eq_true h1) L rfl (swn (g:=24) rfl (decide_eq_true h1) L rfl (swn (g:=24) rfl (decide_eq_true h1) L rfl (swn (g:=24) rfl (decide_eq_true h1) L rfl ?_)))))))))))
     refine swn (g:=24) rfl (decide_eq_true h1) L rfl (swn (g:=24) rfl (decide_eq_true h1) L rfl (sw (c_pt (decide_eq_true h1) L) t2 t0 ?_))
     exact seq_nil ⟨⟨ob rfl (by rw [smW,decide_eq_false oM] <;> rfl),rfl,rfl,trivial⟩,trivial⟩
    ·refine mV L rfl (mV L rfl (sw (core_indexAddrJ un40 sz47 oM oM sM dC L) t2 t0 ?_))
     refine sw (c_fi un47 rfl sz45 dC L) t1 t0 (sw (c_fi un45 rfl sz43 dC L) t1 t0 (sw (c_li ag43 ha L) t1 t0 (sw (c_ln un43 L) t1 t0 (sw (c_gt L) t2 t0 (mV L rfl (gV (g:=24) rfl (decide_eq_false h1) L rfl rfl (gV (g:=24) rfl (decide_eq_false h1) L rfl rfl (swg (g:=24) rfl (decide_eq_false h1) (core_indexAddrJ un40 sz47 oM oM sM dC L) rfl t2 t0 ?_))))))))
     refine swg (g:=24) rfl (decide_eq_false h1) (c_fi un47 rfl sz45 dC L) rfl t1 t0 (swg (g:=24) rfl (decide_eq_false h1) (c_fi un45 rfl sz43 dC L) rfl t1 t0 (swg (g:=24) rfl (decide_eq_false h1) (c_li ag43 hd L) rfl t1 t0 (swg (g:=24) rfl (decide_eq_false h1) (c_ln un43 L) rfl t1 t0 (swg (g:=24) rfl (decide_eq_false h1) (c_gt L) rfl t2 t0 (sw (c_pf (decide_eq_false h1) L) t2 t0 ?_)))))
     exact seq_nil ⟨⟨ob rfl (by rw [smW,decide_eq_false (show ¬ (r.ws.length≤6∧r.vs.length≤6) by omega),decide_eq_true h2] <;> rfl),rfl,rfl,trivial⟩,trivial⟩
    ·refine mV L rfl (mV L rfl (sw (core_indexAddrJ un40 sz47 oM oM sM dC L) t2 t0 ?_))
     refine sw (c_fi un47 rfl sz45 dC L) t1 t0 (sw (c_fi un45 rfl sz43 dC L) t1 t0 (sw (c_li ag43 ha L) t1 t0 (sw (c_ln un43 L) t1 t0 (sw (c_gt L) t2 t0 (mV L rfl (gV (g:=24) rfl (decide_eq_false h1) L rfl rfl (gV (g:=24) rfl (decide_eq_false h1) L rfl rfl (swg (g:=24) rfl (decide_eq_false h1) (core_indexAddrJ un40 sz47 oM oM sM dC L) rfl t2 t0 ?_))))))))
     refine swg (g:=24) rfl (decide_eq_false h1) (c_fi un47 rfl sz45 dC L) rfl t1 t0 (swg (g:=24) rfl (decide_eq_false h1) (c_fi un45 rfl sz43 dC L) rfl t1 t0 (swg (g:=24) rfl (decide_eq_false h1) (c_li ag43 hd L) rfl t1 t0 (swg (g:=24) rfl (decide_eq_false h1) (c_ln un43 L) rfl t1 t0 (swg (g:=24) rfl (decide_eq_false h1) (c_gt L) rfl t2 t0 (sw (c_pf (decide_eq_false h1) L) t2 t0 ?_)))))
     exact seq_nil ⟨⟨ob rfl (by rw [smW,decide_eq_true (show r.ws.length≤6∧r.vs.length≤6 by omega),decide_eq_false h2] <;> rfl),rfl,rfl,trivial⟩,trivial⟩
   refine ex_if rfl (fun he=>?_) (fun he=>?_)
   ·have he:smW 6 r=false:=by simpa using he
    rw [hr] at he
    refine exr (aV L rfl (zn [(4,_)] [] t1 trivial (ex_ret ?_)))
    refine ⟨.inr rfl,ResVs.cast (.cons (.tmp rfl) .nil) ?_⟩
    rw [smV,all_no (gD hk2) he,Bool.and_false]
   ·have he:smW 6 r=true:=by simpa using he
    rw [hr] at he
    refine ex_skip (xq ?_)
    refine exr0 (mV L rfl (sw (c_ad L (w64 oM oM)) t2 t0 (aV L rfl (seq_nil ?_))))
    exact ⟨k+1,⟨by omega,all_take hk2 hw he⟩,by omega,le_of ⟨oR,rfl,trivial⟩ trivial⟩
  ·have hc:=df hc
   refine ex_exit (xq ?_)
   refine exr (aV L rfl (zn [(4,_)] [] t1 trivial (ex_ret ?_)))
   refine ⟨.inr rfl,ResVs.cast (.cons (.tmp rfl) .nil) ?_⟩
   rw [show k=v.length by omega,List.take_length] at hw; rw [smV,hw,decide_eq_true hl]; rfl
def lightM (n:Nat)(c:Int)(m:List (List RQ)):Bool:=decide (m.length≤n∧(c≤n∨60<c)) && m.all (smV n)
theorem light_says (n:Nat)(c:Int)(m:List (List RQ))(hn:n<1000):Says E 11 [pMR c m,vZ n] (bZ (lightM n c m)):=by
 refine says_of (xs:=[bZ (lightM n c m)]) Tryz.func11 rfl Tryz.ntmps11 Tryz.results11 sM fun F hG hX0 hnt hdf P0=>?_
 obtain ⟨L,hX,hN⟩:=pro hnt hX0 hG
 refine exr (swb (c_bx (k:=2) (n:=2) pa2 rfl rfl (P0 _ rfl) L) t1 t0 ⟨rfl,rfl⟩ (aV L rfl (zn [(1,_),(2,_)] [(2,_)] t2 t1 (ex_seq ?_))))
 refine exm (sl:=[(21,vb (!decide (m.length≤n∧(c≤n∨60<c))))]) (sl0:=[(1,_),(2,_)]) (hb:=[]) (hb0:=[(2,_)]) t2 t1 ?_ ?_
 ·rcases (by omega:n<m.length∨(m.length≤n∧(n:Int)<c)∨(m.length≤n∧c≤n)) with h | h | h
  ·refine sw (c_fa un24 rfl sz22 dC rX L) t1 t1 ?_
   refine sw (c_l1 ag22 rF rF L) t1 t1 ?_
   refine sw (c_ln un22 L) t1 t0 (mV L rfl (sw (c_gt L) t2 t0 (mV L rfl (swn (g:=11) rfl sO L rfl (swn (g:=11) rfl sO L rfl (swn (g:=11) rfl sO L rfl (swn (g:=11) rfl sO L rfl (swn (g:=11) rfl sO L rfl (swu (g:=16) rfl L rfl (swu (g:=16) rfl L rfl (swu (g:=16) rfl L rfl ?_)))))))))))
   refine swn (g:=11) rfl sO L rfl (sw (c_pt sO L) t2 t0 ?_)
   exact seq_nil ⟨⟨ob rfl (by rw [decide_eq_false (show ¬ (m.length≤n∧(c≤n∨60<c)) by omega)] <;> rfl),rfl,rfl,trivial⟩,t1⟩
  ·refine sw (c_fa un24 rfl sz22 dC rX L) t1 t1 ?_
   refine sw (c_l1 ag22 rF rF L) t1 t1 ?_
   refine sw (c_ln un22 L) t1 t0 (mV L rfl (sw (c_gt L) t2 t0 (mV L rfl (swg (g:=11) rfl sO (c_fa un24 rfl sz3 dC rX L) rfl t1 t1 ?_))))
   refine swg (g:=11) rfl sO (c_l1 ag3 rF rF L) rfl t1 t1 ?_
   refine gV (g:=11) rfl sO L rfl rfl (swg (g:=11) rfl sO (c_gt L) rfl t2 t0 (gV (g:=11) rfl sO L rfl rfl (swg (g:=16) rfl sO (c_fa un24 rfl sz3 dC rX L) rfl t1 t1 ?_)))
   refine swg (g:=16) rfl sO (c_l1 ag3 rF rF L) rfl t1 t1 ?_
   refine swg (g:=16) rfl sO (c_le L) rfl t2 t0 (swg (g:=11) rfl sO (c_pt sO L) rfl t2 t0 (sw (c_pf sO L) t2 t0 ?_))
   exact seq_nil ⟨⟨ob rfl (by rw [Bool.eq_iff_iff]; simp; omega),rfl,rfl,trivial⟩,t1⟩
  ·refine sw (c_fa un24 rfl sz22 dC rX L) t1 t1 ?_
   refine sw (c_l1 ag22 rF rF L) t1 t1 ?_
   refine sw (c_ln un22 L) t1 t0 (mV L rfl (sw (c_gt L) t2 t0 (mV L rfl (swg (g:=11) rfl sO (c_fa un24 rfl sz3 dC rX L) rfl t1 t1 ?_))))
   refine swg (g:=11) rfl sO (c_l1 ag3 rF rF L) rfl t1 t1 ?_
   refine gV (g:=11) rfl sO L rfl rfl (swg (g:=11) rfl sO (c_gt L) rfl t2 t0 (gV (g:=11) rfl sO L rfl rfl (swn (g:=16) rfl sO L rfl (swn (g:=16) rfl sO L rfl (swn (g:=16) rfl sO L rfl (swg (g:=11) rfl sO (c_pf sO L) rfl t2 t0 (sw (c_pf sO L) t2 t0 ?_)))))))
   exact seq_nil ⟨⟨ob rfl (by rw [decide_eq_true (show m.length≤n∧(c≤n∨60<c) by omega)] <;> rfl),rfl,rfl,trivial⟩,t1⟩
 refine ex_if rfl (fun hc=>?_) (fun hc=>?_)
 ·have hc:decide (m.length≤n∧(c≤n∨60<c))=false:=by simpa only [Bool.not_eq_true'] using hc
  refine exr (aV L rfl (zn [(4,_)] [] t1 trivial (ex_ret ?_)))
  refine ⟨.inr rfl,ResVs.cast (.cons (.tmp rfl) .nil) ?_⟩
  rw [lightM,hc,Bool.false_and]
 ·have hd:decide (m.length≤n∧(c≤n∨60<c))=true:=by simpa only [Bool.not_eq_false'] using hc
  have hl:m.length≤n:=(of_decide_eq_true hd).1
  refine ex_skip (xq ?_)
  refine ex_seq (exr (aV L rfl (zn [(1,_),(2,_),(5,_)] [(2,_)] t3 t1 (ex_block ?_))))
  refine exl (α:=Nat) (fun k=>[(5,vi (k:Int))]) (fun k=>[]) (fun k=>k≤m.length∧(m.take k).all (smV n)=true) (fun k=>m.length - k) (0) (sl:=[(1,_),(2,_)]) (hb:=[(2,_)]) ?_ ⟨oR,rfl,rfl,trivial⟩ t1 ?_
  ·exact ⟨Nat.zero_le _,rfl⟩
  intro k hk
  obtain ⟨hk,hw⟩:=hk
  refine ex_seq (exr (mV L rfl (sw (c_fa un24 rfl sz22 dC rX L) t1 t1 ?_)))
  refine sw (c_l1 ag22 rF rF L) t1 t1 ?_
  refine sw (c_ln un22 L) t1 t0 (sw (c_ls L) t2 t0 (zn [(1,_),(2,_),(5,_),(26,_)] [(2,_)] t4 t1 ?_))
  refine ex_if rfl (fun hc=>?_) (fun hc=>?_)
  ·have hc:=dt hc
   have hk2:k<m.length:=by omega
   refine ex_skip (xq ?_)
   refine ex_seq (ex_block (exr (sw (c_fa un24 rfl sz22 dC rX L) t1 t1 ?_)))
   refine sw (c_l1 ag22 rF rF L) t1 t1 ?_
   refine mV L rfl (sw (ixJ un22 sz40 (j:=k) rO oM sM L) t2 t0 ?_)
   refine sw (c_li ag40 (getMR hk2) L) t1 t0 (mV L rfl (cK hG hX cl23 hN (small_says n (m.getD k []) hn) L t2 (sw (c_no L) t1 t0 (zn [(1,_),(2,_),(5,_),(36,_)] [(2,_)] t4 t1 ?_))))
   refine ex_if rfl (fun he=>?_) (fun he=>?_)
   ·have he:smV n (m.getD k [])=false:=by simpa using he
    refine exr (aV L rfl (zn [(4,_)] [] t1 trivial (ex_ret ?_)))
    refine ⟨.inr rfl,ResVs.cast (.cons (.tmp rfl) .nil) ?_⟩
    rw [lightM,all_no (gDL hk2) he,Bool.and_false]
   ·have he:smV n (m.getD k [])=true:=by simpa using he
    refine ex_skip (xq ?_)
    refine exr0 (mV L rfl (sw (c_ad L (w64 oM oM)) t2 t0 (aV L rfl (seq_nil ?_))))
    exact ⟨k+1,⟨by omega,all_take hk2 hw he⟩,by omega,le_of ⟨oR,rfl,rfl,trivial⟩ t1⟩
  ·have hc:=df hc
   refine ex_exit (xq ?_)
   refine exr (aV L rfl (zn [(4,_)] [] t1 trivial (ex_ret ?_)))
   refine ⟨.inr rfl,ResVs.cast (.cons (.tmp rfl) .nil) ?_⟩
   rw [show k=m.length by omega,List.take_length] at hw; rw [lightM,hw,hd]; rfl
theorem pow32 (X:Nat):(2:Nat) ^ X<4294967296 ^ (X / 32+1):=by
 rw [show (4294967296:Nat)=2 ^ 32 from rfl,← Nat.pow_mul]
 exact Nat.pow_lt_pow_right dC oM
theorem p32 (k:Nat):((4294967296 ^ k:Nat):Int)=(4294967296:Int) ^ k:=Int.natCast_pow _ _
theorem qw_hs {X:Nat}{a:Rat}(h:hsz X a):qw a≤X / 32+1:=by
 have key:∀ z:Int,z.natAbs≤2 ^ X→nw z≤X / 32+1:=fun z hz=>nw_le (by
  rw [← p32 (X / 32+1)]
  exact Int.ofNat_lt.2 (Nat.lt_of_le_of_lt hz (pow32 X)))
 exact Nat.max_le.2 ⟨key _ h.1,key _ (by simpa using h.2)⟩
theorem hs_qw {k:Nat}{a:Rat}(h:qw a≤k):hsz (32*k) a:=by
 have key:∀ z:Int,nw z≤k→z.natAbs≤2 ^ (32*k):=fun z hz=>by
  have h1:=nw_lt (a:=z)
  have h2:(4294967296:Nat) ^ nw z≤4294967296 ^ k:=Nat.pow_le_pow_right dC hz
  rw [show (4294967296:Nat) ^ k=2 ^ (32*k) by rw [Nat.pow_mul]] at h2
  rw [← p32 (nw z)] at h1
  exact Nat.le_of_lt (Nat.lt_of_lt_of_le (Int.ofNat_lt.1 h1) h2)
 exact ⟨key _ (Nat.le_trans (nw_num_le a) h),by simpa using key _ (Nat.le_trans (nw_den_le a) h)⟩
theorem MB_cd {X:Nat}{m b:List (List Rat)}(h:CDM X m b):MB (X / 32+1) m∧MB (X / 32+1) b:=by
 have key:∀ {m:List (List Rat)},(∀ i j,hsz X (ent m i j))→MB (X / 32+1) m:=fun {m} hm r hr a ha=>by
  obtain ⟨i,hi,rfl⟩:=List.getElem_of_mem hr
  obtain ⟨j,hj,rfl⟩:=List.getElem_of_mem ha
  have:=qw_hs (hm i j)
  rwa [ent,show m.getD i []=m[i] by simp [List.getD_eq_getElem?_getD,hi],show (m[i]).getD j 0=m[i][j] by simp [List.getD_eq_getElem?_getD,hj]] at this
 exact ⟨key fun i j=>h.m i j,key fun i j=>h.b i j⟩
theorem det_bd {n cc d B:Nat}{m b:List (List Rat)}(h:RC n cc m)(hb:RC n d b)(hB:∀ c,c≤cc→∀ i j,qw (ent (ech m b c).m i j)≤B):∀ c,c≤cc→qw (ech m b c).det≤1+(ech m b c).pv.length*B
 | 0,_=>by show qw 1≤_; rw [qw_one]; omega
 | c+1,hc=>by
  have ih:=det_bd h hb hB c oM
  rcases ech_dets h hb (show c<cc by omega) with e | ⟨_,e2,i,_,e | e⟩
  ·have hpv:(ech m b c).pv.length≤(ech m b (c+1)).pv.length:=by
    rw [ech_succ]; unfold echStep
    split
    ·split
     ·exact Nat.le_refl _
     ·rw [stp_pv,List.length_append]; omega
    ·exact Nat.le_refl _
   have:=Nat.mul_le_mul_right B hpv
   rw [e]; omega
  ·have h1:=qw_mul (ech m b c).det (ent (ech m b c).m i c)
   have h2:=hB c oM i c
   rw [e,e2,Nat.add_mul]; omega
  ·have h1:=qw_mul (-(ech m b c).det) (ent (ech m b c).m i c)
   rw [qw_neg] at h1
   have h2:=hB c oM i c
   rw [e,e2,Nat.add_mul]; omega
@[reducible] def BB:Nat:=22000000
@[reducible] def DD:Nat:=310000000
theorem eu_cdm {n c d X:Nat}{m b:List (List Rat)}(h:RC n c m)(hb:RC n d b)(hn:n≤14)(hc:c≤70)(hd:d≤70)(hC:CDM X m b)(hX:bitB X n≤700000000):EU n c d BB DD m b:=by
 have hB:∀ k,k≤c→CDM 700000000 (ech m b k).m (ech m b k).b:=fun k hk=>(ech_cd' h hb hC hk (Nat.le_refl n)).mono hX
 have hM:=fun k hk=>MB_cd (hB k hk)
 refine ⟨h,hb,by omega,by omega,by omega,by decide,by decide,by decide,fun k hk r hr a ha=>Nat.le_trans ((hM k hk).1 r hr a ha) dC,fun k hk r hr a ha=>Nat.le_trans ((hM k hk).2 r hr a ha) dC,fun k hk=>?_⟩
 have h1:=det_bd (B:=BB) h hb (fun k hk i j=>Nat.le_trans (qw_hs ((hB k hk).m i j)) dC) k hk
 have h2:(ech m b k).pv.length≤n:=(ech_spec h hb k hk).2.2.1.le
 have h3:(ech m b k).pv.length*BB≤14*BB:=Nat.mul_le_mul_right _ oM
 exact Nat.le_trans h1 (Nat.le_trans (Nat.add_le_add_left h3 1) dC)
theorem cdm6 {k n c:Nat}{m b:List (List Rat)}{l:List Rat}(h:RC n c m)(hm:MB k m)(hl:∀ a∈l,qw a≤k)(hb:∀ i j,ent b i j=0∨ent b i j=1∨ent b i j∈l):CDM (32*k*(n*c+l.length)) m b:=by
 have h1:=cdl (b:=32*k) (l:=m.flatten++l) fun a ha=>by
  rcases List.mem_append.1 ha with ha | ha
  ·obtain ⟨r,hr,ha⟩:=List.mem_flatten.1 ha
   exact hs_qw (hm r hr a ha)
  ·exact hs_qw (hl a ha)
 rw [List.length_append,flat_len h] at h1
 refine cdm_of h1 (fun i j=>?_) fun i j=>?_
 ·rcases ent_mem (m:=m) (i:=i) (j:=j) with e | ⟨r,hr,ha⟩
  ·exact .inl e
  ·exact .inr (.inr (List.mem_append_left _ (List.mem_flatten.2 ⟨r,hr,ha⟩)))
 ·rcases hb i j with e | e | e
  ·exact .inl e
  ·exact .inr (.inl e)
  ·exact .inr (.inr (List.mem_append_right _ e))
theorem kernel_says (n c B DB:Nat)(M:List (List Rat))(h:MOk c M)(hB1:MB B M)(hn:M.length=n)(H:EU n c 0 B DB M (nob n)):Says E 14 [pMq c M] (.tup [pMr (kerM c (ech M (nob n) c).pv ((ech M (nob n) c).m.take (ech M (nob n) c).pv.length)),vZ 0]):=says_ofG (kernelV_says n c B DB M h hB1 hn H)
theorem ent_nob {n i j:Nat}:ent (nob n) i j=0:=by
 rcases ent_mem (m:=nob n) (i:=i) (j:=j) with e | ⟨r,hr,ha⟩
 ·exact e
 ·rw [nob_rc.2 r hr |> List.eq_nil_of_length_eq_zero] at ha; cases ha
theorem ent_bes {b:List Rat}{i j:Nat}:ent (besS b) i j=0∨ent (besS b) i j=1∨ent (besS b) i j∈b:=by
 rcases ent_mem (m:=besS b) (i:=i) (j:=j) with e | ⟨r,hr,ha⟩
 ·exact .inl e
 ·simp only [besS,List.mem_map,List.mem_range] at hr
  obtain ⟨k,hk,rfl⟩:=hr
  rcases List.mem_or_eq_of_mem_set ha with h | h
  ·rcases List.mem_or_eq_of_mem_set h with h | h
   ·exact .inl (List.eq_of_mem_replicate h)
   ·exact .inr (.inr (h ▸ getD_mem hk))
  ·exact .inr (.inl h)
theorem eu_nob {n c k:Nat}{M:List (List Rat)}(h:RC n c M)(hB:MB k M)(hn:n≤14)(hc:c≤70)(hX:bitB (32*k*(n*c+0)) n≤700000000):EU n c 0 BB DD M (nob n) :=
 eu_cdm h nob_rc hn hc dC (cdm6 (l:=[]) h hB sM fun _ _=>.inl ent_nob) hX
theorem eu_bes {n c k:Nat}{M:List (List Rat)}{b:List Rat}(h:RC n c M)(hB:MB k M)(hbn:b.length=n)(hb:∀ a∈b,qw a≤k)(hn:n≤14)(hc:c≤70)(hX:bitB (32*k*(n*c+n)) n≤700000000):EU n c (n+1) BB DD M (besS b) :=
 eu_cdm h (besS_rc hbn) hn hc oM (cdm6 (l:=b) h hB hb fun _ _=>ent_bes) (by rw [hbn]; exact hX)
theorem trM_rc {c:Nat}{M:List (List Rat)}:RC c M.length (trM c M):=by
 refine ⟨by simp,fun r hr=>?_⟩
 simp only [trM,List.mem_map] at hr
 obtain ⟨j,_,rfl⟩:=hr
 simp
theorem trM_bd {c B:Nat}{M:List (List Rat)}(hl:∀ r∈M,r.length=c)(h:MB B M):MB B (trM c M):=by
 intro r hr a ha
 simp only [trM,List.mem_map,List.mem_range] at hr
 obtain ⟨j,hj,rfl⟩:=hr
 exact colB h hj hl a ha
theorem MB.mono {B C:Nat}{M:List (List Rat)}(h:MB B M)(hBC:B≤C):MB C M:=fun r hr a ha=>Nat.le_trans (h r hr a ha) hBC
def mI (L:List (List Int)):List (List Rat):=L.map iV
def sI (l:List Int):Bool:=l.all fun z=>decide (-1000≤z∧z<1000)
theorem qw_int {z:Int}(h : -1000≤z∧z<1000):qw (z:Rat)≤1:=by
 unfold qw
 rw [Rat.num_intCast,Rat.den_intCast]
 exact Nat.max_le.2 ⟨nw_le oM,by rw [show ((1:Nat):Int)=1 from rfl,nw_one]; exact Nat.le_refl _⟩
theorem iV_bd {l:List Int}(h:sI l=true):∀ a∈iV l,qw a≤1:=fun a ha=>by
 obtain ⟨z,hz,rfl⟩:=List.mem_map.1 ha
 exact qw_int (by simpa using List.all_eq_true.1 h z hz)
theorem mI_bd {L:List (List Int)}(h:L.all sI=true):MB 1 (mI L):=fun r hr=>by
 obtain ⟨l,hl,rfl⟩:=List.mem_map.1 hr
 exact iV_bd (List.all_eq_true.1 h l hl)
theorem mI_len {c:Nat}{L:List (List Int)}(h:(L.all fun l=>decide (l.length=c))=true):∀ r∈mI L,r.length=c:=fun r hr=>by
 obtain ⟨l,hl,rfl⟩:=List.mem_map.1 hr
 rw [iV_length]; simpa using List.all_eq_true.1 h l hl
theorem mI_ok {c:Nat}{L:List (List Int)}(h1:L.length≤400)(hc:c≤60)(h:(L.all fun l=>decide (l.length=c))=true):MOk c (mI L):=⟨by simpa [mI] using h1,hc,mI_len h⟩
theorem msm_q {B:Nat}{M:List (List Rat)}(hl:M.length<1000000000)(hr:∀ r∈M,r.length<1000000000)(hB:MB B M)(hb:B<1000000000):MSm (M.map (List.map RQ.of)) :=
 ⟨by simpa using hl,fun r hr2=>by
  obtain ⟨v,hv,rfl⟩:=List.mem_map.1 hr2
  exact ⟨by simpa using hr v hv,sm_all (hB v hv) hb⟩⟩
theorem vec_same {B:Nat}{u:List Rat}(hl:u.length<1000000000)(hB:∀ a∈u,qw a≤B)(hb:B<1000000000):Says E 29 [pV u,pV u] (bZ true):=by
 have:=rsameV_says (u.map RQ.of) (u.map RQ.of) (by simpa using hl) (sm_all hB hb) (sm_all hB hb)
 rwa [decide_eq_true rfl,pVR_of] at this
theorem rows_same {B:Nat}{M:List (List Rat)}(hl:M.length<1000000000)(hr:∀ r∈M,r.length<1000000000)(hB:MB B M)(hb:B<1000000000):Says E 19 [pMr M,pMr M] (bZ true):=by
 have:=rsameR_says _ _ (msm_q hl hr hB hb) (msm_q hl hr hB hb)
 rwa [decide_eq_true rfl,encMR_of,List.length_map] at this
theorem mat_same {B:Nat}{c:Int}{M:List (List Rat)}(hl:M.length<1000000000)(hr:∀ r∈M,r.length<1000000000)(hB:MB B M)(hb:B<1000000000):Says E 17 [pMq c M,pMq c M] (bZ true):=by
 have:=rsameM_says c c _ _ (msm_q hl hr hB hb) (msm_q hl hr hB hb)
 rwa [decide_eq_true ⟨rfl,rfl⟩,pMR,encMR_of,List.length_map] at this
theorem sn_ech:Says E 13 [pMq 3 (mI [[0,2,4],[1,1,1],[1,2,3]])] (.tup [pMq 3 (mI [[1,0,-1],[0,1,2]]),pIs [0,1],vZ 0]):=by
 have h:=echelon_says 3 3 BB DD (mI [[0,2,4],[1,1,1],[1,2,3]]) (mI_ok dC dC dC) ((mI_bd dC).mono dC) rfl (eu_nob ⟨rfl,mI_len dC⟩ (mI_bd dC) dC dC dC)
 have e1:(ech (mI [[0,2,4],[1,1,1],[1,2,3]]) (nob 3) 3).pv=[0,1]:=by decide +kernel
 have e2:(ech (mI [[0,2,4],[1,1,1],[1,2,3]]) (nob 3) 3).m.take 2=mI [[1,0,-1],[0,1,2]]:=by decide +kernel
 rw [e1,show [0,1].length=2 from rfl,e2] at h
 exact h
theorem sn_ker:Says E 14 [pMq 3 (mI [[0,2,4],[1,1,1],[1,2,3]])] (.tup [pMr (mI [[1,-2,1]]),vZ 0]):=by
 have h:=kernel_says 3 3 BB DD (mI [[0,2,4],[1,1,1],[1,2,3]]) (mI_ok dC dC dC) ((mI_bd dC).mono dC) rfl (eu_nob ⟨rfl,mI_len dC⟩ (mI_bd dC) dC dC dC)
 have e2:kerM 3 (ech (mI [[0,2,4],[1,1,1],[1,2,3]]) (nob 3) 3).pv ((ech (mI [[0,2,4],[1,1,1],[1,2,3]]) (nob 3) 3).m.take (ech (mI [[0,2,4],[1,1,1],[1,2,3]]) (nob 3) 3).pv.length)=mI [[1,-2,1]]:=by decide +kernel
 rw [e2] at h
 exact h
theorem sn_sol:Says E 24 [pMq 2 (mI [[1,1],[1,-1]]),pV (iV [3,1])] (.tup [pV (iV [2,1]),pV [],vZ 0]):=by
 have h:=solve_says 2 2 BB DD (mI [[1,1],[1,-1]]) (iV [3,1]) (mI_ok dC dC dC) ((mI_bd dC).mono dC) (fun a ha=>Nat.le_trans (iV_bd dC a ha) dC) rfl rfl (eu_bes ⟨rfl,mI_len dC⟩ (mI_bd dC) rfl (iV_bd dC) dC dC dC)
 have e1:solx 2 (ech (mI [[1,1],[1,-1]]) (besS (iV [3,1])) 2) 2=iV [2,1]:=by decide +kernel
 have e2:soly (ech (mI [[1,1],[1,-1]]) (besS (iV [3,1])) 2) 2=[]:=by decide +kernel
 have e3:sole (ech (mI [[1,1],[1,-1]]) (besS (iV [3,1])) 2) 2=0:=by decide +kernel
 rw [e1,e2,e3] at h
 exact h
theorem sn_non:∃ x y,Says E 24 [pMq 2 (mI [[1,1],[2,2]]),pV (iV [1,3])] (.tup [pV x,pV y,vZ 4]):=by
 have h:=solve_says 2 2 BB DD (mI [[1,1],[2,2]]) (iV [1,3]) (mI_ok dC dC dC) ((mI_bd dC).mono dC) (fun a ha=>Nat.le_trans (iV_bd dC a ha) dC) rfl rfl (eu_bes ⟨rfl,mI_len dC⟩ (mI_bd dC) rfl (iV_bd dC) dC dC dC)
 have e3:sole (ech (mI [[1,1],[2,2]]) (besS (iV [1,3])) 2) 2=4:=by decide +kernel
 rw [e3] at h
 exact ⟨_,_,h⟩
theorem sn_chk (l:List Int)(v:Bool)(hl:l.length=2)(hs:sI l=true)(h:chkQ 2 (mI [[1,1],[2,2]]) (iV [1,3]) (iV l)=v):Says E 25 [pMq 2 (mI [[1,1],[2,2]]),pV (iV [1,3]),pV (iV l)] (bZ v):=by
 have:=check_says 2 1 (mI [[1,1],[2,2]]) (iV [1,3]) (iV l) (mI_ok dC dC dC) (mI_bd dC) (iV_bd dC) (iV_bd hs) rfl (by rw [iV_length,hl]; rfl) dC dC dC
 rwa [h] at this
theorem sn_mul:Says E 41 [pMq 2 (mI [[1,2],[3,4]]),pMq 2 (mI [[0,1],[1,0]])] (.tup [pMq 2 (mI [[2,1],[4,3]]),vZ 0]):=by
 have h:=mmul_says 2 2 1 (mI [[1,2],[3,4]]) (mI [[0,1],[1,0]]) (mI_ok dC dC dC) (mI_ok dC dC dC) (mI_bd dC) (mI_bd dC) dC rfl
 have e:mulM 2 (mI [[1,2],[3,4]]) (mI [[0,1],[1,0]])=mI [[2,1],[4,3]]:=by decide +kernel
 rw [e] at h
 exact h
theorem sn_det:Says E 31 [pMq 2 (mI [[2,1],[4,3]])] (.tup [pQ ((2:Int):Rat),vZ 0]):=by
 have h:=det_says 2 BB DD (mI [[2,1],[4,3]]) (mI_ok dC dC dC) ((mI_bd dC).mono dC) rfl (eu_nob ⟨rfl,mI_len dC⟩ (mI_bd dC) dC dC dC)
 have e:detQ 2 (mI [[2,1],[4,3]]) (nob 2)=((2:Int):Rat):=by decide +kernel
 rw [e] at h
 exact h
theorem sn_com:∃ y,Says E 30 [pMl (mI [[1,0,1],[2,0,2],[0,1,1]]),pV (iV [3,1,4])] (.tup [pV (iV [3,0,1]),pV y,vZ 0]):=by
 have hl:∀ r∈mI [[1,0,1],[2,0,2],[0,1,1]],r.length=3:=mI_len dC
 have h:=combine_says BB DD (mI [[1,0,1],[2,0,2],[0,1,1]]) (iV [3,1,4]) hl dC dC ((mI_bd dC).mono dC) (fun a ha=>Nat.le_trans (iV_bd dC a ha) dC) (eu_bes trM_rc (trM_bd hl (mI_bd dC)) rfl (iV_bd dC) dC dC dC)
 have e1:solx 3 (ech (trM 3 (mI [[1,0,1],[2,0,2],[0,1,1]])) (besS (iV [3,1,4])) 3) 3=iV [3,0,1]:=by decide +kernel
 have e3:sole (ech (trM 3 (mI [[1,0,1],[2,0,2],[0,1,1]])) (besS (iV [3,1,4])) 3) 3=0:=by decide +kernel
 rw [show (mI [[1,0,1],[2,0,2],[0,1,1]]).length=3 from rfl,show (iV [3,1,4]).length=3 from rfl,e1,e3] at h
 exact ⟨_,h⟩
theorem vI (l:List Int)(h:sI l=true)(hl:l.length<1000):Says E 48 [pJ l] (pV (iV l)):=vec_says l hl fun z hz=>by simpa using List.all_eq_true.1 h z hz
theorem mtI (c:Int)(L:List (List Int)):Says E 47 [vZ c,pMr (mI L)] (pMq c (mI L)):=mat_says c (mI L)
theorem mI_same (c:Int)(L:List (List Int))(h1:L.length<1000)(h:(L.all fun l=>decide (l.length<1000))=true)(hb:L.all sI=true):Says E 17 [pMq c (mI L),pMq c (mI L)] (bZ true) :=
 mat_same (B:=1) (by simp [mI]; omega) (fun r hr=>by
  obtain ⟨l,hl,rfl⟩:=List.mem_map.1 hr
  have:=List.all_eq_true.1 h l hl
  rw [iV_length]; simp at this; omega) (mI_bd hb) dC
theorem rI_same (L:List (List Int))(h1:L.length<1000)(h:(L.all fun l=>decide (l.length<1000))=true)(hb:L.all sI=true):Says E 19 [pMr (mI L),pMr (mI L)] (bZ true) :=
 rows_same (B:=1) (by simp [mI]; omega) (fun r hr=>by
  obtain ⟨l,hl,rfl⟩:=List.mem_map.1 hr
  have:=List.all_eq_true.1 h l hl
  rw [iV_length]; simp at this; omega) (mI_bd hb) dC
theorem vI_same (l:List Int)(h:sI l=true)(hl:l.length<1000):Says E 29 [pV (iV l),pV (iV l)] (bZ true):=vec_same (B:=1) sO (iV_bd h) dC
theorem sane_says  : Says E 12 [] (bZ true):=by
 refine says_of (xs:=[bZ true]) Tryz.func12 rfl Tryz.ntmps12 Tryz.results12 sM fun F hG hX0 hnt hdf P0=>?_
 obtain ⟨L,hX,hN⟩:=pro hnt hX0 hG
 obtain ⟨nx,ny,hnon⟩:=sn_non
 obtain ⟨cy,hcom⟩:=sn_com
 have hc1:=sn_chk [-2,1] true rfl dC (by decide +kernel)
 have hc2:=sn_chk [2,-1] false rfl dC (by decide +kernel)
 refine exr (aV L rfl (zn [] [] trivial trivial (exr (sw (c_bI (vs:=[_,_,_]) un27 ti3 rfl rfl dC dC rfl (zs_made (.cons rfl .nil) rfl) rfl (.cons rfl (.atom rfl) rfl pu1 (.cons rfl (.atom rfl) rfl (.skip pu1) (.cons rfl (.atom rfl) rfl (.skip (.skip pu1)) .nil))) (.cons (.cons (.cons .nil))) L) t3 t0 (cK hG hX cl48 hN (vI [0,2,4] dC dC) L t1 (sw (c_bI (vs:=[_,_,_]) un27 ti3 rfl rfl dC dC rfl (zs_made (.cons rfl .nil) rfl) rfl (.cons rfl (.atom rfl) rfl pu1 (.cons rfl (.atom rfl) rfl (.skip pu1) (.cons rfl (.atom rfl) rfl (.skip (.skip pu1)) .nil))) (.cons (.cons (.cons .nil))) L) t3 t0 (cK hG hX cl48 hN (vI [1,1,1] dC dC) L t1 (sw (c_bI (vs:=[_,_,_]) un27 ti3 rfl rfl dC dC rfl (zs_made (.cons rfl .nil) rfl) rfl (.cons rfl (.atom rfl) rfl pu1 (.cons rfl (.atom rfl) rfl (.skip pu1) (.cons rfl (.atom rfl) rfl (.skip (.skip pu1)) .nil))) (.cons (.cons (.cons .nil))) L) t3 t0 (cK hG hX cl48 hN (vI [1,2,3] dC dC) L t1 (sw (c_bI (vs:=[_,_,_]) un22 ti40 rfl rfl dC dC rfl (zs_made (.cons rfl .nil) rfl) rfl (.cons rfl .sl rfl pu1 (.cons rfl .sl rfl (.skip pu1) (.cons rfl .sl rfl (.skip (.skip pu1)) .nil))) (.cons (.cons (.cons .nil))) L) t3 t0 (cK hG hX cl47 hN (mtI 3 [[0,2,4],[1,1,1],[1,2,3]]) L t2 ?_)))))))))))
 refine swb (c_al (k:=1) (n:=2) zv24 (.cons rfl (.cons rfl .nil)) rfl (P0 _ rfl) L) t0 t0 ⟨rfl,rfl⟩ (sb (c_sm sz24 rF pa2 rfl pu2) t2 t1 ?_)
 refine zn [(1,_)] [(1,_)] t1 t1 (exr (lp2 ag24 sz24 L rfl rfl (cK hG hX cl13 hN sn_ech L t1 (mV L rfl (sw (c_ex rfl L) t1 t0 (sw (c_ex rfl L) t1 t0 (sw (c_ex rfl L) t1 t0 (swb (c_al (k:=2) (n:=2) zv24 (.cons rfl (.cons rfl .nil)) rfl (P0 _ rfl) L) t0 t0 ⟨rfl,rfl⟩ (sb (c_sm sz24 rF pa2 rfl pu2) t2 t1 ?_)))))))))
 refine aV L rfl (aV L rfl (zn [(1,_),(2,_),(3,_),(4,_)] [(1,_),(2,_)] t4 t2 (ex_seq (exd rF ?_))))
 refine mV L rfl (sw (c_n L) t2 t0 (mV L rfl (swg (g:=30) rfl rfl (c_lp ag24 sz24 rF (by exact al2) rfl L) rfl t1 t1 ?_)))
 refine swg (g:=30) rfl rfl (c_bI (vs:=[_,_,_]) un27 ti3 rfl rfl dC dC rfl (zs_made (.cons rfl .nil) rfl) rfl (.cons rfl (.atom rfl) rfl pu1 (.cons rfl (.atom rfl) rfl (.skip pu1) (.cons rfl (.atom rfl) rfl (.skip (.skip pu1)) .nil))) (.cons (.cons (.cons .nil))) L) rfl t3 t0 (swg (g:=30) rfl rfl (c_c hG hX cl48 rfl hN (vI [1,0,-1] dC dC) L) rfl t1 t0 (swg (g:=30) rfl rfl (c_bI (vs:=[_,_,_]) un27 ti3 rfl rfl dC dC rfl (zs_made (.cons rfl .nil) rfl) rfl (.cons rfl (.atom rfl) rfl pu1 (.cons rfl (.atom rfl) rfl (.skip pu1) (.cons rfl (.atom rfl) rfl (.skip (.skip pu1)) .nil))) (.cons (.cons (.cons .nil))) L) rfl t3 t0 (swg (g:=30) rfl rfl (c_c hG hX cl48 rfl hN (vI [0,1,2] dC dC) L) rfl t1 t0 (swg (g:=30) rfl rfl (c_bI (vs:=[_,_]) un22 ti40 rfl rfl dC dC rfl (zs_made (.cons rfl .nil) rfl) rfl (.cons rfl .sl rfl pu1 (.cons rfl .sl rfl (.skip pu1) .nil)) (.cons (.cons .nil)) L) rfl t2 t0 (swg (g:=30) rfl rfl (c_c hG hX cl47 rfl hN (mtI 3 [[1,0,-1],[0,1,2]]) L) rfl t2 t0 (swg (g:=30) rfl rfl (c_c hG hX cl17 rfl hN (mI_same 3 [[1,0,-1],[0,1,2]] dC dC dC) L) rfl t2 t0 (swg (g:=30) rfl rfl (c_no L) rfl t1 t0 (sw (c_pf rfl L) t2 t0 (mV L rfl (gV (g:=41) rfl rfl L rfl rfl (swg (g:=41) rfl rfl (c_ln un27 L) rfl t1 t0 ?_)))))))))))
 refine swg (g:=41) rfl rfl (c_n L) rfl t2 t0 (sw (c_pf rfl L) t2 t0 (mV L rfl (gV (g:=46) rfl rfl L rfl rfl (swg (g:=46) rfl rfl (ixJ un27 sz3 (j:=0) rO dC sM L) rfl t2 t0 ?_))))
 refine swg (g:=46) rfl rfl (c_li ag3 (getPi (l:=[0,1]) (k:=0) dC) L) rfl t1 t0 (swg (g:=46) rfl rfl (c_n L) rfl t2 t0 (sw (c_pf rfl L) t2 t0 (mV L rfl (gV (g:=52) rfl rfl L rfl rfl (swg (g:=52) rfl rfl (ixJ un27 sz3 (j:=1) rO dC sM L) rfl t2 t0 ?_)))))
 refine swg (g:=52) rfl rfl (c_li ag3 (getPi (l:=[0,1]) (k:=1) dC) L) rfl t1 t0 (swg (g:=52) rfl rfl (c_n L) rfl t2 t0 (sw (c_pf rfl L) t2 t0 ?_))
 refine seq_nil ⟨aoks [⟨[4],[],[28],[]⟩,⟨[28],[],[29],[]⟩,⟨[29],[],[30],[]⟩,⟨[30,2],[2],[31],[]⟩,⟨[30],[],[32],[]⟩,⟨[30,32],[],[33],[]⟩,⟨[30],[],[34],[]⟩,⟨[30,34],[],[35],[]⟩,⟨[30,33,35],[],[36],[]⟩,⟨[30,36],[],[37],[]⟩,⟨[30,31,37],[],[38],[]⟩,⟨[30,38],[],[39],[]⟩,⟨[30,39],[],[40],[]⟩,⟨[40],[],[41],[]⟩,⟨[41,3],[],[42],[]⟩,⟨[41,42],[],[43],[]⟩,⟨[41,43],[],[44],[]⟩,⟨[41,44],[],[45],[]⟩,⟨[45],[],[46],[]⟩,⟨[46,3],[],[47],[]⟩,⟨[46,47],[],[48],[]⟩,⟨[46,48],[],[49],[]⟩,⟨[46,49],[],[50],[]⟩,⟨[46,50],[],[51],[]⟩,⟨[51],[],[52],[]⟩,⟨[52,3],[],[53],[]⟩,⟨[52,53],[],[54],[]⟩,⟨[52,54],[],[55],[]⟩,⟨[52,55],[],[56],[]⟩,⟨[52,56],[],[57],[]⟩] rF rF dC,[(1,_),(57,_)],[(1,_)],t2,t1,?_⟩
 refine ex_false rfl rfl ?_
 refine ex_skip (xq ?_)
 refine exr (lp2 ag24 sz24 L rfl rfl (cK hG hX cl14 hN sn_ker L t1 (mV L rfl (sw (c_ex rfl L) t1 t0 (sw (c_ex rfl L) t1 t0 (aV L rfl (aV L rfl (zn [(4,_),(5,_)] [] t2 trivial (ex_seq (exr (mV L rfl ?_)))))))))))
 refine sw (c_n L) t2 t0 (mV L rfl (gV (g:=65) rfl rfl L rfl rfl (swg (g:=65) rfl rfl (c_bI (vs:=[_,_,_]) un27 ti3 rfl rfl dC dC rfl (zs_made (.cons rfl .nil) rfl) rfl (.cons rfl (.atom rfl) rfl pu1 (.cons rfl (.atom rfl) rfl (.skip pu1) (.cons rfl (.atom rfl) rfl (.skip (.skip pu1)) .nil))) (.cons (.cons (.cons .nil))) L) rfl t3 t0 (swg (g:=65) rfl rfl (c_c hG hX cl48 rfl hN (vI [1,-2,1] dC dC) L) rfl t1 t0 (swg (g:=65) rfl rfl (c_bI (vs:=[_]) un22 ti40 rfl rfl dC dC rfl (zs_made (.cons rfl .nil) rfl) rfl (.cons rfl .sl rfl pu1 .nil) (.cons .nil) L) rfl t1 t0 (swg (g:=65) rfl rfl (c_c hG hX cl19 rfl hN (rI_same [[1,-2,1]] dC dC dC) L) rfl t2 t0 (swg (g:=65) rfl rfl (c_no L) rfl t1 t0 (sw (c_pf rfl L) t2 t0 (zn [(72,_)] [] t1 trivial (ex_false rfl rfl ?_))))))))))
 refine ex_skip (xq ?_)
 refine exr (sw (c_bI (vs:=[_,_]) un27 ti3 rfl rfl dC dC rfl (zs_made (.cons rfl .nil) rfl) rfl (.cons rfl (.atom rfl) rfl pu1 (.cons rfl (.atom rfl) rfl (.skip pu1) .nil)) (.cons (.cons .nil)) L) t2 t0 (cK hG hX cl48 hN (vI [1,1] dC dC) L t1 (sw (c_bI (vs:=[_,_]) un27 ti3 rfl rfl dC dC rfl (zs_made (.cons rfl .nil) rfl) rfl (.cons rfl (.atom rfl) rfl pu1 (.cons rfl (.atom rfl) rfl (.skip pu1) .nil)) (.cons (.cons .nil)) L) t2 t0 (cK hG hX cl48 hN (vI [1,-1] dC dC) L t1 (sw (c_bI (vs:=[_,_]) un22 ti40 rfl rfl dC dC rfl (zs_made (.cons rfl .nil) rfl) rfl (.cons rfl .sl rfl pu1 (.cons rfl .sl rfl (.skip pu1) .nil)) (.cons (.cons .nil)) L) t2 t0 (cK hG hX cl47 hN (mtI 2 [[1,1],[1,-1]]) L t2 (sw (c_bI (vs:=[_,_]) un27 ti3 rfl rfl dC dC rfl (zs_made (.cons rfl .nil) rfl) rfl (.cons rfl (.atom rfl) rfl pu1 (.cons rfl (.atom rfl) rfl (.skip pu1) .nil)) (.cons (.cons .nil)) L) t2 t0 (cK hG hX cl48 hN (vI [3,1] dC dC) L t1 (cK hG hX cl24 hN sn_sol L t2 (mV L rfl (sw (c_ex rfl L) t1 t0 ?_)))))))))))
 refine sw (c_ex rfl L) t1 t0 (sw (c_ex rfl L) t1 t0 (aV L rfl (aV L rfl (aV L rfl (zn [(4,_),(6,_)] [] t2 trivial (ex_seq (exr (mV L rfl (sw (c_n L) t2 t0 (mV L rfl (gV (g:=88) rfl rfl L rfl rfl ?_)))))))))))
 refine swg (g:=88) rfl rfl (c_bI (vs:=[_,_]) un27 ti3 rfl rfl dC dC rfl (zs_made (.cons rfl .nil) rfl) rfl (.cons rfl (.atom rfl) rfl pu1 (.cons rfl (.atom rfl) rfl (.skip pu1) .nil)) (.cons (.cons .nil)) L) rfl t2 t0 (swg (g:=88) rfl rfl (c_c hG hX cl48 rfl hN (vI [2,1] dC dC) L) rfl t1 t0 (swg (g:=88) rfl rfl (c_c hG hX cl29 rfl hN (vI_same [2,1] dC dC) L) rfl t2 t0 (swg (g:=88) rfl rfl (c_no L) rfl t1 t0 (sw (c_pf rfl L) t2 t0 (zn [(94,_)] [] t1 trivial (ex_false rfl rfl ?_))))))
 refine ex_skip (xq ?_)
 refine exr (sw (c_bI (vs:=[_,_]) un27 ti3 rfl rfl dC dC rfl (zs_made (.cons rfl .nil) rfl) rfl (.cons rfl (.atom rfl) rfl pu1 (.cons rfl (.atom rfl) rfl (.skip pu1) .nil)) (.cons (.cons .nil)) L) t2 t0 (cK hG hX cl48 hN (vI [1,1] dC dC) L t1 (sw (c_bI (vs:=[_,_]) un27 ti3 rfl rfl dC dC rfl (zs_made (.cons rfl .nil) rfl) rfl (.cons rfl (.atom rfl) rfl pu1 (.cons rfl (.atom rfl) rfl (.skip pu1) .nil)) (.cons (.cons .nil)) L) t2 t0 (cK hG hX cl48 hN (vI [2,2] dC dC) L t1 (sw (c_bI (vs:=[_,_]) un22 ti40 rfl rfl dC dC rfl (zs_made (.cons rfl .nil) rfl) rfl (.cons rfl .sl rfl pu1 (.cons rfl .sl rfl (.skip pu1) .nil)) (.cons (.cons .nil)) L) t2 t0 (cK hG hX cl47 hN (mtI 2 [[1,1],[2,2]]) L t2 (swb (c_al (k:=8) (n:=2) zv24 (.cons rfl (.cons rfl .nil)) rfl (P0 _ rfl) L) t0 t0 ⟨rfl,rfl⟩ (sb (c_sm sz24 rF pa2 rfl pu2) t2 t1 ?_))))))))
 refine zn [(8,_)] [(8,_)] t1 t1 (exd rF ?_)
 refine lp2 ag24 sz24 L rfl rfl (sw (c_bI (vs:=[_,_]) un27 ti3 rfl rfl dC dC rfl (zs_made (.cons rfl .nil) rfl) rfl (.cons rfl (.atom rfl) rfl pu1 (.cons rfl (.atom rfl) rfl (.skip pu1) .nil)) (.cons (.cons .nil)) L) t2 t0 (cK hG hX cl48 hN (vI [1,3] dC dC) L t1 (cK hG hX cl24 hN hnon L t2 (mV L rfl (sw (c_ex rfl L) t1 t0 (sw (c_ex rfl L) t1 t0 (sw (c_ex rfl L) t1 t0 (aV L rfl ?_))))))))
 refine seq_nil ⟨aoks [⟨[8],[8],[102],[]⟩,⟨[],[],[103],[]⟩,⟨[103],[],[104],[]⟩,⟨[102,104],[],[105],[]⟩,⟨[105],[],[101],[]⟩,⟨[101],[],[106],[]⟩,⟨[101],[],[107],[]⟩,⟨[101],[],[108],[]⟩,⟨[108],[],[4],[]⟩] rF rF dC,[(4,_),(8,_)],[(8,_)],t2,t1,?_⟩
 refine ex_seq (exd rF ?_)
 refine mV L rfl (sw (c_n L) t2 t0 (mV L rfl (swg (g:=111) rfl rfl (c_lp ag24 sz24 rF (by exact al2) rfl L) rfl t1 t1 ?_)))
 refine swg (g:=111) rfl rfl (c_bI (vs:=[_,_]) un27 ti3 rfl rfl dC dC rfl (zs_made (.cons rfl .nil) rfl) rfl (.cons rfl (.atom rfl) rfl pu1 (.cons rfl (.atom rfl) rfl (.skip pu1) .nil)) (.cons (.cons .nil)) L) rfl t2 t0 (swg (g:=111) rfl rfl (c_c hG hX cl48 rfl hN (vI [1,3] dC dC) L) rfl t1 t0 (swg (g:=111) rfl rfl (c_bI (vs:=[_,_]) un27 ti3 rfl rfl dC dC rfl (zs_made (.cons rfl .nil) rfl) rfl (.cons rfl (.atom rfl) rfl pu1 (.cons rfl (.atom rfl) rfl (.skip pu1) .nil)) (.cons (.cons .nil)) L) rfl t2 t0 (swg (g:=111) rfl rfl (c_c hG hX cl48 rfl hN (vI [-2,1] dC dC) L) rfl t1 t0 (swg (g:=111) rfl rfl (c_c hG hX cl25 rfl hN hc1 L) rfl t3 t0 (swg (g:=111) rfl rfl (c_no L) rfl t1 t0 (sw (c_pf rfl L) t2 t0 (mV L rfl (swg (g:=120) rfl rfl (c_lp ag24 sz24 rF (by exact al2) rfl L) rfl t1 t1 ?_))))))))
 refine swg (g:=120) rfl rfl (c_bI (vs:=[_,_]) un27 ti3 rfl rfl dC dC rfl (zs_made (.cons rfl .nil) rfl) rfl (.cons rfl (.atom rfl) rfl pu1 (.cons rfl (.atom rfl) rfl (.skip pu1) .nil)) (.cons (.cons .nil)) L) rfl t2 t0 (swg (g:=120) rfl rfl (c_c hG hX cl48 rfl hN (vI [1,3] dC dC) L) rfl t1 t0 (swg (g:=120) rfl rfl (c_bI (vs:=[_,_]) un27 ti3 rfl rfl dC dC rfl (zs_made (.cons rfl .nil) rfl) rfl (.cons rfl (.atom rfl) rfl pu1 (.cons rfl (.atom rfl) rfl (.skip pu1) .nil)) (.cons (.cons .nil)) L) rfl t2 t0 (swg (g:=120) rfl rfl (c_c hG hX cl48 rfl hN (vI [2,-1] dC dC) L) rfl t1 t0 (swg (g:=120) rfl rfl (c_c hG hX cl25 rfl hN hc2 L) rfl t3 t0 (sw (c_pf rfl L) t2 t0 ?_)))))
 refine seq_nil ⟨aoks [⟨[4],[],[109],[]⟩,⟨[109],[],[110],[]⟩,⟨[110],[],[111],[]⟩,⟨[111,8],[8],[112],[]⟩,⟨[111],[],[113],[]⟩,⟨[111,113],[],[114],[]⟩,⟨[111],[],[115],[]⟩,⟨[111,115],[],[116],[]⟩,⟨[111,112,114,116],[],[117],[]⟩,⟨[111,117],[],[118],[]⟩,⟨[111,118],[],[119],[]⟩,⟨[119],[],[120],[]⟩,⟨[120,8],[8],[121],[]⟩,⟨[120],[],[122],[]⟩,⟨[120,122],[],[123],[]⟩,⟨[120],[],[124],[]⟩,⟨[120,124],[],[125],[]⟩,⟨[120,121,123,125],[],[126],[]⟩,⟨[120,126],[],[127],[]⟩] rF rF dC,[(127,_)],[],t1,trivial,?_⟩
 refine ex_false rfl rfl ?_
 refine ex_skip (xq ?_)
 refine exr (sw (c_bI (vs:=[_,_]) un27 ti3 rfl rfl dC dC rfl (zs_made (.cons rfl .nil) rfl) rfl (.cons rfl (.atom rfl) rfl pu1 (.cons rfl (.atom rfl) rfl (.skip pu1) .nil)) (.cons (.cons .nil)) L) t2 t0 (cK hG hX cl48 hN (vI [1,2] dC dC) L t1 (sw (c_bI (vs:=[_,_]) un27 ti3 rfl rfl dC dC rfl (zs_made (.cons rfl .nil) rfl) rfl (.cons rfl (.atom rfl) rfl pu1 (.cons rfl (.atom rfl) rfl (.skip pu1) .nil)) (.cons (.cons .nil)) L) t2 t0 (cK hG hX cl48 hN (vI [3,4] dC dC) L t1 (sw (c_bI (vs:=[_,_]) un22 ti40 rfl rfl dC dC rfl (zs_made (.cons rfl .nil) rfl) rfl (.cons rfl .sl rfl pu1 (.cons rfl .sl rfl (.skip pu1) .nil)) (.cons (.cons .nil)) L) t2 t0 (cK hG hX cl47 hN (mtI 2 [[1,2],[3,4]]) L t2 (sw (c_bI (vs:=[_,_]) un27 ti3 rfl rfl dC dC rfl (zs_made (.cons rfl .nil) rfl) rfl (.cons rfl (.atom rfl) rfl pu1 (.cons rfl (.atom rfl) rfl (.skip pu1) .nil)) (.cons (.cons .nil)) L) t2 t0 (cK hG hX cl48 hN (vI [0,1] dC dC) L t1 (sw (c_bI (vs:=[_,_]) un27 ti3 rfl rfl dC dC rfl (zs_made (.cons rfl .nil) rfl) rfl (.cons rfl (.atom rfl) rfl pu1 (.cons rfl (.atom rfl) rfl (.skip pu1) .nil)) (.cons (.cons .nil)) L) t2 t0 (cK hG hX cl48 hN (vI [1,0] dC dC) L t1 (sw (c_bI (vs:=[_,_]) un22 ti40 rfl rfl dC dC rfl (zs_made (.cons rfl .nil) rfl) rfl (.cons rfl .sl rfl pu1 (.cons rfl .sl rfl (.skip pu1) .nil)) (.cons (.cons .nil)) L) t2 t0 ?_)))))))))))
 refine cK hG hX cl47 hN (mtI 2 [[0,1],[1,0]]) L t2 (cK hG hX cl41 hN sn_mul L t2 (mV L rfl (sw (c_ex rfl L) t1 t0 (sw (c_ex rfl L) t1 t0 (swb (c_al (k:=9) (n:=2) zv24 (.cons rfl (.cons rfl .nil)) rfl (P0 _ rfl) L) t0 t0 ⟨rfl,rfl⟩ (sb (c_sm sz24 rF pa2 rfl pu2) t2 t1 ?_))))))
 refine aV L rfl (zn [(4,_),(9,_)] [(9,_)] t2 t1 (ex_seq (exd rF ?_)))
 refine mV L rfl (sw (c_n L) t2 t0 (mV L rfl (swg (g:=146) rfl rfl (c_lp ag24 sz24 rF (by exact al2) rfl L) rfl t1 t1 ?_)))
 refine swg (g:=146) rfl rfl (c_bI (vs:=[_,_]) un27 ti3 rfl rfl dC dC rfl (zs_made (.cons rfl .nil) rfl) rfl (.cons rfl (.atom rfl) rfl pu1 (.cons rfl (.atom rfl) rfl (.skip pu1) .nil)) (.cons (.cons .nil)) L) rfl t2 t0 (swg (g:=146) rfl rfl (c_c hG hX cl48 rfl hN (vI [2,1] dC dC) L) rfl t1 t0 (swg (g:=146) rfl rfl (c_bI (vs:=[_,_]) un27 ti3 rfl rfl dC dC rfl (zs_made (.cons rfl .nil) rfl) rfl (.cons rfl (.atom rfl) rfl pu1 (.cons rfl (.atom rfl) rfl (.skip pu1) .nil)) (.cons (.cons .nil)) L) rfl t2 t0 (swg (g:=146) rfl rfl (c_c hG hX cl48 rfl hN (vI [4,3] dC dC) L) rfl t1 t0 (swg (g:=146) rfl rfl (c_bI (vs:=[_,_]) un22 ti40 rfl rfl dC dC rfl (zs_made (.cons rfl .nil) rfl) rfl (.cons rfl .sl rfl pu1 (.cons rfl .sl rfl (.skip pu1) .nil)) (.cons (.cons .nil)) L) rfl t2 t0 (swg (g:=146) rfl rfl (c_c hG hX cl47 rfl hN (mtI 2 [[2,1],[4,3]]) L) rfl t2 t0 (swg (g:=146) rfl rfl (c_c hG hX cl17 rfl hN (mI_same 2 [[2,1],[4,3]] dC dC dC) L) rfl t2 t0 (swg (g:=146) rfl rfl (c_no L) rfl t1 t0 (sw (c_pf rfl L) t2 t0 ?_))))))))
 refine seq_nil ⟨aoks [⟨[4],[],[144],[]⟩,⟨[144],[],[145],[]⟩,⟨[145],[],[146],[]⟩,⟨[146,9],[9],[147],[]⟩,⟨[146],[],[148],[]⟩,⟨[146,148],[],[149],[]⟩,⟨[146],[],[150],[]⟩,⟨[146,150],[],[151],[]⟩,⟨[146,149,151],[],[152],[]⟩,⟨[146,152],[],[153],[]⟩,⟨[146,147,153],[],[154],[]⟩,⟨[146,154],[],[155],[]⟩,⟨[146,155],[],[156],[]⟩] rF rF dC,[(9,_),(156,_)],[(9,_)],t2,t1,?_⟩
 refine ex_false rfl rfl ?_
 refine ex_skip (xq ?_)
 refine exr (lp2 ag24 sz24 L rfl rfl (cK hG hX cl31 hN sn_det L t1 (mV L rfl (sw (c_ex rfl L) t1 t0 (sw (c_ex rfl L) t1 t0 (swb (c_al (k:=10) (n:=4) zv47 (.cons rfl (.cons rfl (.cons rfl (.cons rfl .nil)))) rfl (P0 _ rfl) L) t0 t0 ⟨rfl,rfl⟩ (sb (c_sm sz47 rF pa4 rfl pu4) t2 t1 ?_)))))))
 refine aV L rfl (zn [(4,_),(10,_)] [(10,_)] t2 t1 (exr (sw (c_bI (vs:=[_,_,_]) un27 ti3 rfl rfl dC dC rfl (zs_made (.cons rfl .nil) rfl) rfl (.cons rfl (.atom rfl) rfl pu1 (.cons rfl (.atom rfl) rfl (.skip pu1) (.cons rfl (.atom rfl) rfl (.skip (.skip pu1)) .nil))) (.cons (.cons (.cons .nil))) L) t3 t0 (cK hG hX cl48 hN (vI [1,0,1] dC dC) L t1 (sw (c_bI (vs:=[_,_,_]) un27 ti3 rfl rfl dC dC rfl (zs_made (.cons rfl .nil) rfl) rfl (.cons rfl (.atom rfl) rfl pu1 (.cons rfl (.atom rfl) rfl (.skip pu1) (.cons rfl (.atom rfl) rfl (.skip (.skip pu1)) .nil))) (.cons (.cons (.cons .nil))) L) t3 t0 (cK hG hX cl48 hN (vI [2,0,2] dC dC) L t1 (sw (c_bI (vs:=[_,_,_]) un27 ti3 rfl rfl dC dC rfl (zs_made (.cons rfl .nil) rfl) rfl (.cons rfl (.atom rfl) rfl pu1 (.cons rfl (.atom rfl) rfl (.skip pu1) (.cons rfl (.atom rfl) rfl (.skip (.skip pu1)) .nil))) (.cons (.cons (.cons .nil))) L) t3 t0 (cK hG hX cl48 hN (vI [0,1,1] dC dC) L t1 (sw (c_bI (vs:=[_,_,_]) un22 ti40 rfl rfl dC dC rfl (zs_made (.cons rfl .nil) rfl) rfl (.cons rfl .sl rfl pu1 (.cons rfl .sl rfl (.skip pu1) (.cons rfl .sl rfl (.skip (.skip pu1)) .nil))) (.cons (.cons (.cons .nil))) L) t3 t0 (sw (c_bI (vs:=[_,_,_]) un27 ti3 rfl rfl dC dC rfl (zs_made (.cons rfl .nil) rfl) rfl (.cons rfl (.atom rfl) rfl pu1 (.cons rfl (.atom rfl) rfl (.skip pu1) (.cons rfl (.atom rfl) rfl (.skip (.skip pu1)) .nil))) (.cons (.cons (.cons .nil))) L) t3 t0 (cK hG hX cl48 hN (vI [3,1,4] dC dC) L t1 ?_)))))))))))
 refine cK hG hX cl30 hN hcom L t2 (mV L rfl (sw (c_ex rfl L) t1 t0 (sw (c_ex rfl L) t1 t0 (sw (c_ex rfl L) t1 t0 (aV L rfl (aV L rfl (aV L rfl (zn [(4,_),(10,_),(11,_),(13,_)] [(10,_)] t4 t1 (exd rF ?_)))))))))
 refine mV L rfl (sw (c_e L) t2 t0 (mV L rfl (gV (g:=178) rfl rfl L rfl rfl (swg (g:=178) rfl rfl (c_e L) rfl t2 t0 (sw (c_pt rfl L) t2 t0 (mV L rfl (swg (g:=182) rfl rfl (c_lp ag47 sz47 rF (by exact al4) rfl L) rfl t1 t1 ?_)))))))
 refine swg (g:=182) rfl rfl (c_c hG hX cl49 rfl hN (rwhole_says 2 dC dC) L) rfl t1 t0 (swg (g:=182) rfl rfl (c_c hG hX cl33 rfl hN (rsameQ_says ((2:Int):Rat) ((2:Int):Rat) (by decide +kernel) (by decide +kernel)) L) rfl t2 t0 ?_)
 refine sw (c_pt rfl L) t2 t0 (mV L rfl (gV (g:=187) rfl rfl L rfl rfl (swg (g:=187) rfl rfl (c_bI (vs:=[_,_,_]) un27 ti3 rfl rfl dC dC rfl (zs_made (.cons rfl .nil) rfl) rfl (.cons rfl (.atom rfl) rfl pu1 (.cons rfl (.atom rfl) rfl (.skip pu1) (.cons rfl (.atom rfl) rfl (.skip (.skip pu1)) .nil))) (.cons (.cons (.cons .nil))) L) rfl t3 t0 (swg (g:=187) rfl rfl (c_c hG hX cl48 rfl hN (vI [3,0,1] dC dC) L) rfl t1 t0 (swg (g:=187) rfl rfl (c_c hG hX cl29 rfl hN (vI_same [3,0,1] dC dC) L) rfl t2 t0 (sw (c_pt rfl L) t2 t0 (aV L rfl ?_)))))))
 refine seq_nil ⟨aoks [⟨[4],[],[176],[]⟩,⟨[176],[],[177],[]⟩,⟨[177],[],[178],[]⟩,⟨[178,13],[],[179],[]⟩,⟨[178,179],[],[180],[]⟩,⟨[178,180],[],[181],[]⟩,⟨[181],[],[182],[]⟩,⟨[182,10],[10],[183],[]⟩,⟨[182],[],[184],[]⟩,⟨[182,183,184],[],[185],[]⟩,⟨[182,185],[],[186],[]⟩,⟨[186],[],[187],[]⟩,⟨[187,11],[],[188],[]⟩,⟨[187],[],[189],[]⟩,⟨[187,189],[],[190],[]⟩,⟨[187,188,190],[],[191],[]⟩,⟨[187,191],[],[192],[]⟩,⟨[192],[],[0],[]⟩] rF rF dC,[(0,_)],[],t1,trivial,?_⟩
 refine ex_ret ?_
 refine ⟨.inr rfl,ResVs.cast (.cons (.tmp rfl) .nil) ?_⟩
 rfl
def WdM (m:List (List RQ)):Prop:=∀ r∈m,∀ q∈r,q.wd
theorem light_msm {n:Nat}{c:Int}{m:List (List RQ)}(hn:n<1000)(hw:WdM m)(h:lightM n c m=true):MSm m:=by
 rw [lightM,Bool.and_eq_true,decide_eq_true_iff,List.all_eq_true] at h
 refine ⟨by omega,fun r hr=>?_⟩
 have h1:=h.2 r hr
 rw [smV,Bool.and_eq_true,decide_eq_true_iff,List.all_eq_true] at h1
 refine ⟨by omega,fun a ha=>?_⟩
 have h2:=h1.2 a ha
 rw [smW,decide_eq_true_iff] at h2
 exact ⟨hw r hr a ha,by omega,by omega⟩
theorem light_q {n:Nat}{c:Int}{M:List (List Rat)}(h:lightM n c (M.map (List.map RQ.of))=true):M.length≤n∧(∀ r∈M,r.length≤n)∧MB 6 M:=by
 rw [lightM,Bool.and_eq_true,decide_eq_true_iff,List.all_eq_true,List.length_map] at h
 have key:∀ r∈M,r.length≤n∧∀ a∈r,qw a≤6:=fun r hr=>by
  have h1:=h.2 _ (List.mem_map_of_mem hr)
  rw [smV,Bool.and_eq_true,decide_eq_true_iff,List.all_eq_true,List.length_map] at h1
  refine ⟨h1.1,fun a ha=>?_⟩
  have h2:=h1.2 _ (List.mem_map_of_mem ha)
  rw [smW,decide_eq_true_iff] at h2
  exact Nat.max_le.2 h2
 exact ⟨h.1.1,fun r hr=>(key r hr).1,fun r hr=>(key r hr).2⟩
theorem light_cols {n:Nat}{c:Nat}{m:List (List RQ)}(h:lightM n c m=true)(hc:c≤60):c≤n:=by
 rw [lightM,Bool.and_eq_true,decide_eq_true_iff] at h
 omega
theorem light_ok {n:Nat}{c:Int}{m:List (List RQ)}(hn:n<1000)(hw:WdM m)(h:lightM n c m=true)(hi:isM c m=true):∃ (k:Nat) (M:List (List Rat)),c=k∧m=M.map (List.map RQ.of)∧MOk k M∧k≤n∧M.length≤n∧MB 6 M:=by
 obtain ⟨k,M,rfl,rfl,hM⟩:=isM_to (light_msm hn hw h) hi
 have:=light_q h
 exact ⟨k,M,rfl,rfl,hM,light_cols h hM.cols,this.1,this.2.2⟩
theorem same_nil {B:Nat}(hb:B<1000000000)(c:Int):Says E 17 [pMq c [],pMq c []] (bZ true):=mat_same (B:=B) dC sM (fun r hr=>by cases hr) hb
theorem both_trans {n:Nat}{c:Int}{m:List (List RQ)}(hn:n<1000)(hw:WdM m)(h:lightM n c m=true):∃ (p q:Pure),Says E 38 [pMR c m] (.tup [p,q])∧Says E 39 [pMR c m] (.tup [p,q])∧(∃ e:Int,q=vZ e)∧(∃ a x,p = .agg [a,x])∧Says E 17 [p,p] (bZ true):=by
 have hm:=light_msm hn hw h
 cases hi:isM c m with
 | false=>exact ⟨_,_,trans_no c m hm hi,rtrans_no c m hm hi,⟨_,rfl⟩,⟨_,_,rfl⟩,same_nil (B:=1) dC 0⟩
 | true =>
  obtain ⟨k,M,rfl,rfl,hM,hk,hl,hB⟩:=light_ok hn hw h hi
  rw [pMR_of]
  by_cases h60:M.length≤60
  ·refine ⟨_,_,trans_says k 6 M hM hB dC h60,rtrans_says k 6 M hM hB dC h60,⟨_,rfl⟩,⟨_,_,rfl⟩,mat_same (B:=6) sO (fun r hr=>?_) (trM_bd hM.len hB) dC⟩
   simp only [trM,List.mem_map] at hr
   obtain ⟨j,_,rfl⟩:=hr
   simp; omega
  ·exact ⟨_,_,trans_lim k 6 M hM hB dC oM,rtrans_lim k 6 M hM hB dC oM,⟨_,rfl⟩,⟨_,_,rfl⟩,same_nil (B:=1) dC 0⟩
theorem mulM_bd {c d B:Nat}{M N:List (List Rat)}(hM:∀ r∈M,r.length=c)(hN:∀ r∈N,r.length=d)(hB:MB B M)(hB2:MB B N):MB (c*(B+B+1)+1) (mulM d M N):=by
 intro r hr a ha
 obtain ⟨v,hv,rfl⟩:=List.mem_map.1 hr
 simp only [mulR,List.mem_map,List.mem_range] at ha
 obtain ⟨j,hj,rfl⟩:=ha
 have:=qw_dot (hB v hv) (colB hB2 hj hN)
 rwa [hM v hv] at this
theorem both_mul {c d:Int}{m l:List (List RQ)}(hwm:WdM m)(hwl:WdM l)(h:lightM 14 c m=true)(h2:lightM 14 d l=true):∃ (p q:Pure),Says E 41 [pMR c m,pMR d l] (.tup [p,q])∧Says E 35 [pMR c m,pMR d l] (.tup [p,q])∧(∃ e:Int,q=vZ e)∧(∃ a x,p = .agg [a,x])∧Says E 17 [p,p] (bZ true):=by
 have hm:=light_msm dC hwm h
 have hl:=light_msm dC hwl h2
 cases hi:isM c m with
 | false=>exact ⟨_,_,mmul_no1 c d m l hm hi,rmmul_no1 c d m l hm hi,⟨_,rfl⟩,⟨_,_,rfl⟩,same_nil (B:=1) dC 0⟩
 | true =>
  cases hj:isM d l with
  | false=>exact ⟨_,_,mmul_no2 c d m l hm hl hi hj,rmmul_no2 c d m l hm hl hi hj,⟨_,rfl⟩,⟨_,_,rfl⟩,same_nil (B:=1) dC 0⟩
  | true =>
   obtain ⟨k,M,rfl,rfl,hM,hk,hMl,hB⟩:=light_ok dC hwm h hi
   obtain ⟨k2,N,rfl,rfl,hN,hk2,hNl,hB2⟩:=light_ok dC hwl h2 hj
   rw [pMR_of,pMR_of]
   by_cases hkN:k=N.length
   ·refine ⟨_,_,mmul_says k k2 6 M N hM hN hB hB2 dC hkN,rmmul_says k k2 6 M N hM hN hB hB2 dC hkN,⟨_,rfl⟩,⟨_,_,rfl⟩,mat_same sO (fun r hr=>?_) (mulM_bd hM.len hN.len hB hB2) ?_⟩
    ·obtain ⟨v,hv,rfl⟩:=List.mem_map.1 hr
     simp; omega
    ·have:=Nat.mul_le_mul_right (6+6+1) hk
     omega
   ·exact ⟨_,_,mmul_arg k k2 6 M N hM hN hB hB2 dC hkN,rmmul_arg k k2 6 M N hM hN hB hB2 dC hkN,⟨_,rfl⟩,⟨_,_,rfl⟩,same_nil (B:=1) dC 0⟩
theorem makes_says (c d:Int)(m l:List (List RQ))(hwm:WdM m)(hwl:WdM l):Says E 8 [pMR c m,pMR d l] (bZ true):=by
 refine says_of (xs:=[bZ true]) Tryz.func8 rfl Tryz.ntmps8 Tryz.results8 sM fun F hG hX0 hnt hdf P0=>?_
 obtain ⟨L,hX,hN⟩:=pro hnt hX0 hG
 refine exr (swb (c_bx (k:=2) (n:=2) pa2 rfl rfl (P0 _ rfl) L) t1 t0 ⟨rfl,rfl⟩ (swb (c_bx (k:=3) (n:=2) pa2 rfl rfl (P0 _ rfl) L) t1 t0 ⟨rfl,rfl⟩ (aV L rfl (zn [(2,_),(3,_)] [(2,_),(3,_)] t2 t2 (ex_seq ?_)))))
 refine exm (sl:=[(20,vb (!(lightM 70 c m && lightM 70 d l)))]) (sl0:=[(2,_),(3,_)]) (hb:=[]) (hb0:=[(2,_),(3,_)]) t2 t2 ?_ ?_
 ·rcases Bool.eq_false_or_eq_true (lightM 70 c m) with h | h
  ·refine lp2 ag24 sz24 L rfl rfl (cK hG hX cl11 hN (light_says 70 c m dC) L t2 (sw (c_no L) t1 t0 (mV L rfl (swg (g:=16) rfl (by rw [h] <;> rfl) (c_lp ag24 sz24 rF (by exact al2) rfl L) rfl t1 t1 ?_))))
   refine swg (g:=16) rfl (by rw [h] <;> rfl) (c_c hG hX cl11 rfl hN (light_says 70 d l dC) L) rfl t2 t0 ?_
   refine swg (g:=16) rfl (by rw [h] <;> rfl) (c_no L) rfl t1 t0 ?_
   refine sw (c_pf (by rw [h] <;> rfl) L) t2 t0 ?_
   exact seq_nil ⟨⟨ob rfl (by rw [h,Bool.true_and]),rfl,rfl,trivial⟩,t2⟩
  ·refine lp2 ag24 sz24 L rfl rfl (cK hG hX cl11 hN (light_says 70 c m dC) L t2 (sw (c_no L) t1 t0 (mV L rfl (swn (g:=16) rfl (by rw [h] <;> rfl) L rfl ?_))))
   refine swn (g:=16) rfl (by rw [h] <;> rfl) L rfl ?_
   refine swn (g:=16) rfl (by rw [h] <;> rfl) L rfl ?_
   refine sw (c_pt (by rw [h] <;> rfl) L) t2 t0 ?_
   exact seq_nil ⟨⟨ob rfl (by rw [h,Bool.false_and] <;> rfl),rfl,rfl,trivial⟩,t2⟩
 refine ex_if rfl (fun hc=>?_) (fun hc=>?_)
 ·refine exr (cK hG hX cl12 hN sane_says L t0 (aV L rfl (zn [(4,_)] [] t1 trivial (ex_ret ?_))))
  refine ⟨.inr rfl,ResVs.cast (.cons (.tmp rfl) .nil) ?_⟩
  rfl
 ·have hc:lightM 70 c m=true∧lightM 70 d l=true:=by simpa using hc
  obtain ⟨h1,h2⟩:=hc
  obtain ⟨p,q,ht,hrt,⟨e,rfl⟩,⟨ya,yx,rfl⟩,hs⟩:=both_trans dC hwm h1
  have hm:=light_msm dC hwm h1
  have hl:=light_msm dC hwl h2
  refine ex_skip (xq ?_)
  refine exr (lp2 ag24 sz24 L rfl rfl (cK hG hX cl38 hN ht L t1 (mV L rfl (sw (c_ex rfl L) t1 t0 (sw (c_ex rfl L) t1 t0 (swb (c_al (k:=5) (n:=2) zv24 (.cons rfl (.cons rfl .nil)) rfl (P0 _ rfl) L) t0 t0 ⟨rfl,rfl⟩ (sb (c_sm sz24 rF pa2 rfl pu2) t2 t1 ?_)))))))
  refine aV L rfl (zn [(2,_),(3,_),(5,_),(6,_)] [(2,_),(3,_),(5,_)] t4 t3 (exr (lp2 ag24 sz24 L rfl rfl (cK hG hX cl39 hN hrt L t1 (mV L rfl (sw (c_ex rfl L) t1 t0 (sw (c_ex rfl L) t1 t0 (swb (c_al (k:=7) (n:=2) zv24 (.cons rfl (.cons rfl .nil)) rfl (P0 _ rfl) L) t0 t0 ⟨rfl,rfl⟩ (sb (c_sm sz24 rF pa2 rfl pu2) t2 t1 ?_)))))))))
  refine aV L rfl (zn [(2,_),(3,_),(5,_),(6,_),(7,_),(8,_)] [(2,_),(3,_),(5,_),(7,_)] t6 t4 (ex_seq (exd rF ?_)))
  refine mV L rfl (mV L rfl (sw (c_n L) t2 t0 (mV L rfl (swg (g:=35) rfl sM (c_lp ag24 sz24 rF (by exact al2) rfl L) rfl t1 t1 ?_))))
  refine swg (g:=35) rfl sM (c_lp ag24 sz24 rF (by exact al2) rfl L) rfl t1 t1 ?_
  refine swg (g:=35) rfl sM (c_c hG hX cl17 rfl hN hs L) rfl t2 t0 ?_
  refine swg (g:=35) rfl sM (c_no L) rfl t1 t0 ?_
  refine sw (c_pf sM L) t2 t0 ?_
  refine mV L rfl (swg (g:=41) rfl rfl (c_lp ag24 sz24 rF (by exact al2) rfl L) rfl t1 t1 ?_)
  refine swg (g:=41) rfl rfl (c_c hG hX cl40 rfl hN (mis_says c m hm) L) rfl t1 t0 (swg (g:=41) rfl rfl (c_lp ag24 sz24 rF (by exact al2) rfl L) rfl t1 t1 ?_)
  refine swg (g:=41) rfl rfl (c_c hG hX cl15 rfl hN (rmis_says c m hm) L) rfl t1 t0 (swg (g:=41) rfl rfl (c_bn un4 L) rfl t2 t0 (sw (c_pf rfl L) t2 t0 (mV L rfl (swg (g:=48) rfl sM (c_lp ag24 sz24 rF (by exact al2) rfl L) rfl t1 t1 ?_))))
  refine swg (g:=48) rfl sM (c_c hG hX cl40 rfl hN (mis_says d l hl) L) rfl t1 t0 ?_
  refine swg (g:=48) rfl sM (c_lp ag24 sz24 rF (by exact al2) rfl L) rfl t1 t1 ?_
  refine swg (g:=48) rfl sM (c_c hG hX cl15 rfl hN (rmis_says d l hl) L) rfl t1 t0 ?_
  refine swg (g:=48) rfl sM (c_bn un4 L) rfl t2 t0 ?_
  refine sw (c_pf sM L) t2 t0 ?_
  refine seq_nil ⟨aoks [⟨[6],[],[32],[]⟩,⟨[8],[],[33],[]⟩,⟨[32,33],[],[34],[]⟩,⟨[34],[],[35],[]⟩,⟨[35,5],[5],[36],[]⟩,⟨[35,7],[7],[37],[]⟩,⟨[35,36,37],[],[38],[]⟩,⟨[35,38],[],[39],[]⟩,⟨[35,39],[],[40],[]⟩,⟨[40],[],[41],[]⟩,⟨[41,2],[2],[42],[]⟩,⟨[41,42],[],[43],[]⟩,⟨[41,2],[2],[44],[]⟩,⟨[41,44],[],[45],[]⟩,⟨[41,43,45],[],[46],[]⟩,⟨[41,46],[],[47],[]⟩,⟨[47],[],[48],[]⟩,⟨[48,3],[3],[49],[]⟩,⟨[48,49],[],[50],[]⟩,⟨[48,3],[3],[51],[]⟩,⟨[48,51],[],[52],[]⟩,⟨[48,50,52],[],[53],[]⟩,⟨[48,53],[],[54],[]⟩] rF rF dC,[(2,_),(3,_),(54,_)],[(2,_),(3,_)],t3,t2,?_⟩
  refine ex_false rfl sM ?_
  refine ex_skip (xq ?_)
  refine ex_seq ?_
  refine exm (sl:=[(62,vb (!(lightM 14 c m && lightM 14 d l)))]) (sl0:=[(2,_),(3,_)]) (hb:=[]) (hb0:=[(2,_),(3,_)]) t2 t2 ?_ ?_
  ·rcases Bool.eq_false_or_eq_true (lightM 14 c m) with h | h
   ·refine lp2 ag24 sz24 L rfl rfl (cK hG hX cl11 hN (light_says 14 c m dC) L t2 (sw (c_no L) t1 t0 (mV L rfl (swg (g:=58) rfl (by rw [h] <;> rfl) (c_lp ag24 sz24 rF (by exact al2) rfl L) rfl t1 t1 ?_))))
    refine swg (g:=58) rfl (by rw [h] <;> rfl) (c_c hG hX cl11 rfl hN (light_says 14 d l dC) L) rfl t2 t0 ?_
    refine swg (g:=58) rfl (by rw [h] <;> rfl) (c_no L) rfl t1 t0 ?_
    refine sw (c_pf (by rw [h] <;> rfl) L) t2 t0 ?_
    exact seq_nil ⟨⟨ob rfl (by rw [h,Bool.true_and]),rfl,rfl,trivial⟩,t2⟩
   ·refine lp2 ag24 sz24 L rfl rfl (cK hG hX cl11 hN (light_says 14 c m dC) L t2 (sw (c_no L) t1 t0 (mV L rfl (swn (g:=58) rfl (by rw [h] <;> rfl) L rfl ?_))))
    refine swn (g:=58) rfl (by rw [h] <;> rfl) L rfl ?_
    refine swn (g:=58) rfl (by rw [h] <;> rfl) L rfl ?_
    refine sw (c_pt (by rw [h] <;> rfl) L) t2 t0 ?_
    exact seq_nil ⟨⟨ob rfl (by rw [h,Bool.false_and] <;> rfl),rfl,rfl,trivial⟩,t2⟩
  refine ex_if rfl (fun hc=>?_) (fun hc=>?_)
  ·refine exr (cK hG hX cl12 hN sane_says L t0 (aV L rfl (zn [(4,_)] [] t1 trivial (ex_ret ?_))))
   refine ⟨.inr rfl,ResVs.cast (.cons (.tmp rfl) .nil) ?_⟩
   rfl
  ·have hc:lightM 14 c m=true∧lightM 14 d l=true:=by simpa using hc
   obtain ⟨p2,q2,hmu,hrm,⟨e2,rfl⟩,⟨ya2,yx2,rfl⟩,hs2⟩:=both_mul hwm hwl hc.1 hc.2
   refine ex_skip (xq ?_)
   refine exr (lp2 ag24 sz24 L rfl rfl (lp2 ag24 sz24 L rfl rfl (cK hG hX cl41 hN hmu L t2 (mV L rfl (sw (c_ex rfl L) t1 t0 (sw (c_ex rfl L) t1 t0 (swb (c_al (k:=9) (n:=2) zv24 (.cons rfl (.cons rfl .nil)) rfl (P0 _ rfl) L) t0 t0 ⟨rfl,rfl⟩ (sb (c_sm sz24 rF pa2 rfl pu2) t2 t1 ?_))))))))
   refine aV L rfl (zn [(2,_),(3,_),(9,_),(10,_)] [(2,_),(3,_),(9,_)] t4 t3 (exr (lp2 ag24 sz24 L rfl rfl (lp2 ag24 sz24 L rfl rfl (cK hG hX cl35 hN hrm L t2 (mV L rfl (sw (c_ex rfl L) t1 t0 (sw (c_ex rfl L) t1 t0 (swb (c_al (k:=11) (n:=2) zv24 (.cons rfl (.cons rfl .nil)) rfl (P0 _ rfl) L) t0 t0 ⟨rfl,rfl⟩ (sb (c_sm sz24 rF pa2 rfl pu2) t2 t1 ?_))))))))))
   refine aV L rfl (zn [(9,_),(10,_),(11,_),(12,_)] [(9,_),(11,_)] t4 t2 (exr (cK hG hX cl12 hN sane_says L t0 (mV L rfl (gV (g:=77) rfl rfl L rfl rfl (gV (g:=77) rfl rfl L rfl rfl (swg (g:=77) rfl rfl (c_e L) rfl t2 t0 (sw (c_pt rfl L) t2 t0 (mV L rfl (swg (g:=82) rfl sM (c_lp ag24 sz24 rF (by exact al2) rfl L) rfl t1 t1 ?_))))))))))
   refine swg (g:=82) rfl sM (c_lp ag24 sz24 rF (by exact al2) rfl L) rfl t1 t1 ?_
   refine swg (g:=82) rfl sM (c_c hG hX cl17 rfl hN hs2 L) rfl t2 t0 ?_
   refine sw (c_pt sM L) t2 t0 ?_
   refine aV L rfl (zn [(4,_)] [] t1 trivial (ex_ret ?_))
   refine ⟨.inr rfl,ResVs.cast (.cons (.tmp rfl) .nil) ?_⟩
   rfl
end Go.Proofs.YtjagfionflbjbaaGreat.N
namespace Go.Proofs.YtjagfionflbjbaaGreat.SH
open Go Go.RowKit Go.ChangeShapes Go.WideShapes Go.ChangeAt
variable {H:Type} {enc:TypeId×Value→H} {P:Program}
theorem trodAll_stays (hl : laidOutB P = true) {W W' : World} (hb : Below W.heap.size W W') : ∀ {ts : List TypeId} {vs : List Value} {ds : List (DataW H)} {ps : List MemPlace},
    (ts.all fun t=>P.readableRec t && decide (t<P.types.size))=true→DataW.TrodAll enc P W 0 (fun _=>true) true ts vs ds ps→(∀ x∈ps,x.block<W.heap.size) →
    DataW.TrodAll enc P W' 0 (fun b=>decide (b<W.heap.size)) true ts vs ds ps
  | [],vs,ds,ps,_,h,_=>by
    obtain ⟨rfl,rfl,rfl⟩:=trodAll_nil h
    rfl
  | t :: ts,vs,ds,ps,hr,h,hlt=>by
    obtain ⟨v,vs',d,ds',p,q,rfl,rfl,rfl,h1,h2⟩:=trodAll_cons h
    simp only [List.all_cons,Bool.and_eq_true,decide_eq_true_eq] at hr
    exact trodAll_cons_mk (Below.trod hl hr.1.1 hr.1.2 h1 hb fun x hx=>hlt x (List.mem_append_left _ hx)) (trodAll_stays hl hb hr.2 h2 fun x hx=>hlt x (List.mem_append_right _ hx))
theorem post_law {fn : Func} {s : ChangeSpec} {apart fresh handsOn : Bool} {W W' : World} {args : Array Value} {ds gs : List (DataW H)} {before : List MemPlace} {tb : TypeId} (hl : laidOutB P = true) (hr : (fn.params.toList.all fun t => P.readableRec t && decide (t < P.types.size)) = true) (htb : P.underlying tb = some .bool) (hrt : fn.resultTypes = #[tb]) (hv : s.vars = [])
    (hW:DataW.Whole enc P fn.params.toList s.vars apart W args.toList ds gs before) (hb:Below W.heap.size W W') (hs:s.fn H (ds++gs)={ results:=[.lit (.bool true)],args:=ds }):s.post enc P fn apart fresh handsOn false W args (.bool true) W':=by
  have hW':=hW
  obtain ⟨p,q,hA,hV,rfl,hfz,hnd⟩:=hW
  rw [hv] at hV
  obtain ⟨rfl,rfl⟩:=trodVars_none hV
  refine ⟨ds,[],p++[],[],p,[],hW',?_,?_,?_,hb.frame _,fun h=>by cases h⟩
  · rw [hs,hrt]; exact trodAll_mk1 (shut_bool htb true)
  · rw [hs]; exact trodAll_stays hl hb hr hA fun x hx=>hW'.lt x (List.mem_append_left _ hx)
  · rw [hs,hv]; rfl
end Go.Proofs.YtjagfionflbjbaaGreat.SH
set_option maxRecDepth 100000
namespace Go.Proofs.YtjagfionflbjbaaGreat.N
open Go Go.Proofs.YtjagfionflbjbaaGreat.SH Go.Proofs.YtjagfionflbjbaaGreat.NumA Go.Proofs.YtjagfionflbjbaaGreat Go.RowKit Go.ChangeShapes Go.WideShapes Go.ChangeAt Go.Joins
theorem own:ownKnob Tryz.prog.godebug=none:=by kernel_rfl
theorem laidOut:laidOutB Tryz.prog=true:=by kernel_rfl
theorem cellsINT:Tryz.prog.cellsOf 45=2:=by kernel_rfl
theorem cellsRAT:Tryz.prog.cellsOf 47=4:=by kernel_rfl
theorem cellsU32:Tryz.prog.cellsOf 119=1:=by kernel_rfl
theorem cellsU32S:Tryz.prog.cellsOf 43=1:=by kernel_rfl
theorem cells4:Tryz.prog.cellsOf 4=1:=by kernel_rfl
theorem cells3:Tryz.prog.cellsOf 3=1:=by kernel_rfl
theorem cells22:Tryz.prog.cellsOf 22=1:=by kernel_rfl
theorem cells40:Tryz.prog.cellsOf 40=1:=by kernel_rfl
theorem cells24:Tryz.prog.cellsOf 24=2:=by kernel_rfl
theorem row_of_ints {w : World} {a : Addr} {k : IntKind} {zs : List Int} {n : Nat} (hcell : ∀ i, i < zs.length → w.cell? (a.add i) = some (.int k (zs.getD i 0))) (hn : n ≤ zs.length) :
    RelS (fun _=>True) (hp w) ((zs.take n).map fun z=>.a (.int k z)) (some a):=by
  by_cases h0:n=0
  · subst h0; trivial
  · obtain ⟨b,off,rfl,hc⟩:=ints_at hcell (by omega)
    refine RelS.of trivial (RelAt.of fun i y hy=>?_)
    rw [List.getElem?_map,List.getElem?_take] at hy
    split at hy
    · rename_i hi
      have hi':i<zs.length:=by omega
      rw [List.getElem?_eq_getElem hi'] at hy
      simp only [Option.map_some,Option.some.injEq] at hy
      subst hy
      refine ⟨.int k zs[i],?_,rfl,by simp [Rel]⟩
      rw [← cell_eq,hc i hi',List.getD_eq_getElem?_getD,List.getElem?_eq_getElem hi']
      rfl
    · cases hy
section
variable {H:Type} {enc:TypeId×Value→H} {W:World}
theorem int_cells {n : Nat} {cs : List Value} {y : DataW H × List MemPlace} (h : DataW.trod enc Tryz.prog W 0 (fun _ => true) true n 45 cs = some y) :
    ∃ neg ws c0 c1,Wd ws∧cs=[c0,c1]∧Rel (fun _=>True) (hp W) (.a (.bool neg)) c0∧Rel (fun _=>True) (hp W) (.sl ws.length (encW ws)) c1∧c0.oneCell'=true∧c1.oneCell'=true:=by
  obtain ⟨y0,y1,m,-,hl,h0,h1⟩:=trod_struct2 Tryz.underlying45 h
  rw [cellsINT] at hl
  match cs,hl with
  | [c0,c1],_ =>
    have h0':DataW.trod enc Tryz.prog W 0 (fun _=>true) true m 4 [c0]=some y0:=by simpa [cells4] using h0
    have h1':DataW.trod enc Tryz.prog W 0 (fun _=>true) true m 43 [c1]=some y1:=by simpa [cellsU32S] using h1
    obtain ⟨b,hb,-⟩:=DataW.trod_bool Tryz.underlying4 h0'
    obtain rfl:c0 = .bool b:=by simpa using hb
    rcases open_ints Tryz.underlying43 Tryz.underlying119 cellsU32 h1' with ⟨hcs,hx⟩ | ⟨a,len,cap,zs,hcs,_,hl,hm,hz,hx,hcell,hwz⟩
    · obtain rfl:c1 = .slice none 0 0:=by simpa using hcs
      exact ⟨b,[],_,_,Wd.nil,rfl,by simp [Rel],⟨none,0,rfl,Nat.le_refl _,trivial⟩,rfl,rfl⟩
    · obtain rfl:c1 = .slice (some a) len cap:=by simpa using hcs
      simp only [if_true] at hz
      have hlen:(zs.take len).length=len:=by rw [List.length_take]; omega
      refine ⟨b,zs.take len,_,_,fun w hw=>?_,rfl,by simp [Rel],⟨some a,cap,by rw [hlen],by rw [hlen]; exact hl,row_of_ints hcell (by omega)⟩,rfl,rfl⟩
      have:=hwz w (List.mem_of_mem_take hw)
      simp only [Lit.wf,Bool.and_eq_true,decide_eq_true_eq] at this
      exact ⟨this.1,Int.lt_of_le_of_lt this.2 (by decide)⟩
theorem rat_cells {n : Nat} {cs : List Value} {y : DataW H × List MemPlace} (h : DataW.trod enc Tryz.prog W 0 (fun _ => true) true n 47 cs = some y) :
    ∃ r:RQ,r.wd∧RelL (fun _=>True) (hp W) (cR r) cs∧∀ c∈cs,c.oneCell'=true:=by
  obtain ⟨y0,y1,m,-,hl,h0,h1⟩:=trod_struct2 Tryz.underlying47 h
  rw [cellsRAT] at hl
  match cs,hl with
  | [c0,c1,c2,c3],_ =>
    have h0':DataW.trod enc Tryz.prog W 0 (fun _=>true) true m 45 [c0,c1]=some y0:=by simpa [cellsINT] using h0
    have h1':DataW.trod enc Tryz.prog W 0 (fun _=>true) true m 45 [c2,c3]=some y1:=by simpa [cellsINT] using h1
    obtain ⟨b,ws,d0,d1,w1,e1,a1,a2,o1,o2⟩:=int_cells h0'
    obtain ⟨b',vs,d2,d3,w2,e2,a3,a4,o3,o4⟩:=int_cells h1'
    simp only [List.cons.injEq,and_true] at e1 e2
    obtain ⟨rfl,rfl⟩:=e1
    obtain ⟨rfl,rfl⟩:=e2
    refine ⟨⟨b,ws,b',vs⟩,⟨w1,w2⟩,⟨_,_,rfl,a1,_,_,rfl,a2,_,_,rfl,a3,_,_,rfl,a4,rfl⟩,fun c hc=>?_⟩
    simp only [List.mem_cons,List.not_mem_nil,or_false] at hc
    rcases hc with rfl | rfl | rfl | rfl <;> assumption
theorem rats_trod {n : Nat} {v : Value} {y : DataW H × List MemPlace} (h : DataW.trod enc Tryz.prog W 0 (fun _ => true) true n 40 [v] = some y) :
    ∃ l:List RQ,(∀ r∈l,r.wd)∧Rel (fun _=>True) (hp W) (pVR l) v∧v.oneCell'=true:=by
  rcases DataW.trod_slice Tryz.underlying40 h with ⟨hcs,hx⟩ | ⟨a,len,cap,elems,rest,m,_,hcs,hx,_,hl,_,hlen,hel,_,_⟩
  · obtain rfl:v = .slice none 0 0:=by simpa using hcs
    exact ⟨[],by simp,⟨none,0,rfl,Nat.le_refl _,trivial⟩,rfl⟩
  · obtain rfl:v = .slice (some a) len cap:=by simpa using hcs
    have each:∀ i,i<len→∃ r:RQ,r.wd∧∀ j x,(cR r)[j]? = some x→∃ u,W.cell? ((a.add (i*4)).add j)=some u∧u.oneCell'=true∧Rel (fun _=>True) (hp W) x u:=fun i hi=>by
      have h1:=hel i hi
      rw [cellsRAT,List.getElem?_eq_getElem (by omega),Option.bind_eq_some_iff] at h1
      obtain ⟨cs,h2,h3⟩:=h1
      obtain ⟨-,h4,h5⟩:=World.cells?_some h2
      obtain ⟨r,hw,hr,ho⟩:=rat_cells h3
      refine ⟨r,hw,fun j x hx=>?_⟩
      obtain ⟨u,hu,hru⟩:=hr.get hx
      have hj:j<4:=by have:=(List.getElem?_eq_some_iff.1 hu).1; omega
      refine ⟨u,?_,ho u (List.mem_of_getElem? hu),hru⟩
      rw [← hu,← h5 j hj]
    have build:∀ k,k≤len→∃ l:List RQ,l.length=k∧(∀ r∈l,r.wd)∧∀ i,i<k→∀ j x,(cR (l.getD i default))[j]? = some x→∃ u,W.cell? ((a.add (i*4)).add j)=some u∧u.oneCell'=true∧Rel (fun _=>True) (hp W) x u:=fun k=>by
      induction k with
      | zero=>exact fun _=>⟨[],rfl,by simp,fun i hi=>absurd hi (Nat.not_lt_zero _)⟩
      | succ k ih =>
        intro hk
        obtain ⟨l,h1,h2,h3⟩:=ih (by omega)
        obtain ⟨r,hw,hr⟩:=each k (by omega)
        refine ⟨l++[r],by simp [h1],fun q hq=>?_,fun i hi j x hx=>?_⟩
        · rcases List.mem_append.1 hq with hq | hq
          · exact h2 q hq
          · rw [List.mem_singleton.1 hq]; exact hw
        · by_cases e:i<k
          · refine h3 i e j x ?_
            rw [List.getD_eq_getElem?_getD,List.getElem?_append_left (by omega),← List.getD_eq_getElem?_getD] at hx
            exact hx
          · obtain rfl:i=k:=by omega
            refine hr j x ?_
            rw [List.getD_eq_getElem?_getD,List.getElem?_append_right (by omega),h1,Nat.sub_self] at hx
            exact hx
    obtain ⟨l,h1,h2,h3⟩:=build len (Nat.le_refl _)
    refine ⟨l,h2,⟨some a,cap,by rw [h1],by rw [h1]; exact hl,?_⟩,rfl⟩
    by_cases h0:l.length=0
    · rw [List.eq_nil_of_length_eq_zero h0]; trivial
    · obtain ⟨u0,hu0,-⟩:=h3 0 (by omega) 0 _ rfl
      obtain ⟨b,off,spot⟩:=a
      have hspot:spot=none:=by simpa [Addr.add] using World.cell?_spot hu0
      subst hspot
      refine RelS.of trivial (RelAt.of fun i x hx=>?_)
      have hi:i<l.length*4:=by
        have:=(List.getElem?_eq_some_iff.1 hx).1
        rwa [encR_length] at this
      have hg:=getR (v:=l) (i:=i / 4) (by omega)
      have hx':(cR (l.getD (i / 4) default))[i % 4]? = some x:=by
        rw [← hg,List.getElem?_take,if_pos (by omega),List.getElem?_drop,show i / 4*4+i % 4=i by omega]
        exact hx
      obtain ⟨u,hu,ho,hru⟩:=h3 (i / 4) (by omega) (i % 4) x hx'
      refine ⟨u,?_,ho,hru⟩
      rw [Go.WideShapes.add_plain,Go.WideShapes.add_plain,Nat.add_assoc,show i / 4*4+i % 4=i by omega] at hu
      rw [← cell_eq]; exact hu
theorem rows_trod {n : Nat} {v : Value} {y : DataW H × List MemPlace} (h : DataW.trod enc Tryz.prog W 0 (fun _ => true) true n 22 [v] = some y) :
    ∃ m:List (List RQ),WdM m∧Rel (fun _=>True) (hp W) (.sl m.length (encMR m)) v∧v.oneCell'=true:=by
  rcases DataW.trod_slice Tryz.underlying22 h with ⟨hcs,hx⟩ | ⟨a,len,cap,elems,rest,m,_,hcs,hx,_,hl,_,hlen,hel,_,_⟩
  · obtain rfl:v = .slice none 0 0:=by simpa using hcs
    exact ⟨[],by simp [WdM],⟨none,0,rfl,Nat.le_refl _,trivial⟩,rfl⟩
  · obtain rfl:v = .slice (some a) len cap:=by simpa using hcs
    have each:∀ i,i<len→∃ (l:List RQ) (u:Value),(∀ r∈l,r.wd)∧W.cell? (a.add i)=some u∧u.oneCell'=true∧Rel (fun _=>True) (hp W) (pVR l) u:=fun i hi=>by
      have h1:=hel i hi
      rw [cells40,List.getElem?_eq_getElem (by omega),Option.bind_eq_some_iff] at h1
      obtain ⟨cs,h2,h3⟩:=h1
      obtain ⟨-,h4,h5⟩:=World.cells?_some h2
      match cs,h4 with
      | [u],_ =>
        obtain ⟨l,hw,hr,ho⟩:=rats_trod h3
        refine ⟨l,u,hw,?_,ho,hr⟩
        have:=h5 0 (by decide)
        rw [Nat.mul_one] at this
        simpa [Addr.add] using this
    have build:∀ k,k≤len→∃ l:List (List RQ),l.length=k∧WdM l∧∀ i,i<k→∃ u,W.cell? (a.add i)=some u∧u.oneCell'=true∧Rel (fun _=>True) (hp W) (pVR (l.getD i [])) u:=fun k=>by
      induction k with
      | zero=>exact fun _=>⟨[],rfl,by simp [WdM],fun i hi=>absurd hi (Nat.not_lt_zero _)⟩
      | succ k ih =>
        intro hk
        obtain ⟨l,h1,h2,h3⟩:=ih (by omega)
        obtain ⟨r,u,hw,hc,ho,hr⟩:=each k (by omega)
        refine ⟨l++[r],by simp [h1],fun q hq=>?_,fun i hi=>?_⟩
        · rcases List.mem_append.1 hq with hq | hq
          · exact h2 q hq
          · rw [List.mem_singleton.1 hq]; exact hw
        · by_cases e:i<k
          · obtain ⟨u,g1,g2,g3⟩:=h3 i e
            refine ⟨u,g1,g2,?_⟩
            rwa [List.getD_eq_getElem?_getD,List.getElem?_append_left (by omega),← List.getD_eq_getElem?_getD]
          · obtain rfl:i=k:=by omega
            refine ⟨u,hc,ho,?_⟩
            rwa [List.getD_eq_getElem?_getD,List.getElem?_append_right (by omega),h1,Nat.sub_self]
    obtain ⟨l,h1,h2,h3⟩:=build len (Nat.le_refl _)
    refine ⟨l,h2,⟨some a,cap,by rw [h1],by rw [h1]; exact hl,?_⟩,rfl⟩
    by_cases h0:l.length=0
    · rw [List.eq_nil_of_length_eq_zero h0]; trivial
    · obtain ⟨u0,hu0,-⟩:=h3 0 (by omega)
      obtain ⟨b,off,spot⟩:=a
      have hspot:spot=none:=by simpa [Addr.add] using World.cell?_spot hu0
      subst hspot
      refine RelS.of trivial (RelAt.of fun i x hx=>?_)
      have hi:i<l.length:=by
        have:=(List.getElem?_eq_some_iff.1 hx).1
        rwa [encMR_length] at this
      rw [getMR hi] at hx
      obtain rfl:=Option.some.inj hx
      obtain ⟨u,hu,ho,hru⟩:=h3 i (by omega)
      refine ⟨u,?_,ho,hru⟩
      rw [Go.WideShapes.add_plain] at hu
      rw [← cell_eq]; exact hu
theorem mat_arg {r : Reach} {b0 : Nat} {v : Value} {d : DataW H} {p : List MemPlace} (hv : Value.okWide Tryz.prog W r b0 24 v) (h : DataW.Trod enc Tryz.prog W 0 (fun _ => true) true 24 v d p) :
    ∃ (c:Int) (m:List (List RQ)),WdM m∧(-9223372036854775808≤c∧c<9223372036854775808)∧Rel (fun _=>True) (hp W) (pMR c m) v:=by
  obtain ⟨cs,rfl,-⟩:=okWide_struct Tryz.underlying24 hv
  obtain ⟨n,h⟩:=h
  obtain ⟨y0,y1,m,-,hl,h0,h1⟩:=trod_struct2 Tryz.underlying24 h
  rw [cells24] at hl
  match hcs:(Value.agg cs).cells.toList,hl with
  | [c0,c1],_ =>
    rw [hcs] at h0 h1
    have h0':DataW.trod enc Tryz.prog W 0 (fun _=>true) true m 3 [c0]=some y0:=by simpa [cells3] using h0
    have h1':DataW.trod enc Tryz.prog W 0 (fun _=>true) true m 22 [c1]=some y1:=by simpa [cells3,cells22] using h1
    obtain ⟨k,hk,-,hwf⟩:=DataW.trod_int Tryz.underlying3 h0'
    obtain rfl:c0 = .int .i64 k:=by simpa using hk
    obtain ⟨l,hw,hr,ho⟩:=rows_trod h1'
    have e':cs.toList=[.int .i64 k,c1]:=by simpa [Value.cells] using hcs
    simp only [Lit.wf,Bool.and_eq_true,decide_eq_true_eq] at hwf
    refine ⟨k,l,hw,⟨hwf.1,Int.lt_of_le_of_lt hwf.2 (by decide)⟩,cs.toList,by simp,by rw [e']; exact ⟨_,_,rfl,by simp [Rel],_,_,rfl,hr,rfl⟩,?_⟩
    rw [e']
    intro c hc
    simp only [List.mem_cons,List.not_mem_nil,or_false] at hc
    rcases hc with rfl | rfl
    · rfl
    · exact ho
end
end Go.Proofs.YtjagfionflbjbaaGreat.N
