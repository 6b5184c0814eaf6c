/- Part E of the proof: lemmas for the walks of the given functions. No statement of its own. -/
import Derived.RecoverIn
import Derived.LaidEql
import Derived.Test.YtjagfionflbjbaaGreatPD
set_option linter.unusedVariables false
set_option linter.unusedSimpArgs false
set_option linter.deprecated false
set_option maxRecDepth 100000
set_option maxHeartbeats 4000000
namespace Go.Proofs.YtjagfionflbjbaaGreat.N
open Go Go.Proofs.YtjagfionflbjbaaGreat.SH Go.Proofs.YtjagfionflbjbaaGreat.NumA
open Go.Proofs.Tryz renaming call65→cl65,call91→cl91,isAgg3→ag3,isAgg73→ag73,isAgg77→ag77,sizeOf77→sz77,underlying77→un77,underlying79→un79
@[reducible] def nsI4:List Nat:=[603,604,605,999]
theorem cntF_succ {m:List (List Rat)}{p c i:Nat}:cntF m p c (i+1)=cntF m p c i+(if othF m p c i=true then 1 else 0):=by
 rw [cntF,List.range_succ,List.filter_append,List.length_append]
 congr 1
 by_cases h:othF m p c i=true
 ·rw [if_pos h,List.filter_cons_of_pos h]; rfl
 ·rw [if_neg h,List.filter_cons_of_neg h]; rfl
theorem cntF_le {m:List (List Rat)}{p c:Nat}:∀ {i j:Nat},i≤j→cntF m p c i≤cntF m p c j
 | i,j,h=>by
  induction j with
  | zero =>
   obtain rfl:i=0:=by omega
   exact Nat.le_refl _
  | succ j ih =>
   by_cases e:i=j+1
   ·rw [e]; exact Nat.le_refl _
   ·rw [cntF_succ]; have:=ih (by omega); omega
theorem lkY {ns:List Nat}{sl:List (Nat×PV)}{w:Nat×Blk}{U' r:List (Nat×Blk)}{k:Nat}{B:Blk}(h:TailI ns U')(hw:(k == w.1)=false)(hk:ns.contains k=true)(hr:r.lookup k=some B):St.blk ⟨sl,([w]++U')++r⟩ k=some B:=by
 show List.lookup k _=some B
 rw [lookup_append,lookup_append,h.no k hk,Option.or_none,List.lookup_cons,hw]
 exact hr
theorem atM {M m:List (List Rat)}{n i c:Nat}(hl:M.length=n)(hr:M.getD i []=m.getD i [])(hi:i<n)(hc:c<(m.getD i []).length):SaysG E (fun _=>true) 91 [.ref 1001 0 n n,.p (vZ i),.p (vZ c)] (mat1 0 M) (mat1 0 M) (.p (pQ ((m.getD i []).getD c 0))):=by
 subst hl
 rw [← hr] at hc ⊢
 exact at_says 0 M i c dC hi hc
theorem othersI_hit (cols p c n l:Nat)(m:List (List Rat))(v:PV)(M:Nat→List (List Rat))(U:Nat→List (Nat×Blk))(encs:Nat→Pure×Pure)(hU:∀ k,k≤n→TailI nsI4 (U k))(hsub:∀ k,k≤n→∀ q B,(mat1 0 (M k)).lookup q=some B→(U k).lookup q=some B)(hlen:∀ k,k≤n→(M k).length=m.length)(hrow:∀ i,i<m.length→(M (cntF m p c i)).getD i []=m.getD i [])(hcl:∀ i,i<m.length→c<(m.getD i []).length)(hq:∀ i,i<m.length→qw ((m.getD i []).getD c 0)<1000000000)(hn:n=cntF m p c m.length)(henc:∀ i,i<m.length→othF m p c i=true→encs (cntF m p c i)=(vZ i,pQ ((m.getD i []).getD c 0)))(hml:m.length<1000000000):∀ (F:Fr) (code:Code),Tryz.f126.body=some code→XFr E ([(603,⟨73,1,.mix [.at_ 999 0 3]⟩),bxI 604 p,bxI 605 c]++([wV cols m.length v]++U 0)) 42 F→Go.Proofs.YtjagfionflbjbaaGreat.SH.Yields E.P F l n encs (fun k=>[wV cols m.length v]++U k)→Exec E.P F code ⟨[(0,.clo (.yield l) [] []),(1,.at_ 603 0 1),(2,.at_ 604 0 1),(3,.at_ 605 0 1)],[(603,⟨73,1,.mix [.at_ 999 0 3]⟩),bxI 604 p,bxI 605 c,wV cols m.length v]++U 0⟩ (fun e S'=>(e = .normal∨e = .ret)∧HasB S' ([(603,⟨73,1,.mix [.at_ 999 0 3]⟩),bxI 604 p,bxI 605 c]++([wV cols m.length v]++U n))):=by
 intro F code hcode XF hY
 injection (show some _=some code from hcode) with hcode
 subst hcode
 have hG:=XF.g
 have hX:=XF.x
 have hN:=XF.ng
 have L:=@lti _ _ XF.nt
 have hs0:(U 0).lookup 1001=some (hdB 0 (M 0)):=hsub 0 (Nat.zero_le _) _ _ hdL
 have hl0:=hlen 0 (Nat.zero_le _)
 have cle:∀ i,i≤m.length→cntF m p c i≤n:=fun i hi=>by rw [hn]; exact cntF_le hi
 refine exr (sw (c_l1 ag73 rF rF L) t1 t1 ?_)
 refine sw (core_nilCheck rX L) t1 t1 ?_
 refine sw (c_fa un79 rfl sz77 dC rX L) t1 t1 ?_
 refine sw (c_l1 ag77 rF rF L) t1 t1 ?_
 refine sw (c_lr un77 (by first | exact refsB_length _ _ _ | exact (refsB_length _ _ _).trans sM | exact (refsB_length _ _ _).trans (by assumption)) L) t1 ⟨rdTI [_,_,_,_] (hU 0 (Nat.zero_le _)) rfl (hs0),trivial⟩ ?_
 refine mV L rfl ?_
 refine seq_nil ⟨[(0,_),(1,_),(2,_),(3,_),(10,_),(11,_)],(603,_) :: (604,_) :: (605,_) :: (999,_) :: ((U 0)),t6,⟨rfl,rfl,rfl,rfl,(hbTI [_,_,_,_] (hU 0 (Nat.zero_le _)) rfl)⟩,?_⟩
 refine ex_block ?_
 refine exlT (α:=Nat) (fun i=>[(11,vi (i:Int))]) (fun i=>[]) (fun i=>(U (cntF m p c i))) (fun i=>i≤m.length) (fun i=>m.length - i) (0) (sl:=[(0,_),(1,_),(2,_),(3,_),(10,_)]) (hb:=[(603,_),(604,_),(605,_),(999,_)]) ?_ ⟨oR,rfl,rfl,rfl,rfl,rfl,trivial⟩ ⟨rfl,rfl,rfl,rfl,(hbTI [_,_,_,_] (hU 0 (Nat.zero_le _)) rfl)⟩ ?_
 ·exact Nat.zero_le _
 intro i hi
 refine exr (sw (c_ls L) t2 t0 ?_)
 refine seq_nil ⟨[(0,_),(1,_),(2,_),(3,_),(10,_),(11,_),(12,_)],(603,_) :: (604,_) :: (605,_) :: (999,_) :: ((U (cntF m p c i))),t7,⟨rfl,rfl,rfl,rfl,(hbTI [_,_,_,_] (hU _ (cle i hi)) rfl)⟩,?_⟩
 refine ex_seq ?_
 refine ex_if rfl (fun hc=>?_) (fun hc=>?_)
 ·have hc:=dt hc
  have hil:i<m.length:=by omega
  refine ex_skip (xq ?_)
  refine ex_seq (ex_block (exr (mV L rfl (aV L rfl ?_))))
  refine seq_nil ⟨[(0,_),(1,_),(2,_),(3,_),(5,_),(10,_),(11,_)],(603,_) :: (604,_) :: (605,_) :: (999,_) :: ((U (cntF m p c i))),t7,⟨rfl,rfl,rfl,rfl,(hbTI [_,_,_,_] (hU _ (cle i hi)) rfl)⟩,?_⟩
  have atI:=atM (c:=c) (hlen _ (cle i hi)) (hrow i hil) hil (hcl i hil)
  have zI:=zero_says ((m.getD i []).getD c 0) (hq i hil)
  by_cases hip:i=p
  ·have ho:othF m p c i=false:=by rw [othF,decide_eq_false (by simpa using hip)]; rfl
   refine exd rF ?_
   refine mV L rfl (sw (c_l1 ag3 rF rF L) t1 t1 ?_)
   refine sw (c_n L) t2 t0 (mV L rfl (swn (g:=17) rfl sO L rfl (swn (g:=17) rfl sO L rfl (swn (g:=17) rfl sO L rfl (swn (g:=17) rfl sO L rfl (swn (g:=17) rfl sO L rfl (swn (g:=17) rfl sO L rfl (swn (g:=17) rfl sO L rfl (swn (g:=17) rfl sO L rfl (swn (g:=17) rfl sO L rfl (sw (c_pf sO L) t2 t0 ?_)))))))))))
   refine mV L rfl (swn (g:=28) rfl rfl L rfl (swn (g:=28) rfl rfl L rfl (swn (g:=28) rfl rfl L rfl (swn (g:=28) rfl rfl L rfl (swn (g:=28) rfl rfl L rfl (swn (g:=28) rfl rfl L rfl (swn (g:=28) rfl rfl L rfl (swn (g:=28) rfl rfl L rfl (swn (g:=28) rfl rfl L rfl (swn (g:=28) rfl rfl L rfl (swn (g:=28) rfl rfl L rfl ?_)))))))))))
   refine sw (c_pf rfl L) t2 t0 ?_
   refine seq_nil ⟨aokFn (cfI nsI4) [⟨[5],[],[14],[]⟩,⟨[2],[604],[15],[]⟩,⟨[14,15],[],[16],[]⟩,⟨[16],[],[17],[]⟩,⟨[17],[],[18],[]⟩,⟨[17],[],[19],[]⟩,⟨[17],[],[20],[]⟩,⟨[17],[],[21],[]⟩,⟨[17],[],[22],[]⟩,⟨[17],[],[23],[]⟩,⟨[17],[],[24],[]⟩,⟨[17],[],[25],[]⟩,⟨[17],[],[26],[]⟩,⟨[17],[],[27],[]⟩,⟨[27],[],[28],[]⟩,⟨[28],[],[29],[]⟩,⟨[28],[],[30],[]⟩,⟨[28],[],[31],[]⟩,⟨[28],[],[32],[]⟩,⟨[28],[],[33],[]⟩,⟨[28],[],[34],[]⟩,⟨[28],[],[35],[]⟩,⟨[28],[],[36],[]⟩,⟨[28],[],[37],[]⟩,⟨[28],[],[38],[]⟩,⟨[28],[],[39],[]⟩,⟨[28],[],[40],[]⟩] (.cons (cf0 rfl) (.cons (cf0 rfl) (.cons (cf0 rfl) (.cons (cf0 rfl) (.cons (cf0 rfl) (.cons (cf0 rfl) (.cons (cf0 rfl) (.cons (cf0 rfl) (.cons (cf0 rfl) (.cons (cf0 rfl) (.cons (cf0 rfl) (.cons (cf0 rfl) (.cons (cf0 rfl) (.cons (cf0 rfl) (.cons (cf0 rfl) (.cons (cf0 rfl) (.cons (cf0 rfl) (.cons (cf0 rfl) (.cons (cf0 rfl) (.cons (cf0 rfl) (.cons (cf0 rfl) (.cons (cf0 rfl) (.cons (cf0 rfl) (.cons (cf0 rfl) (.cons (cf0 rfl) (.cons (cf0 rfl) (.cons (cf0 rfl)  .nil))))))))))))))))))))))))))) rfl dC,[(0,_),(1,_),(2,_),(3,_),(10,_),(11,_),(40,_)],(603,_) :: (604,_) :: (605,_) :: (999,_) :: ((U (cntF m p c i))),t7,⟨rfl,rfl,rfl,rfl,(hbTI [_,_,_,_] (hU _ (cle i hi)) rfl)⟩,?_⟩
   refine ex_false rfl rfl ?_
   refine ex_skip (xq ?_)
   refine exr0 (sw (c_ad L (w64 oM oM)) t2 t0 (mV L rfl (seq_nil ?_)))
   exact ⟨i+1,oM,by omega,le_of ⟨oR,rfl,rfl,rfl,rfl,rfl,trivial⟩ ⟨rfl,rfl,rfl,rfl,(by rw [cntF_succ,ho,if_neg Bool.false_ne_true,Nat.add_zero]; exact hbTI [_,_,_,_] (hU _ (cle i hi)) rfl)⟩⟩
  ·by_cases hz:(m.getD i []).getD c 0=0
   ·have ho:othF m p c i=false:=by rw [othF,nzI,decide_eq_true hz]; simp
    refine exd rF ?_
    refine mV L rfl (sw (c_l1 ag3 rF rF L) t1 t1 ?_)
    refine sw (c_n L) t2 t0 (mV L rfl (swg (g:=17) rfl sO (c_l1 ag73 rF rF L) rfl t1 t1 ?_))
    refine swg (g:=17) rfl sO (core_nilCheck rX L) rfl t1 t1 ?_
    refine swg (g:=17) rfl sO (c_fa un79 rfl sz77 dC rX L) rfl t1 t1 ?_
    refine swg (g:=17) rfl sO (c_l1 ag77 rF rF L) rfl t1 t1 ?_
    refine gV (g:=17) rfl sO L rfl rfl (swg (g:=17) rfl sO (c_l1 ag3 rF rF L) rfl t1 t1 ?_)
    refine swg (g:=17) rfl sO (core_callI hG hX hN atI rfl L (args_fn (ys:=[_,_,_]) cl91 rfl rfl) (mat1_ok dC _).nd (mat1_ok dC _).whole (fun q h=>by cases h)) rfl t3 (readsB_of (hasB_of (mat1_ok dC _).nd fun k B h=>rdTI [_,_,_,_] (hU _ (cle i hi)) rfl (hsub _ (cle i hi) k B h))) ?_
    refine swg (g:=17) rfl sO (c_c hG hX cl65 rfl hN zI L) rfl t1 t0 (swg (g:=17) rfl sO (c_no L) rfl t1 t0 (sw (c_pt sO L) t2 t0 (mV L rfl (swn (g:=28) rfl (by rw [decide_eq_true hz]) L rfl ?_))))
    refine swn (g:=28) rfl (by rw [decide_eq_true hz]) L rfl ?_
    refine swn (g:=28) rfl (by rw [decide_eq_true hz]) L rfl ?_
    refine swn (g:=28) rfl (by rw [decide_eq_true hz]) L rfl ?_
    refine swn (g:=28) rfl (by rw [decide_eq_true hz]) L rfl ?_
    refine swn (g:=28) rfl (by rw [decide_eq_true hz]) L rfl ?_
    refine swn (g:=28) rfl (by rw [decide_eq_true hz]) L rfl ?_
    refine swn (g:=28) rfl (by rw [decide_eq_true hz]) L rfl ?_
    refine swn (g:=28) rfl (by rw [decide_eq_true hz]) L rfl ?_
    refine swn (g:=28) rfl (by rw [decide_eq_true hz]) L rfl ?_
    refine swn (g:=28) rfl (by rw [decide_eq_true hz]) L rfl ?_
    refine sw (c_pf (by rw [decide_eq_true hz]; rfl) L) t2 t0 ?_
    refine seq_nil ⟨aokFn (cfI nsI4) [⟨[5],[],[14],[]⟩,⟨[2],[604],[15],[]⟩,⟨[14,15],[],[16],[]⟩,⟨[16],[],[17],[]⟩,⟨[17,1],[603],[18],[]⟩,⟨[17,18],[999],[19],[]⟩,⟨[17,19],[999],[20],[]⟩,⟨[17,20],[999],[21],[]⟩,⟨[17,5],[],[22],[]⟩,⟨[17,3],[605],[23],[]⟩,⟨[17,21,22,23],[1000],[24],[]⟩,⟨[17,24],[],[25],[]⟩,⟨[17,25],[],[26],[]⟩,⟨[17,26],[],[27],[]⟩,⟨[27],[],[28],[]⟩,⟨[28],[],[29],[]⟩,⟨[28],[],[30],[]⟩,⟨[28],[],[31],[]⟩,⟨[28],[],[32],[]⟩,⟨[28],[],[33],[]⟩,⟨[28],[],[34],[]⟩,⟨[28],[],[35],[]⟩,⟨[28],[],[36],[]⟩,⟨[28],[],[37],[]⟩,⟨[28],[],[38],[]⟩,⟨[28],[],[39],[]⟩,⟨[28],[],[40],[]⟩] (.cons (cf0 rfl) (.cons (cf0 rfl) (.cons (cf0 rfl) (.cons (cf0 rfl) (.cons (cf0 rfl) (.cons (cf0 rfl) (.cons (cf0 rfl) (.cons (cf0 rfl) (.cons (cf0 rfl) (.cons (cf0 rfl) (.cons (cfT rfl rfl (cfI_sub (hU _ (cle i hi)) (hsub _ (cle i hi)) (mat1_ok dC _).nd) rfl (fun _ h=>by cases h)) (.cons (cf0 rfl) (.cons (cf0 rfl) (.cons (cf0 rfl) (.cons (cf0 rfl) (.cons (cf0 rfl) (.cons (cf0 rfl) (.cons (cf0 rfl) (.cons (cf0 rfl) (.cons (cf0 rfl) (.cons (cf0 rfl) (.cons (cf0 rfl) (.cons (cf0 rfl) (.cons (cf0 rfl) (.cons (cf0 rfl) (.cons (cf0 rfl) (.cons (cf0 rfl)  .nil))))))))))))))))))))))))))) rfl dC,[(0,_),(1,_),(2,_),(3,_),(10,_),(11,_),(40,_)],(603,_) :: (604,_) :: (605,_) :: (999,_) :: ((U (cntF m p c i))),t7,⟨rfl,rfl,rfl,rfl,(hbTI [_,_,_,_] (hU _ (cle i hi)) rfl)⟩,?_⟩
    refine ex_false rfl rfl ?_
    refine ex_skip (xq ?_)
    refine exr0 (sw (c_ad L (w64 oM oM)) t2 t0 (mV L rfl (seq_nil ?_)))
    exact ⟨i+1,oM,by omega,le_of ⟨oR,rfl,rfl,rfl,rfl,rfl,trivial⟩ ⟨rfl,rfl,rfl,rfl,(by rw [cntF_succ,ho,if_neg Bool.false_ne_true,Nat.add_zero]; exact hbTI [_,_,_,_] (hU _ (cle i hi)) rfl)⟩⟩
   ·have ho:othF m p c i=true:=by rw [othF,nzI,decide_eq_false hz,decide_eq_true hip]; rfl
    have hk1:cntF m p c i+1≤n:=by
     have:=cle (i+1) hil
     rw [cntF_succ,if_pos ho] at this; exact this
    refine exd rF ?_
    refine mV L rfl (sw (c_l1 ag3 rF rF L) t1 t1 ?_)
    refine sw (c_n L) t2 t0 (mV L rfl (swg (g:=17) rfl sO (c_l1 ag73 rF rF L) rfl t1 t1 ?_))
    refine swg (g:=17) rfl sO (core_nilCheck rX L) rfl t1 t1 ?_
    refine swg (g:=17) rfl sO (c_fa un79 rfl sz77 dC rX L) rfl t1 t1 ?_
    refine swg (g:=17) rfl sO (c_l1 ag77 rF rF L) rfl t1 t1 ?_
    refine gV (g:=17) rfl sO L rfl rfl (swg (g:=17) rfl sO (c_l1 ag3 rF rF L) rfl t1 t1 ?_)
    refine swg (g:=17) rfl sO (core_callI hG hX hN atI rfl L (args_fn (ys:=[_,_,_]) cl91 rfl rfl) (mat1_ok dC _).nd (mat1_ok dC _).whole (fun q h=>by cases h)) rfl t3 (readsB_of (hasB_of (mat1_ok dC _).nd fun k B h=>rdTI [_,_,_,_] (hU _ (cle i hi)) rfl (hsub _ (cle i hi) k B h))) ?_
    refine swg (g:=17) rfl sO (c_c hG hX cl65 rfl hN zI L) rfl t1 t0 (swg (g:=17) rfl sO (c_no L) rfl t1 t0 (sw (c_pt sO L) t2 t0 (mV L rfl (gV (g:=28) rfl (by rw [decide_eq_false hz] <;> rfl) L rfl rfl ?_))))
    refine gV (g:=28) rfl (by rw [decide_eq_false hz] <;> rfl) L rfl rfl ?_
    refine swg (g:=28) rfl (by rw [decide_eq_false hz] <;> rfl) (c_l1 ag73 rF rF L) rfl t1 t1 ?_
    refine swg (g:=28) rfl (by rw [decide_eq_false hz] <;> rfl) (core_nilCheck rX L) rfl t1 t1 ?_
    refine swg (g:=28) rfl (by rw [decide_eq_false hz] <;> rfl) (c_fa un79 rfl sz77 dC rX L) rfl t1 t1 ?_
    refine swg (g:=28) rfl (by rw [decide_eq_false hz] <;> rfl) (c_l1 ag77 rF rF L) rfl t1 t1 ?_
    refine gV (g:=28) rfl (by rw [decide_eq_false hz] <;> rfl) L rfl rfl ?_
    refine swg (g:=28) rfl (by rw [decide_eq_false hz] <;> rfl) (c_l1 ag3 rF rF L) rfl t1 t1 ?_
    refine swg (g:=28) rfl (by rw [decide_eq_false hz] <;> rfl) (core_callI hG hX hN atI rfl L (args_fn (ys:=[_,_,_]) cl91 rfl rfl) (mat1_ok dC _).nd (mat1_ok dC _).whole (fun q h=>by cases h)) rfl t3 (readsB_of (hasB_of (mat1_ok dC _).nd fun k B h=>rdTI [_,_,_,_] (hU _ (cle i hi)) rfl (hsub _ (cle i hi) k B h))) ?_
    refine swYg (k:=cntF m p c i) hY hk1 rfl (by rw [decide_eq_false hz] <;> rfl) L rfl ⟨rfl,(by rw [henc i hil ho]; rfl),(by rw [henc i hil ho]; rfl),trivial⟩ ⟨rfl,readsB_of (hbTI [_,_,_,_] (hU _ (cle i hi)) rfl)⟩ ?_
    refine swg (g:=28) rfl (by rw [decide_eq_false hz] <;> rfl) (c_no L) rfl t1 t0 ?_
    refine sw (c_pt (by rw [decide_eq_false hz]; rfl) L) t2 t0 ?_
    refine seq_nil ⟨aokFn (cfI nsI4) [⟨[5],[],[14],[]⟩,⟨[2],[604],[15],[]⟩,⟨[14,15],[],[16],[]⟩,⟨[16],[],[17],[]⟩,⟨[17,1],[603],[18],[]⟩,⟨[17,18],[999],[19],[]⟩,⟨[17,19],[999],[20],[]⟩,⟨[17,20],[999],[21],[]⟩,⟨[17,5],[],[22],[]⟩,⟨[17,3],[605],[23],[]⟩,⟨[17,21,22,23],[1000],[24],[]⟩,⟨[17,24],[],[25],[]⟩,⟨[17,25],[],[26],[]⟩,⟨[17,26],[],[27],[]⟩,⟨[27],[],[28],[]⟩,⟨[28,0],[],[29],[]⟩,⟨[28,5],[],[30],[]⟩,⟨[28,1],[603],[31],[]⟩,⟨[28,31],[999],[32],[]⟩,⟨[28,32],[999],[33],[]⟩,⟨[28,33],[999],[34],[]⟩,⟨[28,5],[],[35],[]⟩,⟨[28,3],[605],[36],[]⟩,⟨[28,34,35,36],[1000],[37],[]⟩,⟨[28,29,30,37],[999,1000],[38],[999,1000]⟩,⟨[28,38],[],[39],[]⟩,⟨[28,39],[],[40],[]⟩] (.cons (cf0 rfl) (.cons (cf0 rfl) (.cons (cf0 rfl) (.cons (cf0 rfl) (.cons (cf0 rfl) (.cons (cf0 rfl) (.cons (cf0 rfl) (.cons (cf0 rfl) (.cons (cf0 rfl) (.cons (cf0 rfl) (.cons (cfT rfl rfl (cfI_sub (hU _ (cle i hi)) (hsub _ (cle i hi)) (mat1_ok dC _).nd) rfl (fun _ h=>by cases h)) (.cons (cf0 rfl) (.cons (cf0 rfl) (.cons (cf0 rfl) (.cons (cf0 rfl) (.cons (cf0 rfl) (.cons (cf0 rfl) (.cons (cf0 rfl) (.cons (cf0 rfl) (.cons (cf0 rfl) (.cons (cf0 rfl) (.cons (cf0 rfl) (.cons (cf0 rfl) (.cons (cfT rfl rfl (cfI_sub (hU _ (cle i hi)) (hsub _ (cle i hi)) (mat1_ok dC _).nd) rfl (fun _ h=>by cases h)) (.cons (cfT rfl rfl (cfI_app rF (hU _ (cle i hi)) rfl) rfl (cfI_app rF (hU _ hk1) rfl)) (.cons (cf0 rfl) (.cons (cf0 rfl)  .nil))))))))))))))))))))))))))) rfl dC,[(0,_),(1,_),(2,_),(3,_),(10,_),(11,_),(40,_)],(603,_) :: (604,_) :: (605,_) :: (999,_) :: ((U (cntF m p c i+1))),t7,⟨(lkY (hU _ hk1) rfl rfl rfl),(lkY (hU _ hk1) rfl rfl rfl),(lkY (hU _ hk1) rfl rfl rfl),rfl,(hbTI2 [_] (hU _ hk1) rfl)⟩,?_⟩
    refine ex_false rfl rfl ?_
    refine ex_skip (xq ?_)
    refine exr0 (sw (c_ad L (w64 oM oM)) t2 t0 (mV L rfl (seq_nil ?_)))
    exact ⟨i+1,oM,by omega,le_of ⟨oR,rfl,rfl,rfl,rfl,rfl,trivial⟩ ⟨rfl,rfl,rfl,rfl,(by rw [cntF_succ,if_pos ho]; exact hbTI [_,_,_,_] (hU _ hk1) rfl)⟩⟩
 ·have hc:=df hc
  have e:i=m.length:=by omega
  subst e
  refine ex_exit ?_
  refine ⟨.inl rfl,rfl,rfl,rfl,rfl,(by rw [hn]; exact hbTI [_,_,_,_] (hU _ (cle _ (Nat.le_refl _))) rfl)⟩
end Go.Proofs.YtjagfionflbjbaaGreat.N
namespace Go.Proofs.YtjagfionflbjbaaGreat.SH
open Go Go.RowKit
@[reducible] def pvV (k:Nat):List Pure→PV
  | []=>.p (.a (.slice none 0 0))
  | a :: v=>.ref k 0 (v.length+1) (v.length+1)
@[reducible] def pvB (k:Nat)(e:TypeId):List Pure→List (Nat×Blk)
  | []=>[]
  | a :: v=>[(k,⟨e,1,.pure (a :: v)⟩)]
@[reducible] def pvF (k:Nat):List Pure→Option Nat
  | []=>some k
  | _ :: _=>none
theorem pvB_mem {k:Nat}{e:TypeId}{xs:List Pure}{q:Nat}{B:Blk}(h:(pvB k e xs).lookup q=some B):q=k∧B.cs.only []=true:=by
  cases xs with
  | nil=>cases h
  | cons a v =>
    simp only [pvB,List.lookup_cons] at h
    by_cases e:q=k
    · subst e; simp at h; subst h; exact ⟨rfl,rfl⟩
    · rw [show (q == k)=false by simpa using e] at h; cases h
section
variable {P:Program} {F:Fr} {d:Nat} {T:TypeId} {pos:String} {aft:Array Edge} {g:Option (Nat×Bool)} {t tx:TypeId}
theorem core_lenV {x : Operand} {k : Nat} {e : TypeId} {xs : List Pure} (hu : P.underlying t = some (.slice e)) (hlt : d < F.nt) :
    CoreOk P F ⟨some d,.call ⟨.builtin .len,#[x],#[t]⟩,T,pos,aft,g⟩ { rs:=[(x,pvV k xs)],rb:=pvB k e xs,ws:=[(d,.p (.a (.int .i64 xs.length)))] }:=by
  cases xs with
  | nil=>exact core_lenN hu hlt
  | cons a v=>exact c_lr (n:=v.length+1) (B:=⟨e,1,.pure (a :: v)⟩) hu rfl hlt
theorem core_appV {x y : Operand} {k : Nat} {e : TypeId} {ie : TypeInfo} {z : Value} {xs : List Pure} {y0 : Pure} (hu : P.underlying t = some (.slice e)) (hux : P.underlying tx = some (.slice e)) (hi : ∀ w, (typeInfo e).run P w = .ok ie w) (hz : ie.zero = some z) (hsz : ie.size = 1)
    (hzl:z.cells.size=1) (hby:2*(xs.length+1)*ie.bytes≤281474976710656) (h63:xs.length+1≤9223372036854775807) (hpk:F.pin k=none) (hlt:d<F.nt) :
    CoreOk P F ⟨some d,.call ⟨.builtin .append,#[x,y],#[t,tx]⟩,T,pos,aft,g⟩ ⟨[(x,pvV k xs),(y,.p (.sl 1 [y0]))],pvB k e xs,pvF k xs,[(d,pvV k (xs++[y0]))],pvB k e (xs++[y0])⟩:=by
  cases xs with
  | nil=>exact apN (k:=k) (m:=1) (sz:=1) (r:=1) hu hux hi hz hsz hzl (by omega) rfl rfl (by simpa using hby) (by omega) hpk hlt
  | cons a v =>
    have:=apP (P:=P) (F:=F) (d:=d) (T:=T) (pos:=pos) (aft:=aft) (g:=g) (t:=t) (tx:=tx) (x:=x) (y:=y) (k:=k) (n:=v.length+1) (m:=1) (sz:=1) (q:=(v++[y0]).length+1) (r:=(v++[y0]).length+1) (xs:=a :: v) (ys:=[y0]) hu hux hi hz hsz hzl (by omega) rfl (by simp) rfl rfl (by simp) (by simp) (by simpa using hby) (by simpa using h63) hpk hlt
    exact this
end
section
variable {P:Program} {F:Fr} {ops:Array Oper} {sl:List (Nat×PV)} {hb:List (Nat×Blk)} {op:Op} {T:TypeId} {pos:String} {aft:Array Edge} {os:List Oper} {dst:Option Nat} {rs:List (Operand×PV)} {rb wb:List (Nat×Blk)} {fr:Option Nat}
theorem swA {K : List Ann → St → Prop} {d : Nat} {v : PV} (hc : CoreOk P F ⟨dst, op, T, pos, aft, none⟩ ⟨rs, rb, fr, [(d, v)], wb⟩) (h1 : Reads ⟨sl, hb⟩ rs) (h2 : ReadsB ⟨sl, hb⟩ rb) (h3 : FreshOk ⟨sl, hb⟩ fr) (hn : SeqK P F ops ⟨(d, v) :: sl, wb ++ hb⟩ os fun As S' => K (⟨rs, rb, fr, [(d, v)], wb⟩ :: As) S') :
    SeqK P F ops ⟨sl,hb⟩ (⟨dst,op,T,pos,aft,none⟩ :: os) K :=
  let ⟨As,S',h,hK⟩:=hn
  ⟨_,S',.cons (opok_plain rfl hc) (holds_of h1 h2 h3) h,hK⟩
end
theorem tail_app {A B:List (Nat×Blk)}(hA:TailOk A)(hB:TailOk B)(hd:∀ k,A.lookup k≠none→B.lookup k=none):TailOk (A++B):=by
  refine ⟨fun k hk=>by rw [lookup_append,hA.low k hk,hB.low k hk]; rfl,?_,fun k hk=>by rw [freeHb_append,hA.free k hk,hB.free k hk]; rfl,fun j C hj i x hx q hq=>?_⟩
  · rw [List.map_append,List.nodup_append]
    refine ⟨hA.nd,hB.nd,fun a ha b hb e=>?_⟩
    subst e
    obtain ⟨⟨a,X⟩,hX,rfl⟩:=List.mem_map.1 ha
    obtain ⟨⟨a',Y⟩,hY,e⟩:=List.mem_map.1 hb
    simp only at e
    subst e
    have:=hd a' (by rw [lookup_nd hA.nd hX]; simp)
    rw [lookup_nd hB.nd hY] at this; cases this
  · rw [lookup_append] at hj ⊢
    cases e:A.lookup j with
    | some D =>
      rw [e,Option.some_or] at hj
      injection hj with hj
      subst hj
      obtain ⟨D',hD'⟩:=Option.ne_none_iff_exists'.1 (hA.whole j D e i x hx q hq)
      rw [hD']; simp
    | none =>
      rw [e,Option.none_or] at hj
      obtain ⟨D',hD'⟩:=Option.ne_none_iff_exists'.1 (hB.whole j C hj i x hx q hq)
      rw [hD']; simp
theorem pvB_ok {k:Nat}(hk:1000≤k){e:TypeId}(xs:List Pure):TailOk (pvB k e xs):=by
  cases xs with
  | nil=>exact ⟨fun _ _=>rfl,List.nodup_nil,fun _ _=>rfl,fun j B hj=>by cases hj⟩
  | cons a v =>
    refine ⟨fun q hq=>?_,by simp,fun q hq=>by simp [freeHb,Cells.free],fun j B hj i x hx q hq=>?_⟩
    · have:q<1000:=by simpa [Nat.blt_eq] using hq
      simp only [pvB,List.lookup_cons]
      rw [show (q == k)=false by simp; omega]; rfl
    · have:=PV.only_mem (Cells.only_get (pvB_mem hj).2 hx) hq
      simp at this
end Go.Proofs.YtjagfionflbjbaaGreat.SH
namespace Go.Proofs.YtjagfionflbjbaaGreat.SH
open Go
theorem rdPv {sl:List (Nat×PV)}{R:List (Nat×Blk)}{k:Nat}{e:TypeId}{xs:List Pure}(pre:List (Nat×Blk))(hp:blt10 pre=true)(hk:1000≤k):ReadsB ⟨sl,pre++(pvB k e xs++R)⟩ (pvB k e xs):=by
  cases xs with
  | nil=>trivial
  | cons a v =>
    refine ⟨?_,trivial⟩
    show (pre++_).lookup k=_
    rw [lookup_append,blt10_none hp hk,Option.none_or]; simp [pvB]
theorem pvCls {k:Nat}(hk:1000≤k){e:TypeId}{xs:List Pure}:∀ p∈pvB k e xs,cls p.1∈[1000]:=by
  intro p hp
  cases xs with
  | nil=>cases hp
  | cons a v=>obtain rfl:=List.mem_singleton.1 hp; rw [cls_hi hk]; exact List.mem_singleton.2 rfl
end Go.Proofs.YtjagfionflbjbaaGreat.SH
namespace Go.Proofs.YtjagfionflbjbaaGreat.SH
open Go
theorem pvV_free {k d:Nat}{xs:List Pure}(h:k≠d):(pvV k xs).free d=true:=by
  cases xs with
  | nil=>rfl
  | cons a v=>simp [PV.free,h]
end Go.Proofs.YtjagfionflbjbaaGreat.SH
namespace Go.Proofs.YtjagfionflbjbaaGreat.SH
open Go
theorem ex_cutT {P:Program}{F:Fr}{Q:Exit→St→Prop}{S:St}{x y:Code}{sl sl0:List (Nat×PV)}{hb T:List (Nat×Blk)}(_:HasS S sl0)(h:Exec P F x S (QSeq (fun S1=>HasS S1 (sl++sl0)∧HasB S1 (hb++T)) Q))(hn:Exec P F y ⟨sl++sl0,hb++T⟩ Q):Exec P F x S (QSeq (fun S'=>Exec P F y S' Q) Q):=by
  refine ⟨fun n a w hS=>wpIn_mono (h.run n a w hS) fun e a' w' hq=>hq.elim (fun ⟨S',h1,h4⟩=>.inl ⟨S',?_,h4⟩) .inr⟩
  cases e with
  | normal=>exact hn.weak (le_of h1.1 h1.2)
  | _=>exact h1
end Go.Proofs.YtjagfionflbjbaaGreat.SH
set_option maxRecDepth 100000
set_option maxHeartbeats 4000000
namespace Go.Proofs.YtjagfionflbjbaaGreat.N
open Go Go.Proofs.YtjagfionflbjbaaGreat.SH Go.Proofs.YtjagfionflbjbaaGreat.NumA
open Go.Proofs.Tryz renaming call126→cl126,call52→cl52,call55→cl55,call56→cl56,call66→cl66,call67→cl67,call90→cl90,call91→cl91,call92→cl92,call97→cl97,isAgg3→ag3,isAgg47→ag47,isAgg73→ag73,isAgg77→ag77,sizeOf3→sz3,sizeOf47→sz47,sizeOf77→sz77,typeInfo3→ti3,underlying27→un27,underlying77→un77,underlying79→un79,zeroValue3→zv3,zeroValue47→zv47
theorem elimI_at {m:List (List Rat)}{p c i:Nat}(hi:i<m.length)(ho:othF m p c i=true):(elimI m p c).getD (cntF m p c i) 0=i∧cntF m p c i<(elimI m p c).length:=by
 obtain ⟨d,hd⟩:∃ d,m.length=i+(1+d):=⟨m.length - i - 1,by omega⟩
 have e:elimI m p c=(List.range i).filter (othF m p c)++(i :: ((List.range' (i+1) d).filter (othF m p c))):=by
  rw [elimI,hd,List.range_eq_range',← List.range'_append,List.filter_append,List.range_eq_range']
  congr 1
  rw [Nat.add_comm 1 d,List.range'_succ,Nat.zero_add,Nat.one_mul,List.filter_cons_of_pos ho]
 rw [e,cntF]
 constructor
 ·rw [List.getD_eq_getElem?_getD,List.getElem?_append_right (Nat.le_refl _)]; simp
 ·simp
theorem elimI_take {m:List (List Rat)}{p c i:Nat}(hi:i≤m.length):(elimI m p c).take (cntF m p c i)=(List.range i).filter (othF m p c):=by
 obtain ⟨d,hd⟩:∃ d,m.length=i+d:=⟨m.length - i,by omega⟩
 have e:elimI m p c=(List.range i).filter (othF m p c)++(List.range' i d).filter (othF m p c):=by
  rw [elimI,hd,List.range_eq_range',← List.range'_append,List.filter_append,List.range_eq_range',Nat.zero_add,Nat.one_mul]
 rw [e,cntF,List.take_left]
theorem elimK_at {m:List (List Rat)}{p c i n cc:Nat}(h:RC n cc m)(hp:p<n)(hi:i<m.length):(elimX m m p c (cntF m p c i)).getD i []=m.getD i []:=by
 rw [elimX_row h.1 h hp _ (cntF_le (Nat.le_of_lt hi)),if_neg]
 rw [elimI_take (Nat.le_of_lt hi)]
 intro hm
 have:=(List.mem_filter.1 hm).1
 simp at this
theorem elimI_cnt {m:List (List Rat)}{p c:Nat}:(elimI m p c).length=cntF m p c m.length:=rfl
def bv (s:Bool)(n:Nat):PV:=if s then .ref 1002 0 n n else .p (.a (.slice none 0 0))
def bsT (s:Bool)(b:List (List Rat)):List (Nat×Blk):=if s then mat1 1 b else []
def matT (s:Bool)(m b:List (List Rat)):List (Nat×Blk):=mat1 0 m++bsT s b
theorem bv_free {s:Bool}{n k:Nat}(h:1002≠k):(bv s n).free k=true:=by cases s <;> simp [bv,PV.free,h]
theorem bv_only {s:Bool}{n:Nat}:(bv s n).only [999,1001,1002]=true:=by cases s <;> rfl
theorem matT_f {m b:List (List Rat)}:matT false m b=mat1 0 m:=by simp [matT,bsT]
theorem matT_t {m b:List (List Rat)}:matT true m b=mat1 0 m++mat1 1 b:=rfl
theorem matT_ok (s:Bool)(m b:List (List Rat)):TailOk (matT s m b):=by
 cases s
 ·rw [matT_f]; exact mat1_ok dC m
 ·exact mat2_ok m b
theorem matT_sub {s:Bool}{m b:List (List Rat)}:∀ k B,(mat1 0 m).lookup k=some B→(matT s m b).lookup k=some B:=fun k B h=>by rw [matT,lookup_append,h]; rfl
theorem matT_hd {s:Bool}{m b:List (List Rat)}:(matT s m b).lookup 1001=some (hdB 0 m):=matT_sub _ _ hdL
theorem matT_cases {s:Bool}{m b:List (List Rat)}{k:Nat}{B:Blk}(h:(matT s m b).lookup k=some B):(mat1 0 m).lookup k=some B∨(s=true∧(mat1 1 b).lookup k=some B):=by
 rw [matT,lookup_append] at h
 cases e:(mat1 0 m).lookup k with
 | some C=>rw [e] at h; exact .inl h
 | none =>
  rw [e,Option.none_or] at h
  cases s
  ·cases h
  ·exact .inr ⟨rfl,h⟩
theorem matT_hi {s:Bool}{m b:List (List Rat)}{k:Nat}{B:Blk}(h:(matT s m b).lookup k=some B):1000≤k:=by
 rcases matT_cases h with h | ⟨_,h⟩ <;> exact mat1_hi dC h
theorem mat1_sub1 {m b:List (List Rat)}:∀ k B,(mat1 1 b).lookup k=some B→(matT true m b).lookup k=some B:=fun k B h=>by
 rw [matT_t,lookup_append,mat1_dis (m:=b) (b:=m) (k:=k) (s:=1) (s':=0) dC dC dC (by rw [h]; simp),Option.none_or,h]
theorem matT_fix {s:Bool}{m m' b b':List (List Rat)}(hl:m'.length=m.length)(hl2:b'.length=b.length){q:Nat}{B1:Blk}(hq:q<1100)(h:(matT s m' b').lookup q=some B1):∃ B0,(matT s m b).lookup q=some B0∧B1.sz=B0.sz∧B1.cs.len=B0.cs.len:=by
 rcases matT_cases h with hx | ⟨rfl,hx⟩
 ·obtain ⟨B0,h0,h1⟩:=mat1_fix (s:=0) dC hl hq hx
  exact ⟨B0,matT_sub _ _ h0,h1⟩
 ·obtain ⟨B0,h0,h1⟩:=mat1_fix (s:=1) dC hl2 hq hx
  exact ⟨B0,mat1_sub1 _ _ h0,h1⟩
theorem matT_fixA {s:Bool}{m m' b b':List (List Rat)}(hl:sameR m m')(hl2:sameR b b'){q:Nat}{B1:Blk}(h:(matT s m' b').lookup q=some B1):∃ B0,(matT s m b).lookup q=some B0∧B1.sz=B0.sz∧B1.cs.len=B0.cs.len:=by
 rcases matT_cases h with hx | ⟨rfl,hx⟩
 ·obtain ⟨B0,h0,h1⟩:=mat1_fixA (s:=0) dC hl hx
  exact ⟨B0,matT_sub _ _ h0,h1⟩
 ·obtain ⟨B0,h0,h1⟩:=mat1_fixA (s:=1) dC hl2 hx
  exact ⟨B0,mat1_sub1 _ _ h0,h1⟩
theorem mat1_has1 {s k:Nat}{m m':List (List Rat)}(h2:s<9)(hl:m'.length=m.length)(h:(mat1 s m').lookup k≠none):(mat1 s m).lookup k≠none:=fun e=>h (mat1_same h2 hl e)
theorem matT_has {s:Bool}{m m' b b':List (List Rat)}(hl:m'.length=m.length)(hl2:b'.length=b.length){k:Nat}(h:(matT s m' b').lookup k≠none):(matT s m b).lookup k≠none:=by
 obtain ⟨B,hB⟩:=Option.ne_none_iff_exists'.1 h
 rcases matT_cases hB with hx | ⟨rfl,hx⟩
 ·have:=mat1_has1 (s:=0) (m:=m) (m':=m') (k:=k) dC hl (by rw [hx]; simp)
  obtain ⟨C,hC⟩:=Option.ne_none_iff_exists'.1 this
  rw [matT_sub _ _ hC]; simp
 ·have:=mat1_has1 (s:=1) (m:=b) (m':=b') (k:=k) dC hl2 (by rw [hx]; simp)
  obtain ⟨C,hC⟩:=Option.ne_none_iff_exists'.1 this
  rw [mat1_sub1 _ _ hC]; simp
theorem both2 (s:Bool)(c:Nat)(m b:List (List Rat))(i p:Nat)(hi:i<m.length)(hp:p<m.length)(hne:i≠p)(hb:b.length=m.length):SaysG E st11 92 [.at_ 999 0 3,.clo (.func 93) [] [.at_ 6 0 1,.at_ 5 0 1]] ([bxI 5 p,bxI 6 i,wV c m.length (bv s m.length)]++matT s m b) ([bxI 5 p,bxI 6 i,wV c m.length (bv s m.length)]++matT s (swapL m i p) (swapL b i p)) (.p (.tup [])):=by
 cases s
 ·rw [matT_f,matT_f]; exact both2n c m i p hi hp hne
 ·have:=both2s c m b i p hi hp hne oM oM
  rw [hb] at this; exact this
theorem both3 (s:Bool)(c:Nat)(m b:List (List Rat))(p:Nat)(q:Rat)(hp:p<m.length)(hb:b.length=m.length)(hl:(m.getD p []).length<1000000000)(hs:∀ a∈m.getD p [],qw a<1000000000)(hc:qw q<1000000000)(hlb:(b.getD p []).length<1000000000)(hsb:∀ a∈b.getD p [],qw a<1000000000):SaysG E st11 92 [.at_ 999 0 3,.clo (.func 95) [] [.at_ 5 0 1,.at_ 8 0 4]] ([bxI 5 p,bxQ 8 q,wV c m.length (bv s m.length)]++matT s m b) ([bxI 5 p,bxQ 8 q,wV c m.length (bv s m.length)]++matT s (sclR m p q) (sclR b p q)) (.p (.tup [])):=by
 cases s
 ·rw [matT_f,matT_f]; exact both3n c m p q hp hl hs hc
 ·have:=both3s c m b p q hp hl hs hc oM hlb hsb
  rw [hb] at this; exact this
theorem both4 (s:Bool)(c:Nat)(m b:List (List Rat))(i p:Nat)(q:Rat)(B C D:Nat)(hi:i<m.length)(hp:p<m.length)(hne:i≠p)(hb:b.length=m.length)(hlen:(m.getD p []).length=(m.getD i []).length)(hl:(m.getD i []).length<1000000000)(hB:∀ a∈m.getD i [],qw a≤B)(hC:∀ a∈m.getD p [],qw a≤C)(hD:qw q≤D)(hlenb:(b.getD p []).length=(b.getD i []).length)(hlb:(b.getD i []).length<1000000000)(hBb:∀ a∈b.getD i [],qw a≤B)(hCb:∀ a∈b.getD p [],qw a≤C)(hbd:B+(D+C)+1<1000000000):SaysG E stA 92 [.at_ 999 0 3,.clo (.func 98) [] [.at_ 10 0 1,.at_ 5 0 1,.at_ 11 0 4]] ([bxI 5 p,bxI 10 i,bxQ 11 q,wV c m.length (bv s m.length)]++matT s m b) ([bxI 5 p,bxI 10 i,bxQ 11 q,wV c m.length (bv s m.length)]++matT s (takR m i p q) (takR b i p q)) (.p (.tup [])):=by
 cases s
 ·rw [matT_f,matT_f]; exact both4n c m i p q B C D hi hp hne hlen hl hB hC hD hbd
 ·have:=both4s c m b i p q B C D hi hp hne hlen hl hB hC hD hbd B C oM oM hlenb hlb hBb hCb hbd
  rw [hb] at this; exact this
theorem others_says (s:Bool)(cols n p c:Nat)(T:List (Nat×Blk))(hT:TailOk T):SaysG E stO 97 [.at_ 999 0 3,.p (vZ p),.p (vZ c)] ([wV cols n (bv s n)]++T) ([(603,⟨73,1,.mix [.at_ 999 0 3]⟩),bxI 604 p,bxI 605 c,wV cols n (bv s n)]++T) (.clo (.func 126) [] [.at_ 603 0 1,.at_ 604 0 1,.at_ 605 0 1]):=by
 cases s
 ·exact othersN_says cols n p c T hT
 ·exact othersS_says cols n n p c T hT
def encP (pv:List Nat):List Pure:=pv.map fun k:Nat=>vZ (k:Int)
@[simp] theorem encP_length (pv:List Nat):(encP pv).length=pv.length:=by simp [encP]
@[reducible] def tlP (pv:List Nat)(R:List (Nat×Blk)):List (Nat×Blk):=pvB 1003 3 (encP pv)++R
theorem mat1_not {s k:Nat}{m:List (List Rat)}(h2:s<2)(hk:k=1003):(mat1 s m).lookup k=none:=by
 cases e:(mat1 s m).lookup k with
 | none=>rfl
 | some B=>rcases mat1_keys oM (show (mat1 s m).lookup k≠none by rw [e]; simp) with h3 | ⟨q',_,h3⟩ <;> (try simp only [rowN] at h3) <;> omega
theorem matT_not {s:Bool}{k:Nat}{m b:List (List Rat)}(hk:k=1003):(matT s m b).lookup k=none:=by
 cases e:(matT s m b).lookup k with
 | none=>rfl
 | some B=>rcases matT_cases e with h | ⟨_,h⟩ <;> rw [mat1_not dC hk] at h <;> cases h
theorem tlP_ok {pv:List Nat}{R:List (Nat×Blk)}(hR:TailOk R)(h:R.lookup 1003=none):TailOk (tlP pv R) :=
 tail_app (pvB_ok dC _) hR fun k hk=>by
  obtain ⟨B,hB⟩:=Option.ne_none_iff_exists'.1 hk
  rw [(pvB_mem hB).1]; exact h
theorem tlP_okT {pv:List Nat}{s:Bool}{m b:List (List Rat)}:TailOk (tlP pv (matT s m b)):=tlP_ok (matT_ok s m b) (matT_not rfl)
theorem tlP_subT {pv:List Nat}{s:Bool}{m b:List (List Rat)}:∀ k B,(matT s m b).lookup k=some B→(tlP pv (matT s m b)).lookup k=some B:=fun k B h=>by
 rw [tlP,lookup_append]
 cases e:(pvB 1003 3 (encP pv)).lookup k with
 | none=>rw [Option.none_or,h]
 | some C =>
  have:=(pvB_mem e).1
  rw [matT_not this] at h; cases h
theorem tlP_sub {pv:List Nat}{s:Bool}{m b:List (List Rat)}:∀ k B,(mat1 0 m).lookup k=some B→(tlP pv (matT s m b)).lookup k=some B:=fun k B h=>tlP_subT _ _ (matT_sub _ _ h)
theorem tlP_hd {pv:List Nat}{s:Bool}{m b:List (List Rat)}:(tlP pv (matT s m b)).lookup 1001=some (hdB 0 m):=tlP_sub _ _ hdL
@[reducible] def hC (cols n c:Nat)(v:PV)(T:List (Nat×Blk)):List (Nat×Blk):=[bxW,bxI 4 c,wV cols n v]++T
theorem hC_nd {cols n c:Nat}{v:PV}{T:List (Nat×Blk)}(hT:TailOk T):((hC cols n c v T).map (·.1)).Nodup:=by
 have h:∀ k,k<1000→k ∉ T.map (·.1):=fun k hk hm=>by
  obtain ⟨⟨q,B⟩,hp,e⟩:=List.mem_map.1 hm
  simp only at e
  subst e
  have:=hT.low q (by simpa [Nat.blt_eq] using hk)
  rw [lookup_nd hT.nd hp] at this; cases this
 simp only [hC,List.cons_append,List.nil_append,List.map_cons,List.nodup_cons,List.mem_cons,not_or]
 exact ⟨⟨by decide,by decide,h 1 dC⟩,⟨by decide,h 4 dC⟩,h 999 dC,hT.nd⟩
theorem whole_appK {bx T:List (Nat×Blk)}(ks:List Nat)(hb:(bx.all fun p=>p.2.cs.only ks)=true)(hk:∀ k∈ks,(bx++T).lookup k≠none)(hT:Whole T):Whole (bx++T):=by
 intro j B hj i x hx q hq
 rw [lookup_append] at hj
 cases e:bx.lookup j with
 | some C =>
  rw [e,Option.some_or] at hj
  injection hj with hj
  subst hj
  rw [List.all_eq_true] at hb
  exact hk q (PV.only_mem (Cells.only_get (hb _ (lookup_mem e)) hx) hq)
 | none =>
  rw [e,Option.none_or] at hj
  exact lk_app (hT j B hj i x hx q hq)
def ksB (s:Bool):List Nat:=if s then [999,1001,1002] else [999,1001]
theorem wV_onlyB {s:Bool}{c n:Nat}:(wV c n (bv s n)).2.cs.only (ksB s)=true:=by cases s <;> rfl
theorem ksB_in {s:Bool}{m b:List (List Rat)}{T bx:List (Nat×Blk)}(h9:bx.lookup 999≠none)(hT:∀ k B,(matT s m b).lookup k=some B→T.lookup k=some B):∀ k∈ksB s,(bx++T).lookup k≠none:=by
 intro k hk
 have h1:T.lookup 1001≠none:=by rw [hT _ _ matT_hd]; simp
 cases s
 ·simp only [ksB,Bool.false_eq_true,if_false,List.mem_cons,List.not_mem_nil,or_false] at hk
  rcases hk with rfl | rfl
  ·exact lk_app' h9
  ·exact lk_app h1
 ·simp only [ksB,if_true,List.mem_cons,List.not_mem_nil,or_false] at hk
  rcases hk with rfl | rfl | rfl
  ·exact lk_app' h9
  ·exact lk_app h1
  ·exact lk_app (by rw [hT _ _ (mat1_sub1 _ _ (show (mat1 1 b).lookup 1002=some (hdB 1 b) from hdL))]; simp)
theorem hC_w {s:Bool}{cols n c:Nat}{m b:List (List Rat)}{T:List (Nat×Blk)}(hT:TailOk T)(hs:∀ k B,(matT s m b).lookup k=some B→T.lookup k=some B):Whole (hC cols n c (bv s n) T) :=
 whole_appK (ksB s) (by simp only [List.all_cons,List.all_nil,Bool.and_true,Bool.and_eq_true]; exact ⟨by cases s <;> rfl,by cases s <;> rfl,wV_onlyB⟩) (ksB_in (by simp [List.lookup_cons]) hs) hT.whole
theorem pvV_only {xs:List Pure}:(pvV 1003 xs).only ks8=true:=by cases xs <;> rfl
theorem ncE {F:Fr}{n:Nat}{s:Bool}{sl slR:List (Nat×PV)}{w0 bx pre pre':List (Nat×Blk)}{pv:List Nat}{m0 b0 m b m' b':List (List Rat)}(hl:m'.length=m.length)(hlb:b'.length=b.length)(hl0:m.length=m0.length)(hlb0:b.length=b0.length)(G:GFr E st11 (w0++matT s m0 b0) n F)(hp:blt10 pre=true)(hbp:HasB ⟨[],pre⟩ bx)(hpp:HasB ⟨[],pre⟩ pre')(hbx:(bx.all fun p=>p.2.cs.only (ksB s))=true)(h9:bx.lookup 999≠none)(hpo:(pre'.all fun p=>p.2.cs.only ks8)=true)(hso:(slR.all fun p=>p.2.only ks8)=true)(hS:HasS ⟨sl,pre++tlP pv (matT s m b)⟩ slR) :
  NCall st11 F ⟨sl,pre++tlP pv (matT s m b)⟩ (bx++matT s m b) (bx++matT s m' b') slR (pre'++tlP pv (matT s m' b')):=by
 refine ncT (T:=matT s m b) (T':=matT s m' b') (U:=tlP pv (matT s m b)) (U':=tlP pv (matT s m' b')) ks8 rfl hp (fun k B h=>hbp.all k B h) (fun k B h=>hpp.all k B h) (fun k B h=>⟨tlP_subT k B h,matT_hi h⟩) (fun k B h=>matT_hi h) (fun k B h=>?_) (fun q B1 hq h=>matT_fix hl hlb hq h) hpo hso hS
  (lo_of (pre:=[]) G fun k h=>lk_app (matT_has hl0 hlb0 h)) G.ps (whole_appK (ksB s) hbx (ksB_in h9 fun _ _ h=>h) (matT_ok s m' b').whole)
 rw [tlP,lookup_append] at h
 cases e:(pvB 1003 3 (encP pv)).lookup k with
 | none=>rw [e,Option.none_or] at h; exact .inl h
 | some C =>
  rw [e,Option.some_or] at h
  injection h with h
  subst h
  obtain ⟨h1,h2⟩:=pvB_mem e
  refine .inr ⟨by omega,by rw [tlP,lookup_append,e]; rfl,matT_not h1,matT_not h1,fun i x hx q hq _=>?_⟩
  have:=PV.only_mem (Cells.only_get h2 hx) hq
  simp at this
@[simp] theorem bv_free' {s:Bool}{n k:Nat}(h:1002≠k):(bv s n).free k=true:=bv_free h
theorem matT_free {s:Bool}{m b:List (List Rat)}{k:Nat}(h:k<1100):freeHb k (matT s m b)=true:=by
 have h1:∀ (q:Nat) (x:List (List Rat)),freeHb k (mat1 q x)=true:=fun q x=>by
  simp only [mat1,freeHb,Cells.free,Bool.and_eq_true]; exact ⟨refs_free h 0 x,rows_free 0 x⟩
 rw [matT,freeHb_append,h1]
 cases s
 ·rfl
 ·exact h1 1 b
@[reducible] def bxs (s:Bool)(cols n c p:Nat)(q:Rat):List (Nat×Blk):=[wV cols n (bv s n),(1,⟨73,1,.mix [.at_ 999 0 3]⟩),(3,bQ q),bxI 4 c,bxI 5 p]
theorem bxs_low {s:Bool}{cols n c p:Nat}{q:Rat}{k:Nat}(h:(bxs s cols n c p q).lookup k≠none):k=999∨k=1∨k=3∨k=4∨k=5:=by
 simp only [bxs,List.lookup_cons,List.lookup_nil] at h
 by_cases e1:k=999; exact .inl e1
 by_cases e2:k=1; exact .inr (.inl e2)
 by_cases e3:k=3; exact .inr (.inr (.inl e3))
 by_cases e4:k=4; exact .inr (.inr (.inr (.inl e4)))
 by_cases e5:k=5; exact .inr (.inr (.inr (.inr e5)))
 rw [show (k == 999)=false by simpa using e1,show (k == 1)=false by simpa using e2,show (k == 3)=false by simpa using e3,show (k == 4)=false by simpa using e4,show (k == 5)=false by simpa using e5] at h
 exact absurd rfl h
@[reducible] def hR (s:Bool)(cols n c p:Nat)(q:Rat)(pv:List Nat)(m b:List (List Rat)):List (Nat×Blk):=bxs s cols n c p q++tlP pv (matT s m b)
theorem hR_none {s:Bool}{cols n c p:Nat}{q:Rat}{pv:List Nat}{m b:List (List Rat)}{k:Nat}(h:k<1000)(h1:k≠999)(h2:k≠1)(h3:k≠3)(h4:k≠4)(h5:k≠5):(hR s cols n c p q pv m b).lookup k=none:=by
 rw [hR,lookup_append,tlP_okT.low k (by simpa [Nat.blt_eq] using h),Option.or_none]
 cases e:(bxs s cols n c p q).lookup k with
 | none=>rfl
 | some B=>rcases bxs_low (by rw [e]; simp) with h | h | h | h | h <;> contradiction
theorem hR_w {s:Bool}{cols n c p:Nat}{q:Rat}{pv:List Nat}{m b:List (List Rat)}:Whole (hR s cols n c p q pv m b) :=
 whole_appK (ksB s) (by simp only [List.all_cons,List.all_nil,Bool.and_true,Bool.and_eq_true]; exact ⟨wV_onlyB,by cases s <;> rfl,by cases s <;> rfl,by cases s <;> rfl,by cases s <;> rfl⟩) (ksB_in (by simp [List.lookup_cons]) fun k B h=>tlP_subT k B h) tlP_okT.whole
theorem hR_cases {s:Bool}{cols n c p:Nat}{q:Rat}{pv:List Nat}{m b:List (List Rat)}{k:Nat}{B:Blk}(h:(hR s cols n c p q pv m b).lookup k=some B):(bxs s cols n c p q).lookup k=some B∨((bxs s cols n c p q).lookup k=none∧((pvB 1003 3 (encP pv)).lookup k=some B∨((pvB 1003 3 (encP pv)).lookup k=none∧(matT s m b).lookup k=some B))):=by
 rw [hR,lookup_append] at h
 cases e:(bxs s cols n c p q).lookup k with
 | some C=>rw [e,Option.some_or] at h; exact .inl h
 | none =>
  rw [e,Option.none_or,tlP,lookup_append] at h
  cases e2:(pvB 1003 3 (encP pv)).lookup k with
  | some C=>rw [e2,Option.some_or] at h; exact .inr ⟨rfl,.inl h⟩
  | none=>rw [e2,Option.none_or] at h; exact .inr ⟨rfl,.inr ⟨rfl,h⟩⟩
theorem hR_fix {s:Bool}{cols n c p:Nat}{q:Rat}{pv:List Nat}{m b m' b':List (List Rat)}(hm:sameR m m')(hb:sameR b b'){k:Nat}{B1:Blk}(h:(hR s cols n c p q pv m' b').lookup k=some B1):∃ B0,(hR s cols n c p q pv m b).lookup k=some B0∧B1.sz=B0.sz∧B1.cs.len=B0.cs.len:=by
 rw [hR,lookup_append]
 rcases hR_cases h with h | ⟨h0,h | ⟨h1,h⟩⟩
 ·exact ⟨B1,by rw [h]; rfl,rfl,rfl⟩
 ·exact ⟨B1,by rw [h0,Option.none_or,tlP,lookup_append,h]; rfl,rfl,rfl⟩
 ·obtain ⟨B0,h2,h3⟩:=matT_fixA hm hb h
  exact ⟨B0,by rw [h0,Option.none_or,tlP,lookup_append,h1,Option.none_or,h2],h3⟩
theorem sameR_symm {m m':List (List Rat)}(h:sameR m m'):sameR m' m:=⟨h.1.symm,fun i=>(h.2 i).symm⟩
theorem sameR_rc {n c:Nat}{m m':List (List Rat)}(h:RC n c m)(h':RC n c m'):sameR m m':=by
 refine ⟨by rw [h.1,h'.1],fun i=>?_⟩
 by_cases e:i<n
 ·rw [h.get e,h'.get e]
 ·rw [List.getD_eq_getElem?_getD,List.getD_eq_getElem?_getD,List.getElem?_eq_none (by have:=h'.1; omega),List.getElem?_eq_none (by have:=h.1; omega)]
theorem hR_I {s:Bool}{c p:Nat}{q:Rat}{pv:List Nat}{m b:List (List Rat)}:TailI nsI4 ([(1,⟨73,1,.mix [.at_ 999 0 3]⟩),(3,bQ q),bxI 4 c,bxI 5 p]++tlP pv (matT s m b)):=by
 refine ⟨fun k hk=>?_,?_⟩
 ·have hk:k=603∨k=604∨k=605∨k=999:=by simpa using hk
  rw [lookup_append,tlP_okT.low k (by simp [Nat.blt_eq]; omega),Option.or_none]
  rcases hk with rfl | rfl | rfl | rfl <;> rfl
 ·have hno:∀ k,k<1000→k ∉ (tlP pv (matT s m b)).map (·.1):=fun k hk hm=>by
   obtain ⟨⟨q,B⟩,hp,e⟩:=List.mem_map.1 hm
   simp only at e
   subst e
   have:=(tlP_okT (pv:=pv) (s:=s) (m:=m) (b:=b)).low q (by simpa [Nat.blt_eq] using hk)
   rw [lookup_nd tlP_okT.nd hp] at this; cases this
  simp only [List.cons_append,List.nil_append,List.map_cons,List.nodup_cons,List.mem_cons,not_or]
  exact ⟨⟨by decide,by decide,by decide,hno 1 dC⟩,⟨by decide,by decide,hno 3 dC⟩,⟨by decide,hno 4 dC⟩,hno 5 dC,tlP_okT.nd⟩
theorem ncEA {F:Fr}{s:Bool}{sl slR:List (Nat×PV)}{bx pre pre':List (Nat×Blk)}{pv:List Nat}{m b m' b':List (List Rat)}(hl:sameR m m')(hlb:sameR b b')(hp:blt10 pre=true)(hbp:HasB ⟨[],pre⟩ bx)(hpp:HasB ⟨[],pre⟩ pre')(hbx:(bx.all fun p=>p.2.cs.only (ksB s))=true)(h9:bx.lookup 999≠none)(hS:HasS ⟨sl,pre++tlP pv (matT s m b)⟩ slR) :
  NCall stA F ⟨sl,pre++tlP pv (matT s m b)⟩ (bx++matT s m b) (bx++matT s m' b') slR (pre'++tlP pv (matT s m' b')):=by
 refine ncTA (T:=matT s m b) (T':=matT s m' b') (U:=tlP pv (matT s m b)) (U':=tlP pv (matT s m' b')) hp (fun k B h=>hbp.all k B h) (fun k B h=>hpp.all k B h) (fun k B h=>⟨tlP_subT k B h,matT_hi h⟩) (fun k B h=>matT_hi h) (fun k B h=>?_) (fun q B1 h=>matT_fixA hl hlb h) hS (whole_appK (ksB s) hbx (ksB_in h9 fun _ _ h=>h) (matT_ok s m' b').whole)
 rw [tlP,lookup_append] at h
 cases e:(pvB 1003 3 (encP pv)).lookup k with
 | none=>rw [e,Option.none_or] at h; exact .inl h
 | some C =>
  rw [e,Option.some_or] at h
  injection h with h
  subst h
  obtain ⟨h1,h2⟩:=pvB_mem e
  exact .inr ⟨by omega,by rw [tlP,lookup_append,e]; rfl,matT_not h1,matT_not h1⟩
@[reducible] def bx3 (p c:Nat):List (Nat×Blk):=[(603,⟨73,1,.mix [.at_ 999 0 3]⟩),bxI 604 p,bxI 605 c]
theorem bx3_low {p c k:Nat}(h:(bx3 p c).lookup k≠none):k=603∨k=604∨k=605:=by
 simp only [bx3,List.lookup_cons,List.lookup_nil] at h
 by_cases e1:k=603; exact .inl e1
 by_cases e2:k=604; exact .inr (.inl e2)
 by_cases e3:k=605; exact .inr (.inr e3)
 rw [show (k == 603)=false by simpa using e1,show (k == 604)=false by simpa using e2,show (k == 605)=false by simpa using e3] at h
 exact absurd rfl h
theorem stO_f {k:Nat}(h:stO k=false):k=603∨k=604∨k=605:=by
 simp only [stO,Bool.not_eq_false',Bool.or_eq_true,beq_iff_eq] at h
 omega
theorem clo3_free {f:Fn}{q:Nat}(h:(PV.clo f [] [.at_ 603 0 1,.at_ 604 0 1,.at_ 605 0 1]).free q=false):q=603∨q=604∨q=605:=by
 by_cases h1:q=603; exact .inl h1
 by_cases h2:q=604; exact .inr (.inl h2)
 by_cases h3:q=605; exact .inr (.inr h3)
 simp [PV.free,PV.freeL,Ne.symm h1,Ne.symm h2,Ne.symm h3] at h
theorem ncO {F:Fr}{s:Bool}{sl slR:List (Nat×PV)}{pre:List (Nat×Blk)}{cols n c p p' c':Nat}{q:Rat}{pv:List Nat}{m b:List (List Rat)}(hp:HasB ⟨[],pre⟩ (bxs s cols n c p q))(hb:blt10 pre=true)(hpin:∀ k,k=603∨k=604∨k=605→F.pin k=none)(hso:(slR.all fun p=>p.2.only ks8)=true)(hS:HasS ⟨sl,pre++tlP pv (matT s m b)⟩ slR) :
  NCall stO F ⟨sl,pre++tlP pv (matT s m b)⟩ ([wV cols n (bv s n)]++tlP pv (matT s m b)) (bx3 p' c'++([wV cols n (bv s n)]++tlP pv (matT s m b))) slR (bx3 p' c'++(bxs s cols n c p q++tlP pv (matT s m b))):=by
 have hpre:∀ k,1000≤k→pre.lookup k=none:=fun k hk=>blt10_none hb hk
 have htl:∀ k,k<1000→(tlP pv (matT s m b)).lookup k=none:=fun k hk=>tlP_okT.low k (by simpa [Nat.blt_eq] using hk)
 have h999:∀ k B,([wV cols n (bv s n)]:List (Nat×Blk)).lookup k=some B→k=999∧B=(wV cols n (bv s n)).2:=fun k B h=>by
  simp only [List.lookup_cons,List.lookup_nil] at h
  by_cases e:k=999
  ·subst e; simp at h; exact ⟨rfl,h.symm⟩
  ·rw [show (k == 999)=false by simpa using e] at h; cases h
 have hbl:∀ k B,(bxs s cols n c p q).lookup k=some B→pre.lookup k=some B:=fun k B h=>hp.all k B h
 refine ⟨fun j B hj=>?_,hS,fun k B hk=>?_,fun k B1 hst h=>?_,fun t v ht k hk hst=>?_,fun j hj hst=>?_,fun j hj=>?_,?_⟩
 ·show (pre++_).lookup j=some B
  rw [lookup_append] at hj ⊢
  cases e:([wV cols n (bv s n)]:List (Nat×Blk)).lookup j with
  | some C =>
   rw [e,Option.some_or] at hj
   injection hj with hj
   subst hj
   obtain ⟨rfl,rfl⟩:=h999 j C e
   rw [hbl 999 _ rF]; rfl
  | none =>
   rw [e,Option.none_or] at hj
   rw [hpre j (by apply Classical.byContradiction; intro h2; rw [htl j oM] at hj; cases hj),Option.none_or,hj]
 ·rw [lookup_append] at hk
  cases e:(bx3 p' c').lookup k with
  | some C=>rw [e,Option.some_or] at hk; exact .inl (by rw [lookup_append,e]; exact hk)
  | none =>
   rw [e,Option.none_or,lookup_append] at hk
   cases e2:(bxs s cols n c p q).lookup k with
   | some C =>
    rw [e2,Option.some_or] at hk
    injection hk with hk
    subst hk
    rcases bxs_low (by rw [e2]; simp) with rfl | h5
    ·refine .inl ?_
     rw [lookup_append,e,Option.none_or,lookup_append]
     rw [show (bxs s cols n c p q).lookup 999=some (wV cols n (bv s n)).2 from rfl] at e2
     rw [← e2]; rfl
    ·refine .inr ⟨?_,?_,?_,fun i x hx k2 hk2 hst=>?_⟩
     ·show (pre++_).lookup k=_
      rw [lookup_append,hbl k C e2]; rfl
     ·rw [lookup_append,htl k oM,Option.or_none]
      rcases h5 with rfl | rfl | rfl | rfl <;> rfl
     ·rw [lookup_append,e,Option.none_or,lookup_append,htl k oM,Option.or_none]
      rcases h5 with rfl | rfl | rfl | rfl <;> rfl
     ·have ho:C.cs.only [999]=true:=by
       rcases h5 with rfl | rfl | rfl | rfl <;> (injection e2 with e2; subst e2; rfl)
      have:=PV.only_mem (Cells.only_get ho hx) hk2
      have:=stO_f hst
      simp at *
      omega
   | none =>
    rw [e2,Option.none_or] at hk
    refine .inl ?_
    rw [lookup_append,e,Option.none_or,lookup_append,hk]
    cases e3:([wV cols n (bv s n)]:List (Nat×Blk)).lookup k with
    | none=>rfl
    | some C =>
     obtain ⟨rfl,_⟩:=h999 k C e3
     cases e2
 ·rw [lookup_append] at h
  cases e:(bx3 p' c').lookup k with
  | some C =>
   rcases bx3_low (by rw [e]; simp) with rfl | rfl | rfl <;> cases hst
  | none=>rw [e,Option.none_or] at h; exact ⟨B1,h,rfl,rfl⟩
 ·rw [List.all_eq_true] at hso
  have h5:=PV.only_mem (hso _ (lookup_mem' ht)) hk
  have:=stO_f hst
  simp only [ks8,List.mem_cons,List.not_mem_nil,or_false] at h5
  omega
 ·have h5:=stO_f hst
  rw [lookup_append,htl j oM,Option.or_none] at hj
  rcases h5 with rfl | rfl | rfl <;> exact absurd rfl hj
 ·cases e:stO j with
  | true=>rfl
  | false=>exact absurd (hpin j (stO_f e)) hj
 ·refine whole_appK [999] rfl (fun k hk=>?_) (whole_appK (ksB s) (by simp only [List.all_cons,List.all_nil,Bool.and_true]; exact wV_onlyB) (ksB_in (by simp [List.lookup_cons]) fun k B h=>tlP_subT k B h) tlP_okT.whole)
  simp only [List.mem_singleton] at hk
  subst hk
  exact lk_app (lk_app' (by simp [List.lookup_cons]))
theorem encP_app (pv:List Nat)(c:Nat):encP (pv++[c])=encP pv++[vZ (c:Int)]:=by simp [encP]
theorem pvFr {s:Bool}{sl:List (Nat×PV)}{pre:List (Nat×Blk)}{pv:List Nat}{m b:List (List Rat)}(hp:blt10 pre=true)(hf:pv=[]→(freeSl 1003 sl && freeHb 1003 pre)=true):FreshOk ⟨sl,pre++tlP pv (matT s m b)⟩ (pvF 1003 (encP pv)):=by
 cases pv with
 | cons a l=>trivial
 | nil =>
  have h:=hf rfl
  simp only [Bool.and_eq_true] at h
  refine ⟨?_,?_⟩
  ·show (pre++_).lookup 1003=none
   rw [lookup_append,blt10_none hp dC,Option.none_or]
   exact matT_not rfl
  ·show (freeSl 1003 sl && freeHb 1003 (pre++_))=true
   rw [freeHb_append,h.1,h.2]
   exact matT_free dC
theorem pvB_cons {xs:List Pure}{y:Pure}{k:Nat}{e:TypeId}:∃ B,pvB k e (xs++[y])=[(k,B)]:=by
 cases xs with
 | nil=>exact ⟨_,rfl⟩
 | cons a l=>exact ⟨_,rfl⟩
theorem lkPv {sl:List (Nat×PV)}{pre T:List (Nat×Blk)}{xs:List Pure}{y:Pure}{e:TypeId}{k:Nat}{B:Blk}(hk:k<1000)(h:pre.lookup k=some B):St.blk ⟨sl,pvB 1003 e (xs++[y])++(pre++T)⟩ k=some B:=by
 obtain ⟨C,hC⟩:=pvB_cons (xs:=xs) (y:=y) (k:=1003) (e:=e)
 show (pvB 1003 e (xs++[y])++_).lookup k=_
 rw [hC,List.singleton_append,List.lookup_cons,show (k == 1003)=false by simp; omega,lookup_append,h]; rfl
theorem hbPv {s:Bool}{sl:List (Nat×PV)}{pre:List (Nat×Blk)}{pv:List Nat}{c:Nat}{m b:List (List Rat)}(hp:blt10 pre=true):HasB ⟨sl,pvB 1003 3 (encP pv++[vZ (c:Int)])++(pre++tlP pv (matT s m b))⟩ (tlP (pv++[c]) (matT s m b)):=by
 obtain ⟨C,hC⟩:=pvB_cons (xs:=encP pv) (y:=vZ (c:Int)) (k:=1003) (e:=3)
 refine hasB_of tlP_okT.nd fun k B hk=>?_
 show (pvB 1003 3 (encP pv++[vZ (c:Int)])++_).lookup k=_
 rw [tlP,encP_app,hC,List.singleton_append,List.lookup_cons] at hk
 rw [hC,List.singleton_append,List.lookup_cons]
 by_cases e:k=1003
 ·subst e; exact hk
 ·rw [show (k == 1003)=false by simpa using e] at hk ⊢
  show (pre++tlP pv (matT s m b)).lookup k=some B
  rw [lookup_append,blt10_none hp (matT_hi hk),Option.none_or]
  exact tlP_subT _ _ hk
theorem cvPv {s:Bool}{sl:List (Nat×PV)}{pre:List (Nat×Blk)}{pv:List Nat}{m b:List (List Rat)}(hp:blt10 pre=true):Cv (St.blk ⟨sl,pre++tlP pv (matT s m b)⟩) [1003] (pvV 1003 (encP pv)) (.p (.sl pv.length (encP pv))):=by
 cases pv with
 | nil=>exact .p .nil
 | cons a l =>
  have hB:St.blk ⟨sl,pre++tlP (a :: l) (matT s m b)⟩ 1003=some ⟨3,1,.pure (encP (a :: l))⟩:=by
   show (pre++_).lookup 1003=_
   rw [lookup_append,blt10_none hp dC]; rfl
  have:=Cv.ref (n:=(a :: l).length) (z:=[1003]) rfl hB (by rw [encP_length]) (Nat.mul_one _)
  simp only [encP,List.map_cons,List.length_cons,List.length_map,Nat.mul_one] at this ⊢
  simp only [pvV,List.length_map]
  exact this
theorem hasCb_of {S:St}{z:List Nat}:∀ {l:List (Nat×Blk)},(∀ p∈l,z.contains p.1=false∧S.blk p.1=some p.2)→HasCb S z l
 | [],_=>trivial
 | p :: l,h=>⟨⟨(h p sM).1,p.2,(h p sM).2,.same⟩,hasCb_of fun q hq=>h q (by simp [hq])⟩
theorem hasB_mem {l:List (Nat×Blk)}:∀ {l':List (Nat×Blk)},HasB ⟨[],l⟩ l'→∀ {p:Nat×Blk},p∈l'→l.lookup p.1=some p.2
 | (k,B) :: l',h,p,hp=>by
  rcases List.mem_cons.1 hp with rfl | hp
  ·exact h.1
  ·exact hasB_mem h.2 hp
theorem cbPv {s:Bool}{sl:List (Nat×PV)}{pre pre':List (Nat×Blk)}{pv:List Nat}{m b:List (List Rat)}(hp:blt10 pre=true)(hb:HasB ⟨[],pre⟩ pre')(hp':blt10 pre'=true):HasCb ⟨sl,pre++tlP pv (matT s m b)⟩ [1003] (pre'++matT s m b):=by
 refine hasCb_of fun p hp2=>?_
 rcases List.mem_append.1 hp2 with h | h
 ·have h1:p.1<1000:=by
   unfold blt10 at hp'
   rw [List.all_eq_true] at hp'
   simpa [Nat.blt_eq] using hp' p h
  refine ⟨by simp; omega,?_⟩
  show (pre++_).lookup p.1=_
  have:pre.lookup p.1=some p.2:=hasB_mem hb h
  rw [lookup_append,this]; rfl
 ·have h1:=lookup_nd (j:=p.1) (B:=p.2) (matT_ok s m b).nd h
  refine ⟨?_,?_⟩
  ·by_cases e:p.1=1003
   ·rw [matT_not e] at h1; cases h1
   ·simpa using e
  ·show (pre++_).lookup p.1=_
   rw [lookup_append,blt10_none hp (matT_hi h1),Option.none_or]
   exact tlP_subT _ _ h1
theorem ech_full {m b:List (List Rat)}{c:Nat}(h:¬ (ech m b c).pv.length<(ech m b c).m.length):∀ d,ech m b (c+d)=ech m b c
 | 0=>rfl
 | d+1=>by rw [← Nat.add_assoc,ech_succ,ech_full h d,echStep,if_neg h]
theorem elimX_at {m x:List (List Rat)}{p c n cc k:Nat}(hm:m.length=n)(h:RC n cc x)(hp:p<n)(hk:k<(elimI m p c).length):(elimX m x p c k).getD ((elimI m p c).getD k 0) []=x.getD ((elimI m p c).getD k 0) []∧(elimX m x p c k).getD p []=x.getD p []:=by
 constructor
 ·rw [elimX_row hm h hp k oM,if_neg]
  intro hh
  obtain ⟨i,hi,he⟩:=List.getElem_of_mem hh
  simp only [List.length_take] at hi
  rw [List.getElem_take,List.getD_eq_getElem?_getD,List.getElem?_eq_getElem hk,Option.getD_some] at he
  have:=(List.getElem_inj (elimI_take_nd (m:=m) (p:=p) (c:=c))).1 he
  omega
 ·rw [elimX_row hm h hp k oM,if_neg (fun hh=>(elimI_lt.1 (List.mem_of_mem_take hh)).2.1 rfl)]
theorem mb_ent {B:Nat}{m:List (List Rat)}{i j:Nat}(h:MB B m)(h0:0<B):qw (ent m i j)≤B:=by
 rcases ent_mem (m:=m) (i:=i) (j:=j) with e | ⟨r,hr,e⟩
 ·rw [e,qw_zero]; exact h0
 ·exact h r hr _ e
theorem row_ent {m:List (List Rat)}{i:Nat}{a:Rat}(h:a∈m.getD i []):∃ j,a=ent m i j:=by
 obtain ⟨j,hj,e⟩:=List.getElem_of_mem h
 refine ⟨j,?_⟩
 have:∀ (r:List Rat) (h:j<r.length),r[j]=r.getD j 0:=fun r h=>by simp [List.getD_eq_getElem?_getD,h]
 rw [← e,this _ hj]; rfl
structure EB (n cols d B DB:Nat) (m b:List (List Rat)):Prop where
 rc:RC n cols m
 rb:RC n d b
 n0:0<n
 nl:n<1000
 cl:cols<1000
 dl:d<1000
 b0:0<B
 bl:B<100000000
 dbl:DB+B<1000000000
 me:∀ c,c≤cols→MB B (ech m b c).m
 be:∀ c,c≤cols→MB B (ech m b c).b
 de:∀ c,c≤cols→qw (ech m b c).det≤DB
theorem ech_says (s:Bool)(n cols d B DB:Nat)(m b:List (List Rat))(H:EB n cols d B DB m b):SaysG E st11 51 [.at_ 999 0 3] ([wV cols n (bv s n)]++matT s m b) ([wV cols n (bv s n)]++matT s (ech m b cols).m (ech m b cols).b) (.p (.tup [.sl (ech m b cols).pv.length (encP (ech m b cols).pv),pQ (ech m b cols).det])):=by
 refine saysG_dat (xs:=[.sl (ech m b cols).pv.length (encP (ech m b cols).pv),pQ (ech m b cols).det]) Tryz.func51 rfl Tryz.ntmps51 Tryz.results51 sM fun F G=>?_
 have L:=@lti _ _ G.nt
 have hG:=G.g
 have hX:=G.x
 have hN:=ng_le hG
 have P0:=fun k (hk:(Nat.blt k 1000 && (List.lookup k _).isNone)=true)=>G.p0 k (p0T (matT_ok s m b) hk)
 have H1:=H.nl
 have H2:=H.cl
 have H3:=H.bl
 have H4:=H.dbl
 have H5:=H.rc.1
 have H6:=H.rb.1
 subst H5
 have hlo:F.lo 1003=true:=by rw [G.lo,lookup_append,matT_not rfl,Option.or_none]; rfl
 have hpin3:F.pin 1003=none:=G.p0 _ (by rw [lookup_append,matT_not rfl,Option.or_none]; rfl)
 refine exr (swb (core_boxAt (k:=1) rX rfl (P0 _ rfl) L) t1 t1 (frT [_] (matT_ok s m b) rfl rfl (by simp [freeSl,freeHb,Cells.free,PV.freeL,PV.free,pvV_free,argSlotsV])) ?_)
 refine aV L rfl (swb (c_al (k:=3) (n:=4) zv47 (.cons rfl (.cons rfl (.cons rfl (.cons rfl .nil)))) rfl (P0 _ rfl) L) t0 t0 (frT [_,_] (matT_ok s m b) rfl rfl (by simp [freeSl,freeHb,Cells.free,PV.freeL,PV.free,pvV_free,argSlotsV])) ?_)
 refine seq_nil ⟨[(1,_),(2,_),(3,_)],(1,_) :: (3,_) :: (999,_) :: ((matT s m b)),t3,⟨rfl,rfl,rfl,(hbT [_,_,_] (matT_ok s m b) rfl)⟩,?_⟩
 refine exr (cK hG hX cl55 hN (whole_says 1 dC dC) L t1 (sb (c_sm sz47 rF pa4 rfl pu4) t2 t1 ?_))
 refine seq_nil ⟨[(1,_),(2,pvV 1003 (encP [])),(3,_)],(1,_) :: (3,_) :: (999,_) :: ((tlP [] (matT s m b))),t3,⟨rfl,rfl,rfl,(hbT [_,_,_,_] (matT_ok s m b) rfl)⟩,?_⟩
 refine ex_seq (exr (swb (c_al (k:=4) (n:=1) zv3 (.cons rfl .nil) rfl (P0 _ rfl) L) t0 t0 (frT [_,_,_] (tlP_okT (pv:=[]) (s:=s) (m:=m) (b:=b)) rfl rfl (by simp [freeSl,freeHb,Cells.free,PV.freeL,PV.free,pvV_free,argSlotsV])) ?_))
 refine sb (c_sm sz3 rF (.atom rfl) rfl pu1) t2 t1 ?_
 refine seq_nil ⟨[(1,_),(2,_),(3,_),(4,_)],(1,_) :: (3,_) :: (4,_) :: (999,_) :: ((tlP [] (matT s m b))),t4,⟨rfl,rfl,rfl,rfl,(hbT [_,_,_,_,_] (tlP_okT (pv:=[]) (s:=s) (m:=m) (b:=b)) rfl)⟩,?_⟩
 refine ex_block ?_
 refine exlT (α:=(Nat×ESt)) (fun x=>[(2,pvV 1003 (encP x.2.pv))]) (fun x=>[(3,bQ x.2.det),(4,⟨3,1,.mix [.p (vZ (x.1:Int))]⟩)]) (fun x=>(tlP x.2.pv (matT s x.2.m x.2.b))) (fun x=>x.1≤cols∧x.2=ech m b x.1) (fun x=>cols - x.1) ((0,⟨m,b,[],1⟩)) (sl:=[(1,_),(3,_),(4,_)]) (hb:=[(1,_),(999,_)]) ?_ ⟨oR,rfl,rfl,rfl,trivial⟩ ⟨rfl,rfl,rfl,rfl,(hbT [_,_,_,_] (tlP_okT (pv:=[]) (s:=s) (m:=m) (b:=b)) rfl)⟩ ?_
 ·exact ⟨Nat.zero_le _,rfl⟩
 intro x hx
 obtain ⟨c,t⟩:=x
 obtain ⟨hc,hs⟩:=hx
 simp only at hc hs
 dsimp only
 have hrc:=ech_spec H.rc H.rb c hc
 have hme:=H.me c hc
 have hbe:=H.be c hc
 have hde:=H.de c hc
 rw [← hs] at hrc hme hbe hde
 obtain ⟨r1,r2,r3,-⟩:=hrc
 have hn:t.m.length=m.length:=r1.1
 by_cases hcc:c<cols
 ·refine ex_seq (exd rF ?_)
  refine sw (c_l1 ag3 rF rF L) t1 t1 ?_
  refine sw (c_l1 ag73 rF rF L) t1 t1 ?_
  refine sw (core_nilCheck rX L) t1 t1 ?_
  refine sw (c_fa un79 rfl sz3 dC rX L) t1 t1 ?_
  refine sw (c_l1 ag3 rF rF L) t1 t1 ?_
  refine sw (c_ls L) t2 t0 (mV L rfl (gV (g:=19) rfl sO L rfl rfl (swg (g:=19) rfl sO (core_lenV un27 L) rfl t1 (rdPv [_,_,_,_] rfl dC) (swg (g:=19) rfl sO (c_l1 ag73 rF rF L) rfl t1 t1 ?_))))
  refine swg (g:=19) rfl sO (core_nilCheck rX L) rfl t1 t1 ?_
  refine swg (g:=19) rfl sO (c_fa un79 rfl sz77 dC rX L) rfl t1 t1 ?_
  refine swg (g:=19) rfl sO (c_l1 ag77 rF rF L) rfl t1 t1 ?_
  refine swg (g:=19) rfl sO (c_lr un77 (by first | exact refsB_length _ _ _ | exact (refsB_length _ _ _).trans sM | exact (refsB_length _ _ _).trans (by assumption)) L) rfl t1 ⟨rdT [_,_,_,_] (tlP_okT (pv:=t.pv) (s:=s) (m:=t.m) (b:=t.b)) rfl tlP_hd,trivial⟩ ?_
  refine swg (g:=19) rfl sO (c_ls L) rfl t2 t0 (sw (c_pt sO L) t2 t0 ?_)
  refine seq_nil ⟨aokF [⟨[4],[4],[13],[]⟩,⟨[1],[1],[14],[]⟩,⟨[14],[999],[15],[]⟩,⟨[15],[999],[16],[]⟩,⟨[16],[999],[17],[]⟩,⟨[13,17],[],[18],[]⟩,⟨[18],[],[19],[]⟩,⟨[19,2],[],[20],[]⟩,⟨[19,20],[1000],[21],[]⟩,⟨[19,1],[1],[22],[]⟩,⟨[19,22],[999],[23],[]⟩,⟨[19,23],[999],[24],[]⟩,⟨[19,24],[999],[25],[]⟩,⟨[19,25],[1000],[26],[]⟩,⟨[19,21,26],[],[27],[]⟩,⟨[19,27],[],[28],[]⟩] (.cons (cf0 rfl) (.cons (cf0 rfl) (.cons (cf0 rfl) (.cons (cf0 rfl) (.cons (cf0 rfl) (.cons (cf0 rfl) (.cons (cf0 rfl) (.cons (cf0 rfl) (.cons (cfT rfl rfl (pvCls dC) rfl (fun _ h=>by cases h)) (.cons (cf0 rfl) (.cons (cf0 rfl) (.cons (cf0 rfl) (.cons (cf0 rfl) (.cons (cfT rfl rfl (cls1 dC) rfl (fun _ h=>by cases h)) (.cons (cf0 rfl) (.cons (cf0 rfl)  .nil)))))))))))))))) rfl (frS [] [_,_,_,_] (tlP_okT (pv:=t.pv) (s:=s) (m:=t.m) (b:=t.b)) rfl (by simp [freeSl,freeHb,Cells.free,PV.freeL,PV.free,pvV_free,argSlotsV])) dC,[(1,_),(2,_),(3,_),(4,_),(28,_)],(1,_) :: (3,_) :: (4,_) :: (999,_) :: ((tlP t.pv (matT s t.m t.b))),t5,⟨rfl,rfl,rfl,rfl,(hbT [_,_,_,_] (tlP_okT (pv:=t.pv) (s:=s) (m:=t.m) (b:=t.b)) rfl)⟩,?_⟩
  refine ex_if rfl (fun hp=>?_) (fun hp=>?_)
  ·have hp:=dt hp
   rw [encP_length] at hp
   have hpn:t.pv.length<m.length:=by omega
   have f1:=first_says 90 [.at_ 1 0 1,.at_ 4 0 1] (hC cols m.length c (bv s m.length) (tlP t.pv (matT s t.m t.b))) (hC_nd tlP_okT) (hC_w tlP_okT fun k B h=>tlP_subT k B h) cl90 (nzI t.m c) t.pv.length m.length oM (fun i _ hi=>by
    have h4:=r1.get hi
    have:=ech1_says t.m cols c i (bv s m.length) (tlP t.pv (matT s t.m t.b)) tlP_okT tlP_sub oM oM (by have:=mb_ent (i:=i) (j:=c) hme H.b0; unfold ent at this; omega)
    rw [hn] at this; exact this)
   refine ex_skip (xq ?_)
   refine ex_seq (ex_block (exr (mV L rfl (sw (core_lenV un27 L) t1 (rdPv [_,_,_,_] rfl dC) (swb (c_al (k:=5) (n:=1) zv3 (.cons rfl .nil) rfl (P0 _ rfl) L) t0 t0 (frT [_,_,_,_] (tlP_okT (pv:=t.pv) (s:=s) (m:=t.m) (b:=t.b)) rfl rfl (by simp [freeSl,freeHb,Cells.free,PV.freeL,PV.free,pvV_free,argSlotsV])) ?_)))))
   refine sb (c_sm sz3 rF (.atom rfl) rfl pu1) t2 t1 ?_
   refine seq_nil ⟨[(1,_),(2,_),(3,_),(4,_),(5,_)],(1,_) :: (3,_) :: (4,_) :: (5,⟨3,1,.mix [.p (vZ (t.pv.length:Int))]⟩) :: (999,_) :: ((tlP t.pv (matT s t.m t.b))),t5,⟨rfl,rfl,rfl,obl rfl (by rw [encP_length]),rfl,(hbT [_,_,_,_,_,_] (tlP_okT (pv:=t.pv) (s:=s) (m:=t.m) (b:=t.b)) rfl)⟩,?_⟩
   refine exd rF ?_
   refine sw (c_l1 ag3 rF rF L) t1 t1 ?_
   refine sw (c_l1 ag73 rF rF L) t1 t1 ?_
   refine sw (core_nilCheck rX L) t1 t1 ?_
   refine sw (c_fa un79 rfl sz77 dC rX L) t1 t1 ?_
   refine sw (c_l1 ag77 rF rF L) t1 t1 ?_
   refine sw (c_lr un77 (by first | exact refsB_length _ _ _ | exact (refsB_length _ _ _).trans sM | exact (refsB_length _ _ _).trans (by assumption)) L) t1 ⟨rdT [_,_,_,_,_] (tlP_okT (pv:=t.pv) (s:=s) (m:=t.m) (b:=t.b)) rfl tlP_hd,trivial⟩ ?_
   refine sw (c_fn (vs:=[]) (us:=[_,_]) rfl rfl L) t2 t0 (sw (core_callI hG hX hN f1 rfl L (args_fn (ys:=[_,_,_]) cl52 rfl rfl) (hC_nd tlP_okT) (hC_w tlP_okT fun k B h=>tlP_subT k B h) (fun q h=>by cases h)) t3 ⟨rfl,rfl,rfl,readsB_of (hbT [_,_,_,_,_] tlP_okT rfl)⟩ ?_)
   refine swb (c_al (k:=6) (n:=1) zv3 (.cons rfl .nil) rfl (P0 _ rfl) L) t0 t0 (frT [_,_,_,_,_] (tlP_okT (pv:=t.pv) (s:=s) (m:=t.m) (b:=t.b)) rfl rfl (by simp [freeSl,freeHb,Cells.free,PV.freeL,PV.free,pvV_free,argSlotsV])) ?_
   refine sb (c_sm sz3 rF (.atom rfl) rfl pu1) t2 t1 ?_
   refine seq_nil ⟨aokF [⟨[5],[5],[33],[]⟩,⟨[1],[1],[34],[]⟩,⟨[34],[999],[35],[]⟩,⟨[35],[999],[36],[]⟩,⟨[36],[999],[37],[]⟩,⟨[37],[1000],[38],[]⟩,⟨[1,4],[],[39],[]⟩,⟨[33,38,39],[1,4,999,1000],[40],[]⟩,⟨[],[],[6],[6]⟩,⟨[6,40],[6],[],[6]⟩] (.cons (cf0 rfl) (.cons (cf0 rfl) (.cons (cf0 rfl) (.cons (cf0 rfl) (.cons (cf0 rfl) (.cons (cfT rfl rfl (cls1 dC) rfl (fun _ h=>by cases h)) (.cons (cf0 rfl) (.cons (cfT rfl rfl (cls_app (l:=[_,_,_]) rF (tail_hi tlP_okT) rfl) rfl (fun _ h=>by cases h)) (.cons (cf0 rfl) (.cons (cf0 rfl)  .nil)))))))))) rfl (frS [6] [_,_,_,_,_] (tlP_okT (pv:=t.pv) (s:=s) (m:=t.m) (b:=t.b)) rfl (by simp [freeSl,freeHb,Cells.free,PV.freeL,PV.free,pvV_free,argSlotsV])) dC,[(1,_),(2,_),(3,_),(4,_),(5,_),(6,_)],(1,_) :: (3,_) :: (4,_) :: (5,_) :: (6,_) :: (999,_) :: ((tlP t.pv (matT s t.m t.b))),t6,⟨rfl,rfl,rfl,rfl,rfl,rfl,(hbT [_,_,_,_,_,_,_] (tlP_okT (pv:=t.pv) (s:=s) (m:=t.m) (b:=t.b)) rfl)⟩,?_⟩
   have hpe:firstI (nzI t.m c) t.pv.length (m.length - t.pv.length)=pivI t.m c t.pv.length:=by rw [pivI,hn]
   rw [hpe]
   refine ex_seq (exr (sw (c_l1 ag3 rF rF L) t1 t1 ?_))
   refine sw (c_ls L) t2 t0 ?_
   refine seq_nil ⟨[(1,_),(2,_),(3,_),(4,_),(5,_),(6,_),(42,_)],(1,_) :: (3,_) :: (4,_) :: (5,_) :: (6,_) :: (999,_) :: ((tlP t.pv (matT s t.m t.b))),t7,⟨rfl,rfl,rfl,rfl,rfl,rfl,(hbT [_,_,_,_,_,_] (tlP_okT (pv:=t.pv) (s:=s) (m:=t.m) (b:=t.b)) rfl)⟩,?_⟩
   refine ex_if rfl (fun hneg=>?_) (fun hneg=>?_)
   ·have hneg:=dt hneg
    have hst:ech m b (c+1)=t:=by rw [ech_succ,← hs,echStep,if_pos oM,if_pos hneg]
    refine ex_exit (xq ?_)
    refine ex_seq (exr (sw (c_l1 ag3 rF rF L) t1 t1 ?_))
    refine seq_nil ⟨[(1,_),(2,_),(3,_),(83,_)],(1,_) :: (3,_) :: (999,_) :: ((tlP t.pv (matT s t.m t.b))),t4,⟨rfl,rfl,rfl,(hbT [_,_,_,_,_,_] (tlP_okT (pv:=t.pv) (s:=s) (m:=t.m) (b:=t.b)) rfl)⟩,?_⟩
    refine exr0 (swb (c_al (k:=4) (n:=1) zv3 (.cons rfl .nil) rfl (P0 _ rfl) L) t0 t0 (frT [_,_,_] (tlP_okT (pv:=t.pv) (s:=s) (m:=t.m) (b:=t.b)) rfl rfl (by simp [freeSl,freeHb,Cells.free,PV.freeL,PV.free,pvV_free,argSlotsV])) ?_)
    refine sb (c_sm sz3 rF (.atom rfl) rfl pu1) t2 t1 ?_
    refine seq_nil (show Exec _ _ _ _ _ from exw (sl:=[(1,_),(2,_),(3,_),(4,_)]) (hb:=(1,_) :: (3,_) :: (4,_) :: (999,_) :: ((tlP t.pv (matT s t.m t.b)))) t4 ⟨rfl,rfl,rfl,rfl,(hbT [_,_,_,_,_] (tlP_okT (pv:=t.pv) (s:=s) (m:=t.m) (b:=t.b)) rfl)⟩ ?_)
    refine exr0 (sw (c_l1 ag3 rF rF L) t1 t1 ?_)
    refine sw (c_ad L (w64 oM oM)) t2 t0 (sb (c_sm sz3 rF (.atom rfl) rfl pu1) t2 t1 ?_)
    refine seq_nil ?_
    exact ⟨(c+1,t),⟨by simp only; omega,hst.symm⟩,(by simp only; omega),le_of ⟨oR,rfl,rfl,rfl,trivial⟩ ⟨rfl,rfl,rfl,rfl,(hbT [_,_,_,_,_] (tlP_okT (pv:=t.pv) (s:=s) (m:=t.m) (b:=t.b)) rfl)⟩⟩
   ·have hneg:=df hneg
    have hst:ech m b (c+1)=stp t.m t.b t.pv t.det (pivI t.m c t.pv.length).toNat c:=by rw [ech_succ,← hs,echStep,if_pos oM,if_neg hneg]
    obtain ⟨hp1,hp2,hp3,hp4⟩:=pivI_hit hneg (show t.pv.length<t.m.length by omega)
    obtain ⟨i,hi⟩:∃ i,i=(pivI t.m c t.pv.length).toNat:=⟨_,rfl⟩
    rw [← hi] at hp1 hp2 hp3 hp4 hst
    rw [← hp4]
    have hl0:ent t.m i c≠0:=by simpa [nzI,ent] using hp3
    have hin:i<m.length:=by omega
    have hnm:=H.me (c+1) hcc
    have hnb:=H.be (c+1) hcc
    rw [hst] at hnm hnb
    have hld:leadQ (swapped t.m i t.pv.length) t.pv.length c=ent t.m i c:=by
     have:=swapped_ent (k:=t.pv.length) (j:=c) r1.1 hin hpn
     rw [if_pos rfl] at this; exact this
    obtain ⟨p,hpp⟩:∃ p,p=t.pv.length:=⟨_,rfl⟩
    rw [← hpp] at hp1 hpn hld
    rw [← hpp]
    have hbl:t.b.length=m.length:=r2.1
    refine ex_skip (xq ?_)
    refine ex_seq (exr (sw (c_l1 ag3 rF rF L) t1 t1 ?_))
    refine sw (c_l1 ag3 rF rF L) t1 t1 ?_
    refine sw (c_n L) t2 t0 ?_
    refine seq_nil ⟨[(1,_),(2,_),(3,_),(4,_),(5,_),(6,_),(45,_)],(1,_) :: (3,_) :: (4,_) :: (5,_) :: (6,_) :: (999,_) :: ((tlP t.pv (matT s t.m t.b))),t7,⟨rfl,rfl,rfl,rfl,rfl,rfl,(hbT [_,_,_,_,_,_] (tlP_okT (pv:=t.pv) (s:=s) (m:=t.m) (b:=t.b)) rfl)⟩,?_⟩
    refine ex_cutT (sl:=[]) (sl0:=[(1,_),(2,_),(3,_),(4,_),(5,_)]) (hb:=[(1,⟨73,1,.mix [.at_ 999 0 3]⟩),(3,bQ (if i=p then t.det else -t.det)),(4,⟨3,1,.mix [.p (vZ (c:Int))]⟩),(5,⟨3,1,.mix [.p (vZ (p:Int))]⟩),(999,(wV cols m.length (bv s m.length)).2)]) (T:=(tlP t.pv (matT s (swapped t.m i p) (swapped t.b i p)))) t5 ?_ ?_
    ·refine ex_if rfl (fun hne=>?_) (fun hne=>?_)
     ·have hne:=nt hne
      have hne':i≠p:=fun e=>hne (by rw [e])
      have hb2:=both2 s cols t.m t.b i p hp2 oM hne' oM
      rw [hn] at hb2
      refine exrN (nsw (c_l1 ag73 rF rF L) t1 t1 ?_)
      refine nsw (c_fn (vs:=[]) (us:=[_,_]) rfl rfl L) t2 t0 (nsI hG hX hN [(1,.at_ 1 0 1),(2,pvV 1003 (encP t.pv)),(3,.at_ 3 0 4),(4,.at_ 4 0 1),(5,.at_ 5 0 1)] ([(1,_),(3,_),(4,_),(5,_),(999,_)]++(tlP t.pv (matT s (swapL t.m i p) (swapL t.b i p)))) hb2 L (args_fn (ys:=[_,_]) cl92 rfl rfl) t2 (by exact ncE (pre:=[_,_,_,_,_,_]) (pre':=[_,_,_,_,_]) (bx:=[bxI 5 p,bxI 6 i,wV cols m.length (bv s m.length)]) sM sM hn (hbl.trans H6.symm) G rfl t3 t5 (by cases s <;> rfl) (by simp [List.lookup_cons]) (by cases s <;> rfl) (by simp [PV.only,pvV_only]) t5) (fun q h=>by cases h) rfl ?_)
      refine .nil ⟨[(1,_),(2,_),(3,_),(4,_),(5,_)],(1,_) :: (3,_) :: (4,_) :: (5,_) :: (999,_) :: tlP t.pv (matT s (swapL t.m i p) (swapL t.b i p)),t5,⟨rfl,rfl,rfl,rfl,rfl,(hbT [_,_,_,_,_] (tlP_okT (pv:=t.pv) (s:=s) (m:=swapL t.m i p) (b:=swapL t.b i p)) rfl)⟩,?_⟩
      refine exr0 (lp4 ag47 sz47 L rfl rfl (cK hG hX cl56 hN (qneg_says t.det oM) L t1 (sb (c_sm sz47 rF pa4 rfl pu4) t2 t1 ?_)))
      refine seq_nil ?_
      exact ⟨⟨oR,oR,oR,oR,oR,trivial⟩,⟨rfl,obl rfl (by rw [if_neg hne']),rfl,rfl,rfl,(by rw [swapped,if_neg hne',swapped,if_neg hne']; exact hbT [_,_,_,_,_,_] tlP_okT rfl)⟩⟩
     ·have hne:=nf hne
      have hne':i=p:=by omega
      refine ex_skip ?_
      exact ⟨⟨oR,oR,oR,oR,oR,trivial⟩,⟨rfl,obl rfl (by rw [if_pos hne']),rfl,rfl,rfl,(by rw [swapped,if_pos hne',swapped,if_pos hne']; exact hbT [_,_,_,_,_,_] tlP_okT rfl)⟩⟩
    ·obtain ⟨m1,hm1⟩:∃ m1,m1=swapped t.m i p:=⟨_,rfl⟩
     obtain ⟨b1,hb1⟩:∃ b1,b1=swapped t.b i p:=⟨_,rfl⟩
     obtain ⟨d1,hd1⟩:∃ d1,d1=(if i=p then t.det else -t.det):=⟨_,rfl⟩
     rw [← hm1,← hb1,← hd1]
     have hrc1:RC m.length cols m1:=by rw [hm1]; exact r1.swapped hin hpn
     have hrb1:RC m.length d b1:=by rw [hb1]; exact r2.swapped hin hpn
     have hn1:=hrc1.1
     have hcp:c<(m1.getD p []).length:=by rw [hrc1.get hpn]; exact hcc
     rw [← hm1] at hld
     refine exd rF ?_
     refine sw (c_l1 ag73 rF rF L) t1 t1 ?_
     refine sw (core_nilCheck rX L) t1 t1 ?_
     refine sw (c_fa un79 rfl sz77 dC rX L) t1 t1 ?_
     refine sw (c_l1 ag77 rF rF L) t1 t1 ?_
     refine sw (c_l1 ag3 rF rF L) t1 t1 ?_
     refine sw (c_l1 ag3 rF rF L) t1 t1 ?_
     refine sw (core_callI hG hX hN (atM (M:=m1) (m:=m1) hn1 rfl hpn hcp) rfl L (args_fn (ys:=[_,_,_]) cl91 rfl rfl) (mat1_ok dC m1).nd (mat1_ok dC m1).whole (fun q h=>by cases h)) t3 (readsB_of (hasB_of (mat1_ok dC m1).nd fun k B h=>rdT [_,_,_,_,_] tlP_okT rfl (tlP_sub k B h))) ?_
     refine swb (c_al (k:=7) (n:=4) zv47 (.cons rfl (.cons rfl (.cons rfl (.cons rfl .nil)))) rfl (P0 _ rfl) L) t0 t0 (frT [_,_,_,_,_] (tlP_okT (pv:=t.pv) (s:=s) (m:=m1) (b:=b1)) rfl rfl (by simp [freeSl,freeHb,Cells.free,PV.freeL,PV.free,pvV_free,argSlotsV])) ?_
     refine sb (c_sm sz47 rF pa4 rfl pu4) t2 t1 ?_
     refine seq_nil ⟨aokF [⟨[1],[1],[51],[]⟩,⟨[51],[999],[52],[]⟩,⟨[52],[999],[53],[]⟩,⟨[53],[999],[54],[]⟩,⟨[5],[5],[55],[]⟩,⟨[4],[4],[56],[]⟩,⟨[54,55,56],[1000],[57],[]⟩,⟨[],[],[7],[7]⟩,⟨[7,57],[7],[],[7]⟩] (.cons (cf0 rfl) (.cons (cf0 rfl) (.cons (cf0 rfl) (.cons (cf0 rfl) (.cons (cf0 rfl) (.cons (cf0 rfl) (.cons (cfT rfl rfl (fun p hp=>by rw [cls_hi (tail_hi (mat1_ok dC m1) p hp)]; exact List.mem_singleton.2 rfl) rfl (fun _ h=>by cases h)) (.cons (cf0 rfl) (.cons (cf0 rfl)  .nil))))))))) rfl (frS [7] [_,_,_,_,_] (tlP_okT (pv:=t.pv) (s:=s) (m:=m1) (b:=b1)) rfl (by simp [freeSl,freeHb,Cells.free,PV.freeL,PV.free,pvV_free,argSlotsV])) dC,[(1,_),(2,_),(3,_),(4,_),(5,_),(7,_)],(1,_) :: (3,_) :: (4,_) :: (5,_) :: (7,_) :: (999,_) :: ((tlP t.pv (matT s m1 b1))),t6,⟨rfl,rfl,rfl,rfl,rfl,rfl,(hbT [_,_,_,_,_,_,_] (tlP_okT (pv:=t.pv) (s:=s) (m:=m1) (b:=b1)) rfl)⟩,?_⟩
     have hq1:qw (leadQ m1 p c)≤B:=by rw [hld]; exact mb_ent hme H.b0
     have hq2:leadQ m1 p c≠0:=by rw [hld]; exact hl0
     have hq3:qw d1≤DB:=by rw [hd1]; split; exact hde; rw [qw_neg]; exact hde
     have hq4:qw (1 / leadQ m1 p c)≤B+1:=by have:=qw_div (a:=1) hq2; rw [qw_one] at this; omega
     refine exr (lp4 ag47 sz47 L rfl rfl (lp4 ag47 sz47 L rfl rfl (cK hG hX cl67 hN (qmul_says d1 (leadQ m1 p c) oM oM) L t2 (sb (c_sm sz47 rF pa4 rfl pu4) t2 t1 ?_))))
     refine seq_nil ⟨[(1,_),(2,_),(3,_),(4,_),(5,_),(7,_)],(1,_) :: (3,_) :: (4,_) :: (5,_) :: (7,_) :: (999,_) :: ((tlP t.pv (matT s m1 b1))),t6,⟨rfl,rfl,rfl,rfl,rfl,rfl,(hbT [_,_,_,_,_,_,_] (tlP_okT (pv:=t.pv) (s:=s) (m:=m1) (b:=b1)) rfl)⟩,?_⟩
     refine exd rF ?_
     refine cK hG hX cl55 hN (whole_says 1 dC dC) L t1 (lp4 ag47 sz47 L rfl rfl (cK hG hX cl66 hN (qdiv_says 1 (leadQ m1 p c) (by rw [qw_one]; decide) oM hq2) L t2 ?_))
     refine mV L rfl (sw (c_ex rfl L) t1 t0 (sw (c_ex rfl L) t1 t0 (swb (c_al (k:=8) (n:=4) zv47 (.cons rfl (.cons rfl (.cons rfl (.cons rfl .nil)))) rfl (P0 _ rfl) L) t0 t0 (frT [_,_,_,_,_,_] (tlP_okT (pv:=t.pv) (s:=s) (m:=m1) (b:=b1)) rfl rfl (by simp [freeSl,freeHb,Cells.free,PV.freeL,PV.free,pvV_free,argSlotsV])) ?_)))
     refine sb (c_sm sz47 rF pa4 rfl pu4) t2 t1 ?_
     refine aV L rfl ?_
     refine seq_nil ⟨aokF [⟨[],[],[62],[]⟩,⟨[7],[7],[63],[]⟩,⟨[62,63],[],[64],[]⟩,⟨[64],[],[61],[]⟩,⟨[61],[],[65],[]⟩,⟨[61],[],[66],[]⟩,⟨[],[],[8],[8]⟩,⟨[8,65],[8],[],[8]⟩,⟨[66],[],[9],[]⟩] (.cons (cf0 rfl) (.cons (cf0 rfl) (.cons (cf0 rfl) (.cons (cf0 rfl) (.cons (cf0 rfl) (.cons (cf0 rfl) (.cons (cf0 rfl) (.cons (cf0 rfl) (.cons (cf0 rfl)  .nil))))))))) rfl (frS [8] [_,_,_,_,_,_] (tlP_okT (pv:=t.pv) (s:=s) (m:=m1) (b:=b1)) rfl (by simp [freeSl,freeHb,Cells.free,PV.freeL,PV.free,pvV_free,argSlotsV])) dC,[(1,_),(2,_),(3,_),(4,_),(5,_),(8,_)],(1,_) :: (3,_) :: (4,_) :: (5,_) :: (8,_) :: (999,_) :: ((tlP t.pv (matT s m1 b1))),t6,⟨rfl,rfl,rfl,rfl,rfl,rfl,(hbT [_,_,_,_,_,_,_,_] (tlP_okT (pv:=t.pv) (s:=s) (m:=m1) (b:=b1)) rfl)⟩,?_⟩
     have hm1B:∀ i j,qw (ent m1 i j)≤B:=fun i' j=>by rw [hm1,swapped_ent r1.1 hin hpn]; exact mb_ent hme H.b0
     have hb1B:∀ i j,qw (ent b1 i j)≤B:=fun i' j=>by rw [hb1,swapped_ent r2.1 hin hpn]; exact mb_ent hbe H.b0
     have hb3:=both3 s cols m1 b1 p (1 / leadQ m1 p c) oM (by rw [hrb1.1,hn1]) (by rw [hrc1.get hpn]; omega) (fun a ha=>by obtain ⟨j,rfl⟩:=row_ent ha; have:=hm1B p j; omega) oM (by rw [hrb1.get hpn]; have:=H.dl; omega) (fun a ha=>by obtain ⟨j,rfl⟩:=row_ent ha; have:=hb1B p j; omega)
     rw [hn1] at hb3
     refine exrN (nsw (c_l1 ag73 rF rF L) t1 t1 ?_)
     refine nsw (c_fn (vs:=[]) (us:=[_,_]) rfl rfl L) t2 t0 (nsI hG hX hN [(1,.at_ 1 0 1),(2,pvV 1003 (encP t.pv)),(3,.at_ 3 0 4),(4,.at_ 4 0 1),(5,.at_ 5 0 1)] ([(1,_),(3,_),(4,_),(5,_),(999,_)]++(tlP t.pv (matT s (sclR m1 p (1 / leadQ m1 p c)) (sclR b1 p (1 / leadQ m1 p c))))) hb3 L (args_fn (ys:=[_,_]) cl92 rfl rfl) t2 (by exact ncE (pre:=[_,_,_,_,_,_]) (pre':=[_,_,_,_,_]) (bx:=[bxI 5 p,bxQ 8 (1 / leadQ m1 p c),wV cols m.length (bv s m.length)]) (by simp [sclR]) (by simp [sclR]) hn1 (hrb1.1.trans H6.symm) G rfl t3 t5 (by cases s <;> rfl) (by simp [List.lookup_cons]) (by cases s <;> rfl) (by simp [PV.only,pvV_only]) t5) (fun q h=>by cases h) rfl ?_)
     refine .nil ⟨[(1,_),(2,_),(3,_),(4,_),(5,_)],(1,_) :: (3,_) :: (4,_) :: (5,_) :: (999,_) :: tlP t.pv (matT s (sclR m1 p (1 / leadQ m1 p c)) (sclR b1 p (1 / leadQ m1 p c))),t5,⟨rfl,rfl,rfl,rfl,rfl,(hbT [_,_,_,_,_] (tlP_okT (pv:=t.pv) (s:=s) (m:=sclR m1 p (1 / leadQ m1 p c)) (b:=sclR b1 p (1 / leadQ m1 p c))) rfl)⟩,?_⟩
     have hrc2:=hrc1.scl (q:=1 / leadQ m1 p c) hpn
     have hrb2:=hrb1.scl (q:=1 / leadQ m1 p c) hpn
     have hm2B:∀ i j,qw (ent (sclR m1 p (1 / leadQ m1 p c)) i j)≤B+(B+1):=fun i' j=>by
      rw [scl_ent hrc1 hpn]
      split
      ·have:=qw_mul (ent m1 p j) (1 / leadQ m1 p c); have:=hm1B p j; omega
      ·have:=hm1B i' j; omega
     have hb2B:∀ i j,qw (ent (sclR b1 p (1 / leadQ m1 p c)) i j)≤B+(B+1):=fun i' j=>by
      rw [scl_ent hrb1 hpn]
      split
      ·have:=qw_mul (ent b1 p j) (1 / leadQ m1 p c); have:=hb1B p j; omega
      ·have:=hb1B i' j; omega
     have hst2:stp t.m t.b t.pv t.det i c=⟨elimM (sclR m1 p (1 / leadQ m1 p c)) (sclR m1 p (1 / leadQ m1 p c)) p c,elimM (sclR m1 p (1 / leadQ m1 p c)) (sclR b1 p (1 / leadQ m1 p c)) p c,t.pv++[c],d1*leadQ m1 p c⟩:=by
      rw [stp,hm1,hb1,hd1,hpp]
     obtain ⟨m2,hm2⟩:∃ m2,m2=sclR m1 p (1 / leadQ m1 p c):=⟨_,rfl⟩
     obtain ⟨b2,hb2⟩:∃ b2,b2=sclR b1 p (1 / leadQ m1 p c):=⟨_,rfl⟩
     obtain ⟨q2,hq⟩:∃ q2,q2=d1*leadQ m1 p c:=⟨_,rfl⟩
     rw [← hm2,← hb2,← hq] at hst2
     rw [← hm2] at hrc2 hm2B
     rw [← hb2] at hrb2 hb2B
     rw [← hm2,← hb2,← hq]
     obtain ⟨N,hN2⟩:∃ N,N=(elimI m2 p c).length:=⟨_,rfl⟩
     have hpin:∀ k,k<1000→k≠999→F.pin k=none:=fun k hk hk9=>G.p0 k (by rw [lookup_append,(matT_ok s m b).low k (by simpa [Nat.blt_eq] using hk),Option.or_none,List.lookup_cons,show (k == 999)=false by simpa using hk9]; rfl)
     refine ex_seq (exrN (nsw (c_l1 ag73 rF rF L) t1 t1 ?_))
     refine nsw (c_l1 ag3 rF rF L) t1 t1 ?_
     refine nsw (c_l1 ag3 rF rF L) t1 t1 ?_
     refine nsI hG hX hN [(1,.at_ 1 0 1),(2,pvV 1003 (encP t.pv)),(3,.at_ 3 0 4),(4,.at_ 4 0 1),(5,.at_ 5 0 1)] ([(603,_),(604,_),(605,_),(999,_),(1,_),(3,_),(4,_),(5,_)]++(tlP t.pv (matT s m2 b2))) (others_says s cols m.length p c (tlP t.pv (matT s m2 b2)) tlP_okT) L (args_fn (ys:=[_,_,_]) cl97 rfl rfl) t3 (by exact ncO (q:=q2) (c:=c) (p:=p) (pre:=[_,_,_,_,_]) t5 rfl (fun k hk=>hpin k oM oM) (by simp [PV.only,pvV_only]) t5) (fun q h=>by rcases clo3_free h with rfl | rfl | rfl <;> exact lk_app' (by simp [List.lookup_cons])) rfl ?_
     refine .nil ⟨[(1,_),(2,_),(3,_),(4,_),(5,_),(73,_)],(1,_) :: (3,_) :: (4,_) :: (5,_) :: (603,_) :: (604,_) :: (605,_) :: (999,_) :: tlP t.pv (matT s m2 b2),t6,⟨rfl,rfl,rfl,rfl,rfl,rfl,rfl,rfl,(hbT [_,_,_,_,_,_,_,_] (tlP_okT (pv:=t.pv) (s:=s) (m:=m2) (b:=b2)) rfl)⟩,?_⟩
     refine ex_block ?_
     have hMr:∀ k,k≤N→RC m.length cols (elimX m2 m2 p c k):=fun k hk=>elimX_rc hrc2.1 hrc2 hpn k oM
     have hBr:∀ k,k≤N→RC m.length d (elimX m2 b2 p c k):=fun k hk=>elimX_rc hrc2.1 hrb2 hpn k oM
     refine ex_range (fn:=Tryz.f126) (n:=N) (nI:=42) (Hc:=bx3 p c) (Hc':=bx3 p c) (fun k=>hR s cols m.length c p q2 t.pv (elimX m2 m2 p c k) (elimX m2 b2 p c k)) (fun k=>(vZ ((elimI m2 p c).getD k 0:Nat),pQ (ent m2 ((elimI m2 p c).getD k 0) c))) (sl:=[(1,.at_ 1 0 1),(2,pvV 1003 (encP t.pv)),(3,.at_ 3 0 4),(4,.at_ 4 0 1),(5,.at_ 5 0 1)]) hG hX hN G.ro rfl ?_ cl126 Tryz.func126 rfl Tryz.ntmps126 Tryz.results126 dC ⟨L,L⟩ ?_ ?_ ?_ ?_ (fun q h=>h) ?_ ?_ ?_ ?_
     ·exact le_of t5 ⟨rfl,rfl,rfl,rfl,rfl,rfl,rfl,rfl,hbT [_,_,_,_,_,_,_,_] tlP_okT rfl⟩
     ·intro k hk j hj
      rcases bx3_low hk with rfl | rfl | rfl <;> exact hR_none dC dC dC dC dC dC
     ·intro k hk q'
      have h1:=sameR_rc (hMr k oM) (hMr (k+1) oM)
      have h2:=sameR_rc (hBr k oM) (hBr (k+1) oM)
      constructor
      ·intro h
       obtain ⟨B1,hB1⟩:=Option.ne_none_iff_exists'.1 h
       obtain ⟨B0,h0,_⟩:=hR_fix h1 h2 hB1
       rw [h0]; simp
      ·intro h
       obtain ⟨B1,hB1⟩:=Option.ne_none_iff_exists'.1 h
       obtain ⟨B0,h0,_⟩:=hR_fix (sameR_symm h1) (sameR_symm h2) hB1
       rw [h0]; simp
     ·intro k hk q' B0 B1 h0 h1
      obtain ⟨B2,h2,h3⟩:=hR_fix (sameR_rc (hMr k oM) (hMr (k+1) oM)) (sameR_rc (hBr k oM) (hBr (k+1) oM)) h1
      rw [h0] at h2
      injection h2 with h2
      subst h2; exact h3
     ·exact fun k hk=>hR_w
     ·intro tt v hv q' hq'
      have hm:(tt,v)∈_:=lookup_mem' hv
      simp only [List.mem_cons,List.not_mem_nil,or_false,Prod.mk.injEq] at hm
      have hb:∀ k,(k=1∨k=3∨k=4∨k=5)→(hR s cols m.length c p q2 t.pv (elimX m2 m2 p c 0) (elimX m2 b2 p c 0)).lookup k≠none:=fun k hk=>lk_app' (by rcases hk with rfl | rfl | rfl | rfl <;> simp [List.lookup_cons])
      rcases hm with ⟨_,rfl⟩ | ⟨_,rfl⟩ | ⟨_,rfl⟩ | ⟨_,rfl⟩ | ⟨_,rfl⟩
      ·obtain rfl:1=q':=by simpa [PV.free] using hq'
       exact hb 1 sM
      ·cases hpv:t.pv with
       | nil=>rw [hpv] at hq'; cases hq'
       | cons a l =>
        rw [hpv] at hq'
        obtain rfl:1003=q':=by simpa [PV.free,encP] using hq'
        exact lk_app (by simp [tlP,encP,pvB])
      ·obtain rfl:3=q':=by simpa [PV.free] using hq'
       exact hb 3 sM
      ·obtain rfl:4=q':=by simpa [PV.free] using hq'
       exact hb 4 sM
      ·obtain rfl:5=q':=by simpa [PV.free] using hq'
       exact hb 5 sM
     ·intro l F' XF hro' hY
      have hlen2:m2.length=m.length:=hrc2.1
      have hit:=othersI_hit cols p c N l m2 (bv s m.length) (fun k=>elimX m2 m2 p c k) (fun k=>[(1,⟨73,1,.mix [.at_ 999 0 3]⟩),(3,bQ q2),bxI 4 c,bxI 5 p]++tlP t.pv (matT s (elimX m2 m2 p c k) (elimX m2 b2 p c k))) (fun k=>(vZ ((elimI m2 p c).getD k 0:Nat),pQ (ent m2 ((elimI m2 p c).getD k 0) c))) (fun k hk=>hR_I) (fun k hk q' B' h=>by
        rw [lookup_append,show ([(1,⟨73,1,.mix [.at_ 999 0 3]⟩),(3,bQ q2),bxI 4 c,bxI 5 p]:List (Nat×Blk)).lookup q'=none from blt10_none rF (mat1_hi dC h),Option.none_or]
        exact tlP_sub q' B' h) (fun k hk=>(hMr k hk).1.trans hlen2.symm) (fun i' hi'=>elimK_at hrc2 hpn hi') (fun i' hi'=>by rw [hrc2.get oM]; exact hcc) (fun i' hi'=>by have:=hm2B i' c; unfold ent at this; omega) (by rw [hN2]; exact elimI_cnt) (fun i' hi' ho=>by rw [(elimI_at hi' ho).1]; rfl) oM
      rw [hlen2] at hit
      exact hit F' _ rfl XF hY
     ·intro k hk
      obtain ⟨ix,hix⟩:∃ ix,ix=(elimI m2 p c).getD k 0:=⟨_,rfl⟩
      have hmem:=elimI_lt.1 (getN_mem (show k<(elimI m2 p c).length by omega))
      have hat:=elimX_at (k:=k) hrc2.1 hrc2 hpn (by omega:k<(elimI m2 p c).length)
      have hatb:=elimX_at (m:=m2) (c:=c) (k:=k) hrc2.1 hrb2 hpn (by omega:k<(elimI m2 p c).length)
      have hMk:=hMr k oM
      have hBk:=hBr k oM
      have e1:elimX m2 m2 p c (k+1)=takR (elimX m2 m2 p c k) ix p (ent m2 ix c):=by rw [elimX_succ oM,hix]; rfl
      have e2:elimX m2 b2 p c (k+1)=takR (elimX m2 b2 p c k) ix p (ent m2 ix c):=by rw [elimX_succ oM,hix]; rfl
      rw [← hix] at hmem hat hatb
      simp only
      rw [e1,e2,← hix]
      obtain ⟨mk,hmk⟩:∃ mk,mk=elimX m2 m2 p c k:=⟨_,rfl⟩
      obtain ⟨bk,hbk⟩:∃ bk,bk=elimX m2 b2 p c k:=⟨_,rfl⟩
      rw [← hmk] at hat hMk ⊢
      rw [← hbk] at hatb hBk ⊢
      have hixn:ix<m.length:=by have:=hrc2.1; omega
      refine ⟨⟨[(10,.at_ 10 0 1),(11,.at_ 11 0 4),(1,.at_ 1 0 1),(2,pvV 1003 (encP t.pv)),(3,.at_ 3 0 4),(4,.at_ 4 0 1),(5,.at_ 5 0 1)],[bxI 10 ix,bxQ 11 (ent m2 ix c),wV cols m.length (bv s m.length),(1,⟨73,1,.mix [.at_ 999 0 3]⟩),(3,bQ q2),bxI 4 c,bxI 5 p]++tlP t.pv (matT s mk bk)⟩,fun F' XF=>?_,fun F' XF=>?_⟩
      ·have L:=@lti _ _ (XF.nt.trans G.nt)
       have P0:∀ k,(k == 10 || k == 11)=true→F'.pin k=none:=fun k hk=>XF.p0 k (by simp only [Bool.or_eq_true,beq_iff_eq] at hk; rcases hk with rfl | rfl <;> exact hR_none dC dC dC dC dC dC)
       skip
       refine exr (swb (c_al (k:=10) (n:=1) zv3 (.cons rfl .nil) rfl (P0 _ rfl) L) t0 t0 (frT [_,_,_,_,_] (tlP_okT (pv:=t.pv) (s:=s) (m:=mk) (b:=bk)) rfl rfl (by simp [freeSl,freeHb,Cells.free,PV.freeL,PV.free,pvV_free,argSlotsV])) ?_)
       refine sb (c_sm sz3 rF (.atom rfl) rfl pu1) t2 t1 ?_
       refine seq_nil ⟨[(1,_),(2,_),(3,_),(4,_),(5,_),(10,_),(74,_),(75,_)],(1,_) :: (3,_) :: (4,_) :: (5,_) :: (10,_) :: (999,_) :: ((tlP t.pv (matT s mk bk))),t8,⟨rfl,rfl,rfl,rfl,rfl,rfl,(hbT [_,_,_,_,_,_,_] (tlP_okT (pv:=t.pv) (s:=s) (m:=mk) (b:=bk)) rfl)⟩,?_⟩
       refine exr0 (swb (c_al (k:=11) (n:=4) zv47 (.cons rfl (.cons rfl (.cons rfl (.cons rfl .nil)))) rfl (P0 _ rfl) L) t0 t0 (frT [_,_,_,_,_,_] (tlP_okT (pv:=t.pv) (s:=s) (m:=mk) (b:=bk)) rfl rfl (by simp [freeSl,freeHb,Cells.free,PV.freeL,PV.free,pvV_free,argSlotsV])) ?_)
       refine sb (c_sm sz47 rF pa4 rfl pu4) t2 t1 ?_
       refine seq_nil ?_
       exact ⟨rfl,le_of t7 ⟨rfl,rfl,rfl,rfl,rfl,rfl,rfl,hbT [_,_,_,_,_,_,_,_] tlP_okT rfl⟩⟩
      ·have L:=@lti _ _ (XF.nt.trans G.nt)
       have hG:=XF.g
       have hX:=XF.x
       have hN:=XF.ng
       have hb4:=both4 s cols mk bk ix p (ent m2 ix c) (B+(B+1)) (B+(B+1)) (B+(B+1)) (by rw [hMk.1]; exact hixn) (by rw [hMk.1]; exact hpn) hmem.2.1 (by rw [hBk.1,hMk.1]) (by rw [hMk.get hpn,hMk.get hixn]) (by rw [hMk.get hixn]; omega) (fun a ha=>by rw [hat.1] at ha; obtain ⟨j,rfl⟩:=row_ent ha; exact hm2B ix j) (fun a ha=>by rw [hat.2] at ha; obtain ⟨j,rfl⟩:=row_ent ha; exact hm2B p j) (hm2B ix c) (by rw [hBk.get hpn,hBk.get hixn]) (by rw [hBk.get hixn]; have:=H.dl; omega) (fun a ha=>by rw [hatb.1] at ha; obtain ⟨j,rfl⟩:=row_ent ha; exact hb2B ix j) (fun a ha=>by rw [hatb.2] at ha; obtain ⟨j,rfl⟩:=row_ent ha; exact hb2B p j) oM
       rw [hMk.1] at hb4
       have hs1:=sameR_rc hMk (hMk.take (q:=ent m2 ix c) hixn hpn)
       have hs2:=sameR_rc hBk (hBk.take (q:=ent m2 ix c) hixn hpn)
       skip
       refine ex_block (exr0N (nsw (c_l1 ag73 rF rF L) t1 t1 ?_))
       refine nsw (c_fn (vs:=[]) (us:=[_,_,_]) rfl rfl L) t3 t0 (nsI hG hX hN [] ([(999,_),(1,_),(3,_),(4,_),(5,_)]++(tlP t.pv (matT s (takR mk ix p (ent m2 ix c)) (takR bk ix p (ent m2 ix c))))) hb4 L (args_fn (ys:=[_,_]) cl92 rfl rfl) t2 (by exact ncEA (pre:=[_,_,_,_,_,_,_]) (pre':=[_,_,_,_,_]) (bx:=[bxI 5 p,bxI 10 ix,bxQ 11 (ent m2 ix c),wV cols m.length (bv s m.length)]) hs1 hs2 rfl t4 t5 (by cases s <;> rfl) (by simp [List.lookup_cons]) trivial) (fun q h=>by cases h) rfl ?_)
       refine .nil ?_
       exact ⟨rfl,rfl,rfl,rfl,rfl,rfl,hbT [_,_,_,_,_] tlP_okT rfl⟩
     ·show Exec _ _ _ ⟨_,bx3 p c++(bxs s cols m.length c p q2++tlP t.pv (matT s (elimX m2 m2 p c N) (elimX m2 b2 p c N)))⟩ _
      obtain ⟨mN,hmN⟩:∃ mN,mN=elimX m2 m2 p c N:=⟨_,rfl⟩
      obtain ⟨bN,hbN⟩:∃ bN,bN=elimX m2 b2 p c N:=⟨_,rfl⟩
      have hst3:ech m b (c+1)=⟨mN,bN,t.pv++[c],q2⟩:=by rw [hst,hst2,elimM,elimM,← hN2,hmN,hbN]
      rw [← hmN,← hbN]
      skip
      refine exr0 (mV L rfl (sw (c_l1 ag3 rF rF L) t1 t1 ?_))
      refine sw (c_bI (vs:=[_]) un27 ti3 rfl rfl dC dC rfl (zs_made (.cons rfl .nil) rfl) rfl (.cons rfl (.atom rfl) rfl pu1 .nil) (.cons .nil) L) t1 t0 (swA (core_appV (k:=1003) un27 un27 ti3 rfl rfl rfl (by first | (simp [Tryz.t3]; done) | (simp [Tryz.t3]; omega)) sO hpin3 L) t2 ((rdPv [_,_,_,_,_,_,_,_] rfl dC)) (pvFr (pre:=[_,_,_,_,_,_,_,_]) rfl (fun e=>by rw [e]; simp [freeSl,freeHb,Cells.free,PV.freeL,PV.free,encP])) ?_)
      refine aV L rfl ?_
      refine seq_nil (show Exec _ _ _ _ _ from exw (sl:=[(1,_),(2,pvV 1003 (encP (t.pv++[c]))),(3,_),(4,_)]) (hb:=(1,_) :: (3,_) :: (4,_) :: (999,_) :: ((tlP (t.pv++[c]) (matT s mN bN)))) ⟨rfl,(by rw [encP_app]; rfl),rfl,rfl,trivial⟩ ⟨(lkPv (pre:=[_,_,_,_,_,_,_,_]) dC rfl),(lkPv (pre:=[_,_,_,_,_,_,_,_]) dC rfl),(lkPv (pre:=[_,_,_,_,_,_,_,_]) dC rfl),(lkPv (pre:=[_,_,_,_,_,_,_,_]) dC rfl),(hbPv (pre:=[_,_,_,_,_,_,_,_]) rfl)⟩ ?_)
      refine ex_seq (exr (sw (c_l1 ag3 rF rF L) t1 t1 ?_))
      refine seq_nil ⟨[(1,_),(2,_),(3,_),(83,_)],(1,_) :: (3,_) :: (999,_) :: ((tlP (t.pv++[c]) (matT s mN bN))),t4,⟨rfl,rfl,rfl,(hbT [_,_,_,_] (tlP_okT (pv:=t.pv++[c]) (s:=s) (m:=mN) (b:=bN)) rfl)⟩,?_⟩
      refine exr0 (swb (c_al (k:=4) (n:=1) zv3 (.cons rfl .nil) rfl (P0 _ rfl) L) t0 t0 (frT [_,_,_] (tlP_okT (pv:=t.pv++[c]) (s:=s) (m:=mN) (b:=bN)) rfl rfl (by simp [freeSl,freeHb,Cells.free,PV.freeL,PV.free,pvV_free,argSlotsV])) ?_)
      refine sb (c_sm sz3 rF (.atom rfl) rfl pu1) t2 t1 ?_
      refine seq_nil (show Exec _ _ _ _ _ from exw (sl:=[(1,_),(2,_),(3,_),(4,_)]) (hb:=(1,_) :: (3,_) :: (4,_) :: (999,_) :: ((tlP (t.pv++[c]) (matT s mN bN)))) t4 ⟨rfl,rfl,rfl,rfl,(hbT [_,_,_,_,_] (tlP_okT (pv:=t.pv++[c]) (s:=s) (m:=mN) (b:=bN)) rfl)⟩ ?_)
      refine exr0 (sw (c_l1 ag3 rF rF L) t1 t1 ?_)
      refine sw (c_ad L (w64 oM oM)) t2 t0 (sb (c_sm sz3 rF (.atom rfl) rfl pu1) t2 t1 ?_)
      refine seq_nil ?_
      exact ⟨(c+1,⟨mN,bN,t.pv++[c],q2⟩),⟨by simp only; omega,hst3.symm⟩,(by simp only; omega),le_of ⟨oR,rfl,rfl,rfl,trivial⟩ ⟨rfl,rfl,rfl,rfl,(hbT [_,_,_,_,_] (tlP_okT (pv:=t.pv++[c]) (s:=s) (m:=mN) (b:=bN)) rfl)⟩⟩
  ·have hp:=df hp
   rw [encP_length] at hp
   have hfin:ech m b cols=t:=by
    have:=ech_full (m:=m) (b:=b) (c:=c) (by rw [← hs]; omega) (cols - c)
    rw [show c+(cols - c)=cols by omega,← hs] at this; exact this
   rw [hfin]
   refine ex_exit (xq ?_)
   refine exd rF ?_
   refine mV L rfl (lp4 ag47 sz47 L rfl rfl (aV L rfl (sb (c_sm sz47 rF pa4 rfl pu4) t2 t1 ?_)))
   refine seq_nil ⟨aokF [⟨[2],[],[84],[]⟩,⟨[3],[3],[85],[]⟩,⟨[84],[],[2],[]⟩,⟨[3,85],[3],[],[3]⟩] (.cons (cf0 rfl) (.cons (cf0 rfl) (.cons (cf0 rfl) (.cons (cf0 rfl)  .nil)))) rfl (frS [] [_,_,_,_] (tlP_okT (pv:=t.pv) (s:=s) (m:=t.m) (b:=t.b)) rfl (by simp [freeSl,freeHb,Cells.free,PV.freeL,PV.free,pvV_free,argSlotsV])) dC,[(2,_),(3,_)],(3,_) :: (999,_) :: ((tlP t.pv (matT s t.m t.b))),t2,⟨rfl,rfl,(hbT [_,_,_,_,_] (tlP_okT (pv:=t.pv) (s:=s) (m:=t.m) (b:=t.b)) rfl)⟩,?_⟩
   refine ex_cv [1003] (sl:=[(2,.p (.sl t.pv.length (encP t.pv))),(3,.at_ 3 0 4)]) (hb:=[(3,bQ t.det),wV cols m.length (bv s m.length)]++matT s t.m t.b) (own_lo (by simp [hlo])) ⟨⟨_,rfl,cvPv (pre:=[_,_]) rfl⟩,⟨_,rfl,.same⟩,trivial⟩ (cbPv (pre:=[_,_]) rfl t2 rfl) ?_
   refine ex_ret ?_
   exact ⟨.inr rfl,.cons (.tmp rfl) (.cons (.agg rfl rfl rfl ag47 sz47 (.cons (.cons (.cons (.cons .nil))))) .nil),rfl,hbT [_,_] (matT_ok s t.m t.b) rfl⟩
 ·refine ex_seq (exd rF ?_)
  refine sw (c_l1 ag3 rF rF L) t1 t1 ?_
  refine sw (c_l1 ag73 rF rF L) t1 t1 ?_
  refine sw (core_nilCheck rX L) t1 t1 ?_
  refine sw (c_fa un79 rfl sz3 dC rX L) t1 t1 ?_
  refine sw (c_l1 ag3 rF rF L) t1 t1 ?_
  refine sw (c_ls L) t2 t0 (mV L rfl (swn (g:=19) rfl sO L rfl (swn (g:=19) rfl sO L rfl (swn (g:=19) rfl sO L rfl (swn (g:=19) rfl sO L rfl (swn (g:=19) rfl sO L rfl (swn (g:=19) rfl sO L rfl (swn (g:=19) rfl sO L rfl (swn (g:=19) rfl sO L rfl (sw (c_pf sO L) t2 t0 ?_))))))))))
  refine seq_nil ⟨aokF [⟨[4],[4],[13],[]⟩,⟨[1],[1],[14],[]⟩,⟨[14],[999],[15],[]⟩,⟨[15],[999],[16],[]⟩,⟨[16],[999],[17],[]⟩,⟨[13,17],[],[18],[]⟩,⟨[18],[],[19],[]⟩,⟨[19],[],[20],[]⟩,⟨[19],[],[21],[]⟩,⟨[19],[],[22],[]⟩,⟨[19],[],[23],[]⟩,⟨[19],[],[24],[]⟩,⟨[19],[],[25],[]⟩,⟨[19],[],[26],[]⟩,⟨[19],[],[27],[]⟩,⟨[19],[],[28],[]⟩] (.cons (cf0 rfl) (.cons (cf0 rfl) (.cons (cf0 rfl) (.cons (cf0 rfl) (.cons (cf0 rfl) (.cons (cf0 rfl) (.cons (cf0 rfl) (.cons (cf0 rfl) (.cons (cf0 rfl) (.cons (cf0 rfl) (.cons (cf0 rfl) (.cons (cf0 rfl) (.cons (cf0 rfl) (.cons (cf0 rfl) (.cons (cf0 rfl) (.cons (cf0 rfl)  .nil)))))))))))))))) rfl (frS [] [_,_,_,_] (tlP_okT (pv:=t.pv) (s:=s) (m:=t.m) (b:=t.b)) rfl (by simp [freeSl,freeHb,Cells.free,PV.freeL,PV.free,pvV_free,argSlotsV])) dC,[(1,_),(2,_),(3,_),(4,_),(28,_)],(1,_) :: (3,_) :: (4,_) :: (999,_) :: ((tlP t.pv (matT s t.m t.b))),t5,⟨rfl,rfl,rfl,rfl,(hbT [_,_,_,_] (tlP_okT (pv:=t.pv) (s:=s) (m:=t.m) (b:=t.b)) rfl)⟩,?_⟩
  refine ex_false rfl rfl ?_
  have hfin:ech m b cols=t:=by rw [hs,show c=cols by omega]
  rw [hfin]
  refine ex_exit (xq ?_)
  refine exd rF ?_
  refine mV L rfl (lp4 ag47 sz47 L rfl rfl (aV L rfl (sb (c_sm sz47 rF pa4 rfl pu4) t2 t1 ?_)))
  refine seq_nil ⟨aokF [⟨[2],[],[84],[]⟩,⟨[3],[3],[85],[]⟩,⟨[84],[],[2],[]⟩,⟨[3,85],[3],[],[3]⟩] (.cons (cf0 rfl) (.cons (cf0 rfl) (.cons (cf0 rfl) (.cons (cf0 rfl)  .nil)))) rfl (frS [] [_,_,_,_] (tlP_okT (pv:=t.pv) (s:=s) (m:=t.m) (b:=t.b)) rfl (by simp [freeSl,freeHb,Cells.free,PV.freeL,PV.free,pvV_free,argSlotsV])) dC,[(2,_),(3,_)],(3,_) :: (999,_) :: ((tlP t.pv (matT s t.m t.b))),t2,⟨rfl,rfl,(hbT [_,_,_,_,_] (tlP_okT (pv:=t.pv) (s:=s) (m:=t.m) (b:=t.b)) rfl)⟩,?_⟩
  refine ex_cv [1003] (sl:=[(2,.p (.sl t.pv.length (encP t.pv))),(3,.at_ 3 0 4)]) (hb:=[(3,bQ t.det),wV cols m.length (bv s m.length)]++matT s t.m t.b) (own_lo (by simp [hlo])) ⟨⟨_,rfl,cvPv (pre:=[_,_]) rfl⟩,⟨_,rfl,.same⟩,trivial⟩ (cbPv (pre:=[_,_]) rfl t2 rfl) ?_
  refine ex_ret ?_
  exact ⟨.inr rfl,.cons (.tmp rfl) (.cons (.agg rfl rfl rfl ag47 sz47 (.cons (.cons (.cons (.cons .nil))))) .nil),rfl,hbT [_,_] (matT_ok s t.m t.b) rfl⟩
end Go.Proofs.YtjagfionflbjbaaGreat.N
set_option maxRecDepth 100000
set_option maxHeartbeats 4000000
namespace Go.Proofs.YtjagfionflbjbaaGreat.SH
open Go Go.RowKit
def rvV (k:Nat):List PV→PV
 | []=>.p (.a (.slice none 0 0))
 | _ :: v=>.ref k 0 (v.length+1) (v.length+1)
def rvB (k:Nat)(e:TypeId):List PV→List (Nat×Blk)
 | []=>[]
 | a :: v=>[(k,⟨e,1,.mix (a :: v)⟩)]
def rvF (k:Nat):List PV→Option Nat
 | []=>some k
 | _ :: _=>none
section
variable {P:Program} {F:Fr} {d:Nat} {T:TypeId} {pos:String} {aft:Array Edge} {g:Option (Nat×Bool)} {t tx:TypeId}
theorem core_appR {x y:Operand}{k j:Nat}{e:TypeId}{ie:TypeInfo}{z:Value}{cs:List PV}{u:PV}(hu:P.underlying t=some (.slice e))(hux:P.underlying tx=some (.slice e))(hi:∀ w,(typeInfo e).run P w = .ok ie w)(hz:ie.zero=some z)(hsz:ie.size=1)
  (hzl:z.cells.size=1) (hf:u.free k=true) (hby:2*(cs.length+1)*ie.bytes≤281474976710656) (h63:cs.length+1≤9223372036854775807) (hpk:F.pin k=none) (hlt:d<F.nt) :
  CoreOk P F ⟨some d,.call ⟨.builtin .append,#[x,y],#[t,tx]⟩,T,pos,aft,g⟩ ⟨[(x,rvV k cs),(y,.ref j 0 1 1)],rvB k e cs++[(j,⟨e,1,.mix [u]⟩)],rvF k cs,[(d,rvV k (cs++[u]))],rvB k e (cs++[u])⟩:=by
 cases cs with
 | nil=>exact core_appN (k:=k) (m:=1) (us:=[u]) hu hi hz hsz hzl oM (srcR hux rfl rfl rfl) rfl (.inr rfl) (by simp [PV.freeL,hf]) rfl (by simpa using hby) oM hpk hlt
 | cons a v =>
  have:=core_app (P:=P) (F:=F) (d:=d) (T:=T) (pos:=pos) (aft:=aft) (g:=g) (t:=t) (tx:=tx) (x:=x) (y:=y) (k:=k) (n:=v.length+1) (m:=1) (sz:=1) (cs:=.mix (a :: v)) (us:=[u]) hu hi hz hsz hzl oM rfl sM (srcR (B:=⟨e,1,.mix [u]⟩) (k:=j) (o:=0) hux rfl rfl rfl) rfl .mix rfl (by simpa using hby) (by simpa using h63) hpk hlt
  simpa [rvV,rvB,rvF] using this
theorem core_appH {x y:Operand}{k j:Nat}{e:TypeId}{ie:TypeInfo}{z:Value}{cs:List PV}{u:PV}(hu:P.underlying t=some (.slice e))(hux:P.underlying tx=some (.slice e))(hi:∀ w,(typeInfo e).run P w = .ok ie w)(hz:ie.zero=some z)(hsz:ie.size=1)
  (hzl:z.cells.size=1) (hf:u.free k=true) (hby:2*(cs.length+1)*ie.bytes≤281474976710656) (h63:cs.length+1≤9223372036854775807) (hpk:F.pin k=none) (hlt:d<F.nt) :
  CoreOk P F ⟨some d,.call ⟨.builtin .append,#[x,y],#[t,tx]⟩,T,pos,aft,g⟩ ⟨[(x,rvV k cs),(y,.ref j 0 1 1)],rvB k e cs++[(j,⟨e,1,.mix [u]⟩)],rvF k cs,[(d,.ref k 0 (cs.length+1) (cs.length+1))],[(k,⟨e,1,.mix (cs++[u])⟩)]⟩:=by
 have:=core_appR (P:=P) (F:=F) (d:=d) (T:=T) (pos:=pos) (aft:=aft) (g:=g) (x:=x) (y:=y) (j:=j) hu hux hi hz hsz hzl hf hby h63 hpk hlt
 cases cs <;> simpa [rvV,rvB] using this
end
theorem rvV_free {k q:Nat}{cs:List PV}(h:k≠q):(rvV k cs).free q=true:=by cases cs <;> simp [rvV,PV.free,h]
theorem rvB_free {k q:Nat}{e:TypeId}{cs:List PV}(h:PV.freeL q cs=true):freeHb q (rvB k e cs)=true:=by
 cases cs with
 | nil=>rfl
 | cons a v=>simp only [rvB,freeHb,Cells.free,h]; rfl
theorem rvB_app {k:Nat}{e:TypeId}{cs:List PV}{u:PV}:rvB k e (cs++[u])=[(k,⟨e,1,.mix (cs++[u])⟩)]:=by cases cs <;> rfl
theorem rvV_app {k:Nat}{cs:List PV}{u:PV}:rvV k (cs++[u]) = .ref k 0 (cs.length+1) (cs.length+1):=by cases cs <;> simp [rvV]
end Go.Proofs.YtjagfionflbjbaaGreat.SH
namespace Go.Proofs.YtjagfionflbjbaaGreat.N
open Go Go.Proofs.YtjagfionflbjbaaGreat.SH Go.Proofs.YtjagfionflbjbaaGreat.NumA
theorem refsB_app {s:Nat}:∀ {i:Nat} {a:List (List Rat)} {v:List Rat},refsB s i (a++[v])=refsB s i a++[.ref (rowN s (i+a.length)) 0 v.length (v.length*4)]
 | i,[],v=>rfl
 | i,x :: a,v=>by simp only [List.cons_append,refsB,refsB_app (i:=i+1) (a:=a),List.length_cons]; rw [show i+1+a.length=i+(a.length+1) by omega]
theorem rowsB_app {s:Nat}:∀ {i:Nat} {a:List (List Rat)} {v:List Rat},rowsB s i (a++[v])=rowsB s i a++[(rowN s (i+a.length),rowBlk v)]
 | i,[],v=>rfl
 | i,x :: a,v=>by simp only [List.cons_append,rowsB,rowsB_app (i:=i+1) (a:=a),List.length_cons]; rw [show i+1+a.length=i+(a.length+1) by omega]
def matN (s:Nat)(m:List (List Rat)):List (Nat×Blk):=rvB (s+1001) 40 (refsB s 0 m)++rowsB s 0 m
theorem matN_cons {s:Nat}{m:List (List Rat)}(h:0<m.length):matN s m=mat1 s m:=by
 cases m with
 | nil=>cases h
 | cons v m=>rfl
theorem matN_keys {s j:Nat}{m:List (List Rat)}(h2:s<9)(h:(matN s m).lookup j≠none):j=s+1001∨∃ q,q<m.length∧j=rowN s q:=by
 cases m with
 | nil=>exact absurd rfl h
 | cons v m=>exact mat1_keys h2 h
end Go.Proofs.YtjagfionflbjbaaGreat.N
namespace Go.Proofs.YtjagfionflbjbaaGreat.SH
open Go
end Go.Proofs.YtjagfionflbjbaaGreat.SH
namespace Go.Proofs.YtjagfionflbjbaaGreat.SH
open Go Go.RowKit
end Go.Proofs.YtjagfionflbjbaaGreat.SH
namespace Go.Proofs.YtjagfionflbjbaaGreat.SH
open Go Go.RowKit
end Go.Proofs.YtjagfionflbjbaaGreat.SH
namespace Go.Proofs.YtjagfionflbjbaaGreat.SH
open Go Go.RowKit
section
variable {P:Program} {F:Fr} {ops:Array Oper} {sl:List (Nat×PV)} {hb:List (Nat×Blk)} {op:Op} {T:TypeId} {pos:String} {aft:Array Edge} {os:List Oper} {dst:Option Nat} {rs:List (Operand×PV)} {rb:List (Nat×Blk)} {K:St→Prop}
end
end Go.Proofs.YtjagfionflbjbaaGreat.SH
namespace Go.Proofs.YtjagfionflbjbaaGreat.SH
open Go Go.RowKit
end Go.Proofs.YtjagfionflbjbaaGreat.SH
namespace Go.Proofs.YtjagfionflbjbaaGreat.SH
open Go Go.RowKit
end Go.Proofs.YtjagfionflbjbaaGreat.SH
namespace Go.Proofs.YtjagfionflbjbaaGreat.SH
open Go Go.RowKit
section
variable {P:Program} {F:Fr} {Q:Exit→St→Prop} {S:St}
end
section
variable {P:Program} {F:Fr} {d:Nat} {T:TypeId} {pos:String} {aft:Array Edge} {g:Option (Nat×Bool)} {x:Operand} {t xT yT:TypeId} {y:Pure} {c:Value} {ms:Array (String×TypeId)} {fs:Array Field}
end
end Go.Proofs.YtjagfionflbjbaaGreat.SH
namespace Go.Proofs.YtjagfionflbjbaaGreat.SH
open Go Go.RowKit
end Go.Proofs.YtjagfionflbjbaaGreat.SH
namespace Go.Proofs.YtjagfionflbjbaaGreat.SH
open Go Go.RowKit
structure Mk (cf:Nat→Nat) (A:Ann) (f:List Nat×List Nat):Prop where
  fr:∀ k,A.fresh=some k→cf k∈f.1
  me:∀ k,A.free k=false→cf k∈f.2
inductive Mks (cf:Nat→Nat):List Ann→List (List Nat×List Nat)→Prop
  | nil:Mks cf [] []
  | cons {A:Ann} {f:List Nat×List Nat} {As:List Ann} {fs:List (List Nat×List Nat)}:Mk cf A f→Mks cf As fs→Mks cf (A :: As) (f :: fs)
theorem mks_get {cf:Nat→Nat}{As:List Ann}{fs:List (List Nat×List Nat)}(h:Mks cf As fs):∀ (i:Nat) (A:Ann),As[i]? = some A→∃ f,fs[i]? = some f∧Mk cf A f:=by
  induction h with
  | nil=>intro i A h; simp at h
  | cons hc _ ih =>
    intro i A hA
    cases i with
    | zero => obtain rfl := by simpa using hA
              exact ⟨_,rfl,hc⟩
    | succ i=>simpa using ih i A (by simpa using hA)
theorem mks_app {cf:Nat→Nat}{As As':List Ann}{fs fs':List (List Nat×List Nat)}(h:Mks cf As fs)(h':Mks cf As' fs'):Mks cf (As++As') (fs++fs'):=by
  induction h with
  | nil=>exact h'
  | cons hc _ ih=>exact .cons hc ih
theorem frPair_of {cf:Nat→Nat}{A B:Ann}{a b:List Nat×List Nat}(hA:Mk cf A a)(hB:Mk cf B b)(h1:hit a.1 b.2=false)(h2:hit b.1 a.2=false):frPair A B=true:=by
  simp only [frPair,Bool.and_eq_true]
  constructor
  · cases e:A.fresh with
    | none=>rfl
    | some k =>
      cases e2:B.free k with
      | true=>simp [e2]
      | false=>exact absurd (hB.me k e2) (hit_false.1 h1 _ (hA.fr k e))
  · cases e:B.fresh with
    | none=>rfl
    | some k =>
      cases e2:A.free k with
      | true=>simp [e2]
      | false=>exact absurd (hA.me k e2) (hit_false.1 h2 _ (hB.fr k e))
def frS2:List Oper→List (List Nat×List Nat)→List Nat→List (List Nat×List Nat)→Bool
  | [],[],_,_=>true
  | o :: os,b :: fs,ms,done=>((List.range ms.length).all fun i=>(maskOf ms o).testBit i || (done[i]?.all fun a=>!hit a.1 b.2 && !hit b.1 a.2)) && frS2 os fs (ms++[maskOf ms o]) (done++[b])
  | _,_,_,_=>false
theorem anyOk_covM {cf cg:Nat→Nat}:∀ (os:List Oper) (As:List Ann) (sks:List Sk) (fs:List (List Nat×List Nat)) (ms:List Nat) (done:List Ann) (dsk:List Sk) (dfs:List (List Nat×List Nat)),CovsF cf As sks→CovsF cf done dsk→Mks cg As fs→Mks cg done dfs→done.length=ms.length→frS2 os fs ms dfs=true→anyOkS os sks ms dsk=true→anyOk os As ms done=true
  | [],[],_,_,_,_,_,_,_,_,_,_,_,_,_=>rfl
  | [],_ :: _,_ :: _,_,_,_,_,_,_,_,_,_,_,_,hh=>by simp [anyOkS] at hh
  | _ :: _,[],[],_,_,_,_,_,_,_,_,_,_,_,hh=>by simp [anyOkS] at hh
  | _ :: _,_ :: _,[],_,_,_,_,_,h,_,_,_,_,_,_=>by cases h
  | _,[],_ :: _,_,_,_,_,_,h,_,_,_,_,_,_=>by cases h
  | [],_ :: _,[],_,_,_,_,_,h,_,_,_,_,_,_=>by cases h
  | _,_ :: _,_,[],_,_,_,_,_,_,h,_,_,_,_=>by cases h
  | o :: os,B :: As,b :: sks,f :: fs,ms,done,dsk,dfs,h,h',g,g',hl,hf,hh=>by
    cases h with
    | cons hB hAs =>
      cases g with
      | cons gB gAs =>
        simp only [anyOkS,Bool.and_eq_true] at hh
        simp only [frS2,Bool.and_eq_true] at hf
        obtain ⟨⟨h1,h2⟩,h3⟩:=hh
        simp only [anyOk,Bool.and_eq_true]
        refine ⟨⟨h1,?_⟩,anyOk_covM os As sks fs _ _ _ _ hAs (covsF_app h' (.cons hB .nil)) gAs (mks_app g' (.cons gB .nil)) (by simp [hl]) hf.2 h3⟩
        rw [List.all_eq_true] at h2 ⊢
        intro i hi
        have hi':i<done.length:=by simpa using hi
        have:=h2 i (by simpa [← hl] using hi')
        have h5:=List.all_eq_true.1 hf.1 i (by simpa [← hl] using hi')
        rw [Bool.or_eq_true] at this h5 ⊢
        rcases this with h | h
        · exact .inl h
        rcases h5 with h5 | h5
        · exact .inl h5
        · refine .inr ?_
          obtain ⟨A,hA⟩:∃ A,done[i]? = some A:=⟨done[i],by simp [hi']⟩
          obtain ⟨sk,hs,hc⟩:=covsF_get h' i A hA
          obtain ⟨fk,hfs,hfc⟩:=mks_get g' i A hA
          rw [hs] at h
          rw [hfs] at h5
          rw [hA]
          simp only [Option.all_some,Bool.and_eq_true,Bool.not_eq_true'] at h5
          exact apart_covF hc hB (frPair_of hfc gB h5.1 h5.2) h
theorem aokM (cf cg:Nat→Nat){os:List Oper}{As:List Ann}{S:St}(sks:List Sk)(fs:List (List Nat×List Nat))(h1:CovsF cf As sks)(g1:Mks cg As fs)(hS:∀ k∈frNames As,S.free k=true)(h2:anyOkS os sks [] []=true)(h3:frS2 os fs [] []=true):(anyOk os As [] [] && freshAll S As)=true:=by
  rw [anyOk_covM os As sks fs [] [] [] [] h1 .nil g1 .nil rfl h3 h2,freshAll_names hS]; rfl
theorem says_ofG {E:Env}{st:Nat→Bool}{f:FuncId}{xs:List Pure}{r:Pure}(h:SaysG E st f (xs.map .p) [] [] (.p r)):Says E f xs r:=by
  intro ok w vals hG hrel
  have hv:∀ (xs:List Pure) (vals:List Value),RelL ok (hp w) xs vals→RelVL (lk []) (fun j=>j) ok (hp w) (xs.map .p) vals:=by
    intro xs
    induction xs with
    | nil=>intro vals h; simpa [RelL,RelVL] using h
    | cons x xs ih =>
      intro vals h
      simp only [RelL] at h
      simp only [List.map_cons,RelVL]
      obtain ⟨v,r,h1,h2,h3⟩:=h
      exact ⟨v,r,h1,by simpa [RelV] using h2,ih _ h3⟩
  refine Calls.mono (h ok (fun j=>j) w vals hG (fun j B hj=>by cases hj) (fun j j' hj=>absurd rfl hj) (hv xs vals hrel)) fun e w' ⟨v,ρ',he,hp⟩=>?_
  refine ⟨v,he,?_,⟨hp.os,hp.tape,hp.output,hp.size,fun b hb=>hp.frame b hb fun j hj=>absurd rfl hj⟩⟩
  have:=hp.res
  simp only [RelV] at this
  exact Rel.mono (fun b hb _=>⟨hb.1,rfl⟩) _ _ this
end Go.Proofs.YtjagfionflbjbaaGreat.SH
set_option maxRecDepth 100000
set_option maxHeartbeats 4000000
namespace Go.Proofs.YtjagfionflbjbaaGreat.N
open Go Go.Proofs.YtjagfionflbjbaaGreat.SH Go.Proofs.YtjagfionflbjbaaGreat.NumA
open Go.Proofs.Tryz renaming call55→cl55,call89→cl89,isAgg22→ag22,isAgg3→ag3,isAgg40→ag40,isAgg47→ag47,isAgg73→ag73,isAgg77→ag77,sizeOf22→sz22,sizeOf3→sz3,sizeOf40→sz40,sizeOf47→sz47,sizeOf77→sz77,typeInfo40→ti40,underlying22→un22,underlying24→un24,underlying27→un27,underlying77→un77,underlying79→un79,zeroValue3→zv3,zeroValue47→zv47,zeroValue79→zv79
theorem bvCells {s:Bool}{n:Nat}:CellsOf (bv s n) [bv s n]:=by
 cases s
 ·exact .atom rfl
 ·exact .ref
theorem bsT_ok (s:Bool)(b:List (List Rat)):TailOk (bsT s b):=by
 cases s
 ·exact ⟨fun _ _=>rfl,List.nodup_nil,fun _ _=>rfl,fun j B hj=>by cases hj⟩
 ·exact mat1_ok dC b
@[reducible] def wU (c:Nat)(m:List (List Rat))(v:PV):Nat×Blk:=(999,⟨79,3,.mix [rvV 1001 (refsB 0 0 m),.p (vZ c),v]⟩)
def matU (s:Bool)(m b:List (List Rat)):List (Nat×Blk):=matN 0 m++bsT s b
theorem matU_T {s:Bool}{m b:List (List Rat)}(h:0<m.length):matU s m b=matT s m b:=by rw [matU,matN_cons h]; rfl
theorem wU_V {c:Nat}{m:List (List Rat)}{v:PV}(h:0<m.length):wU c m v=wV c m.length v:=by
 cases m with
 | nil=>cases h
 | cons r m=>simp [wU,wV,rvV,refsB]
theorem matU_ok (s:Bool)(m b:List (List Rat)):TailOk (matU s m b):=by
 cases m with
 | nil=>exact bsT_ok s b
 | cons r m=>rw [matU_T sM]; exact matT_ok s _ b
theorem bsT_keys {s:Bool}{b:List (List Rat)}{k:Nat}(h:(bsT s b).lookup k≠none):k=1002∨∃ q,k=rowN 1 q:=by
 cases s
 ·exact absurd rfl h
 ·rcases mat1_keys dC h with h | ⟨q,_,h⟩
  ·exact .inl h
  ·exact .inr ⟨q,h⟩
theorem bsT_not {s:Bool}{b:List (List Rat)}{k:Nat}(h1:k≠1002)(h2:∀ q,k≠rowN 1 q):(bsT s b).lookup k=none:=by
 cases e:(bsT s b).lookup k with
 | none=>rfl
 | some B =>
  rcases bsT_keys (show (bsT s b).lookup k≠none by rw [e]; simp) with h | ⟨q,h⟩
  ·exact absurd h h1
  ·exact absurd h (h2 q)
theorem bsT_free {s:Bool}{b:List (List Rat)}{k:Nat}(h:∀ q,k≠rowN 1 q):freeHb k (bsT s b)=true:=by
 cases s
 ·rfl
 ·have hr:∀ (i:Nat) (m:List (List Rat)),PV.freeL k (refsB 1 i m)=true:=by
   intro i m
   induction m generalizing i with
   | nil=>rfl
   | cons v m ih=>simp only [refsB,PV.freeL,PV.free,ih,Bool.and_true,bne_iff_ne]; exact fun e=>h i e.symm
  simp only [bsT,if_true,mat1,freeHb,Cells.free,hr,rows_free,Bool.and_self]
theorem refs0_free {k:Nat}:∀ {i:Nat} {m:List (List Rat)},(∀ q,q<i+m.length→k≠rowN 0 q)→PV.freeL k (refsB 0 i m)=true
 | _,[],_=>rfl
 | i,v :: m,h=>by
  simp only [refsB,PV.freeL,PV.free,Bool.and_eq_true,bne_iff_ne]
  exact ⟨fun e=>h i sM e.symm,refs0_free fun q hq=>h q sO⟩
theorem matU_free {s:Bool}{m b:List (List Rat)}{k:Nat}(h1:∀ q,q<m.length→k≠rowN 0 q)(h2:∀ q,k≠rowN 1 q):freeHb k (matU s m b)=true:=by
 rw [matU,matN,freeHb_append,freeHb_append,bsT_free h2,rows_free,rvB_free (refs0_free (by simpa using h1))]; rfl
theorem matU_not {s:Bool}{m b:List (List Rat)}{k:Nat}(h1:∀ q,q<m.length→k≠rowN 0 q)(h2:∀ q,k≠rowN 1 q)(h3:k=1001→m=[])(h4:k≠1002):(matU s m b).lookup k=none:=by
 rw [matU,lookup_append,bsT_not h4 h2,Option.or_none]
 cases e:(matN 0 m).lookup k with
 | none=>rfl
 | some B =>
  rcases matN_keys dC (show (matN 0 m).lookup k≠none by rw [e]; simp) with h | ⟨q,hq,h⟩
  ·rw [h3 h] at e; cases e
  ·exact absurd h (h1 q hq)
theorem rowN01 (i q:Nat):rowN 0 i≠rowN 1 q:=by unfold rowN; omega
theorem rowN_ne {i q:Nat}(h:q<i):rowN 0 i≠rowN 0 q:=by unfold rowN; omega
theorem rvB_mem {k:Nat}{e:TypeId}{cs:List PV}{p:Nat×Blk}(h:p∈rvB k e cs):p.1=k:=by
 cases cs with
 | nil=>cases h
 | cons a l=>obtain rfl:=List.mem_singleton.1 h; rfl
theorem rvF_eq {k q:Nat}{cs:List PV}(h:rvF k cs=some q):q=k∧cs=[]:=by
 cases cs with
 | nil=>injection h with h; exact ⟨h.symm,rfl⟩
 | cons a l=>cases h
theorem readsB_app {S:St}:∀ {a b:List (Nat×Blk)},ReadsB S a→ReadsB S b→ReadsB S (a++b)
 | [],_,_,h=>h
 | _ :: _,_,h,h'=>⟨h.1,readsB_app h.2 h'⟩
theorem rvV_freeN {k q:Nat}{cs:List PV}(h:(rvV k cs).free q=false):q=k:=by
 cases cs with
 | nil=>cases h
 | cons a l =>
  have h:(k != q)=false:=h
  exact (bne_eq_false_iff_eq.1 h).symm
def cgB (i k:Nat):Nat:=if k=rowN 0 i then 2000 else if k<1003 then k else 1003
theorem cgB_i {i:Nat}:cgB i (rowN 0 i)=2000:=by rw [cgB,if_pos rfl]
theorem cgB_lo {i k:Nat}(h:k<1003):cgB i k=k:=by
 have h1:¬ k=rowN 0 i:=by unfold rowN; omega
 rw [cgB,if_neg h1,if_pos h]
theorem refsF {i q:Nat}:∀ {a:Nat} {m:List (List Rat)},PV.freeL q (refsB 0 a m)=false→a+m.length≤i→cgB i q=1003
 | _,[],h,_=>by cases h
 | a,v :: m,h,hl=>by
  simp only [refsB,PV.freeL,PV.free,Bool.and_eq_false_iff,bne_eq_false_iff_eq] at h
  simp only [List.length_cons] at hl
  rcases h with h | h
  ·subst h
   have h1:¬ rowN 0 a=rowN 0 i:=by unfold rowN; omega
   have h2:¬ rowN 0 a<1003:=by unfold rowN; omega
   rw [cgB,if_neg h1,if_neg h2]
  ·exact refsF h oM
theorem lk_ne {k j:Nat}{B:Blk}{l:List (Nat×Blk)}(h:k≠j):List.lookup k ((j,B) :: l)=List.lookup k l:=by rw [List.lookup_cons,show (k == j)=false by simpa using h]
theorem hbStep {s:Bool}{sl:List (Nat×PV)}{i:Nat}{m b:List (List Rat)}{v:List Rat}{X Y Z:Blk}(hm:m.length=i) :
  HasB ⟨sl,(999,X) :: ([(1001,⟨40,1,.mix (refsB 0 0 m++[.ref (rowN 0 i) 0 v.length (v.length*4)])⟩)]++(27,Y) :: (rowN 0 i,rowBlk v) :: ([(999,Z)]++matU s m b))⟩ (matU s (m++[v]) b):=by
 have hr:∀ q j,rowN q j≠999∧rowN q j≠1001∧rowN q j≠27:=fun q j=>by unfold rowN; omega
 refine hasB_of (matU_ok s (m++[v]) b).nd fun k B hk=>?_
 show List.lookup k _=some B
 rw [matU,matN,refsB_app,rvB_app,rowsB_app,hm] at hk
 simp only [List.cons_append,List.nil_append,List.append_assoc,Nat.zero_add] at hk ⊢
 by_cases e1:k=1001
 ·subst e1
  rw [lk_ne dC]
  rw [List.lookup_cons] at hk ⊢
  exact hk
 ·rw [lk_ne e1,lookup_append] at hk
  have h999:k≠999:=by
   rintro rfl
   have h1:(rowsB 0 0 m).lookup 999=none:=rows_no fun j _=>by have:=(hr 0 (0+j)).1; omega
   rw [h1,Option.none_or,lk_ne (Ne.symm (hr 0 i).1),bsT_not dC (fun q=>Ne.symm (hr 1 q).1)] at hk; cases hk
  have h27:k≠27:=by
   rintro rfl
   have h1:(rowsB 0 0 m).lookup 27=none:=rows_no fun j _=>by have:=(hr 0 (0+j)).2.2; omega
   rw [h1,Option.none_or,lk_ne (Ne.symm (hr 0 i).2.2),bsT_not dC (fun q=>Ne.symm (hr 1 q).2.2)] at hk; cases hk
  rw [lk_ne h999,lk_ne e1,lk_ne h27]
  by_cases e2:k=rowN 0 i
  ·subst e2
   have h1:(rowsB 0 0 m).lookup (rowN 0 i)=none:=rows_no fun j hj=>by rw [Nat.zero_add]; exact rowN_ne oM
   rw [h1,Option.none_or,List.lookup_cons_self] at hk
   rw [List.lookup_cons_self]; exact hk
  ·rw [lk_ne e2,lk_ne h999,matU,matN,lookup_append,lookup_append]
   have h2:(rvB (0+1001) 40 (refsB 0 0 m)).lookup k=none:=by
    cases e:(rvB (0+1001) 40 (refsB 0 0 m)).lookup k with
    | none=>rfl
    | some C=>exact absurd (rvB_mem (lookup_mem e)) oM
   rw [h2,Option.none_or]
   rw [lk_ne e2] at hk
   exact hk
theorem mkAt {i d k o t:Nat}{rs:List (Operand×PV)}{rb:List (Nat×Blk)}(hk:k<1003):Mk (cgB i) ⟨rs,rb,none,[(d,.at_ k o t)],[]⟩ ([],[k]):=by
 refine ⟨fun q hq=>(by cases hq),fun q hq=>?_⟩
 simp only [Ann.free,freeSl,freeHb,PV.free,Bool.and_true,bne_eq_false_iff_eq] at hq
 subst hq
 rw [cgB_lo hk]; simp
theorem mkRv {i d:Nat}{rs:List (Operand×PV)}{rb:List (Nat×Blk)}{cs:List PV}:Mk (cgB i) ⟨rs,rb,none,[(d,rvV 1001 cs)],[]⟩ ([],[1001]):=by
 refine ⟨fun q hq=>(by cases hq),fun q hq=>?_⟩
 simp only [Ann.free,freeSl,freeHb,Bool.and_true] at hq
 rw [rvV_freeN hq,cgB_lo dC]; simp
theorem mkP {i d:Nat}{rs:List (Operand×PV)}{rb:List (Nat×Blk)}{x:Pure}:Mk (cgB i) ⟨rs,rb,none,[(d,.p x)],[]⟩ ([],[]):=by
 refine ⟨fun q hq=>(by cases hq),fun q hq=>?_⟩
 simp [Ann.free,freeSl,freeHb,PV.free] at hq
theorem mkN {i d n t:Nat}{rs:List (Operand×PV)}{rb:List (Nat×Blk)}{T:TypeId}{sz:Nat}{xs:List Pure}:Mk (cgB i) ⟨rs,rb,some (rowN 0 i),[(d,.ref (rowN 0 i) 0 n t)],[(rowN 0 i,⟨T,sz,.pure xs⟩)]⟩ ([2000],[2000]):=by
 refine ⟨fun q hq=>(by injection hq with hq; subst hq; rw [cgB_i]; simp),fun q hq=>?_⟩
 simp only [Ann.free,freeSl,freeHb,PV.free,Cells.free,Bool.and_true,bne_eq_false_iff_eq] at hq
 subst hq
 rw [cgB_i]; simp
theorem mkS {i d a n t a' n' t':Nat}{rs:List (Operand×PV)}{rb:List (Nat×Blk)}{T:TypeId}{sz:Nat}(ha:a<1000):Mk (cgB i) ⟨rs,rb,some a,[(d,.ref a 0 n t)],[(a,⟨T,sz,.mix [.ref (rowN 0 i) a' n' t']⟩)]⟩ ([a],[a,2000]):=by
 refine ⟨fun q hq=>(by injection hq with hq; subst hq; rw [cgB_lo oM]; simp),fun q hq=>?_⟩
 simp only [Ann.free,freeSl,freeHb,PV.free,PV.freeL,Cells.free,Bool.and_true,Bool.and_eq_false_iff,bne_eq_false_iff_eq] at hq
 rcases hq with hq | hq <;> subst hq
 ·rw [cgB_lo oM]; simp
 ·rw [cgB_i]; simp
theorem mkH {i d n t n' t':Nat}{rs:List (Operand×PV)}{rb:List (Nat×Blk)}{T:TypeId}{sz:Nat}{m:List (List Rat)}(hm:m.length=i):Mk (cgB i) ⟨rs,rb,rvF 1001 (refsB 0 0 m),[(d,.ref 1001 0 n t)],[(1001,⟨T,sz,.mix (refsB 0 0 m++[.ref (rowN 0 i) 0 n' t'])⟩)]⟩ ([1001],[1001,1003,2000]):=by
 have hap:∀ (q:Nat) (l r:List PV),PV.freeL q (l++r)=(PV.freeL q l && PV.freeL q r):=fun q l r=>by
  induction l with
  | nil=>rfl
  | cons x l ih=>simp [PV.freeL,ih,Bool.and_assoc]
 refine ⟨fun q hq=>(by rw [(rvF_eq hq).1,cgB_lo dC]; simp),fun q hq=>?_⟩
 simp only [Ann.free,freeSl,freeHb,PV.free,PV.freeL,Cells.free,hap,Bool.and_true,Bool.and_eq_false_iff,bne_eq_false_iff_eq] at hq
 rcases hq with hq | hq | hq
 ·subst hq; rw [cgB_lo dC]; simp
 ·rw [refsF (i:=i) hq oM]; simp
 ·subst hq; rw [cgB_i]; simp
theorem mkW {i n t:Nat}{s:Bool}{c:Pure}{rs:List (Operand×PV)}{rb:List (Nat×Blk)}{T:TypeId}{sz n':Nat}:Mk (cgB i) ⟨rs,rb,none,[],[(999,⟨T,sz,.mix [.ref 1001 0 n t,.p c,bv s n']⟩)]⟩ ([],[999,1001,1002]):=by
 refine ⟨fun q hq=>(by cases hq),fun q hq=>?_⟩
 simp only [Ann.free,freeSl,freeHb,PV.free,PV.freeL,Cells.free,Bool.and_true,Bool.true_and,Bool.and_eq_false_iff,bne_eq_false_iff_eq] at hq
 rcases hq with hq | hq
 ·subst hq; rw [cgB_lo dC]; simp
 ·have:=PV.only_mem (bv_only (s:=s) (n:=n')) hq
  simp only [List.mem_cons,List.not_mem_nil,or_false] at this
  rcases this with rfl | rfl | rfl <;> (rw [cgB_lo dC]; simp)
theorem rdRv {s:Bool}{sl:List (Nat×PV)}{pre:List (Nat×Blk)}{m b:List (List Rat)}(hp:∀ B,(1001,B) ∉ pre):ReadsB ⟨sl,pre++matU s m b⟩ (rvB 1001 40 (refsB 0 0 m)):=by
 cases m with
 | nil=>trivial
 | cons v m =>
  refine ⟨?_,trivial⟩
  show (pre++_).lookup 1001=_
  rw [lookup_append]
  have:pre.lookup 1001=none:=by
   cases e:pre.lookup 1001 with
   | none=>rfl
   | some B=>exact absurd (lookup_mem e) (hp B)
  rw [this,Option.none_or]; rfl
theorem take_succ' {M:List (List Rat)}{i:Nat}(h:i<M.length):M.take (i+1)=M.take i++[M.getD i []]:=by
 rw [List.take_add_one]; congr 1; simp [List.getD_eq_getElem?_getD,h]
theorem begin_says (s:Bool)(n cols:Nat)(M b:List (List Rat))(hM:RC n cols M)(hn:n<1000)(hc:cols<1000):SaysG E (fun _=>false) 50 [.p (.agg [vZ cols,.sl n (encM M)]),bv s n] (bsT s b) ([wU cols M (bv s n)]++matU s M b) (.at_ 999 0 3):=by
 refine saysG_tmp Tryz.func50 rfl Tryz.ntmps50 Tryz.results50 sM fun F G=>?_
 have L:=@lti _ _ G.nt
 have hG:=G.g
 have hX:=G.x
 have hN:=ng_le hG
 have P0:∀ k,Nat.blt k 1000=true→F.pin k=none:=fun k hk=>G.p0 k ((bsT_ok s b).low k hk)
 obtain ⟨rfl,hMc⟩:=hM
 refine exr (swb (c_bx (k:=989) (n:=2) pa2 rfl rfl (P0 _ rfl) L) t1 t0 (frT [] (bsT_ok s b) rfl rfl (by simp [freeSl,freeHb,Cells.free,PV.freeL,PV.free,pvV_free,argSlotsV])) ?_)
 refine aV L rfl ?_
 refine seq_nil ⟨[(1,_),(2,_)],(989,_) :: ((bsT s b)),t2,⟨rfl,(hbT [_] (bsT_ok s b) rfl)⟩,?_⟩
 refine exr (sw (c_fa un24 rfl sz3 dC rX L) t1 t1 ?_)
 refine sw (c_l1 ag3 rF rF L) t1 t1 ?_
 refine mV L rfl (sw (core_buildA (vs:=[_,_]) un79 zv79 (.cons rfl (.cons rfl (.cons rfl .nil))) ((Places.cons sz77 (Places.cons sz3 (Places.cons sz77 Places.nil)))).to rfl (.cons rfl (.atom rfl) rfl (.skip pu1) (.cons rfl bvCells rfl (.skip (.skip pu1)) .nil)) L) t2 t0 (swb (c_bx (k:=999) (n:=3) .agg rfl (by simp [PV.freeL,PV.free]) (P0 _ rfl) L) t1 t0 (frT [_] (bsT_ok s b) rfl rfl (by simp [freeSl,freeHb,Cells.free,PV.freeL,PV.free,pvV_free,argSlotsV])) ?_))
 refine aV L rfl ?_
 refine seq_nil ⟨[(2,_),(5,_)],(989,_) :: (999,_) :: ((bsT s b)),t2,⟨rfl,rfl,(hbT [_,_] (bsT_ok s b) rfl)⟩,?_⟩
 refine ex_seq (exr (sw (c_fa un24 rfl sz22 dC rX L) t1 t1 ?_))
 refine sw (c_l1 ag22 rF rF L) t1 t1 ?_
 refine sw (c_ln un22 L) t1 t0 (mV L rfl ?_)
 refine seq_nil ⟨[(5,_),(14,_),(15,_),(16,_)],(999,_) :: ((bsT s b)),t4,⟨rfl,(hbT [_,_] (bsT_ok s b) rfl)⟩,?_⟩
 refine ex_block ?_
 refine exlT (α:=Nat) (fun i=>[(16,vi (i:Int))]) (fun i=>[(999,(wU cols (M.take i) (bv s M.length)).2)]) (fun i=>(matU s (M.take i) b)) (fun i=>i≤M.length) (fun i=>M.length - i) (0) (sl:=[(5,_),(14,_),(15,_)]) (hb:=[]) ?_ ⟨oR,rfl,rfl,rfl,trivial⟩ ⟨rfl,(hbT [_] (bsT_ok s b) rfl)⟩ ?_
 ·exact Nat.zero_le _
 intro i hi
 refine exr (sw (c_ls L) t2 t0 ?_)
 refine seq_nil ⟨[(5,_),(14,_),(15,_),(16,_),(17,_)],(999,_) :: ((matU s (M.take i) b)),t5,⟨rfl,(hbT [_] (matU_ok s (M.take i) b) rfl)⟩,?_⟩
 refine ex_seq ?_
 refine ex_if rfl (fun hc=>?_) (fun hc=>?_)
 ·have hc2:=dt hc
  have hil:i<M.length:=by omega
  refine ex_skip (xq ?_)
  refine ex_seq (ex_block (exr (sw (ixJ un22 sz40 (j:=i) rO oM sM L) t2 t0 ?_)))
  refine sw (c_li ag40 (by rw [getM0 hil]) L) t1 t0 ?_
  refine aV L rfl ?_
  refine seq_nil ⟨[(5,_),(7,_),(14,_),(15,_),(16,_)],(999,_) :: ((matU s (M.take i) b)),t5,⟨rfl,(hbT [_] (matU_ok s (M.take i) b) rfl)⟩,?_⟩
  obtain ⟨v,hv⟩:∃ v,v=M.getD i []:=⟨_,rfl⟩
  obtain ⟨cs,hcs⟩:∃ cs,cs=refsB 0 0 (M.take i):=⟨_,rfl⟩
  have hvl:v.length=cols:=by rw [hv]; exact hMc _ (getD_mem' hil)
  have htl:(M.take i).length=i:=by rw [List.length_take]; omega
  have hcl:cs.length=i:=by rw [hcs,refsB_length,htl]
  have hts:=take_succ' hil
  rw [← hv] at hts ⊢
  have hcs2:refsB 0 0 (M.take (i+1))=cs++[.ref (rowN 0 i) 0 v.length (v.length*4)]:=by rw [hts,refsB_app,← hcs,htl,Nat.zero_add]
  have hp1:F.pin 1001=none:=G.ps _ rfl
  have hp2:F.pin (rowN 0 i)=none:=G.ps _ rfl
  show Exec _ _ _ ⟨_,[(999,⟨79,3,.mix [rvV 1001 (refsB 0 0 (M.take i)),.p (vZ cols),bv s M.length]⟩)]++matU s (M.take i) b⟩ _
  rw [← hcs]
  have nf:∀ k,k<1001→freeHb k (matU s (M.take i) b)=true:=fun k hk=>matU_free (fun q _=>by simp only [rowN]; omega) (fun q=>by simp only [rowN]; omega)
  have nfi:freeHb (rowN 0 i) (matU s (M.take i) b)=true:=matU_free (fun q hq=>rowN_ne oM) (fun q=>rowN01 i q)
  have nli:(matU s (M.take i) b).lookup (rowN 0 i)=none:=matU_not (fun q hq=>rowN_ne oM) (fun q=>rowN01 i q) (fun h=>by simp only [rowN] at h; omega) (by simp only [rowN]; omega)
  have nf1:freeHb 1001 (matU s (M.take i) b)=true:=matU_free (fun q _=>by unfold rowN; omega) (fun q=>by unfold rowN; omega)
  have nl:∀ k,k<1000→(matU s (M.take i) b).lookup k=none:=fun k hk=>(matU_ok s (M.take i) b).low k (by simpa [Nat.blt_eq] using hk)
  have h27:rowN 0 i≠27∧rowN 0 i≠999∧rowN 0 i≠1001∧rowN 0 i≠1002:=by simp only [rowN]; omega
  refine exd0 rF ?_
  refine mV L rfl (mV L rfl (sw (core_nilCheck rX L) t1 t1 ?_))
  refine sw (c_fa un79 rfl sz77 dC rX L) t1 t1 ?_
  refine sw (c_l1 ag77 rF rF L) t1 t1 ?_
  refine mV L rfl ?_
  refine swb (c_co (k:=rowN 0 i) hG hX cl89 rfl hN (copied_says v oM) hp2 L) t1 t0 ⟨?_,?_⟩ ?_
  ·show ([(999,_)]++matU s (M.take i) b).lookup (rowN 0 i)=none
   rw [lookup_append,List.lookup_cons,show (rowN 0 i == 999)=false by simpa using h27.2.1]; exact nli
  ·show (freeSl (rowN 0 i) _ && freeHb (rowN 0 i) ([(999,_)]++matU s (M.take i) b))=true
   have hcf:PV.freeL (rowN 0 i) cs=true:=by rw [hcs]; exact refs0_free fun q hq=>rowN_ne oM
   rw [freeHb_append,nfi]
   simp [freeSl,freeHb,Cells.free,PV.freeL,PV.free,rvV_free (cs:=cs) (Ne.symm h27.2.2.1),bv_free (s:=s) (n:=M.length) (Ne.symm h27.2.2.2),Ne.symm h27.2.1]
  refine swb (c_bR (k:=27) (vs:=[_]) un77 ti40 rfl rfl dC dC rfl (zs_made (.cons rfl .nil) rfl) rfl (.cons rfl .ref rfl pu1 .nil) rfl (by simp [PV.freeL,PV.free,h27.1]; rfl) (P0 _ rfl) L) t1 t0 ⟨?_,?_⟩ ?_
  ·show (List.lookup 27 ((rowN 0 i,_) :: ([(999,_)]++matU s (M.take i) b)))=none
   rw [List.lookup_cons,show (27 == rowN 0 i)=false by simpa using Ne.symm h27.1,lookup_append,List.lookup_cons]; exact nl 27 dC
  ·show (freeSl 27 _ && freeHb 27 ((rowN 0 i,_) :: ([(999,_)]++matU s (M.take i) b)))=true
   simp only [freeHb,freeHb_append,nf 27 dC]
   simp [freeSl,Cells.free,PV.freeL,PV.free,rvV_free (k:=1001) (q:=27) (cs:=cs) dC,h27.1]
  refine swA (core_appH (k:=1001) (j:=27) (cs:=cs) (u:=.ref (rowN 0 i) 0 v.length (v.length*4)) un77 un77 ti40 rfl rfl rfl (by simp [PV.free,h27.2.2.1]) (by simp [Tryz.t40]; omega) oM hp1 L) t2 ?_ ?_ ?_
  ·refine readsB_app ?_ t1
   rw [hcs]
   exact rdRv (pre:=[_,_,_]) (fun B hB=>by simp [Ne.symm h27.2.2.1] at hB)
  ·cases hcs0:cs with
   | cons a l=>trivial
   | nil =>
    have hM0:M.take i=[]:=List.length_eq_zero_iff.1 (by rw [htl,← hcl,hcs0]; rfl)
    refine ⟨?_,?_⟩
    ·show (List.lookup 1001 ((27,_) :: (rowN 0 i,_) :: ([(999,_)]++matU s (M.take i) b)))=none
     rw [lk_ne dC,lk_ne (Ne.symm h27.2.2.1),lookup_append,lk_ne dC]
     exact matU_not (fun q _=>by unfold rowN; omega) (fun q=>by unfold rowN; omega) (fun _=>hM0) dC
    ·show (freeSl 1001 _ && freeHb 1001 ((27,_) :: (rowN 0 i,_) :: ([(999,_)]++matU s (M.take i) b)))=true
     simp only [freeHb,freeHb_append,nf1]
     simp [freeSl,Cells.free,PV.freeL,PV.free,rvV,h27.2.2.1,zrowV]
  refine sw (core_nilCheck rX L) t1 t1 ?_
  refine sw (c_fa un79 rfl sz77 dC rX L) t1 t1 ?_
  refine sb (c_sm sz77 rF .ref rfl pu1) t2 t1 ?_
  refine seq_nil ⟨aokM cls (cgB i) [⟨[5],[],[20],[]⟩,⟨[5],[],[21],[]⟩,⟨[21],[999],[22],[]⟩,⟨[22],[999],[23],[]⟩,⟨[23],[999],[24],[]⟩,⟨[7],[],[25],[]⟩,⟨[25],[],[26],[1000]⟩,⟨[26],[],[27],[27]⟩,⟨[24,27],[1000,27],[28],[1000]⟩,⟨[20],[999],[29],[]⟩,⟨[29],[999],[30],[]⟩,⟨[30,28],[999],[],[999]⟩] [([],[999]),([],[999]),([],[999]),([],[999]),([],[1001]),([],[]),([2000],[2000]),([27],[27,2000]),([1001],[1001,1003,2000]),([],[999]),([],[999]),([],[999,1001,1002])] (.cons (cf0 rfl) (.cons (cf0 rfl) (.cons (cf0 rfl) (.cons (cf0 rfl) (.cons (cf0 rfl) (.cons (cf0 rfl) (.cons ?_ (.cons (cf0 rfl) (.cons ?_ (.cons (cf0 rfl) (.cons (cf0 rfl) (.cons (cf0 rfl) .nil)))))))))))) (.cons ?_ (.cons ?_ (.cons ?_ (.cons ?_ (.cons ?_ (.cons ?_ (.cons ?_ (.cons ?_ (.cons ?_ (.cons ?_ (.cons ?_ (.cons ?_ .nil)))))))))))) ?_ dC dC,(show Exec _ _ _ _ _ from exw (sl:=[(5,_),(14,_),(15,_),(16,_)]) (hb:=(wU cols (M.take (i+1)) (bv s M.length)) :: (matU s (M.take (i+1)) b)) t4 ⟨?_,?_⟩ ?_)⟩
  ·exact ⟨fun k hk=>(by injection hk with hk; subst hk; simp),rfl,fun _ h=>(by cases h),rfl,cls1 (rowN_hi 0 i)⟩
  ·refine ⟨fun k hk=>by rw [(rvF_eq hk).1]; rfl,rfl,fun p hp=>?_,rfl,cls1 dC⟩
   rcases List.mem_append.1 hp with hp | hp
   ·rw [rvB_mem hp]; decide
   ·obtain rfl:=List.mem_singleton.1 hp
    show cls 27∈[1000,27]
    decide
  ·exact mkAt dC
  ·exact mkAt dC
  ·exact mkAt dC
  ·exact mkAt dC
  ·exact mkRv
  ·exact mkP
  ·exact mkN
  ·exact mkS dC
  ·rw [hcs]; exact mkH htl
  ·exact mkAt dC
  ·exact mkAt dC
  ·exact mkW
  ·intro k hk
   show (freeSl k _ && freeHb k ([(999,_)]++matU s (M.take i) b))=true
   simp only [frNames,Option.toList_none,Option.toList_some,List.nil_append,List.append_nil,List.mem_append,List.mem_singleton,Option.mem_toList] at hk
   rw [freeHb_append]
   rcases hk with rfl | rfl | hk
   ·rw [nfi]; simp [freeSl,freeHb,Cells.free,PV.freeL,PV.free,rvV_free (cs:=cs) (Ne.symm h27.2.2.1),bv_free (s:=s) (n:=M.length) (Ne.symm h27.2.2.2),Ne.symm h27.2.1]
   ·rw [nf 27 dC]; simp [freeSl,freeHb,Cells.free,PV.freeL,PV.free,rvV_free (k:=1001) (q:=27) (cs:=cs) dC]
   ·obtain ⟨rfl,h0⟩:=rvF_eq hk
    rw [nf1,h0]; simp [freeSl,freeHb,Cells.free,PV.freeL,PV.free,rvV]
  ·rw [hcs2,rvV_app]; rfl
  ·rw [hts,hcs]; exact hbStep htl
  refine exr0 (sw (c_ad L (w64 oM oM)) t2 t0 (mV L rfl (seq_nil ?_)))
  exact ⟨i+1,oM,by omega,le_of ⟨oR,rfl,rfl,rfl,trivial⟩ ⟨rfl,(hbT [_] (matU_ok s (M.take (i+1)) b) rfl)⟩⟩
 ·have hc2:=df hc
  have e:i=M.length:=by omega
  subst e
  rw [List.take_length]
  refine ex_exit (xq ?_)
  refine exr (mV L rfl (aV L rfl ?_))
  refine seq_nil ⟨[(4,_)],(999,_) :: ((matU s M b)),t1,⟨rfl,(hbT [_] (matU_ok s M b) rfl)⟩,?_⟩
  refine ex_ret ?_
  refine ⟨.inr rfl,rfl,⟨rfl,hbT [_] (matU_ok s M b) rfl⟩⟩
@[simp] theorem rvV_free' {k q:Nat}{cs:List PV}(h:k≠q):(rvV k cs).free q=true:=rvV_free h
theorem hasCb_T {sl:List (Nat×PV)}{pre pre' T:List (Nat×Blk)}(hT:TailOk T)(hp:blt10 pre=true)(hb:HasB ⟨[],pre⟩ pre'):HasCb ⟨sl,pre++T⟩ [] (pre'++T):=by
 refine hasCb_of fun p hp2=>⟨rfl,?_⟩
 show (pre++T).lookup p.1=_
 rcases List.mem_append.1 hp2 with h | h
 ·rw [lookup_append,hasB_mem hb h]; rfl
 ·have h1:=lookup_nd (j:=p.1) (B:=p.2) hT.nd h
  have h2:pre.lookup p.1=none:=by
   cases e:pre.lookup p.1 with
   | none=>rfl
   | some C =>
    have:=blt10_lk hp e
    rw [hT.low _ (by simpa [Nat.blt_eq] using this)] at h1; cases h1
  rw [lookup_append,h2,Option.none_or,h1]
theorem ech0_says (s:Bool)(n cols:Nat)(b:List (List Rat)):SaysG E st11 51 [.at_ 999 0 3] ([wU cols [] (bv s n)]++bsT s b) ([wU cols [] (bv s n)]++bsT s b) (.p (.tup [.sl 0 [],pQ 1])):=by
 refine saysG_dat (xs:=[.sl 0 [],pQ 1]) Tryz.func51 rfl Tryz.ntmps51 Tryz.results51 sM fun F G=>?_
 have L:=@lti _ _ G.nt
 have hG:=G.g
 have hX:=G.x
 have hN:=ng_le hG
 have P0:=fun k (hk:(Nat.blt k 1000 && (List.lookup k _).isNone)=true)=>G.p0 k (p0T (bsT_ok s b) hk)
 refine exr (swb (core_boxAt (k:=1) rX rfl (P0 _ rfl) L) t1 t1 (frT [_] (bsT_ok s b) rfl rfl (by simp [freeSl,freeHb,Cells.free,PV.freeL,PV.free,pvV_free,argSlotsV])) ?_)
 refine aV L rfl (swb (c_al (k:=3) (n:=4) zv47 (.cons rfl (.cons rfl (.cons rfl (.cons rfl .nil)))) rfl (P0 _ rfl) L) t0 t0 (frT [_,_] (bsT_ok s b) rfl rfl (by simp [freeSl,freeHb,Cells.free,PV.freeL,PV.free,pvV_free,argSlotsV])) ?_)
 refine seq_nil ⟨[(1,_),(2,_),(3,_)],(1,_) :: (3,_) :: (999,_) :: ((bsT s b)),t3,⟨rfl,rfl,rfl,(hbT [_,_,_] (bsT_ok s b) rfl)⟩,?_⟩
 refine exr (cK hG hX cl55 hN (whole_says 1 dC dC) L t1 (sb (c_sm sz47 rF pa4 rfl pu4) t2 t1 ?_))
 refine seq_nil ⟨[(1,_),(2,_),(3,_)],(1,_) :: (3,_) :: (999,_) :: ((bsT s b)),t3,⟨rfl,rfl,rfl,(hbT [_,_,_,_] (bsT_ok s b) rfl)⟩,?_⟩
 refine ex_seq (exr (swb (c_al (k:=4) (n:=1) zv3 (.cons rfl .nil) rfl (P0 _ rfl) L) t0 t0 (frT [_,_,_] (bsT_ok s b) rfl rfl (by simp [freeSl,freeHb,Cells.free,PV.freeL,PV.free,pvV_free,argSlotsV])) ?_))
 refine sb (c_sm sz3 rF (.atom rfl) rfl pu1) t2 t1 ?_
 refine seq_nil ⟨[(1,_),(2,_),(3,_),(4,_)],(1,_) :: (3,_) :: (4,_) :: (999,_) :: ((bsT s b)),t4,⟨rfl,rfl,rfl,rfl,(hbT [_,_,_,_,_] (bsT_ok s b) rfl)⟩,?_⟩
 refine ex_block ?_
 refine exlT (α:=Nat) (fun x=>[]) (fun x=>[(4,⟨3,1,.mix [.p (vZ (x:Int))]⟩)]) (fun x=>(bsT s b)) (fun x=>x=0) (fun x=>x) (0) (sl:=[(1,_),(2,_),(3,_),(4,_)]) (hb:=[(1,_),(3,_),(999,_)]) ?_ t4 ⟨rfl,rfl,rfl,rfl,(hbT [_,_,_,_] (bsT_ok s b) rfl)⟩ ?_
 ·rfl
 intro x hx
 subst hx
 by_cases hcc:0<cols
 ·refine ex_seq (exd rF ?_)
  refine sw (c_l1 ag3 rF rF L) t1 t1 ?_
  refine sw (c_l1 ag73 rF rF L) t1 t1 ?_
  refine sw (core_nilCheck rX L) t1 t1 ?_
  refine sw (c_fa un79 rfl sz3 dC rX L) t1 t1 ?_
  refine sw (c_l1 ag3 rF rF L) t1 t1 ?_
  refine sw (c_ls L) t2 t0 (mV L rfl (gV (g:=19) rfl sO L rfl rfl (swg (g:=19) rfl sO (core_lenN un27 L) rfl t1 t0 (swg (g:=19) rfl sO (c_l1 ag73 rF rF L) rfl t1 t1 ?_))))
  refine swg (g:=19) rfl sO (core_nilCheck rX L) rfl t1 t1 ?_
  refine swg (g:=19) rfl sO (c_fa un79 rfl sz77 dC rX L) rfl t1 t1 ?_
  refine swg (g:=19) rfl sO (c_l1 ag77 rF rF L) rfl t1 t1 ?_
  refine swg (g:=19) rfl sO (core_lenN un77 L) rfl t1 t0 (swg (g:=19) rfl sO (c_ls L) rfl t2 t0 (sw (c_pt sO L) t2 t0 ?_))
  refine seq_nil ⟨aokF [⟨[4],[4],[13],[]⟩,⟨[1],[1],[14],[]⟩,⟨[14],[999],[15],[]⟩,⟨[15],[999],[16],[]⟩,⟨[16],[999],[17],[]⟩,⟨[13,17],[],[18],[]⟩,⟨[18],[],[19],[]⟩,⟨[19,2],[],[20],[]⟩,⟨[19,20],[],[21],[]⟩,⟨[19,1],[1],[22],[]⟩,⟨[19,22],[999],[23],[]⟩,⟨[19,23],[999],[24],[]⟩,⟨[19,24],[999],[25],[]⟩,⟨[19,25],[],[26],[]⟩,⟨[19,21,26],[],[27],[]⟩,⟨[19,27],[],[28],[]⟩] (.cons (cf0 rfl) (.cons (cf0 rfl) (.cons (cf0 rfl) (.cons (cf0 rfl) (.cons (cf0 rfl) (.cons (cf0 rfl) (.cons (cf0 rfl) (.cons (cf0 rfl) (.cons (cf0 rfl) (.cons (cf0 rfl) (.cons (cf0 rfl) (.cons (cf0 rfl) (.cons (cf0 rfl) (.cons (cf0 rfl) (.cons (cf0 rfl) (.cons (cf0 rfl)  .nil)))))))))))))))) rfl (frS [] [_,_,_,_] (bsT_ok s b) rfl (by simp [freeSl,freeHb,Cells.free,PV.freeL,PV.free,pvV_free,argSlotsV])) dC,[(1,_),(2,_),(3,_),(4,_),(28,_)],(1,_) :: (3,_) :: (4,_) :: (999,_) :: ((bsT s b)),t5,⟨rfl,rfl,rfl,rfl,(hbT [_,_,_,_] (bsT_ok s b) rfl)⟩,?_⟩
  refine ex_false rfl rfl ?_
  refine ex_exit (xq ?_)
  refine exd rF ?_
  refine mV L rfl (lp4 ag47 sz47 L rfl rfl (aV L rfl (sb (c_sm sz47 rF pa4 rfl pu4) t2 t1 ?_)))
  refine seq_nil ⟨aokF [⟨[2],[],[84],[]⟩,⟨[3],[3],[85],[]⟩,⟨[84],[],[2],[]⟩,⟨[3,85],[3],[],[3]⟩] (.cons (cf0 rfl) (.cons (cf0 rfl) (.cons (cf0 rfl) (.cons (cf0 rfl)  .nil)))) rfl (frS [] [_,_,_,_] (bsT_ok s b) rfl (by simp [freeSl,freeHb,Cells.free,PV.freeL,PV.free,pvV_free,argSlotsV])) dC,[(2,_),(3,_)],(3,_) :: (999,_) :: ((bsT s b)),t2,⟨rfl,rfl,(hbT [_,_,_,_,_] (bsT_ok s b) rfl)⟩,?_⟩
  refine ex_cv [] (sl:=[(2,.p (.sl 0 [])),(3,.at_ 3 0 4)]) (hb:=[(3,bQ 1),wU cols [] (bv s n)]++bsT s b) (own_lo rfl) ⟨⟨_,rfl,.p .nil⟩,⟨_,rfl,.same⟩,trivial⟩ (hasCb_T (pre:=[_,_]) (bsT_ok s b) rfl t2) (ex_ret ?_)
  exact ⟨.inr rfl,.cons (.tmp rfl) (.cons (.agg rfl rfl rfl ag47 sz47 (.cons (.cons (.cons (.cons .nil))))) .nil),rfl,hbT [_,_] (bsT_ok s b) rfl⟩
 ·refine ex_seq (exd rF ?_)
  refine sw (c_l1 ag3 rF rF L) t1 t1 ?_
  refine sw (c_l1 ag73 rF rF L) t1 t1 ?_
  refine sw (core_nilCheck rX L) t1 t1 ?_
  refine sw (c_fa un79 rfl sz3 dC rX L) t1 t1 ?_
  refine sw (c_l1 ag3 rF rF L) t1 t1 ?_
  refine sw (c_ls L) t2 t0 (mV L rfl (swn (g:=19) rfl sO L rfl (swn (g:=19) rfl sO L rfl (swn (g:=19) rfl sO L rfl (swn (g:=19) rfl sO L rfl (swn (g:=19) rfl sO L rfl (swn (g:=19) rfl sO L rfl (swn (g:=19) rfl sO L rfl (swn (g:=19) rfl sO L rfl (sw (c_pf sO L) t2 t0 ?_))))))))))
  refine seq_nil ⟨aokF [⟨[4],[4],[13],[]⟩,⟨[1],[1],[14],[]⟩,⟨[14],[999],[15],[]⟩,⟨[15],[999],[16],[]⟩,⟨[16],[999],[17],[]⟩,⟨[13,17],[],[18],[]⟩,⟨[18],[],[19],[]⟩,⟨[19],[],[20],[]⟩,⟨[19],[],[21],[]⟩,⟨[19],[],[22],[]⟩,⟨[19],[],[23],[]⟩,⟨[19],[],[24],[]⟩,⟨[19],[],[25],[]⟩,⟨[19],[],[26],[]⟩,⟨[19],[],[27],[]⟩,⟨[19],[],[28],[]⟩] (.cons (cf0 rfl) (.cons (cf0 rfl) (.cons (cf0 rfl) (.cons (cf0 rfl) (.cons (cf0 rfl) (.cons (cf0 rfl) (.cons (cf0 rfl) (.cons (cf0 rfl) (.cons (cf0 rfl) (.cons (cf0 rfl) (.cons (cf0 rfl) (.cons (cf0 rfl) (.cons (cf0 rfl) (.cons (cf0 rfl) (.cons (cf0 rfl) (.cons (cf0 rfl)  .nil)))))))))))))))) rfl (frS [] [_,_,_,_] (bsT_ok s b) rfl (by simp [freeSl,freeHb,Cells.free,PV.freeL,PV.free,pvV_free,argSlotsV])) dC,[(1,_),(2,_),(3,_),(4,_),(28,_)],(1,_) :: (3,_) :: (4,_) :: (999,_) :: ((bsT s b)),t5,⟨rfl,rfl,rfl,rfl,(hbT [_,_,_,_] (bsT_ok s b) rfl)⟩,?_⟩
  refine ex_false rfl rfl ?_
  refine ex_exit (xq ?_)
  refine exd rF ?_
  refine mV L rfl (lp4 ag47 sz47 L rfl rfl (aV L rfl (sb (c_sm sz47 rF pa4 rfl pu4) t2 t1 ?_)))
  refine seq_nil ⟨aokF [⟨[2],[],[84],[]⟩,⟨[3],[3],[85],[]⟩,⟨[84],[],[2],[]⟩,⟨[3,85],[3],[],[3]⟩] (.cons (cf0 rfl) (.cons (cf0 rfl) (.cons (cf0 rfl) (.cons (cf0 rfl)  .nil)))) rfl (frS [] [_,_,_,_] (bsT_ok s b) rfl (by simp [freeSl,freeHb,Cells.free,PV.freeL,PV.free,pvV_free,argSlotsV])) dC,[(2,_),(3,_)],(3,_) :: (999,_) :: ((bsT s b)),t2,⟨rfl,rfl,(hbT [_,_,_,_,_] (bsT_ok s b) rfl)⟩,?_⟩
  refine ex_cv [] (sl:=[(2,.p (.sl 0 [])),(3,.at_ 3 0 4)]) (hb:=[(3,bQ 1),wU cols [] (bv s n)]++bsT s b) (own_lo rfl) ⟨⟨_,rfl,.p .nil⟩,⟨_,rfl,.same⟩,trivial⟩ (hasCb_T (pre:=[_,_]) (bsT_ok s b) rfl t2) (ex_ret ?_)
  exact ⟨.inr rfl,.cons (.tmp rfl) (.cons (.agg rfl rfl rfl ag47 sz47 (.cons (.cons (.cons (.cons .nil))))) .nil),rfl,hbT [_,_] (bsT_ok s b) rfl⟩
theorem ech_nil {b:List (List Rat)}:∀ c,ech [] b c=⟨[],b,[],1⟩
 | 0=>rfl
 | c+1=>by rw [ech_succ,ech_nil c]; rfl
structure EU (n cols d B DB:Nat) (m b:List (List Rat)):Prop where
 rc:RC n cols m
 rb:RC n d b
 nl:n<1000
 cl:cols<1000
 dl:d<1000
 b0:0<B
 bl:B<100000000
 dbl:DB+B<1000000000
 me:∀ c,c≤cols→MB B (ech m b c).m
 be:∀ c,c≤cols→MB B (ech m b c).b
 de:∀ c,c≤cols→qw (ech m b c).det≤DB
theorem echU_says (s:Bool)(n cols d B DB:Nat)(m b:List (List Rat))(H:EU n cols d B DB m b):SaysG E st11 51 [.at_ 999 0 3] ([wU cols m (bv s n)]++matU s m b) ([wU cols (ech m b cols).m (bv s n)]++matU s (ech m b cols).m (ech m b cols).b) (.p (.tup [.sl (ech m b cols).pv.length (encP (ech m b cols).pv),pQ (ech m b cols).det])):=by
 cases m with
 | nil =>
  rw [ech_nil]
  exact ech0_says s n cols b
 | cons r m =>
  have h0:0<n:=by have:=H.rc.1; simp at this; omega
  have hm:0<(r :: m).length:=by simp
  have hrc:=ech_spec H.rc H.rb cols (Nat.le_refl _)
  have hm':0<(ech (r :: m) b cols).m.length:=by rw [hrc.1.1]; exact h0
  have hn:=H.rc.1
  have:=ech_says s n cols d B DB (r :: m) b ⟨H.rc,H.rb,h0,H.nl,H.cl,H.dl,H.b0,H.bl,H.dbl,H.me,H.be,H.de⟩
  rw [matU_T hm,matU_T hm',wU_V hm,wU_V hm',hrc.1.1,hn]; exact this
end Go.Proofs.YtjagfionflbjbaaGreat.N
namespace Go.Proofs.YtjagfionflbjbaaGreat.SH
open Go Go.RowKit
section
variable {P:Program} {F:Fr} {d:Nat} {T:TypeId} {pos:String} {aft:Array Edge} {g:Option (Nat×Bool)} {t:TypeId}
theorem slI3 {x hi mx : Operand} {n h : Nat} {i : Int} {xs ys : List Pure} {e : TypeId} {sz : Nat} {kh km : IntKind} (hu : P.underlying t = some (.slice e)) (hsz : ∀ w, (sizeOf e).run P w = .ok sz w) (hi' : i = (h : Int)) (h2 : h ≤ n) (hy : xs.take (h * sz) = ys) (hlt : d < F.nt) :
    CoreOk P F ⟨some d,.slice t x none (some hi) (some mx),T,pos,aft,g⟩ { rs:=[(x,.p (.sl n xs)),(hi,.p (.a (.int kh i))),(mx,.p (.a (.int km i)))],ws:=[(d,.p (.sl h ys))] }:=by
  subst hi'
  exact core_val rfl hlt rfl rfl fun ρ S a w hS hA=>by
    have hx:=opd_rel hS (v:=.p (.sl n xs)) (hA.rs (x,_) (by simp))
    simp only [RelV,Rel] at hx
    obtain ⟨ad,cap,he,hc,hr⟩:=hx
    have e1:a.eval hi = .int kh h:=atom_eval hS (hA.rs (hi,_) (by simp))
    have e2:a.eval mx = .int km h:=atom_eval hS (hA.rs (mx,_) (by simp))
    have b1:(h:Int)≤cap:=by omega
    have hb:(Instr.sliceBounds true n cap none (some (a.eval hi)) (some (a.eval mx))).run P w = .ok (0,h,h) w:=by
      simp_all [Instr.sliceBounds,Instr.sliceBound,asIntOf]
    refine ⟨.slice (if h=0 then ad else ad.map (·.add (0*sz))) h h,?_,?_⟩
    · simp [execOp,Instr.sliceAt,Instr.slice,run_underlying hu,he,hb,hsz]
    · simp only [RelV,Rel]
      refine ⟨_,_,rfl,Nat.le_refl _,?_⟩
      by_cases hyn:ys=[]
      · subst hyn; simp [RelS]
      · have hxn:xs≠[]:=fun e=>by subst e; simp at hy; exact hyn (by first | exact hy | exact hy.symm)
        obtain ⟨b,o,rfl,hok,hra⟩:=hr.at hxn
        have h0:0<h:=by
          rcases Nat.eq_zero_or_pos h with e | e
          · subst e; simp at hy; exact absurd (by first | exact hy | exact hy.symm) hyn
          · exact e
        rw [if_neg (by omega)]
        have e:(⟨b,o,none⟩:Addr).add (0*sz)=⟨b,o,none⟩:=by unfold Addr.add; split <;> simp_all
        simp only [Option.map_some,e]
        rw [← hy]
        exact RelS.of hok (hra.take _)
end
theorem stepN_congr {P:Program}{F:Fr}{ops:Array Oper}{o:Oper}{S S1 S2:St}(h:StepN P F ops o S S1)(hs:∀ t,S2.slot t=S1.slot t)(hb:∀ k,S2.blk k=S1.blk k):StepN P F ops o S S2:=by
  intro a w hS Q K hK
  exact h a w hS Q K fun a' w' h'=>hK a' w' (h'.congr hs hb)
def blt9 (l:List (Nat×Blk)):Bool:=l.all fun p=>Nat.blt p.1 900
theorem blt9_none {l:List (Nat×Blk)}(h:blt9 l=true){k:Nat}(hk:900≤k):l.lookup k=none:=by
  cases e:l.lookup k with
  | none=>rfl
  | some B =>
    unfold blt9 at h
    rw [List.all_eq_true] at h
    have:=h _ (lookup_mem e)
    simp only [Nat.blt_eq] at this
    omega
theorem hasB_sub {sl:List (Nat×PV)}{pre H:List (Nat×Blk)}:∀ {l:List (Nat×Blk)},HasB ⟨[],pre⟩ l→HasB ⟨sl,pre++H⟩ l
  | [],_=>trivial
  | (k, B) :: l, h => ⟨by
      show (pre++H).lookup k=some B
      rw [lookup_append,show pre.lookup k=some B from h.1]; rfl,hasB_sub h.2⟩
theorem stepN_le {P:Program}{F:Fr}{ops:Array Oper}{o:Oper}{S S1 S2:St}(h:StepN P F ops o S S1)(hl:St.le S2 S1):StepN P F ops o S S2:=by
  intro a w hS Q K hK
  exact h a w hS Q K fun a' w' ⟨ρ,h'⟩=>hK a' w' ⟨ρ,h'.weakR hl⟩
theorem nsU {E : Env} {st st0 : Nat → Bool} {F : Fr} {nt : Nat} (G : GFr E st0 [] nt F) (hng : E.ng ≤ F.w0.heap.size) {ops : Array Oper} {d : Nat} {f : FuncId} {op : Op} {T : TypeId} {pos : String} {aft : Array Edge} {xs : List PV} {sl : List (Nat × PV)} {pre H H' : List (Nat × Blk)} {r : PV} {rs : List (Operand × PV)} {os : List Oper} {K : St → Prop} (ks : List Nat) (slR : List (Nat × PV)) (hbR : List (Nat × Blk)) (hs : SaysG E st f xs H H' r) (hlt : d < F.nt)
    (hargs:∀ ρ S a w,SatR F ρ S a w→(∀ p∈rs,S.opd p.1=some p.2)→∃ vals:List Value,(execOp a.eval ⟨some d,op,T,pos,aft,none⟩).run E.P w = .ok (.enter f vals.toArray) w∧RelVL S.blk ρ (okI F S.blk ρ) (hp w) xs vals)
    (hr:Reads ⟨sl,pre++H⟩ rs) (hh:∀ k B,H.lookup k=some B→900≤k) (hh':∀ k B,H'.lookup k=some B→900≤k) (nd:(H.map (·.1)).Nodup) (nd':(H'.map (·.1)).Nodup) (hw:Whole H') (hres:∀ q,r.free q=false→H'.lookup q≠none) (h9:ks.contains 999=true→∃ B0 B1,st 999=true∧H.lookup 999=some B0∧H'.lookup 999=some B1∧B1.sz=B0.sz∧B1.cs.len=B0.cs.len)
    (hp:blt9 pre=true) (hR:HasB ⟨[],pre⟩ hbR) (hR9:blt9 hbR=true) (hsl:HasS ⟨sl,pre++H⟩ slR) (hd:slR.lookup d=none) (ho:(slR.all fun p=>p.2.only ks)=true) (hbo:(hbR.all fun p=>p.2.cs.only ks)=true) (hks:(ks.all fun k=>(hbR.lookup k).isSome || k == 999)=true)
    (hn:SeqS E.P F ops os ⟨(d,r) :: slR,hbR++H'⟩ K):SeqS E.P F ops (⟨some d,op,T,pos,aft,none⟩ :: os) ⟨sl,pre++H⟩ K:=by
  have hHno:∀ k,k<900→H.lookup k=none:=fun k hk=>by
    cases e:H.lookup k with
    | none=>rfl
    | some B=>have:=hh k B e; omega
  have hHno':∀ k,k<900→H'.lookup k=none:=fun k hk=>by
    cases e:H'.lookup k with
    | none=>rfl
    | some B=>have:=hh' k B e; omega
  have hlt9:∀ k,hbR.lookup k≠none→k<900:=fun k hk=>by
    apply Classical.byContradiction
    intro h
    exact hk (blt9_none hR9 (by omega))
  refine .cons (stepN_congr (S2:=⟨(d,r) :: slR,hbR++H'⟩) (stepI (H:=H) (H':=H') G.g G.x hng ks slR hbR hs hlt hargs hr (hasB_of nd fun k B hk=>?_) hsl (hasB_sub hR) hd nd nd' (fun k hk=>⟨hHno k (hlt9 k hk),hHno' k (hlt9 k hk)⟩) hw hres ho (fun k B hk=>by rw [List.all_eq_true] at hbo; exact hbo _ (lookup_mem hk)) (fun k hk=>by
    rw [List.all_eq_true] at hks
    have:=hks k hk
    rw [Bool.or_eq_true,beq_iff_eq] at this
    rcases this with h | h
    · exact .inl fun e=>by rw [e] at h; cases h
    · subst h; exact .inr (h9 (by rw [List.contains_iff_mem]; exact hk))) (fun i j hi _ _ hlo=>by rw [G.lo] at hlo; cases hlo) (fun j _ hj=>absurd (G.p0 j rfl) hj)) (fun t=>rfl) (fun k=>?_)) hn
  · show (pre++H).lookup k=some B
    rw [lookup_append,blt9_none hp (hh k B hk),Option.none_or,hk]
  · show (hbR++H').lookup k=(H'++hbR).lookup k
    rw [lookup_append,lookup_append]
    cases e:hbR.lookup k with
    | none=>simp
    | some B=>rw [hHno' k (hlt9 k (by rw [e]; simp))]; rfl
theorem nsU0 {E : Env} {st st0 : Nat → Bool} {F : Fr} {nt : Nat} (G : GFr E st0 [] nt F) (hng : E.ng ≤ F.w0.heap.size) {ops : Array Oper} {d : Nat} {f : FuncId} {op : Op} {T : TypeId} {pos : String} {aft : Array Edge} {xs : List PV} {sl : List (Nat × PV)} {pre H H' : List (Nat × Blk)} {r : PV} {rs : List (Operand × PV)} {os : List Oper} {K : St → Prop} (ks : List Nat) (slR : List (Nat × PV)) (hbR : List (Nat × Blk)) (hs : SaysG E st f xs H H' r) (hlt : d < F.nt)
    (hargs:∀ ρ S a w,SatR F ρ S a w→(∀ p∈rs,S.opd p.1=some p.2)→∃ vals:List Value,(execOp a.eval ⟨some d,op,T,pos,aft,none⟩).run E.P w = .ok (.enter f vals.toArray) w∧RelVL S.blk ρ (okI F S.blk ρ) (hp w) xs vals)
    (hr:Reads ⟨sl,pre++H⟩ rs) (hh:∀ k B,H.lookup k=some B→900≤k) (hh':∀ k B,H'.lookup k=some B→900≤k) (nd:(H.map (·.1)).Nodup) (nd':(H'.map (·.1)).Nodup) (hw:Whole H') (hres:∀ q,r.free q=false→H'.lookup q≠none) (h9:ks.contains 999=true→∃ B0 B1,st 999=true∧H.lookup 999=some B0∧H'.lookup 999=some B1∧B1.sz=B0.sz∧B1.cs.len=B0.cs.len)
    (hp:blt9 pre=true) (hR:HasB ⟨[],pre⟩ hbR) (hR9:blt9 hbR=true) (hsl:HasS ⟨sl,pre++H⟩ slR) (hd:slR.lookup d=none) (ho:(slR.all fun p=>p.2.only ks)=true) (hbo:(hbR.all fun p=>p.2.cs.only ks)=true) (hks:(ks.all fun k=>(hbR.lookup k).isSome || k == 999)=true)
    (hn:SeqS E.P F ops os ⟨(d,r) :: slR,hbR⟩ K):SeqS E.P F ops (⟨some d,op,T,pos,aft,none⟩ :: os) ⟨sl,pre++H⟩ K:=by
  have hlt9:∀ k,hbR.lookup k≠none→k<900:=fun k hk=>by
    apply Classical.byContradiction
    intro h
    exact hk (blt9_none hR9 (by omega))
  have hHno:∀ k,k<900→H.lookup k=none:=fun k hk=>by
    cases e:H.lookup k with
    | none=>rfl
    | some B=>have:=hh k B e; omega
  have hHno':∀ k,k<900→H'.lookup k=none:=fun k hk=>by
    cases e:H'.lookup k with
    | none=>rfl
    | some B=>have:=hh' k B e; omega
  refine .cons (stepN_le (S1:=⟨(d,r) :: slR,H'++hbR⟩) (S2:=⟨(d,r) :: slR,hbR⟩) (stepI (H:=H) (H':=H') G.g G.x hng ks slR hbR hs hlt hargs hr (hasB_of nd fun k B hk=>?_) hsl (hasB_sub hR) hd nd nd' (fun k hk=>⟨hHno k (hlt9 k hk),hHno' k (hlt9 k hk)⟩) hw hres ho (fun k B hk=>by rw [List.all_eq_true] at hbo; exact hbo _ (lookup_mem hk)) (fun k hk=>by
    rw [List.all_eq_true] at hks
    have:=hks k hk
    rw [Bool.or_eq_true,beq_iff_eq] at this
    rcases this with h | h
    · exact .inl fun e=>by rw [e] at h; cases h
    · subst h; exact .inr (h9 (by rw [List.contains_iff_mem]; exact hk))) (fun i j hi _ _ hlo=>by rw [G.lo] at hlo; cases hlo) (fun j _ hj=>absurd (G.p0 j rfl) hj)) ⟨fun t v h=>h,fun k B h=>?_⟩) hn
  · show (pre++H).lookup k=some B
    rw [lookup_append,blt9_none hp (hh k B hk),Option.none_or,hk]
  · show (H'++hbR).lookup k=some B
    rw [lookup_append,hHno' k (hlt9 k (by rw [show hbR.lookup k=some B from h]; simp)),Option.none_or]; exact h
end Go.Proofs.YtjagfionflbjbaaGreat.SH
set_option maxRecDepth 100000
set_option maxHeartbeats 4000000
namespace Go.Proofs.YtjagfionflbjbaaGreat.N
open Go Go.Proofs.YtjagfionflbjbaaGreat.SH Go.Proofs.YtjagfionflbjbaaGreat.NumA
open Go.Proofs.Tryz renaming call13→cl13,call40→cl40,call50→cl50,call51→cl51,call52→cl52,call53→cl53,call54→cl54,call55→cl55,call56→cl56,isAgg22→ag22,isAgg24→ag24,isAgg27→ag27,isAgg3→ag3,isAgg40→ag40,isAgg47→ag47,isAgg77→ag77,sizeOf22→sz22,sizeOf24→sz24,sizeOf27→sz27,sizeOf3→sz3,sizeOf40→sz40,sizeOf45→sz45,sizeOf47→sz47,sizeOf77→sz77,typeInfo40→ti40,underlying22→un22,underlying24→un24,underlying27→un27,underlying40→un40,underlying47→un47,underlying77→un77,underlying79→un79,zeroValue24→zv24,zeroValue27→zv27,zeroValue3→zv3,zeroValue47→zv47
theorem matU_hi {s:Bool}{m b:List (List Rat)}:∀ k B,(matU s m b).lookup k=some B→900≤k:=fun k B h=>by
 have:=tail_hi (matU_ok s m b) _ (lookup_mem h)
 simp only at this; omega
theorem bsT_hi {s:Bool}{b:List (List Rat)}:∀ k B,(bsT s b).lookup k=some B→900≤k:=fun k B h=>by
 have:=tail_hi (bsT_ok s b) _ (lookup_mem h)
 simp only at this; omega
theorem wm_hi {s:Bool}{c:Nat}{m b:List (List Rat)}{v:PV}:∀ k B,([wU c m v]++matU s m b).lookup k=some B→900≤k:=fun k B h=>by
 rw [List.singleton_append,List.lookup_cons] at h
 by_cases e:k=999
 ·omega
 ·rw [show (k == 999)=false by simpa using e] at h; exact matU_hi k B h
theorem wm_nd {s:Bool}{c:Nat}{m b:List (List Rat)}{v:PV}:(([wU c m v]++matU s m b).map (·.1)).Nodup:=by
 rw [List.singleton_append,List.map_cons,List.nodup_cons]
 refine ⟨fun hm=>?_,(matU_ok s m b).nd⟩
 obtain ⟨⟨q,B⟩,hp,e⟩:=List.mem_map.1 hm
 have:=tail_hi (matU_ok s m b) _ hp
 simp only at this e; omega
theorem bsT_hd {b:List (List Rat)}:(bsT true b).lookup 1002=some (hdB 1 b):=hdL
theorem wm_w {s:Bool}{c n:Nat}{m b:List (List Rat)}:Whole ([wU c m (bv s n)]++matU s m b):=by
 intro j B hj i x hx q hq
 rw [lookup_append] at hj
 cases e:([wU c m (bv s n)]:List (Nat×Blk)).lookup j with
 | none =>
  rw [e,Option.none_or] at hj
  exact lk_app ((matU_ok s m b).whole j B hj i x hx q hq)
 | some C =>
  rw [e,Option.some_or] at hj
  injection hj with hj
  subst hj
  obtain rfl:C=(wU c m (bv s n)).2:=by
   simp only [List.lookup_cons,List.lookup_nil] at e
   split at e
   ·injection e with e; exact e.symm
   ·cases e
  have hx:[rvV 1001 (refsB 0 0 m),PV.p (vZ c),bv s n][i]? = some x:=hx
  have hm:=List.mem_of_getElem? hx
  simp only [List.mem_cons,List.not_mem_nil,or_false] at hm
  rcases hm with rfl | rfl | rfl
  ·cases m with
   | nil=>cases hq
   | cons r m =>
    rw [rvV_freeN hq]
    refine lk_app ?_
    rw [matU_T sM,matT_hd]; simp
  ·cases hq
  ·cases s
   ·cases hq
   ·obtain rfl:1002=q:=by simpa [bv,PV.free] using hq
    refine lk_app ?_
    rw [matU,lookup_append,bsT_hd]
    cases (matN 0 m).lookup 1002 <;> simp
theorem wm_res {s:Bool}{c:Nat}{m b:List (List Rat)}{v:PV}:∀ q,(PV.at_ 999 0 3).free q=false→([wU c m v]++matU s m b).lookup q≠none:=fun q h=>by
 obtain rfl:999=q:=by simpa [PV.free] using h
 simp [List.lookup_cons]
theorem wm_9 {s:Bool}{c:Nat}{m m' b b':List (List Rat)}{v v':PV}{p:Prop}:p→∃ B0 B1,st11 999=true∧([wU c m v]++matU s m b).lookup 999=some B0∧([wU c m' v']++matU s m' b').lookup 999=some B1∧B1.sz=B0.sz∧B1.cs.len=B0.cs.len:=fun _=>⟨_,_,rfl,rfl,rfl,rfl,rfl⟩
def nob (n:Nat):List (List Rat):=List.replicate n []
theorem nob_rc {n:Nat}:RC n 0 (nob n):=⟨by simp [nob],fun r hr=>by obtain ⟨_,rfl⟩:=List.mem_replicate.1 hr; rfl⟩
theorem detV_says (n B DB:Nat)(M:List (List Rat))(h:MOk n M)(hB1:MB B M)(hn:M.length=n)(H:EU n n 0 B DB M (nob n)):SaysG E (fun _=>true) 31 [.p (pMq n M)] ([]) ([]) (.p (.tup [pQ (detQ n M (nob n)),vZ 0])):=by
 refine saysG_dat (xs:=[pQ (detQ n M (nob n)),vZ 0]) Tryz.func31 rfl Tryz.ntmps31 Tryz.results31 sM fun F G=>?_
 have L:=@lti _ _ G.nt
 have hG:=G.g
 have hX:=G.x
 have hN:=ng_le hG
 have P0:=G.p0
 have hb:=H.bl
 subst hn
 refine exr (swb (c_bx (k:=1) (n:=2) pa2 rfl rfl (P0 _ rfl) L) t1 t0 ⟨rfl,rfl⟩ (swb (c_al (k:=2) (n:=4) zv47 (.cons rfl (.cons rfl (.cons rfl (.cons rfl .nil)))) rfl (P0 _ rfl) L) t0 t0 ⟨rfl,rfl⟩ (aV L rfl (zn [(1,_),(2,_)] [(1,_),(2,_)] t2 t2 (ex_seq (exr (lp2 ag24 sz24 L rfl rfl (cK hG hX cl40 hN (misq_says h hB1 oM) L t1 (sw (c_no L) t1 t0 (zn [(1,_),(2,_),(8,_)] [(1,_),(2,_)] t3 t2 (ex_false rfl rfl ?_)))))))))))
 refine ex_skip (xq ?_)
 refine ex_seq (exr (sw (c_fa un24 rfl sz22 dC rX L) t1 t1 ?_))
 refine sw (c_l1 ag22 rF rF L) t1 t1 ?_
 refine sw (c_ln un22 L) t1 t0 (sw (c_fa un24 rfl sz3 dC rX L) t1 t1 ?_)
 refine sw (c_l1 ag3 rF rF L) t1 t1 ?_
 refine sw (c_n L) t2 t0 (zn [(1,_),(2,_),(15,_)] [(1,_),(2,_)] t3 t2 (ex_false rfl sM ?_))
 refine ex_skip (xq ?_)
 refine exrN (nsw (c_lp ag24 sz24 rF (by exact al2) rfl L) t1 t1 ?_)
 refine nsU (pre:=[_,_]) (H:=bsT false (nob M.length)) G hN [1,2] [(1,.at_ 1 0 2),(2,.at_ 2 0 4)] [(1,_),(2,_)] (begin_says false M.length M.length M (nob M.length) H.rc H.nl H.cl) L (args_fn (ys:=[_,_]) cl50 rfl rfl) t2 bsT_hi wm_hi (bsT_ok _ _).nd wm_nd wm_w wm_res (fun h=>by cases h) rfl t2 rfl t2 rfl rfl rfl rfl ?_
 refine nsU0 (pre:=[_,_]) (H:=[wU M.length M (bv false M.length)]++matU false M (nob M.length)) G hN [1,2] [(1,.at_ 1 0 2),(2,.at_ 2 0 4)] [(1,_),(2,_)] (echU_says false M.length M.length 0 B DB M (nob M.length) H) L (args_fn (ys:=[_]) cl51 rfl rfl) t1 wm_hi wm_hi wm_nd wm_nd wm_w (fun q h=>by cases h) (fun h=>by cases h) rfl t2 rfl t2 rfl rfl rfl rfl ?_
 refine nsw (c_m L) t1 t0 (nsw (c_ex rfl L) t1 t0 (nsw (c_ex rfl L) t1 t0 (nswb (c_al (k:=5) (n:=4) zv47 (.cons rfl (.cons rfl (.cons rfl (.cons rfl .nil)))) rfl (P0 _ rfl) L) t0 t0 ⟨rfl,rfl⟩ (nsw (c_a L) t1 t0 (nsb (c_sm sz47 rF pa4 rfl pu4) t2 t1 ?_)))))
 refine .nil ⟨[(1,_),(2,_),(4,_),(5,_)],(1,_) :: (2,_) :: (5,_) :: [],t4,t3,?_⟩
 refine ex_seq (exr (mV L rfl (sw (c_ln un27 L) t1 t0 (sw (c_fa un24 rfl sz3 dC rX L) t1 t1 ?_))))
 refine sw (c_l1 ag3 rF rF L) t1 t1 ?_
 refine sw (c_ls L) t2 t0 (zn [(2,_),(5,_),(27,_)] [(2,_),(5,_)] t3 t2 ?_)
 refine ex_if rfl (fun hc=>?_) (fun hc=>?_)
 ·have hc2:=dt hc
  refine exr (cK hG hX cl55 hN (whole_says 0 dC dC) L t1 (sb (c_sm sz47 rF pa4 rfl pu4) t2 t1 ?_))
  refine aV L rfl (zn [(2,_),(3,_)] [(2,_)] t2 t1 (ex_ret ?_))
  refine ⟨.inr rfl,ResVs.cast (.cons (.agg rfl rfl rfl ag47 sz47 (.cons (.cons (.cons (.cons .nil))))) (.cons (.tmp rfl) .nil)) ?_,trivial⟩
  rw [detQ,if_pos oM]; rfl
 ·have hc2:=df hc
  refine ex_skip (xq ?_)
  refine exr (lp4 ag47 sz47 L rfl rfl (sb (c_sm sz47 rF pa4 rfl pu4) t2 t1 ?_))
  refine aV L rfl (zn [(2,_),(3,_)] [(2,_)] t2 t1 (ex_ret ?_))
  refine ⟨.inr rfl,ResVs.cast (.cons (.agg rfl rfl rfl ag47 sz47 (.cons (.cons (.cons (.cons .nil))))) (.cons (.tmp rfl) .nil)) ?_,trivial⟩
  rw [detQ,if_neg oM]
theorem det_says (n B DB:Nat)(M:List (List Rat))(h:MOk n M)(hB1:MB B M)(hn:M.length=n)(H:EU n n 0 B DB M (nob n)):Says E 31 [pMq n M] (.tup [pQ (detQ n M (nob n)),vZ 0]):=says_ofG (detV_says n B DB M h hB1 hn H)
theorem cvP_refs {β:Nat→Option Blk}{z:List Nat}{s:Nat}:∀ {i:Nat} {m:List (List Rat)},(∀ j,j<m.length→z.contains (rowN s (i+j))=true∧β (rowN s (i+j))=some (rowBlk (m.getD j [])))→CvP β z (refsB s i m) (encM m)
 | _,[],_=>.nil
 | i,v :: m,h=>by
  have h0:=h 0 sM
  refine .cons (.ref h0.1 h0.2 (encQ_length v) rfl) (cvP_refs fun j hj=>?_)
  have:=h (j+1) (by simpa using hj)
  rw [show i+1+j=i+(j+1) by omega]
  exact this
def bw (s:Bool)(b:List (List Rat)):PV:=if s then .p (.sl b.length (encM b)) else .p (.a (.slice none 0 0))
@[reducible] def wD (s:Bool)(c:Nat)(m b:List (List Rat)):Nat×Blk:=(999,⟨79,3,.mix [.p (.sl m.length (encM m)),.p (vZ c),bw s b]⟩)
theorem blk_pre {sl:List (Nat×PV)}{pre T:List (Nat×Blk)}{k:Nat}(hp:blt9 pre=true)(hk:900≤k):St.blk ⟨sl,pre++T⟩ k=T.lookup k:=by
 show (pre++T).lookup k=_
 rw [lookup_append,blt9_none hp hk,Option.none_or]
theorem matU_row {s:Bool}{m b:List (List Rat)}{j:Nat}(h:j<m.length):(matU s m b).lookup (rowN 0 j)=some (rowBlk (m.getD j [])):=by
 rw [matU,matN_cons oM,lookup_append,rwL dC h]; rfl
theorem matU_hd {s:Bool}{m b:List (List Rat)}(h:0<m.length):(matU s m b).lookup 1001=some (hdB 0 m):=by
 rw [matU,matN_cons h,lookup_append,show (1001:Nat)=0+1001 from rfl,hdL]; rfl
theorem matN_no {m:List (List Rat)}{k:Nat}(h1:k≠1001)(h2:∀ q,k≠rowN 0 q):(matN 0 m).lookup k=none:=by
 cases e:(matN 0 m).lookup k with
 | none=>rfl
 | some B =>
  rcases matN_keys dC (show (matN 0 m).lookup k≠none by rw [e]; simp) with h | ⟨q,_,h⟩
  ·exact absurd h h1
  ·exact absurd h (h2 q)
theorem matU_bhd {m b:List (List Rat)}:(matU true m b).lookup 1002=some (hdB 1 b):=by
 rw [matU,lookup_append,matN_no dC (fun q=>by unfold rowN; omega),Option.none_or]; exact bsT_hd
theorem matU_brow {m b:List (List Rat)}{j:Nat}(h:j<b.length):(matU true m b).lookup (rowN 1 j)=some (rowBlk (b.getD j [])):=by
 rw [matU,lookup_append,matN_no (by unfold rowN; omega) (fun q=>Ne.symm (rowN01 q j)),Option.none_or]; exact rwL dC h
theorem has_z {T:List (Nat×Blk)}{k:Nat}{B:Blk}(h:T.lookup k=some B):(T.map (·.1)).contains k=true:=by
 rw [List.contains_iff_mem]; exact List.mem_map.2 ⟨_,lookup_mem h,rfl⟩
theorem no_z {T:List (Nat×Blk)}{k:Nat}(h:TailOk T)(hk:k<1000):(T.map (·.1)).contains k=false:=by
 cases e:(T.map (·.1)).contains k with
 | false=>rfl
 | true =>
  rw [List.contains_iff_mem] at e
  obtain ⟨p,hp,rfl⟩:=List.mem_map.1 e
  have:=tail_hi h p hp; omega
theorem ex_cvW {P:Program}{F:Fr}{c:Code}{Q:Exit→St→Prop}{s:Bool}{cols n:Nat}{m b:List (List Rat)}{sl:List (Nat×PV)}{pre:List (Nat×Blk)}(hlo:∀ k,F.lo k=true)(hp:blt9 pre=true)(hpn:(pre.map (·.1)).Nodup)(hb:s=true→b.length=n)
  (hsl:HasCv ⟨sl,pre++([wU cols m (bv s n)]++matU s m b)⟩ ((matU s m b).map (·.1)) sl) (hn:Exec P F c ⟨sl,pre++[wD s cols m b]⟩ Q):Exec P F c ⟨sl,pre++([wU cols m (bv s n)]++matU s m b)⟩ Q:=by
 have hT:=matU_ok s m b
 refine ex_cv ((matU s m b).map (·.1)) (own_lo (by rw [List.all_eq_true]; exact fun k _=>hlo k)) hsl ?_ hn
 have hbig:∀ k B,1000≤k→(matU s m b).lookup k=some B→St.blk ⟨sl,pre++([wU cols m (bv s n)]++matU s m b)⟩ k=some B:=fun k B hk h=>by
  rw [blk_pre hp oM,List.singleton_append,lk_ne oM,h]
 have key:∀ (l:List (Nat×Blk)),(∀ p∈l,p.1<900∧pre.lookup p.1=some p.2)→∀ r,HasCb ⟨sl,pre++([wU cols m (bv s n)]++matU s m b)⟩ ((matU s m b).map (·.1)) r→HasCb ⟨sl,pre++([wU cols m (bv s n)]++matU s m b)⟩ ((matU s m b).map (·.1)) (l++r):=by
  intro l
  induction l with
  | nil=>intro _ r h; exact h
  | cons p l ih =>
   intro h r hr
   obtain ⟨h1,h2⟩:=h p sM
   refine ⟨⟨no_z hT oM,p.2,?_,.same⟩,ih (fun q hq=>h q (by simp [hq])) r hr⟩
   show (pre++_).lookup p.1=_
   rw [lookup_append,h2]; rfl
 refine key pre (fun p hm=>⟨?_,lookup_nd hpn hm⟩) _ ⟨⟨no_z hT dC,⟨79,3,.mix [rvV 1001 (refsB 0 0 m),.p (vZ cols),bv s n]⟩,?_,.mix (.cons ?_ (.cons .same (.cons ?_ .nil)))⟩,trivial⟩
 ·unfold blt9 at hp
  rw [List.all_eq_true] at hp
  simpa [Nat.blt_eq] using hp p hm
 ·rw [blk_pre hp dC]; rfl
 ·cases m with
  | nil=>exact .p .nil
  | cons r m =>
   have h1:=matU_hd (s:=s) (m:=r :: m) (b:=b) sM
   have:=Cv.refm (n:=(r :: m).length) (has_z h1) (hbig _ _ dC h1) (refsB_length 0 0 _) (Nat.mul_one _) (cvP_refs fun j hj=>by
    rw [Nat.zero_add]
    have h2:=matU_row (s:=s) (b:=b) hj
    exact ⟨has_z h2,hbig _ _ (by unfold rowN; omega) h2⟩)
   simpa [rvV,refsB] using this
 ·cases s with
  | false=>exact .same
  | true =>
   have hb':=hb rfl
   subst hb'
   have h1:=matU_bhd (m:=m) (b:=b)
   have:=Cv.refm (n:=b.length) (has_z h1) (hbig _ _ dC h1) (refsB_length 1 0 _) (Nat.mul_one _) (cvP_refs fun j hj=>by
    rw [Nat.zero_add]
    have h2:=matU_brow (m:=m) hj
    exact ⟨has_z h2,hbig _ _ (by unfold rowN; omega) h2⟩)
   exact this
@[reducible] def pIs (l:List Nat):Pure:=.sl l.length (encP l)
theorem encM_take {m:List (List Rat)}{k:Nat}:(encM m).take k=encM (m.take k):=by simp [encM,List.map_take]
theorem echelonV_says (n c B DB:Nat)(M:List (List Rat))(h:MOk c M)(hB1:MB B M)(hn:M.length=n)(H:EU n c 0 B DB M (nob n)):SaysG E (fun _=>true) 13 [.p (pMq c M)] ([]) ([]) (.p (.tup [pMq c ((ech M (nob n) c).m.take (ech M (nob n) c).pv.length),pIs (ech M (nob n) c).pv,vZ 0])):=by
 refine saysG_dat (xs:=[pMq c ((ech M (nob n) c).m.take (ech M (nob n) c).pv.length),pIs (ech M (nob n) c).pv,vZ 0]) Tryz.func13 rfl Tryz.ntmps13 Tryz.results13 sM fun F G=>?_
 have L:=@lti _ _ G.nt
 have hG:=G.g
 have hX:=G.x
 have hN:=ng_le hG
 have P0:=G.p0
 have hb:=H.bl
 subst hn
 have hsp:=ech_spec H.rc H.rb c (Nat.le_refl _)
 refine exr (swb (c_bx (k:=1) (n:=2) pa2 rfl rfl (P0 _ rfl) L) t1 t0 ⟨rfl,rfl⟩ (swb (c_al (k:=2) (n:=2) zv24 (.cons rfl (.cons rfl .nil)) rfl (P0 _ rfl) L) t0 t0 ⟨rfl,rfl⟩ (aV L rfl (aV L rfl (zn [(1,_),(2,_)] [(1,_),(2,_)] t2 t2 (ex_seq (exr (lp2 ag24 sz24 L rfl rfl (cK hG hX cl40 hN (misq_says h hB1 oM) L t1 (sw (c_no L) t1 t0 (zn [(1,_),(2,_),(10,_)] [(1,_),(2,_)] t3 t2 ?_)))))))))))
 refine ex_false rfl rfl ?_
 refine ex_skip (xq ?_)
 refine exrN (nsw (c_lp ag24 sz24 rF (by exact al2) rfl L) t1 t1 ?_)
 refine nsU (pre:=[_,_]) (H:=bsT false (nob M.length)) G hN [1,2] [(1,.at_ 1 0 2),(2,.at_ 2 0 2)] [(1,_),(2,_)] (begin_says false M.length c M (nob M.length) H.rc H.nl H.cl) L (args_fn (ys:=[_,_]) cl50 rfl rfl) t2 bsT_hi wm_hi (bsT_ok _ _).nd wm_nd wm_w wm_res (fun h=>by cases h) rfl t2 rfl t2 rfl rfl rfl rfl ?_
 refine nsw (c_a L) t1 t0 ?_
 refine .nil ⟨[(1,_),(2,_),(5,_)],(1,_) :: (2,_) :: (999,_) :: (matU false M (nob M.length)),t3,⟨rfl,rfl,rfl,(hbT [_,_,_] (matU_ok false M (nob M.length)) rfl)⟩,?_⟩
 refine exrN (nsw (c_m L) t1 t0 (nsU (pre:=[_,_]) (H:=[wU c M (bv false M.length)]++matU false M (nob M.length)) G hN [1,2,999] [(1,.at_ 1 0 2),(2,.at_ 2 0 2),(5,.at_ 999 0 3)] [(1,_),(2,_)] (echU_says false M.length c 0 B DB M (nob M.length) H) L (args_fn (ys:=[_]) cl51 rfl rfl) t1 wm_hi wm_hi wm_nd wm_nd wm_w (fun q h=>by cases h) wm_9 rfl t2 rfl t3 rfl rfl rfl rfl ?_))
 refine nsw (c_m L) t1 t0 (nsw (c_ex rfl L) t1 t0 (nsw (c_ex rfl L) t1 t0 (nswb (c_al (k:=7) (n:=4) zv47 (.cons rfl (.cons rfl (.cons rfl (.cons rfl .nil)))) rfl (P0 _ rfl) L) t0 t0 (frT [_,_,_] (matU_ok false (ech M (nob M.length) c).m (ech M (nob M.length) c).b) rfl rfl (by simp [freeSl,freeHb,Cells.free,PV.freeL,PV.free,pvV_free,argSlotsV])) ?_)))
 refine nsw (c_a L) t1 t0 (nsb (c_sm sz47 rF pa4 rfl pu4) t2 t1 ?_)
 refine .nil ⟨[(1,_),(2,_),(5,_),(6,_)],(1,_) :: (2,_) :: (999,_) :: (matU false (ech M (nob M.length) c).m (ech M (nob M.length) c).b),t4,⟨rfl,rfl,rfl,(hbT [_,_,_,_,_] (matU_ok false (ech M (nob M.length) c).m (ech M (nob M.length) c).b) rfl)⟩,?_⟩
 refine ex_cvW (pre:=[_,_]) (fun k=>by rw [G.lo]; rfl) rfl sM (fun h=>by cases h) ⟨⟨_,rfl,.same⟩,⟨_,rfl,.same⟩,⟨_,rfl,.same⟩,⟨_,rfl,.same⟩,trivial⟩ ?_
 have hle:=hsp.2.2.1.le
 have hml:=hsp.1.1
 refine exd rF ?_
 refine sw (c_fa un24 rfl sz3 dC rX L) t1 t1 ?_
 refine sw (c_l1 ag3 rF rF L) t1 t1 ?_
 refine mV L rfl (sw (core_nilCheck rX L) t1 t1 ?_)
 refine sw (c_fa un79 rfl sz77 dC rX L) t1 t1 ?_
 refine sw (c_l1 ag77 rF rF L) t1 t1 ?_
 refine mV L rfl (sw (c_ln un27 L) t1 t0 (mV L rfl (sw (c_ln un27 L) t1 t0 (sw (slI3 un77 sz40 (h:=(ech M (nob M.length) c).pv.length) rO oM (by rw [Nat.mul_one,encM_take]) L) t3 t0 ?_))))
 refine sw (c_bp (vs:=[_,_]) un24 zv24 (.cons rfl (.cons rfl .nil)) ((Places.cons sz3 (Places.cons sz22 Places.nil))).to rfl (.cons rfl (.atom rfl) rfl pu1 (.cons rfl .sl rfl (.skip pu1) .nil)) (.cons (.cons .nil)) L) t2 t0 (mV L rfl (sb (c_sm sz24 rF pa2 rfl pu2) t2 t1 ?_))
 refine aV L rfl (aV L rfl ?_)
 refine seq_nil ⟨aoks [⟨[1],[1],[19],[]⟩,⟨[19],[1],[20],[]⟩,⟨[5],[],[21],[]⟩,⟨[21],[999],[22],[]⟩,⟨[22],[999],[23],[]⟩,⟨[23],[999],[24],[]⟩,⟨[6],[],[25],[]⟩,⟨[25],[],[26],[]⟩,⟨[6],[],[27],[]⟩,⟨[27],[],[28],[]⟩,⟨[24,26,28],[],[29],[]⟩,⟨[20,29],[],[30],[]⟩,⟨[6],[],[31],[]⟩,⟨[2,30],[2],[],[2]⟩,⟨[31],[],[3],[]⟩,⟨[],[],[4],[]⟩] rF rF dC,[(2,_),(3,_),(4,_)],[(2,_)],t3,t1,?_⟩
 refine ex_ret ?_
 refine ⟨.inr rfl,ResVs.cast (.cons (.agg rfl rfl rfl ag24 sz24 (.cons (.cons .nil))) (.cons (.tmp rfl) (.cons (.tmp rfl) .nil))) ?_,trivial⟩
 rw [pMq,List.length_take,Nat.min_eq_left oM]
theorem getPv {pv:List Nat}{i:Nat}(h:i<pv.length):(encP pv)[i]? = some (vZ (pv.getD i 0:Nat)):=by
 simp [encP,h,List.getD_eq_getElem?_getD]
@[reducible] def bK (pv:List Nat)(c:Nat):List (Nat×Blk):=[(5,⟨27,1,.mix [.p (pIs pv)]⟩),(8,⟨3,1,.mix [.p (vZ c)]⟩)]
theorem ker1_says (pv:List Nat)(c i:Nat)(hi:i<pv.length)(hl:pv.length<1000):SaysG E (fun _=>true) 53 [.p (vZ i),.at_ 5 0 1,.at_ 8 0 1] (bK pv c) (bK pv c) (.p (bZ (decide (pv.getD i 0=c)))):=by
 refine saysG_dat (xs:=[bZ (decide (pv.getD i 0=c))]) Tryz.func53 rfl Tryz.ntmps53 Tryz.results53 sM fun F G=>?_
 have L:=@lti _ _ G.nt
 have hG:=G.g
 have hX:=G.x
 have hN:=ng_le hG
 have P0:=G.p0
 refine exr (aV L rfl (zn [(0,_),(1,_),(2,_)] [(5,_),(8,_)] t3 t2 (exd rF ?_)))
 refine sw (c_l1 ag27 rF rF L) t1 t1 ?_
 refine mV L rfl (sw (ixJ un27 sz3 (j:=i) rO oM sM L) t2 t0 ?_)
 refine sw (c_li ag3 (getPv hi) L) t1 t0 (sw (c_l1 ag3 rF rF L) t1 t1 ?_)
 refine sw (c_e L) t2 t0 (aV L rfl ?_)
 refine seq_nil ⟨aoks [⟨[1],[5],[5],[]⟩,⟨[0],[],[6],[]⟩,⟨[5,6],[],[7],[]⟩,⟨[7],[],[8],[]⟩,⟨[2],[8],[9],[]⟩,⟨[8,9],[],[10],[]⟩,⟨[10],[],[4],[]⟩] rF rF dC,[(4,_)],[(5,_),(8,_)],t1,t2,?_⟩
 refine ex_ret ?_
 refine ⟨.inr rfl,ResVs.cast (.cons (.tmp rfl) .nil) ?_,t2⟩
 rw [show decide ((pv.getD i 0:Int)=c)=decide (pv.getD i 0=c) from decide_eq_decide.2 oM]
theorem first_mem {pv:List Nat}{c:Nat}:0≤firstI (fun i=>decide (pv.getD i 0=c)) 0 (pv.length - 0)↔c∈pv:=by
 constructor
 ·intro h
  obtain ⟨h1,h2,h3,h4⟩:=firstI_hit (show ¬ firstI (fun i=>decide (pv.getD i 0=c)) 0 (pv.length - 0)<0 by omega)
  have h3:pv.getD (firstI (fun i=>decide (pv.getD i 0=c)) 0 (pv.length - 0)).toNat 0=c:=by simpa using h3
  rw [← h3]; exact getN_mem oM
 ·intro h
  apply Classical.byContradiction
  intro hn
  obtain ⟨i,hi,e⟩:=idx_of h
  have:=firstI_miss (show firstI (fun i=>decide (pv.getD i 0=c)) 0 (pv.length - 0)<0 by omega) i (Nat.zero_le _) oM
  simp only [decide_eq_false_iff_not] at this
  exact this e
theorem pvFr0 {sl:List (Nat×PV)}{pre:List (Nat×Blk)}{xs:List Pure}{e:TypeId}(hp:blt10 pre=true)(hf:xs=[]→(freeSl 1003 sl && freeHb 1003 pre)=true):FreshOk ⟨sl,pre++pvB 1003 e xs⟩ (pvF 1003 xs):=by
 cases xs with
 | cons a l=>trivial
 | nil =>
  have h:=hf rfl
  simp only [Bool.and_eq_true] at h
  refine ⟨?_,?_⟩
  ·show (pre++_).lookup 1003=none
   rw [lookup_append,blt10_none hp dC,Option.none_or]; rfl
  ·show (freeSl 1003 sl && freeHb 1003 (pre++_))=true
   rw [freeHb_append,h.1,h.2]; rfl
theorem hbPv0 {sl:List (Nat×PV)}{r:List (Nat×Blk)}{xs:List Pure}{y:Pure}{e:TypeId}:HasB ⟨sl,pvB 1003 e (xs++[y])++r⟩ (pvB 1003 e (xs++[y])):=by
 obtain ⟨C,hC⟩:=pvB_cons (xs:=xs) (y:=y) (k:=1003) (e:=e)
 rw [hC]
 exact ⟨by show List.lookup 1003 _=_; simp,trivial⟩
theorem cvPv0 {sl:List (Nat×PV)}{pre:List (Nat×Blk)}{xs:List Pure}{e:TypeId}(hp:blt10 pre=true):Cv (St.blk ⟨sl,pre++pvB 1003 e xs⟩) [1003] (pvV 1003 xs) (.p (.sl xs.length xs)):=by
 cases xs with
 | nil=>exact .p .nil
 | cons a l =>
  have hB:St.blk ⟨sl,pre++pvB 1003 e (a :: l)⟩ 1003=some ⟨e,1,.pure (a :: l)⟩:=by
   show (pre++_).lookup 1003=_
   rw [lookup_append,blt10_none hp dC]; rfl
  exact Cv.ref (n:=(a :: l).length) (z:=[1003]) rfl hB rfl (Nat.mul_one _)
theorem tail_nil:TailOk []:=⟨fun _ _=>rfl,List.nodup_nil,fun _ _=>rfl,fun j B hj=>by cases hj⟩
theorem kerM_succ {f:Nat}{pv:List Nat}{c:Nat}{m:List (List Rat)}:(freeC (f+1) pv).map (kerF c pv m)=(freeC f pv).map (kerF c pv m)++if f∈pv then [] else [kerF c pv m f]:=by
 rw [freeC,List.range_succ,List.filter_append,List.map_append,← freeC]
 congr 1
 by_cases h:f∈pv
 ·rw [if_pos h,List.filter_cons_of_neg (by simpa using h)]; rfl
 ·rw [if_neg h,List.filter_cons_of_pos (by simpa using h)]; rfl
theorem echelon_says (n c B DB:Nat)(M:List (List Rat))(h:MOk c M)(hB1:MB B M)(hn:M.length=n)(H:EU n c 0 B DB M (nob n)):Says E 13 [pMq c M] (.tup [pMq c ((ech M (nob n) c).m.take (ech M (nob n) c).pv.length),pIs (ech M (nob n) c).pv,vZ 0]):=says_ofG (echelonV_says n c B DB M h hB1 hn H)
theorem kerF_len {c f:Nat}{pv:List Nat}{m:List (List Rat)}:(kerF c pv m f).length=c:=by simp [kerF]
theorem kerM_len {c f:Nat}{pv:List Nat}{m:List (List Rat)}(hf:f<1000):((freeC f pv).map (kerF c pv m)).length<1000:=by
 rw [List.length_map,freeC]
 have:=List.length_filter_le (fun g=>!pv.contains g) (List.range f)
 rw [List.length_range] at this; omega
theorem cv_row {β:Nat→Option Blk}{z:List Nat}{k n:Nat}{v:List Rat}(hz:z.contains k=true)(hb:β k=some (rowBlk v))(hv:v.length=n):Cv β z (.ref k 0 n (n*4)) (.p (pV v)):=by
 subst hv
 exact .ref hz hb (encQ_length v) rfl
theorem hasCb_Z {sl:List (Nat×PV)}{pre pre' T:List (Nat×Blk)}{z:List Nat}(hT:TailOk T)(hp:blt10 pre=true)(hb:HasB ⟨[],pre⟩ pre')(hz:(z.all fun k=>Nat.blt k 1000)=true)(hz':(pre'.all fun p=>!z.contains p.1)=true):HasCb ⟨sl,pre++T⟩ z (pre'++T):=by
 refine hasCb_of fun p hp2=>?_
 rcases List.mem_append.1 hp2 with h | h
 ·rw [List.all_eq_true] at hz'
  refine ⟨by simpa using hz' p h,?_⟩
  show (pre++T).lookup p.1=_
  rw [lookup_append,hasB_mem hb h]; rfl
 ·have h1:=lookup_nd (j:=p.1) (B:=p.2) hT.nd h
  have h3:=tail_hi hT p h
  refine ⟨?_,?_⟩
  ·cases e:z.contains p.1 with
   | false=>rfl
   | true =>
    rw [List.contains_iff_mem] at e
    rw [List.all_eq_true] at hz
    have:=hz _ e
    simp only [Nat.blt_eq] at this; omega
  ·show (pre++T).lookup p.1=_
   rw [lookup_append,blt10_none hp h3,Option.none_or,h1]
theorem tPv {L:List (List Rat)}:TailOk (pvB 1003 40 (encM L)):=pvB_ok dC _
theorem rdPv0 {sl:List (Nat×PV)}{pre:List (Nat×Blk)}{e:TypeId}{xs:List Pure}(hp:blt10 pre=true):ReadsB ⟨sl,pre++pvB 1003 e xs⟩ (pvB 1003 e xs):=by
 have:=rdPv (sl:=sl) (R:=[]) (k:=1003) (e:=e) (xs:=xs) pre hp dC
 rwa [List.append_nil] at this
theorem putP_step {c f k:Nat}{pv:List Nat}{g:Nat→Rat}(hk:k<pv.length):(putP pv g ((zsQ c).set f 1) k).set (pv.getD k 0) (g k)=putP pv g ((zsQ c).set f 1) (k+1):=putP_succ.symm
theorem kernelV_says (n c B DB:Nat)(M:List (List Rat))(h:MOk c M)(hB1:MB B M)(hn:M.length=n)(H:EU n c 0 B DB M (nob n)):SaysG E (fun _=>true) 14 [.p (pMq c M)] ([]) ([]) (.p (.tup [.sl (kerM c (ech M (nob n) c).pv ((ech M (nob n) c).m.take (ech M (nob n) c).pv.length)).length (encM (kerM c (ech M (nob n) c).pv ((ech M (nob n) c).m.take (ech M (nob n) c).pv.length))),vZ 0])):=by
 refine saysG_dat (xs:=[.sl (kerM c (ech M (nob n) c).pv ((ech M (nob n) c).m.take (ech M (nob n) c).pv.length)).length (encM (kerM c (ech M (nob n) c).pv ((ech M (nob n) c).m.take (ech M (nob n) c).pv.length))),vZ 0]) Tryz.func14 rfl Tryz.ntmps14 Tryz.results14 sM fun F G=>?_
 have L:=@lti _ _ G.nt
 have hG:=G.g
 have hX:=G.x
 have hN:=ng_le hG
 have P0:∀ k,Nat.blt k 1000=true→F.pin k=none:=fun k hk=>G.p0 k (tail_nil.low k hk)
 have hb:=H.bl
 have hcl:=H.cl
 have hsp:=ech_spec H.rc H.rb c (Nat.le_refl _)
 have hme:=H.me c (Nat.le_refl _)
 have hecho:=echelon_says n c B DB M h hB1 hn H
 obtain ⟨E',hE⟩:∃ E',E'=(ech M (nob n) c).m.take (ech M (nob n) c).pv.length:=⟨_,rfl⟩
 obtain ⟨pv,hpv⟩:∃ pv,pv=(ech M (nob n) c).pv:=⟨_,rfl⟩
 have hrc:=hsp.1
 have hR:=hsp.2.2.1
 have hEl:E'.length=pv.length:=by rw [hE,hpv,List.length_take,hrc.1]; exact Nat.min_eq_left hR.le
 have hEr:∀ i,i<pv.length→(E'.getD i []).length=c:=fun i hi=>by
  have hm:E'.getD i []∈E':=getD_mem' oM
  rw [hE] at hm
  exact hrc.2 _ (by rw [hE]; exact List.mem_of_mem_take hm)
 have hEB:MB B E':=fun r hr a ha=>hme r (List.mem_of_mem_take (by rw [hE] at hr; exact hr)) a ha
 have hpl:pv.length<1000:=by have:=hR.le; have:=H.nl; rw [← hpv] at *; omega
 have hplt:∀ p∈pv,p<c:=by rw [hpv]; exact hR.lt
 rw [← hE,← hpv] at hecho ⊢
 have hlo:F.lo 1003=true:=by rw [G.lo]; rfl
 have hpin3:F.pin 1003=none:=G.p0 _ rfl
 refine exr (swb (c_bx (k:=1) (n:=2) pa2 rfl rfl (P0 _ rfl) L) t1 t0 (frT [] tail_nil rfl rfl rfl) (aV L rfl (aV L rfl ?_)))
 refine seq_nil ⟨[(1,_)],(1,_) :: (([]:List (Nat×Blk))),t1,⟨rfl,(hbT [_] tail_nil rfl)⟩,?_⟩
 refine exr (lp2 ag24 sz24 L rfl rfl (cK hG hX cl13 hN hecho L t1 (mV L rfl (sw (c_ex rfl L) t1 t0 (sw (c_ex rfl L) t1 t0 (sw (c_ex rfl L) t1 t0 (swb (c_al (k:=4) (n:=2) zv24 (.cons rfl (.cons rfl .nil)) rfl (P0 _ rfl) L) t0 t0 (frT [_] tail_nil rfl rfl rfl) (swb (c_al (k:=5) (n:=1) zv27 (.cons rfl .nil) rfl (P0 _ rfl) L) t0 t0 (frT [_,_] tail_nil rfl rfl rfl) (sb (c_sm sz24 rF pa2 rfl pu2) t2 t1 ?_)))))))))
 refine sb (c_sm sz27 rF .sl rfl pu1) t2 t1 ?_
 refine aV L rfl ?_
 refine seq_nil ⟨[(1,_),(4,_),(5,_),(6,_)],(1,_) :: (4,_) :: (5,_) :: (([]:List (Nat×Blk))),t4,⟨rfl,rfl,rfl,(hbT [_,_,_,_,_] tail_nil rfl)⟩,?_⟩
 refine ex_seq (exr (mV L rfl (sw (c_n L) t2 t0 ?_)))
 refine seq_nil ⟨[(1,_),(4,_),(5,_),(6,_),(19,_)],(1,_) :: (4,_) :: (5,_) :: (([]:List (Nat×Blk))),t5,⟨rfl,rfl,rfl,(hbT [_,_,_] tail_nil rfl)⟩,?_⟩
 refine ex_false rfl rfl ?_
 refine ex_skip (xq ?_)
 refine exr (aV L rfl ?_)
 refine seq_nil ⟨[(1,_),(4,_),(5,_),(7,pvV 1003 (encM []))],(1,_) :: (4,_) :: (5,_) :: ((pvB 1003 40 (encM []))),t4,⟨rfl,rfl,rfl,(hbT [_,_,_] tail_nil rfl)⟩,?_⟩
 refine ex_seq (exr (sw (c_fa un24 rfl sz3 dC rX L) t1 t1 ?_))
 refine sw (c_l1 ag3 rF rF L) t1 t1 ?_
 refine mV L rfl ?_
 refine seq_nil ⟨[(1,_),(4,_),(5,_),(7,_),(22,_),(23,_)],(1,_) :: (4,_) :: (5,_) :: ((pvB 1003 40 (encM []))),t6,⟨rfl,rfl,rfl,(hbT [_,_,_] (tPv (L:=[])) rfl)⟩,?_⟩
 refine ex_block ?_
 refine exlT (α:=Nat) (fun f=>[(23,vi (f:Int)),(7,pvV 1003 (encM ((freeC f pv).map (kerF c pv E'))))]) (fun f=>[]) (fun f=>(pvB 1003 40 (encM ((freeC f pv).map (kerF c pv E'))))) (fun f=>f≤c) (fun f=>c - f) (0) (sl:=[(1,_),(4,_),(5,_),(22,_)]) (hb:=[(1,_),(4,_),(5,_)]) ?_ ⟨oR,oR,rfl,rfl,rfl,rfl,trivial⟩ ⟨rfl,rfl,rfl,(hbT [_,_,_] (tPv (L:=[])) rfl)⟩ ?_
 ·exact Nat.zero_le _
 intro f hf
 refine exr (sw (c_ls L) t2 t0 ?_)
 refine seq_nil ⟨[(1,_),(4,_),(5,_),(7,_),(22,_),(23,_),(24,_)],(1,_) :: (4,_) :: (5,_) :: ((pvB 1003 40 (encM ((freeC f pv).map (kerF c pv E'))))),t7,⟨rfl,rfl,rfl,(hbT [_,_,_] (tPv (L:=(freeC f pv).map (kerF c pv E'))) rfl)⟩,?_⟩
 refine ex_seq ?_
 refine ex_if rfl (fun hc=>?_) (fun hc=>?_)
 ·have hc:=dt hc
  have hfc:f<c:=by omega
  have hstep:=kerM_succ (f:=f) (pv:=pv) (c:=c) (m:=E')
  have hlen:=kerM_len (c:=c) (f:=f) (pv:=pv) (m:=E') oM
  refine ex_skip (xq ?_)
  refine ex_seq (ex_block (exr (mV L rfl (swb (c_al (k:=8) (n:=1) zv3 (.cons rfl .nil) rfl (P0 _ rfl) L) t0 t0 (frT [_,_,_] (tPv (L:=(freeC f pv).map (kerF c pv E'))) rfl rfl (by simp [freeSl,freeHb,Cells.free,PV.freeL,PV.free,pvV_free,argSlotsV])) ?_))))
  refine sb (c_sm sz3 rF (.atom rfl) rfl pu1) t2 t1 ?_
  refine seq_nil ⟨[(1,_),(4,_),(5,_),(7,_),(8,_),(22,_),(23,_)],(1,_) :: (4,_) :: (5,_) :: (8,_) :: ((pvB 1003 40 (encM ((freeC f pv).map (kerF c pv E'))))),t7,⟨rfl,rfl,rfl,rfl,(hbT [_,_,_,_,_] (tPv (L:=(freeC f pv).map (kerF c pv E'))) rfl)⟩,?_⟩
  have f1:=first_says 53 [.at_ 5 0 1,.at_ 8 0 1] (bK pv f) sM (whole_of rfl) cl53 (fun i=>decide (pv.getD i 0=f)) 0 pv.length oM (fun i _ hi=>ker1_says pv f i hi hpl)
  refine ex_seq (exr (sw (c_l1 ag27 rF rF L) t1 t1 ?_))
  refine sw (c_ln un27 L) t1 t0 (sw (c_fn (vs:=[]) (us:=[_,_]) rfl rfl L) t2 t0 (sw (core_callI hG hX hN f1 rfl L (args_fn (ys:=[_,_,_]) cl52 rfl rfl) sM (whole_of rfl) (fun q h=>by cases h)) t3 t2 ?_))
  refine sw (c_ge L) t2 t0 ?_
  refine seq_nil ⟨[(1,_),(4,_),(5,_),(7,_),(8,_),(22,_),(23,_),(30,_)],(1,_) :: (4,_) :: (5,_) :: (8,_) :: ((pvB 1003 40 (encM ((freeC f pv).map (kerF c pv E'))))),t8,⟨rfl,rfl,rfl,rfl,(hbT [_,_,_,_] (tPv (L:=(freeC f pv).map (kerF c pv E'))) rfl)⟩,?_⟩
  refine ex_if rfl (fun hg=>?_) (fun hg=>?_)
  ·have hg:f∈pv:=first_mem.1 (dt hg)
   rw [if_pos hg,List.append_nil] at hstep
   refine ex_exit (xq ?_)
   refine exr0 (sw (c_ad L (w64 oM oM)) t2 t0 (mV L rfl (seq_nil ?_)))
   exact ⟨f+1,oM,by omega,le_of ⟨oR,(by rw [hstep]; rfl),rfl,rfl,rfl,rfl,trivial⟩ ⟨rfl,rfl,rfl,(by rw [hstep]; exact hbT [_,_,_,_] tPv rfl)⟩⟩
  ·have hg:f ∉ pv:=fun h=>(df hg) (first_mem.2 h)
   rw [if_neg hg] at hstep
   obtain ⟨L0,hL0⟩:∃ L0,L0=(freeC f pv).map (kerF c pv E'):=⟨_,rfl⟩
   rw [← hL0] at hstep hlen ⊢
   refine ex_skip (xq ?_)
   refine exr (sw (c_fa un24 rfl sz3 dC rX L) t1 t1 ?_)
   refine sw (c_l1 ag3 rF rF L) t1 t1 ?_
   refine swb (c_co (k:=33) hG hX cl54 rfl hN (zeros_says c oM) (P0 _ rfl) L) t1 t0 (frT [_,_,_,_] (tPv (L:=L0)) rfl rfl (by simp [freeSl,freeHb,Cells.free,PV.freeL,PV.free,pvV_free,argSlotsV])) ?_
   refine aV L rfl ?_
   refine seq_nil ⟨[(1,_),(4,_),(5,_),(7,_),(8,_),(9,_),(22,_),(23,_)],(1,_) :: (4,_) :: (5,_) :: (8,_) :: (33,_) :: ((pvB 1003 40 (encM L0))),t8,⟨rfl,rfl,rfl,rfl,rfl,(hbT [_,_,_,_,_] (tPv (L:=L0)) rfl)⟩,?_⟩
   refine exd rF ?_
   refine mV L rfl (sw (c_l1 ag3 rF rF L) t1 t1 ?_)
   refine cK hG hX cl55 hN (whole_says 1 dC dC) L t1 (sw (ixA0 (sz:=4) un40 sz47 (by exact sM) (j:=f) rO oM L) t2 t1 ?_)
   refine sb (c_sn (n:=4) sz47 (by exact sM) rfl oM) t2 t1 ?_
   refine seq_nil ⟨aokF [⟨[9],[],[34],[]⟩,⟨[8],[8],[35],[]⟩,⟨[],[],[36],[]⟩,⟨[34,35],[33],[37],[]⟩,⟨[37,36],[33],[],[33]⟩] (.cons (cf0 rfl) (.cons (cf0 rfl) (.cons (cf0 rfl) (.cons (cf0 rfl) (.cons (cf0 rfl)  .nil))))) rfl (frS [] [_,_,_,_,_] (tPv (L:=L0)) rfl (by simp [freeSl,freeHb,Cells.free,PV.freeL,PV.free,pvV_free,argSlotsV])) dC,[(1,_),(4,_),(5,_),(7,_),(8,_),(9,_),(22,_),(23,_)],(1,_) :: (4,_) :: (5,_) :: (8,_) :: (33,_) :: ((pvB 1003 40 (encM L0))),t8,⟨rfl,rfl,rfl,rfl,rfl,(hbT [_,_,_,_,_,_] (tPv (L:=L0)) rfl)⟩,?_⟩
   refine ex_seq (exr (sw (c_l1 ag27 rF rF L) t1 t1 ?_))
   refine sw (c_ln un27 L) t1 t0 (mV L rfl ?_)
   refine seq_nil ⟨[(1,_),(4,_),(5,_),(7,_),(8,_),(9,_),(22,_),(23,_),(38,_),(39,_),(40,_)],(1,_) :: (4,_) :: (5,_) :: (8,_) :: (33,_) :: ((pvB 1003 40 (encM L0))),t11,⟨rfl,rfl,rfl,rfl,rfl,(hbT [_,_,_,_,_] (tPv (L:=L0)) rfl)⟩,?_⟩
   refine ex_block ?_
   refine exlT (α:=Nat) (fun k=>[(40,vi (k:Int))]) (fun k=>[(33,rowBlk (putP pv (fun i=>-(ent E' i f)) ((zsQ c).set f 1) k))]) (fun k=>(pvB 1003 40 (encM L0))) (fun k=>k≤pv.length) (fun k=>pv.length - k) (0) (sl:=[(1,_),(4,_),(5,_),(7,_),(8,_),(9,_),(22,_),(23,_),(38,_),(39,_)]) (hb:=[(1,_),(4,_),(5,_),(8,_)]) ?_ ⟨oR,rfl,rfl,rfl,rfl,rfl,rfl,rfl,rfl,rfl,rfl,trivial⟩ ⟨obl rfl (setBlk 1 sO),rfl,rfl,rfl,rfl,(hbT [_,_,_,_,_] (tPv (L:=L0)) rfl)⟩ ?_
   ·exact Nat.zero_le _
   intro k hk
   refine exr (sw (c_ls L) t2 t0 ?_)
   refine seq_nil ⟨[(1,_),(4,_),(5,_),(7,_),(8,_),(9,_),(22,_),(23,_),(38,_),(39,_),(40,_),(41,_)],(1,_) :: (4,_) :: (5,_) :: (8,_) :: (33,_) :: ((pvB 1003 40 (encM L0))),t12,⟨rfl,rfl,rfl,rfl,rfl,(hbT [_,_,_,_,_] (tPv (L:=L0)) rfl)⟩,?_⟩
   refine ex_seq ?_
   refine ex_if rfl (fun he=>?_) (fun he=>?_)
   ·have he:=dt he
    have hk2:k<pv.length:=by omega
    have hpk:=hplt _ (getN_mem hk2)
    have hq:=mb_ent (i:=k) (j:=f) hEB H.b0
    refine ex_skip (xq ?_)
    refine ex_seq (ex_block (exr (mV L rfl (sw (ixJ un27 sz3 (j:=k) rO oM sM L) t2 t0 ?_))))
    refine sw (c_li ag3 (getPv hk2) L) t1 t0 (aV L rfl (aV L rfl ?_))
    refine seq_nil ⟨[(1,_),(4,_),(5,_),(7,_),(8,_),(9,_),(10,_),(11,_),(22,_),(23,_),(38,_),(39,_),(40,_)],(1,_) :: (4,_) :: (5,_) :: (8,_) :: (33,_) :: ((pvB 1003 40 (encM L0))),t13,⟨rfl,rfl,rfl,rfl,rfl,(hbT [_,_,_,_,_] (tPv (L:=L0)) rfl)⟩,?_⟩
    refine exd0 rF ?_
    refine mV L rfl (mV L rfl (sw (c_fa un24 rfl sz22 dC rX L) t1 t1 ?_))
    refine sw (c_l1 ag22 rF rF L) t1 t1 ?_
    refine mV L rfl (sw (ixJ un22 sz40 (j:=k) rO oM sM L) t2 t0 ?_)
    refine sw (c_li ag40 (getM0 oM) L) t1 t0 (sw (c_l1 ag3 rF rF L) t1 t1 ?_)
    refine sw (core_indexAddrJ un40 sz47 oM (by rw [hEr k hk2]; omega) sM dC L) t2 t0 ?_
    refine sw (c_la ag47 sz47 (getQ (by rw [hEr k hk2]; exact hfc)) rfl L) t1 t0 ?_
    refine cK hG hX cl56 hN (qneg_says (ent E' k f) oM) L t1 (sw (ixA0 (sz:=4) un40 sz47 (by exact sM) (j:=pv.getD k 0) rO (by simpa using hpk) L) t2 t1 ?_)
    refine sb (c_sn (n:=4) sz47 (by exact sM) rfl oM) t2 t1 ?_
    refine seq_nil ⟨aokF [⟨[9],[],[45],[]⟩,⟨[11],[],[46],[]⟩,⟨[4],[4],[47],[]⟩,⟨[47],[4],[48],[]⟩,⟨[10],[],[49],[]⟩,⟨[48,49],[],[50],[]⟩,⟨[50],[],[51],[]⟩,⟨[8],[8],[52],[]⟩,⟨[51,52],[],[53],[]⟩,⟨[53],[],[54],[]⟩,⟨[54],[],[55],[]⟩,⟨[45,46],[33],[56],[]⟩,⟨[56,55],[33],[],[33]⟩] (.cons (cf0 rfl) (.cons (cf0 rfl) (.cons (cf0 rfl) (.cons (cf0 rfl) (.cons (cf0 rfl) (.cons (cf0 rfl) (.cons (cf0 rfl) (.cons (cf0 rfl) (.cons (cf0 rfl) (.cons (cf0 rfl) (.cons (cf0 rfl) (.cons (cf0 rfl) (.cons (cf0 rfl)  .nil))))))))))))) rfl (frS [] [_,_,_,_,_] (tPv (L:=L0)) rfl (by simp [freeSl,freeHb,Cells.free,PV.freeL,PV.free,pvV_free,argSlotsV])) dC,(show Exec _ _ _ _ _ from exw (sl:=[(1,_),(4,_),(5,_),(7,_),(8,_),(9,_),(22,_),(23,_),(38,_),(39,_),(40,_)]) (hb:=(1,_) :: (4,_) :: (5,_) :: (8,_) :: (33,_) :: ((pvB 1003 40 (encM L0)))) t11 ⟨rfl,rfl,rfl,rfl,rfl,(hbT [_,_,_,_,_,_] (tPv (L:=L0)) rfl)⟩ ?_)⟩
    refine exr0 (sw (c_ad L (w64 oM oM)) t2 t0 (mV L rfl (seq_nil ?_)))
    exact ⟨k+1,oM,by omega,le_of ⟨oR,rfl,rfl,rfl,rfl,rfl,rfl,rfl,rfl,rfl,rfl,trivial⟩ ⟨obl rfl ((setBlk _ (by simpa using hpk)).trans (by rw [putP_step hk2])),rfl,rfl,rfl,rfl,(hbT [_,_,_,_,_] (tPv (L:=L0)) rfl)⟩⟩
   ·have he:=df he
    have hkp:k=pv.length:=by omega
    subst hkp
    refine ex_exit (xq ?_)
    refine ex_cv [33] (sl:=[(1,_),(4,_),(5,_),(7,_),(9,.p (pV (kerF c pv E' f))),(22,_),(23,_)]) (hb:=[(1,_),(4,_),(5,_)]++pvB 1003 40 (encM L0)) (own_lo (by simp [G.lo])) ⟨⟨_,rfl,.same⟩,⟨_,rfl,.same⟩,⟨_,rfl,.same⟩,⟨_,rfl,.same⟩,⟨_,rfl,?_⟩,⟨_,rfl,.same⟩,⟨_,rfl,.same⟩,trivial⟩ (hasCb_Z (pre:=[_,_,_,_,_]) tPv rfl t3 rfl rfl) ?_
    ·exact (cv_row rF rF kerF_len)
    refine exr0 (mV L rfl (mV L rfl (sw (c_bI (vs:=[_]) un22 ti40 rfl rfl dC dC rfl (zs_made (.cons rfl .nil) rfl) rfl (.cons rfl .sl rfl pu1 .nil) (.cons .nil) L) t1 t0 (swA (core_appV (k:=1003) un22 un22 ti40 rfl rfl rfl (by first | (simp [Tryz.t40]; done) | (simp [Tryz.t40]; omega)) sO hpin3 L) t2 ((rdPv0 (pre:=[_,_,_]) rfl)) (pvFr0 (pre:=[_,_,_]) rfl (fun e=>by rw [e]; rfl)) ?_))))
    refine aV L rfl ?_
    refine seq_nil (show Exec _ _ _ _ _ from exw (sl:=[(1,_),(4,_),(5,_),(7,pvV 1003 (encM (L0++[kerF c pv E' f]))),(22,_),(23,_)]) (hb:=(1,_) :: (4,_) :: (5,_) :: ((pvB 1003 40 (encM (L0++[kerF c pv E' f]))))) ⟨rfl,rfl,rfl,(by rw [encM_app]; rfl),rfl,rfl,trivial⟩ ⟨(lkPv (pre:=[_,_,_]) dC rfl),(lkPv (pre:=[_,_,_]) dC rfl),(lkPv (pre:=[_,_,_]) dC rfl),(by rw [encM_app]; exact hbPv0)⟩ ?_)
    refine exr0 (sw (c_ad L (w64 oM oM)) t2 t0 (mV L rfl (seq_nil ?_)))
    exact ⟨f+1,oM,by omega,le_of ⟨oR,(by rw [hstep]; rfl),rfl,rfl,rfl,rfl,trivial⟩ ⟨rfl,rfl,rfl,(by rw [hstep]; exact hbT [_,_,_] tPv rfl)⟩⟩
 ·have hc:=df hc
  have hfc:f=c:=by omega
  subst hfc
  obtain ⟨L0,hL0⟩:∃ L0,L0=(freeC f pv).map (kerF f pv E'):=⟨_,rfl⟩
  have hk:kerM f pv E'=L0:=by rw [hL0]; rfl
  rw [← hL0,hk]
  refine ex_exit (xq ?_)
  refine exr (mV L rfl (aV L rfl (aV L rfl ?_)))
  refine seq_nil ⟨[(2,_),(3,_)],((pvB 1003 40 (encM L0))),t2,(hbT [_,_,_] (tPv (L:=L0)) rfl),?_⟩
  refine ex_cv [1003] (sl:=[(2,.p (.sl (encM L0).length (encM L0))),(3,_)]) (hb:=[]) (own_lo (by simp [G.lo])) ⟨⟨_,rfl,cvPv0 (pre:=[]) rfl⟩,⟨_,rfl,.same⟩,trivial⟩ t0 ?_
  refine ex_ret ?_
  exact ⟨.inr rfl,.cons (.tmp (by rw [← encM_length L0]; rfl)) (.cons (.tmp rfl) .nil),trivial⟩
end Go.Proofs.YtjagfionflbjbaaGreat.N
namespace Go.Proofs.YtjagfionflbjbaaGreat.SH
open Go Go.RowKit
def swN (a b k:Nat):Nat:=if k=a then b else if k=b then a else k
theorem swN_swN (a b k:Nat):swN a b (swN a b k)=k:=by
  unfold swN
  by_cases h1:k=a
  · rw [if_pos h1]
    by_cases h2:b=a
    · rw [if_pos h2,h1,h2]
    · rw [if_neg h2,if_pos rfl,h1]
  · rw [if_neg h1]
    by_cases h2:k=b
    · rw [if_pos h2,if_pos rfl,h2]
    · rw [if_neg h2,if_neg h1,if_neg h2]
theorem ex_ren {P : Program} {F : Fr} {c : Code} {Q : Exit → St → Prop} {S S' : St} (a b : Nat) (hpa : F.pin a = none) (hpb : F.pin b = none) (hlo : F.lo a = F.lo b)
    (hs:∀ t v',S'.slot t=some v'→∃ v,S.slot t=some v∧v'=v.ren (swN a b)) (hb:∀ k B',S'.blk k=some B'→∃ B,S.blk (swN a b k)=some B∧B'=B.ren (swN a b)) (hn:Exec P F c S' Q):Exec P F c S Q:=by
  refine ⟨fun n a' w hS=>hn.run n a' w ?_⟩
  obtain ⟨ρ,h⟩:=hS
  have hne:∀ k,S'.blk k≠none→S.blk (swN a b k)≠none:=fun k hk=>by
    obtain ⟨B',hB'⟩:=Option.ne_none_iff_exists'.1 hk
    obtain ⟨B,h1,_⟩:=hb k B' hB'
    rw [h1]; simp
  have hcar:Carry (okI F S.blk ρ) (okI F S'.blk fun k=>ρ (swN a b k)) (hp w) (hp w):=fun x hx _=>⟨⟨hx.1,fun k hk e=>hx.2 _ (hne k hk) e⟩,rfl⟩
  have hre:∀ (v:PV) (u:Value),RelV S.blk ρ (okI F S.blk ρ) (hp w) v u→RelV S'.blk (fun k=>ρ (swN a b k)) (okI F S'.blk fun k=>ρ (swN a b k)) (hp w) (v.ren (swN a b)) u:=fun v u hr=>by
    have h1:=ren_to (β:=S'.blk) (β0:=S.blk) (ρ:=fun k=>ρ (swN a b k)) (ρ0:=ρ) (ok:=okI F S.blk ρ) (Hp:=hp w) (κ:=swN a b) (K:=fun _=>True) (fun j _ B' hB'=>by
      obtain ⟨B,h2,h3⟩:=hb _ B' hB'
      rw [swN_swN] at h2
      refine ⟨B,h2,by rw [h3]; rfl,by rw [h3]; exact Cells.ren_len _ _,by simp only [swN_swN]⟩) v u (fun _ _=>trivial) hr
    exact RelV.mono (K:=fun _=>True) hcar (fun k _ B hB=>⟨B,hB,rfl,Nat.le_refl _,fun _=>⟨rfl,fun c T fr hc=>⟨c,T,fr,hc,rfl⟩⟩⟩) _ u (fun _ _=>trivial) h1
  refine ⟨fun k=>ρ (swN a b k),fun t v' ht=>?_,fun k B' hk=>?_,fun k k' h1 h2 e=>?_,h.frame,h.nt,h.df,fun j x n hj hS=>?_⟩
  · obtain ⟨v,hv,rfl⟩:=hs t v' ht
    obtain ⟨u,hu,hr⟩:=h.slots t v hv
    exact ⟨u,hu,hre v u hr⟩
  · obtain ⟨B,h1,rfl⟩:=hb k B' hk
    obtain ⟨c,g1,g2,g3,g4⟩:=h.blks _ B h1
    refine ⟨c,g1,?_,by rw [show (B.ren (swN a b)).cs.len=B.cs.len from Cells.ren_len _ _]; exact g3,fun i x hx=>?_⟩
    · rcases g2 with ⟨e1,e2⟩ | e1
      · refine .inl ⟨e1,?_⟩
        unfold swN at e2
        split at e2
        · rename_i e; rw [e,hlo]; exact e2
        · split at e2
          · rename_i e; rw [e,← hlo]; exact e2
          · exact e2
      · exact .inr e1
    · have hx:(B.cs.ren (swN a b)).get i=some x:=hx
      rw [Cells.ren_get,Option.map_eq_some_iff] at hx
      obtain ⟨y,hy,rfl⟩:=hx
      obtain ⟨u,hu,ho,hr⟩:=g4 i y hy
      exact ⟨u,hu,ho,hre y u hr⟩
  · have:=h.inj _ _ (hne k h1) (hne k' h2) e
    rw [← swN_swN a b k,this,swN_swN]
  · have hja:j≠a:=fun e=>by rw [e,hpa] at hj; cases hj
    have hjb:j≠b:=fun e=>by rw [e,hpb] at hj; cases hj
    have e:swN a b j=j:=by rw [swN,if_neg hja,if_neg hjb]
    have:=h.pin j x n hj (by have:=hne j hS; rwa [e] at this)
    simp only [e]; exact this
end Go.Proofs.YtjagfionflbjbaaGreat.SH
set_option maxRecDepth 100000
set_option maxHeartbeats 4000000
namespace Go.Proofs.YtjagfionflbjbaaGreat.SH
open Go Go.RowKit
mutual
theorem PV.ren_only {κ:Nat→Nat}{ks:List Nat}(hk:∀ k∈ks,κ k=k):∀ x:PV,x.only ks=true→x.ren κ=x
 | .p _,_=>rfl
 | .at_ j _ _,h=>by
  have h:ks.contains j=true:=h
  rw [PV.ren,hk j (by simpa using h)]
 | .im _ _,_=>rfl
 | .ref j _ _ _,h=>by
  have h:ks.contains j=true:=h
  rw [PV.ren,hk j (by simpa using h)]
 | .agg xs,h=>by
  simp only [PV.only] at h
  rw [PV.ren,PV.renL_only hk xs h]
 | .tup xs,h=>by
  simp only [PV.only] at h
  rw [PV.ren,PV.renL_only hk xs h]
 | .clo f a b,h=>by
  simp only [PV.only,Bool.and_eq_true] at h
  rw [PV.ren,PV.renL_only hk a h.1,PV.renL_only hk b h.2]
 | .ifc t x,h=>by
  simp only [PV.only] at h
  rw [PV.ren,PV.ren_only hk x h]
 | .dead,_=>rfl
theorem PV.renL_only {κ:Nat→Nat}{ks:List Nat}(hk:∀ k∈ks,κ k=k):∀ xs:List PV,PV.onlyL ks xs=true→PV.renL κ xs=xs
 | [],_=>rfl
 | x :: xs,h=>by
  simp only [PV.onlyL,Bool.and_eq_true] at h
  rw [PV.renL,PV.ren_only hk x h.1,PV.renL_only hk xs h.2]
end
theorem Blk.ren_only {κ:Nat→Nat}{ks:List Nat}(hk:∀ k∈ks,κ k=k)(B:Blk)(h:B.cs.only ks=true):B.ren κ=B:=by
 obtain ⟨T,sz,cs⟩:=B
 cases cs with
 | pure xs=>rfl
 | mix vs =>
  have h:PV.onlyL ks vs=true:=h
  have:vs.map (PV.ren κ)=vs:=by rw [← renL_map]; exact PV.renL_only hk vs h
  simp only [Blk.ren,Cells.ren,this]
end Go.Proofs.YtjagfionflbjbaaGreat.SH
namespace Go.Proofs.YtjagfionflbjbaaGreat.N
open Go Go.Proofs.YtjagfionflbjbaaGreat.SH Go.Proofs.YtjagfionflbjbaaGreat.NumA
theorem mat1_app {s:Nat}{m:List (List Rat)}{v:List Rat}:mat1 s (m++[v])=(s+1001,⟨40,1,.mix (refsB s 0 m++[.ref (rowN s m.length) 0 v.length (v.length*4)])⟩) :: (rowsB s 0 m++[(rowN s m.length,rowBlk v)]):=by
 rw [mat1,hdB,refsB_app,rowsB_app,Nat.zero_add]
theorem ex_row {P:Program}{F:Fr}{c:Code}{Q:Exit→St→Prop}{S:St}{sl:List (Nat×PV)}{pre:List (Nat×Blk)}{m:List (List Rat)}{s a:Nat}{v:List Rat}(ks:List Nat)(hs2:s<9)(ha:a<1000)(hpa:F.pin a=none)(hpb:F.pin (rowN s m.length)=none)(hlo:F.lo a=F.lo (rowN s m.length))(hks:(ks.all fun k=>Nat.blt k 1100 && k != a)=true)
  (hS:HasS S sl) (hSo:(sl.all fun p=>p.2.only ks)=true) (hB:HasB S pre) (hBo:(pre.all fun p=>p.2.cs.only ks)=true) (hBk:(pre.all fun p=>Nat.blt p.1 1000 && p.1 != a)=true)
  (h1:S.blk (s+1001)=some ⟨40,1,.mix (refsB s 0 m++[.ref a 0 v.length (v.length*4)])⟩) (h2:S.blk a=some (rowBlk v)) (h3:∀ k B,(rowsB s 0 m).lookup k=some B→S.blk k=some B)
  (hn:Exec P F c ⟨sl,pre++mat1 s (m++[v])⟩ Q):Exec P F c S Q:=by
 have hfix:∀ k∈ks,swN a (rowN s m.length) k=k:=fun k hk=>by
  rw [List.all_eq_true] at hks
  have:=hks k hk
  simp only [Bool.and_eq_true,Nat.blt_eq,bne_iff_ne] at this
  rw [swN,if_neg this.2,if_neg (by unfold rowN; omega)]
 rw [List.all_eq_true] at hSo hBo hBk
 refine ex_ren a (rowN s m.length) hpa hpb hlo (fun t v' ht=>?_) (fun k B' hk=>?_) hn
 ·have h4:=lookup_mem' (show sl.lookup t=some v' from ht)
  exact ⟨v',hS.all t v' ht,(PV.ren_only hfix v' (hSo _ h4)).symm⟩
 ·have hk:(pre++mat1 s (m++[v])).lookup k=some B':=hk
  rw [lookup_append] at hk
  cases e:pre.lookup k with
  | some C =>
   rw [e,Option.some_or] at hk
   injection hk with hk
   subst hk
   have h5:=hBk _ (lookup_mem e)
   simp only [Bool.and_eq_true,Nat.blt_eq,bne_iff_ne] at h5
   refine ⟨C,?_,(Blk.ren_only hfix C (hBo _ (lookup_mem e))).symm⟩
   rw [swN,if_neg h5.2,if_neg (by unfold rowN; omega)]
   exact hB.all k C e
  | none =>
   rw [e,Option.none_or,mat1_app,List.lookup_cons] at hk
   have hrow:∀ j,j<m.length→swN a (rowN s m.length) (rowN s j)=rowN s j:=fun j hj=>by rw [swN,if_neg (by unfold rowN; omega),if_neg (by unfold rowN; omega)]
   by_cases e1:k=s+1001
   ·subst e1
    simp only [BEq.rfl,Option.some.injEq] at hk
    subst hk
    refine ⟨⟨40,1,.mix (refsB s 0 m++[.ref a 0 v.length (v.length*4)])⟩,by rw [swN,if_neg oM,if_neg (by unfold rowN; omega)]; exact h1,?_⟩
    have hr:∀ (i:Nat) (q:List (List Rat)),i+q.length≤m.length→(refsB s i q).map (PV.ren (swN a (rowN s m.length)))=refsB s i q:=by
     intro i q
     induction q generalizing i with
     | nil=>intro _; rfl
     | cons w q ih =>
      intro hq
      simp only [List.length_cons] at hq
      simp only [refsB,List.map_cons,PV.ren,hrow i oM,ih (i+1) oM]
    simp only [Blk.ren,Cells.ren,List.map_append,hr 0 m oM,List.map_cons,List.map_nil,PV.ren,swN,if_true]
   ·rw [show (k == s+1001)=false by simpa using e1,lookup_append] at hk
    cases e2:(rowsB s 0 m).lookup k with
    | some C =>
     rw [e2,Option.some_or] at hk
     injection hk with hk
     subst hk
     obtain ⟨j,hj,h6⟩:=rows_mem (List.mem_map.2 ⟨_,lookup_mem e2,rfl⟩)
     simp only [Nat.zero_add] at h6
     refine ⟨C,by rw [h6,hrow j hj,← h6]; exact h3 k C e2,?_⟩
     rw [h6] at e2
     rw [rows_lk0,Option.map_eq_some_iff] at e2
     obtain ⟨w,_,rfl⟩:=e2
     rfl
    | none =>
     rw [e2,Option.none_or,List.lookup_cons] at hk
     by_cases e3:k=rowN s m.length
     ·subst e3
      simp only [BEq.rfl,Option.some.injEq] at hk
      subst hk
      refine ⟨rowBlk v,by rw [swN,if_neg (by unfold rowN; omega),if_pos rfl]; exact h2,rfl⟩
     ·rw [show (k == rowN s m.length)=false by simpa using e3] at hk; cases hk
end Go.Proofs.YtjagfionflbjbaaGreat.N
namespace Go.Proofs.YtjagfionflbjbaaGreat.SH
open Go Go.RowKit
theorem ex_cells {P:Program}{F:Fr}{c:Code}{Q:Exit→St→Prop}{S S':St}(hs:∀ t v,S'.slot t=some v→S.slot t=some v)(hb:∀ k B',S'.blk k=some B'→∃ B,S.blk k=some B∧B'.T=B.T∧B'.sz=B.sz∧B'.cs.len=B.cs.len∧∀ i,B'.cs.get i=B.cs.get i)(hn:Exec P F c S' Q):Exec P F c S Q:=by
  refine ⟨fun n a w ⟨ρ,h⟩=>hn.run n a w ⟨ρ,?_⟩⟩
  have hn':∀ j,S'.blk j≠none→S.blk j≠none:=fun j hj=>by
    obtain ⟨B,hB⟩:=Option.ne_none_iff_exists'.1 hj
    obtain ⟨B0,h0,_⟩:=hb j B hB
    rw [h0]; simp
  have hcar:Carry (okI F S.blk ρ) (okI F S'.blk ρ) (hp w) (hp w):=fun b hb _=>⟨⟨hb.1,fun j hj=>hb.2 j (hn' j hj)⟩,rfl⟩
  have hkp:∀ K:Nat→Prop,Keep K S.blk S'.blk ρ ρ (hp w) (hp w):=fun K j _ B hB=>by
    obtain ⟨B0,h0,h1,h2,h3,_⟩:=hb j B hB
    exact ⟨B0,h0,h2,by omega,fun _=>⟨rfl,fun c T fr hc=>⟨c,T,fr,hc,rfl⟩⟩⟩
  refine ⟨fun t v ht=>?_,fun j B hB=>?_,fun j j' h1 h2 e=>h.inj j j' (hn' j h1) (hn' j' h2) e,h.frame,h.nt,h.df,fun j b n hj hS=>h.pin j b n hj (hn' j hS)⟩
  · obtain ⟨u,hu,hr⟩:=h.slots t v (hs t v ht)
    exact ⟨u,hu,RelV.mono (K:=fun _=>True) hcar (hkp _) v u (fun _ _=>trivial) hr⟩
  · obtain ⟨B0,h0,h1,h2,h3,h4⟩:=hb j B hB
    obtain ⟨c,c1,c2,c3,c4⟩:=h.blks j B0 h0
    refine ⟨c,by rw [h1]; exact c1,c2,by omega,fun i x hx=>?_⟩
    obtain ⟨u,hu,ho,hr⟩:=c4 i x (by rw [← h4]; exact hx)
    exact ⟨u,hu,ho,RelV.mono (K:=fun _=>True) hcar (hkp _) x u (fun _ _=>trivial) hr⟩
section
variable {P:Program} {F:Fr} {d:Nat} {T:TypeId} {pos:String} {aft:Array Edge} {g:Option (Nat×Bool)} {t tx:TypeId}
theorem core_appM {x y : Operand} {k j n : Nat} {e : TypeId} {ie : TypeInfo} {z : Value} {cs : List PV} {u : PV} (hu : P.underlying t = some (.slice e)) (hux : P.underlying tx = some (.slice e)) (hi : ∀ w, (typeInfo e).run P w = .ok ie w) (hz : ie.zero = some z) (hsz : ie.size = 1)
    (hzl:z.cells.size=1) (hn:cs.length=n) (hby:2*(n+1)*ie.bytes≤281474976710656) (h63:n+1≤9223372036854775807) (hpk:F.pin k=none) (hlt:d<F.nt) :
    CoreOk P F ⟨some d,.call ⟨.builtin .append,#[x,y],#[t,tx]⟩,T,pos,aft,g⟩ ⟨[(x,.ref k 0 n n),(y,.ref j 0 1 1)],[(k,⟨e,1,.mix cs⟩),(j,⟨e,1,.mix [u]⟩)],none,[(d,.ref k 0 (n+1) (n+1))],[(k,⟨e,1,.mix (cs++[u])⟩)]⟩ :=
  core_app (m:=1) (sz:=1) (cs:=.mix cs) (us:=[u]) hu hi hz hsz hzl (by omega) hn (by simp) (srcR (B:=⟨e,1,.mix [u]⟩) (k:=j) (o:=0) hux rfl rfl rfl) rfl .mix rfl hby h63 hpk hlt
end
end Go.Proofs.YtjagfionflbjbaaGreat.SH
set_option maxRecDepth 100000
set_option maxHeartbeats 4000000
namespace Go.Proofs.YtjagfionflbjbaaGreat.N
open Go Go.Proofs.YtjagfionflbjbaaGreat.SH Go.Proofs.YtjagfionflbjbaaGreat.NumA
open Go.Proofs.Tryz renaming call19→cl19,call24→cl24,call27→cl27,call29→cl29,call33→cl33,call36→cl36,call40→cl40,call50→cl50,call51→cl51,call52→cl52,call54→cl54,call55→cl55,call64→cl64,call65→cl65,call66→cl66,call67→cl67,call68→cl68,call69→cl69,call70→cl70,call72→cl72,call73→cl73,call74→cl74,isAgg119→ag119,isAgg22→ag22,isAgg24→ag24,isAgg3→ag3,isAgg40→ag40,isAgg43→ag43,isAgg45→ag45,isAgg47→ag47,isAgg4→ag4,isAgg77→ag77,sizeOf119→sz119,sizeOf22→sz22,sizeOf24→sz24,sizeOf3→sz3,sizeOf40→sz40,sizeOf43→sz43,sizeOf45→sz45,sizeOf47→sz47,sizeOf4→sz4,sizeOf77→sz77,typeInfo40→ti40,typeInfo47→ti47,underlying22→un22,underlying24→un24,underlying27→un27,underlying40→un40,underlying43→un43,underlying45→un45,underlying47→un47,underlying4→un4,underlying77→un77,underlying79→un79,zeroValue24→zv24,zeroValue47→zv47
theorem ex_mat0 {P:Program}{F:Fr}{c:Code}{Q:Exit→St→Prop}{S:St}{sl:List (Nat×PV)}{pre:List (Nat×Blk)}{s a t:Nat}(ks:List Nat)(hs2:s<9)(ha:a<1000)(hpa:F.pin a=none)(hpb:F.pin (s+1001)=none)(hlo:F.lo a=F.lo (s+1001))(hks:(ks.all fun k=>Nat.blt k 1000 && k != a)=true)
  (hS:HasS S sl) (hSo:(sl.all fun p=>p.2.only ks && p.1 != t)=true) (ht:S.slot t=some (.ref a 0 0 0)) (hB:HasB S pre) (hBo:(pre.all fun p=>p.2.cs.only ks)=true) (hBk:(pre.all fun p=>Nat.blt p.1 1000 && p.1 != a)=true)
  (h1:S.blk a=some ⟨40,1,.pure []⟩) (hn:Exec P F c ⟨(t,.ref (s+1001) 0 0 0) :: sl,pre++mat1 s []⟩ Q):Exec P F c S Q:=by
 have hfix:∀ k∈ks,swN a (s+1001) k=k:=fun k hk=>by
  rw [List.all_eq_true] at hks
  have:=hks k hk
  simp only [Bool.and_eq_true,Nat.blt_eq,bne_iff_ne] at this
  rw [swN,if_neg this.2,if_neg oM]
 rw [List.all_eq_true] at hSo hBo hBk
 refine ex_ren (S':=⟨(t,.ref (s+1001) 0 0 0) :: sl,pre++[(s+1001,⟨40,1,.pure []⟩)]⟩) a (s+1001) hpa hpb hlo (fun t' v' ht'=>?_) (fun k B' hk=>?_) (ex_cells (S':=⟨(t,.ref (s+1001) 0 0 0) :: sl,pre++mat1 s []⟩) (fun t v h=>h) (fun k B' hk=>?_) hn)
 ·have h2:List.lookup t' ((t,.ref (s+1001) 0 0 0) :: sl)=some v':=ht'
  rw [List.lookup_cons] at h2
  by_cases e:t'=t
  ·subst e
   simp only [BEq.rfl,Option.some.injEq] at h2
   subst h2
   exact ⟨_,ht,(by simp [PV.ren,swN])⟩
  ·rw [show (t' == t)=false by simpa using e] at h2
   have h4:=hSo _ (lookup_mem' h2)
   simp only [Bool.and_eq_true] at h4
   exact ⟨v',hS.all t' v' h2,(PV.ren_only hfix v' h4.1).symm⟩
 ·have hk:(pre++([(s+1001,⟨40,1,.pure []⟩)]:List (Nat×Blk))).lookup k=some B':=hk
  rw [lookup_append] at hk
  cases e:pre.lookup k with
  | some C =>
   rw [e,Option.some_or] at hk
   injection hk with hk
   subst hk
   have h5:=hBk _ (lookup_mem e)
   simp only [Bool.and_eq_true,Nat.blt_eq,bne_iff_ne] at h5
   refine ⟨C,?_,(Blk.ren_only hfix C (hBo _ (lookup_mem e))).symm⟩
   rw [swN,if_neg h5.2,if_neg oM]
   exact hB.all k C e
  | none =>
   rw [e,Option.none_or,List.lookup_cons] at hk
   by_cases e1:k=s+1001
   ·subst e1
    simp only [BEq.rfl,Option.some.injEq] at hk
    subst hk
    exact ⟨_,(by rw [swN,if_neg oM,if_pos rfl]; exact h1),rfl⟩
   ·rw [show (k == s+1001)=false by simpa using e1] at hk; cases hk
 ·have hk:(pre++mat1 s []).lookup k=some B':=hk
  show ∃ B,(pre++([(s+1001,⟨40,1,.pure []⟩)]:List (Nat×Blk))).lookup k=some B∧_
  rw [lookup_append] at hk ⊢
  cases e:pre.lookup k with
  | some C =>
   rw [e,Option.some_or] at hk
   injection hk with hk
   subst hk
   exact ⟨C,rfl,rfl,rfl,rfl,fun _=>rfl⟩
  | none =>
   rw [e,Option.none_or,mat1,List.lookup_cons] at hk
   by_cases e1:k=s+1001
   ·subst e1
    simp only [BEq.rfl,Option.some.injEq] at hk
    subst hk
    exact ⟨⟨40,1,.pure []⟩,(by rw [Option.none_or,List.lookup_cons_self]),rfl,rfl,rfl,fun _=>rfl⟩
   ·rw [show (k == s+1001)=false by simpa using e1] at hk; cases hk
theorem besS_take {b:List Rat}{i:Nat}(h:i<b.length):(besS b).take (i+1)=(besS b).take i++[((zsQ (b.length+1)).set 0 (b.getD i 0)).set (i+1) 1]:=by
 rw [take_succ' (by simpa [besS] using h),besS_get h]
theorem canonq_says {B:Nat}{b:List Rat}(hB:∀ a∈b,qw a≤B)(hb:B<1000000000)(hl:b.length<1000000000):Says E 64 [pV b] (bZ true):=by
 have:=canonical_says (b.map RQ.of) (by simpa using hl) (fun r hr=>by
  obtain ⟨a,ha,rfl⟩:=List.mem_map.1 hr
  have:=hB a ha
  exact RQ.sm_of oM)
 rwa [all_is,pVR_of] at this
theorem two_set {v:List Rat}{a c:Rat}{j:Nat}(h0:0<v.length)(hj:j<v.length):(⟨47,4,.pure ((((encQ v).take (0*4)++cQ a++(encQ v).drop (0*4+4)).take (j*4))++cQ c++(((encQ v).take (0*4)++cQ a++(encQ v).drop (0*4+4)).drop (j*4+4)))⟩:Blk)=rowBlk ((v.set 0 a).set j c):=by rw [setQ a h0,setBlk c (by simpa using hj)]
theorem encM_drop {m:List (List Rat)}{k:Nat}:(encM m).drop k=encM (m.drop k):=by simp [encM,List.map_drop]
theorem all_succ {p:Nat→Prop}{i:Nat}(h:∀ k,k<i→p k)(hi:p i):∀ k,k<i+1→p k:=fun k hk=>by
 by_cases e:k=i
 ·rw [e]; exact hi
 ·exact h k oM
theorem encQ_drop:∀ {v:List Rat}{k:Nat},(encQ v).drop (k*4)=encQ (v.drop k)
 | v,0=>by simp
 | [],k+1=>by simp [encQ]
 | a :: v,k+1=>by
  rw [show (k+1)*4=k*4+1+1+1+1 by omega]
  simp only [encQ,cQ,List.cons_append,List.nil_append,List.drop_succ_cons]
  exact encQ_drop
theorem solY_get {u:List Rat}{a:Rat}{k:Nat}(h:k<u.length):(u.take (k+1)).map (· / a)=(u.take k).map (· / a)++[u.getD k 0 / a]:=by
 rw [List.take_add_one,List.map_append]; congr 1; simp [List.getD_eq_getElem?_getD,h]
def solY (r:List Rat):List Rat:=(r.drop 1).map (· / r.getD 0 0)
theorem firstI_eq {p:Nat→Bool}:∀ {n a i:Nat},(∀ k,k<i→p (a+k)=false)→p (a+i)=true→i<n→firstI p a n=((a+i:Nat):Int)
 | 0,_,_,_,_,h=>by omega
 | n+1,a,0,_,h1,_=>by rw [firstI,if_pos (by simpa using h1)]; simp
 | n+1,a,i+1,h0,h1,h=>by
  have h2:=h0 0 oM
  rw [Nat.add_zero] at h2
  rw [firstI,if_neg (by rw [h2]; simp),firstI_eq (a:=a+1) (i:=i) (fun k hk=>by rw [Nat.add_assoc,Nat.add_comm 1 k]; exact h0 (k+1) oM) (by rw [Nat.add_assoc,Nat.add_comm 1 i]; exact h1) oM]
  rw [Nat.add_assoc,Nat.add_comm 1 i]
theorem firstI_no {p:Nat→Bool}:∀ {n a:Nat},(∀ k,k<n→p (a+k)=false)→firstI p a n = -1
 | 0,_,_=>rfl
 | n+1,a,h=>by
  have h2:=h 0 oM
  rw [Nat.add_zero] at h2
  rw [firstI,if_neg (by rw [h2]; simp)]
  exact firstI_no fun k hk=>by rw [Nat.add_assoc,Nat.add_comm 1 k]; exact h (k+1) oM
def solF (t:ESt)(n:Nat):Int:=firstI (nzI t.b 0) t.pv.length (n - t.pv.length)
def solx (c:Nat)(t:ESt)(n:Nat):List Rat:=if solF t n<0 then solX c t.pv (fun i=>ent t.b i 0) else []
def soly (t:ESt)(n:Nat):List Rat:=if solF t n<0 then [] else solY (t.b.getD (solF t n).toNat [])
def sole (t:ESt)(n:Nat):Int:=if solF t n<0 then 0 else 4
theorem solveV_says (n c B DB:Nat)(M:List (List Rat))(b:List Rat)(h:MOk c M)(hB1:MB B M)(hbB:∀ a∈b,qw a≤B)(hn:M.length=n)(hbn:b.length=n)(H:EU n c (n+1) B DB M (besS b)):SaysG E (fun _=>true) 24 [.p (pMq c M),.p (pV b)] ([]) ([]) (.p (.tup [pV (solx c (ech M (besS b) c) n),pV (soly (ech M (besS b) c) n),vZ (sole (ech M (besS b) c) n)])):=by
 refine saysG_dat (xs:=[pV (solx c (ech M (besS b) c) n),pV (soly (ech M (besS b) c) n),vZ (sole (ech M (besS b) c) n)]) Tryz.func24 rfl Tryz.ntmps24 Tryz.results24 sM fun F G=>?_
 have L:=@lti _ _ G.nt
 have hG:=G.g
 have hX:=G.x
 have hN:=ng_le hG
 have P0:∀ k,Nat.blt k 1000=true→F.pin k=none:=fun k hk=>G.p0 k (tail_nil.low k hk)
 have hb:=H.bl
 have hcl:=H.cl
 have hnl:=H.nl
 have hsp:=ech_spec H.rc H.rb c (Nat.le_refl _)
 subst hbn
 have hpin:∀ k,F.pin k=none:=fun k=>G.p0 k rfl
 have hlo:∀ k,F.lo k=true:=fun k=>by rw [G.lo]; rfl
 refine exr (swb (c_bx (k:=2) (n:=2) pa2 rfl rfl (P0 _ rfl) L) t1 t0 (frT [] tail_nil rfl rfl rfl) (aV L rfl (aV L rfl (aV L rfl ?_))))
 refine seq_nil ⟨[(1,_),(2,_),(5,_)],(2,_) :: (([]:List (Nat×Blk))),t3,⟨rfl,(hbT [_] tail_nil rfl)⟩,?_⟩
 refine ex_seq (exr (lp2 ag24 sz24 L rfl rfl (cK hG hX cl40 hN (misq_says h hB1 oM) L t1 (sw (c_no L) t1 t0 (mV L rfl (gV (g:=25) rfl rfl L rfl rfl (swg (g:=25) rfl rfl (c_c hG hX cl64 rfl hN (canonq_says hbB oM oM) L) rfl t1 t0 (swg (g:=25) rfl rfl (c_no L) rfl t1 t0 (sw (c_pf rfl L) t2 t0 ?_)))))))))
 refine seq_nil ⟨[(1,_),(2,_),(5,_),(29,_)],(2,_) :: (([]:List (Nat×Blk))),t4,⟨rfl,(hbT [_] tail_nil rfl)⟩,?_⟩
 refine ex_false rfl rfl ?_
 refine ex_skip (xq ?_)
 refine ex_seq (exr (mV L rfl (sw (c_ln un40 L) t1 t0 (sw (c_fa un24 rfl sz22 dC rX L) t1 t1 ?_))))
 refine sw (c_l1 ag22 rF rF L) t1 t1 ?_
 refine sw (c_ln un22 L) t1 t0 (sw (c_n L) t2 t0 ?_)
 refine seq_nil ⟨[(1,_),(2,_),(5,_),(35,_)],(2,_) :: (([]:List (Nat×Blk))),t4,⟨rfl,(hbT [_] tail_nil rfl)⟩,?_⟩
 refine ex_false rfl sO ?_
 refine ex_skip (xq ?_)
 refine exr (mV L rfl (sw (c_ln un40 L) t1 t0 (swb (c_mk (k:=38) un77 ti40 rfl rfl rfl rfl (show (0:Int)=((0:Nat):Int) from rfl) rfl (Nat.zero_le _) (by simp [Tryz.t40]; omega) oM (P0 _ rfl) L) t2 t0 (frT [_] tail_nil rfl rfl rfl) ?_)))
 refine aV L rfl ?_
 refine seq_nil ⟨[(1,_),(2,_),(5,_),(7,_)],(2,_) :: (38,_) :: (([]:List (Nat×Blk))),t4,⟨rfl,rfl,(hbT [_,_] tail_nil rfl)⟩,?_⟩
 refine ex_mat0 (s:=1) (a:=38) (t:=7) [2] (sl:=[(1,_),(2,_),(5,_)]) (pre:=[(2,_)]) dC dC (hpin _) (hpin _) (by rw [hlo,hlo]) rfl t3 rfl rfl t1 rfl rfl rfl ?_
 refine ex_seq (exr (mV L rfl (sw (c_ln un40 L) t1 t0 (mV L rfl ?_))))
 refine seq_nil ⟨[(1,_),(2,_),(5,_),(7,_),(39,_),(40,_),(41,_)],(2,_) :: ((mat1 1 [])),t7,⟨rfl,(hbT [_] (mat1_ok (s:=1) dC []) rfl)⟩,?_⟩
 refine ex_block ?_
 refine exlT (α:=Nat) (fun i=>[(41,vi (i:Int)),(7,.ref 1002 0 i i)]) (fun i=>[]) (fun i=>(mat1 1 ((besS b).take i))) (fun i=>i≤b.length) (fun i=>b.length - i) (0) (sl:=[(1,_),(2,_),(5,_),(39,_),(40,_)]) (hb:=[(2,_)]) ?_ ⟨oR,oR,rfl,rfl,rfl,rfl,rfl,trivial⟩ ⟨rfl,(hbT [_] (mat1_ok (s:=1) dC []) rfl)⟩ ?_
 ·exact Nat.zero_le _
 intro i hi
 have hbsl:(besS b).length=b.length:=by simp [besS]
 have htl:((besS b).take i).length=i:=by rw [List.length_take]; omega
 refine exr (sw (c_ls L) t2 t0 ?_)
 refine seq_nil ⟨[(1,_),(2,_),(5,_),(7,_),(39,_),(40,_),(41,_),(42,_)],(2,_) :: ((mat1 1 ((besS b).take i))),t8,⟨rfl,(hbT [_] (mat1_ok (s:=1) dC ((besS b).take i)) rfl)⟩,?_⟩
 refine ex_seq ?_
 refine ex_if rfl (fun hc=>?_) (fun hc=>?_)
 ·have hc:=dt hc
  have hib:i<b.length:=by omega
  have hst:=besS_take hib
  have hqb:=hbB _ (getD_mem hib)
  refine ex_skip (xq ?_)
  refine ex_seq (ex_block (exr (mV L rfl (sw (core_indexAddrJ un40 sz47 oM oM sM dC L) t2 t0 ?_))))
  refine sw (c_la ag47 sz47 (getQ hib) rfl L) t1 t0 (swb (c_al (k:=9) (n:=4) zv47 (.cons rfl (.cons rfl (.cons rfl (.cons rfl .nil)))) rfl (P0 _ rfl) L) t0 t0 (frT [_] (mat1_ok (s:=1) dC ((besS b).take i)) rfl rfl (by simp [freeSl,freeHb,Cells.free,PV.freeL,PV.free,pvV_free,argSlotsV])) ?_)
  refine aV L rfl (sb (c_sm sz47 rF pa4 rfl pu4) t2 t1 ?_)
  refine seq_nil ⟨[(1,_),(2,_),(5,_),(7,_),(8,_),(9,_),(39,_),(40,_),(41,_)],(2,_) :: (9,_) :: ((mat1 1 ((besS b).take i))),t9,⟨rfl,rfl,(hbT [_,_,_] (mat1_ok (s:=1) dC ((besS b).take i)) rfl)⟩,?_⟩
  refine exr (mV L rfl (sw (c_ln un40 L) t1 t0 (sw (c_ad L (w64 oM oM)) t2 t0 (swb (c_co (k:=49) hG hX cl54 rfl hN (zeros_says (b.length+1) oM) (P0 _ rfl) L) t1 t0 (frT [_,_] (mat1_ok (s:=1) dC ((besS b).take i)) rfl rfl (by simp [freeSl,freeHb,Cells.free,PV.freeL,PV.free,pvV_free,argSlotsV])) ?_))))
  refine aV L rfl ?_
  refine seq_nil ⟨[(1,_),(2,_),(5,_),(7,_),(8,_),(9,_),(10,_),(39,_),(40,_),(41,_)],(2,_) :: (9,_) :: (49,_) :: ((mat1 1 ((besS b).take i))),t10,⟨rfl,rfl,rfl,(hbT [_,_,_] (mat1_ok (s:=1) dC ((besS b).take i)) rfl)⟩,?_⟩
  refine exd rF ?_
  refine mV L rfl (mV L rfl (mV L rfl (sw (c_ad L (w64 oM oM)) t2 t0 (lp4 ag47 sz47 L rfl rfl (cK hG hX cl55 hN (whole_says 1 dC dC) L t1 (sw (core_indexAddr un40 sz47 (by exact sM) dC oM L) t2 t1 ?_))))))
  refine sb (c_sn (n:=4) sz47 (by exact sM) rfl sO) t2 t1 ?_
  refine sw (ixA0 (sz:=4) un40 sz47 (by exact (by first | (simp; done) | (simp; omega))) (j:=i+1) rO oM L) t2 t1 ?_
  refine sb (c_sn (n:=4) sz47 (by exact (by first | (simp; done) | (simp; omega))) rfl oM) t2 t1 ?_
  refine seq_nil ⟨aokF [⟨[10],[],[50],[]⟩,⟨[10],[],[51],[]⟩,⟨[8],[],[52],[]⟩,⟨[52],[],[53],[]⟩,⟨[9],[9],[54],[]⟩,⟨[],[],[55],[]⟩,⟨[50],[49],[56],[]⟩,⟨[56,54],[49],[],[49]⟩,⟨[51,53],[49],[57],[]⟩,⟨[57,55],[49],[],[49]⟩] (.cons (cf0 rfl) (.cons (cf0 rfl) (.cons (cf0 rfl) (.cons (cf0 rfl) (.cons (cf0 rfl) (.cons (cf0 rfl) (.cons (cf0 rfl) (.cons (cf0 rfl) (.cons (cf0 rfl) (.cons (cf0 rfl)  .nil)))))))))) rfl (frS [] [_,_,_] (mat1_ok (s:=1) dC ((besS b).take i)) rfl (by simp [freeSl,freeHb,Cells.free,PV.freeL,PV.free,pvV_free,argSlotsV])) dC,[(1,_),(2,_),(5,_),(7,_),(10,_),(39,_),(40,_),(41,_)],(2,_) :: (49,rowBlk (((zsQ (b.length+1)).set 0 (b.getD i 0)).set (i+1) 1)) :: ((mat1 1 ((besS b).take i))),t8,⟨rfl,obl rfl (two_set (v:=zq (b.length+1)) sM sO),(hbT [_,_,_,_,_] (mat1_ok (s:=1) dC ((besS b).take i)) rfl)⟩,?_⟩
  obtain ⟨ln,hln⟩:∃ ln,ln=((zsQ (b.length+1)).set 0 (b.getD i 0)).set (i+1) 1:=⟨_,rfl⟩
  have hlnl:ln.length=b.length+1:=by rw [hln]; simp
  rw [← hln] at hst ⊢
  rw [← hlnl]
  refine exr0 (mV L rfl (mV L rfl (swb (c_bR (k:=60) (vs:=[_]) un77 ti40 rfl rfl dC dC rfl (zs_made (.cons rfl .nil) rfl) rfl (.cons rfl .ref rfl pu1 .nil) rfl rfl (P0 _ rfl) L) t1 t0 (frT [_,_] (mat1_ok (s:=1) dC ((besS b).take i)) rfl rfl rfl) ?_)))
  refine swb (core_appM (k:=1002) (j:=60) (cs:=refsB 1 0 ((besS b).take i)) un77 un77 ti40 rfl rfl rfl (by rw [refsB_length,htl]) (by simp [Tryz.t40]; omega) oM (hpin _) L) t2 ⟨?_,rfl,trivial⟩ t0 ?_
  ·exact rdT [_,_,_] (mat1_ok (s:=1) dC _) rfl hdL
  refine aV L rfl ?_
  refine seq_nil (xq ?_)
  refine ex_row (s:=1) (a:=49) (m:=(besS b).take i) (v:=ln) [2,1002] (sl:=[(1,_),(2,_),(5,_),(7,.ref 1002 0 (i+1) (i+1)),(39,_),(40,_),(41,_)]) (pre:=[(2,_)]) dC dC (hpin _) (hpin _) (by rw [hlo,hlo]) rfl t7 rfl t1 rfl rfl rfl rfl (fun k B hk=>?_) ?_
  ·obtain ⟨j,_,hj⟩:=rows_mem (List.mem_map.2 ⟨_,lookup_mem hk,rfl⟩)
   have hj:k=rowN 1 (0+j):=hj
   have hk9:k≠1002∧k≠60∧k≠2∧k≠49:=by rw [hj]; unfold rowN; omega
   show List.lookup k ((1002,_) :: (60,_) :: (2,_) :: (49,_) :: mat1 1 ((besS b).take i))=some B
   rw [lk_ne hk9.1,lk_ne hk9.2.1,lk_ne hk9.2.2.1,lk_ne hk9.2.2.2,mat1,lk_ne hk9.1]; exact hk
  rw [← hst]
  refine exr0 (sw (c_ad L (w64 oM oM)) t2 t0 (mV L rfl (seq_nil ?_)))
  exact ⟨i+1,oM,by omega,le_of ⟨oR,oR,rfl,rfl,rfl,rfl,rfl,trivial⟩ ⟨rfl,(hbT [_] (mat1_ok (s:=1) dC ((besS b).take (i+1))) rfl)⟩⟩
 ·have hc:=df hc
  have hib:i=b.length:=by omega
  subst hib
  rw [show (besS b).take b.length=besS b from List.take_of_length_le oM]
  obtain ⟨t,ht⟩:∃ t,t=ech M (besS b) c:=⟨_,rfl⟩
  have hech:=echU_says true b.length c (b.length+1) B DB M (besS b) H
  rw [← ht] at hech hsp
  obtain ⟨r1,r2,r3,-⟩:=hsp
  have hbe:=H.be c (Nat.le_refl _)
  rw [← ht] at hbe
  have hbeg:SaysG E (fun _=>false) 50 [.p (.agg [vZ c,.sl M.length (encM M)]),bv true b.length] (bsT true (besS b)) ([wU c M (bv true b.length)]++matU true M (besS b)) (.at_ 999 0 3):=by rw [hn]; exact begin_says true b.length c M (besS b) H.rc H.nl H.cl
  refine ex_exit (xq ?_)
  refine exrN (nsw (c_lp ag24 sz24 rF (by exact al2) rfl L) t1 t1 ?_)
  refine nsw (c_m L) t1 t0 (nsU (pre:=[_]) (H:=bsT true (besS b)) G hN [2] [(1,_),(2,_),(5,_)] [(2,_)] hbeg L (args_fn (ys:=[_,_]) cl50 rfl rfl) t2 bsT_hi wm_hi (bsT_ok _ _).nd wm_nd wm_w wm_res (fun h=>by cases h) rfl t1 rfl t3 rfl rfl rfl rfl ?_)
  refine nsw (c_a L) t1 t0 ?_
  refine .nil ⟨[(2,_),(5,_),(11,_)],(2,_) :: (999,_) :: (matU true M (besS b)),t3,⟨rfl,rfl,(hbT [_,_] (matU_ok true M (besS b)) rfl)⟩,?_⟩
  refine exrN (nsw (c_m L) t1 t0 (nsU (pre:=[_]) (H:=[wU c M (bv true b.length)]++matU true M (besS b)) G hN [2,999] [(2,_),(5,_),(11,.at_ 999 0 3)] [(2,_)] hech L (args_fn (ys:=[_]) cl51 rfl rfl) t1 wm_hi wm_hi wm_nd wm_nd wm_w (fun q h=>by cases h) wm_9 rfl t1 rfl t3 rfl rfl rfl rfl ?_))
  refine nsw (c_m L) t1 t0 (nsw (c_ex rfl L) t1 t0 (nsw (c_ex rfl L) t1 t0 (nswb (c_al (k:=13) (n:=4) zv47 (.cons rfl (.cons rfl (.cons rfl (.cons rfl .nil)))) rfl (P0 _ rfl) L) t0 t0 (frT [_,_] (matU_ok true t.m t.b) rfl rfl (by simp [freeSl,freeHb,Cells.free,PV.freeL,PV.free,pvV_free,argSlotsV])) ?_)))
  refine nsw (c_a L) t1 t0 (nsb (c_sm sz47 rF pa4 rfl pu4) t2 t1 ?_)
  refine .nil ⟨[(2,_),(5,_),(11,_),(12,_)],(2,_) :: (999,_) :: (matU true t.m t.b),t4,⟨rfl,rfl,(hbT [_,_,_,_] (matU_ok true t.m t.b) rfl)⟩,?_⟩
  refine ex_cvW (pre:=[_]) hlo rfl sM (fun _=>r2.1) ⟨⟨_,rfl,.same⟩,⟨_,rfl,.same⟩,⟨_,rfl,.same⟩,⟨_,rfl,.same⟩,trivial⟩ ?_
  have hle:=r3.le
  obtain ⟨q,hq⟩:∃ q,q=t.pv.length:=⟨_,rfl⟩
  have hdl:(t.b.drop q).length=b.length - q:=by rw [List.length_drop,r2.1]
  show Exec _ _ _ ⟨_,[_]++[(999,⟨79,3,.mix [.p (.sl t.m.length (encM t.m)),.p (vZ c),.p (.sl t.b.length (encM t.b))]⟩)]⟩ _
  refine ex_seq (exr (mV L rfl (sw (core_nilCheck rX L) t1 t1 ?_)))
  refine sw (c_fa un79 rfl sz77 dC rX L) t1 t1 ?_
  refine sw (c_l1 ag77 rF rF L) t1 t1 ?_
  refine mV L rfl (sw (c_ln un27 L) t1 t0 (sw (slI_lo un77 sz40 (l:=q) rO (by have:=r2.1; omega) (show t.b.length - q=(t.b.drop q).length by simp) sM (by rw [Nat.mul_one,encM_drop]) L) t2 t0 ?_))
  refine sw (c_ln un77 L) t1 t0 (mV L rfl (zn [(2,_),(5,_),(11,_),(12,_),(77,_),(78,_),(79,_)] [(2,_),(999,_)] t7 t2 ?_))
  obtain ⟨D',hD⟩:∃ D',D'=t.b.drop q:=⟨_,rfl⟩
  rw [← hD] at hdl ⊢
  have hDg:∀ j,D'.getD j []=t.b.getD (q+j) []:=fun j=>by rw [hD,List.getD_eq_getElem?_getD,List.getD_eq_getElem?_getD,List.getElem?_drop]
  have hDl:∀ j,j<D'.length→(D'.getD j []).length=b.length+1:=fun j hj=>by rw [hDg]; exact r2.get oM
  have hDB:∀ j,∀ a∈D'.getD j [],qw a≤B:=fun j a ha=>by
   rw [hDg] at ha
   obtain ⟨k,rfl⟩:=row_ent ha
   exact mb_ent hbe H.b0
  refine ex_block ?_
  refine exl (α:=Nat) (fun i=>[(79,vi (i:Int))]) (fun i=>[]) (fun i=>i≤D'.length∧∀ k,k<i→(D'.getD k []).getD 0 0=0) (fun i=>D'.length - i) (0) (sl:=[(2,_),(5,_),(11,_),(12,_),(77,_),(78,_)]) (hb:=[(2,_),(999,_)]) ?_ ⟨oR,rfl,rfl,rfl,rfl,rfl,rfl,trivial⟩ t2 ?_
  ·exact ⟨Nat.zero_le _,fun k hk=>by omega⟩
  intro i hi
  obtain ⟨hi,hz⟩:=hi
  refine exr (sw (c_ls L) t2 t0 (zn [(2,_),(5,_),(11,_),(12,_),(77,_),(78,_),(79,_),(80,_)] [(2,_),(999,_)] t8 t2 (ex_seq ?_)))
  refine ex_if rfl (fun hc2=>?_) (fun hc2=>?_)
  ·have hc2:=dt hc2
   have hid:i<D'.length:=by omega
   have hl:=hDl i hid
   have hlB:=hDB i
   obtain ⟨r,hr⟩:∃ r,r=D'.getD i []:=⟨_,rfl⟩
   rw [← hr] at hl hlB
   have h0l:0<r.length:=by omega
   have hqa:=hlB _ (getD_mem h0l)
   refine ex_skip (xq ?_)
   refine ex_seq (ex_block (exr (sw (ixJ un77 sz40 (j:=i) rO oM sM L) t2 t0 ?_)))
   refine sw (c_li ag40 (by rw [getM0 hid,← hr]) L) t1 t0 ?_
   refine aV L rfl (zn [(2,_),(5,_),(11,_),(12,_),(15,_),(77,_),(78,_),(79,_)] [(2,_),(999,_)] t8 t2 (ex_seq (exr (mV L rfl (sw (core_indexAddrJ un40 sz47 dC oM sM dC L) t2 t0 ?_)))))
   refine sw (c_la ag47 sz47 (getQ (v:=r) (i:=0) h0l) rfl L) t1 t0 (cK hG hX cl65 hN (zero_says (r.getD 0 0) oM) L t1 (zn [(2,_),(5,_),(11,_),(12,_),(15,_),(77,_),(78,_),(79,_),(86,_)] [(2,_),(999,_)] t9 t2 ?_))
   refine ex_if rfl (fun hz0=>?_) (fun hz0=>?_)
   ·have hz0:=dt hz0
    refine ex_exit (xq ?_)
    refine exr0 (sw (c_ad L (w64 oM oM)) t2 t0 (mV L rfl (seq_nil ?_)))
    exact ⟨i+1,⟨by omega,all_succ hz (by rw [← hr]; exact hz0)⟩,by omega,le_of ⟨oR,rfl,rfl,rfl,rfl,rfl,rfl,trivial⟩ t2⟩
   ·have hz0:=df hz0
    obtain ⟨r',hr'⟩:∃ r',r'=r.drop 1:=⟨_,rfl⟩
    have hl1:r'.length=b.length:=by rw [hr',List.length_drop,hl]; omega
    have hnb:0<b.length:=by omega
    have hB1':∀ a∈r',qw a≤B:=fun a ha=>hlB a (List.mem_of_mem_drop (by rw [hr'] at ha; exact ha))
    have hsy:∀ k,k<r'.length→(r'.take (k+1)).map (· / r.getD 0 0)=(r'.take k).map (· / r.getD 0 0)++[r'.getD k 0 / r.getD 0 0]:=fun k hk=>solY_get hk
    refine ex_skip (xq ?_)
    refine ex_seq (exr (mV L rfl (sw (slI_lo un40 sz47 (l:=1) rfl oM (show r.length - 1=r'.length by rw [hl1,hl]; omega) sM (show (encQ r).drop (1*4)=encQ r' by rw [hr']; exact encQ_drop) L) t2 t0 ?_)))
    refine sw (c_ln un40 L) t1 t0 (mV L rfl (zn [(5,_),(15,_),(88,_),(89,_),(90,_)] [] t5 trivial (ex_block ?_)))
    refine exlp (α:=Nat) (fun k=>[(90,vi (k:Int)),(5,.ref 105 0 k (k*4))]) (fun k=>[(105,rowBlk ((r'.take k).map (· / r.getD 0 0)))]) (fun k=>0<k∧k≤r'.length) (fun k=>r'.length - k) (r'.length+1) (sl:=[(15,_),(88,_),(89,_)]) (hb:=[]) t3 t0 ?_ ?_
    ·refine exr (sw (c_ls L) t2 t0 (zn [(5,_),(15,_),(88,_),(89,_),(90,_),(91,_)] [] t6 trivial (ex_seq (ex_true rfl sO ?_))))
     have hk0:0<r'.length:=by omega
     have hqk:=hB1' _ (getD_mem hk0)
     refine ex_skip (xq ?_)
     refine ex_seq (ex_block (exr (sw (core_indexAddrJ un40 sz47 dC oM sM dC L) t2 t0 ?_)))
     refine sw (c_la ag47 sz47 (getQ (v:=r') (i:=0) hk0) rfl L) t1 t0 (swb (c_al (k:=17) (n:=4) zv47 (.cons rfl (.cons rfl (.cons rfl (.cons rfl .nil)))) rfl (P0 _ rfl) L) t0 t0 ⟨rfl,rfl⟩ (sb (c_sm sz47 rF pa4 rfl pu4) t2 t1 ?_))
     refine zn [(5,_),(15,_),(17,_),(88,_),(89,_),(90,_)] [(17,_)] t6 t1 (exd rF ?_)
     refine lp4 ag47 sz47 L rfl rfl (mV L rfl (sw (core_indexAddrJ un40 sz47 dC oM sM dC L) t2 t0 ?_))
     refine sw (c_la ag47 sz47 (getQ (v:=r) (i:=0) h0l) rfl L) t1 t0 (cK hG hX cl66 hN (qdiv_says (r'.getD 0 0) (r.getD 0 0) oM oM hz0) L t2 (mV L rfl (sw (c_ex rfl L) t1 t0 (sw (c_ex rfl L) t1 t0 (swb (c_al (k:=18) (n:=4) zv47 (.cons rfl (.cons rfl (.cons rfl (.cons rfl .nil)))) rfl (P0 _ rfl) L) t0 t0 ⟨rfl,rfl⟩ (sb (c_sm sz47 rF pa4 rfl pu4) t2 t1 ?_))))))
     refine aV L rfl ?_
     refine seq_nil ⟨aok rfl rfl,[(5,_),(15,_),(18,_),(88,_),(89,_),(90,_)],[(18,_)],t6,t1,?_⟩
     refine exr0 (mV L rfl (lp4 ag47 sz47 L rfl rfl (sw (c_bI (vs:=[_]) un40 ti47 rfl rfl dC dC rfl (zs_made (.cons rfl (.cons rfl (.cons rfl (.cons rfl .nil)))) rfl) rfl (.cons rfl pa4 rfl pu4 .nil) (.cons (.cons (.cons (.cons .nil)))) L) t1 t0 (swb (apN (k:=105) (sz:=4) un40 un40 ti47 rfl rfl rfl dC sM rfl (by first | (simp [Tryz.t47]; done) | (simp [Tryz.t47]; omega)) oM (P0 _ rfl) L) t2 t0 ⟨rfl,rfl⟩ ?_))))
     refine aV L rfl (seq_nil (exr0 (sw (c_ad L (w64 oM oM)) t2 t0 (mV L rfl (seq_nil ?_)))))
     exact ⟨1,⟨by omega,by omega⟩,oM,le_of ⟨oR,oR,rfl,rfl,rfl,trivial⟩ ⟨obl rfl (by rw [hsy 0 hk0]; rfl),trivial⟩⟩
    ·intro k hk
     obtain ⟨hk0,hk1⟩:=hk
     refine exr (sw (c_ls L) t2 t0 (zn [(5,_),(15,_),(88,_),(89,_),(90,_),(91,_)] [(105,_)] t6 t1 (ex_seq ?_)))
     refine ex_if rfl (fun hk2=>?_) (fun hk2=>?_)
     ·have hk2:=dt hk2
      have hkl:k<r'.length:=by omega
      have hqk:=hB1' _ (getD_mem hkl)
      refine ex_skip (xq ?_)
      refine ex_seq (ex_block (exr (sw (core_indexAddrJ un40 sz47 oM oM sM dC L) t2 t0 ?_)))
      refine sw (c_la ag47 sz47 (getQ hkl) rfl L) t1 t0 (swb (c_al (k:=17) (n:=4) zv47 (.cons rfl (.cons rfl (.cons rfl (.cons rfl .nil)))) rfl (P0 _ rfl) L) t0 t0 ⟨rfl,rfl⟩ (sb (c_sm sz47 rF pa4 rfl pu4) t2 t1 ?_))
      refine zn [(5,_),(15,_),(17,_),(88,_),(89,_),(90,_)] [(17,_),(105,_)] t6 t2 (exd rF ?_)
      refine lp4 ag47 sz47 L rfl rfl (mV L rfl (sw (core_indexAddrJ un40 sz47 dC oM sM dC L) t2 t0 ?_))
      refine sw (c_la ag47 sz47 (getQ (v:=r) (i:=0) h0l) rfl L) t1 t0 (cK hG hX cl66 hN (qdiv_says (r'.getD k 0) (r.getD 0 0) oM oM hz0) L t2 (mV L rfl (sw (c_ex rfl L) t1 t0 (sw (c_ex rfl L) t1 t0 (swb (c_al (k:=18) (n:=4) zv47 (.cons rfl (.cons rfl (.cons rfl (.cons rfl .nil)))) rfl (P0 _ rfl) L) t0 t0 ⟨rfl,rfl⟩ (sb (c_sm sz47 rF pa4 rfl pu4) t2 t1 ?_))))))
      refine aV L rfl ?_
      refine seq_nil ⟨aok rfl rfl,[(5,_),(15,_),(18,_),(88,_),(89,_),(90,_)],[(18,_),(105,_)],t6,t2,?_⟩
      refine exr0 (mV L rfl (lp4 ag47 sz47 L rfl rfl (sw (c_bI (vs:=[_]) un40 ti47 rfl rfl dC dC rfl (zs_made (.cons rfl (.cons rfl (.cons rfl (.cons rfl .nil)))) rfl) rfl (.cons rfl pa4 rfl pu4 .nil) (.cons (.cons (.cons (.cons .nil)))) L) t1 t0 (swb (apP (sz:=4) un40 un40 ti47 rfl rfl rfl dC (by exact (by first | (simp; done) | (simp; omega))) oF sM rfl rfl rfl (by first | (simp [Tryz.t47]; done) | (simp [Tryz.t47]; omega)) oM (P0 _ rfl) L) t2 t1 t0 ?_))))
      refine aV L rfl (seq_nil (exr0 (sw (c_ad L (w64 oM oM)) t2 t0 (mV L rfl (seq_nil ?_)))))
      exact ⟨k+1,⟨by omega,by omega⟩,by omega,le_of ⟨oR,(ov rfl sO),rfl,rfl,rfl,trivial⟩ ⟨obl rfl ((rowSn _ _).trans (by rw [hsy k hkl])),trivial⟩⟩
     ·have hk2:=df hk2
      have hkl:k=r'.length:=by omega
      subst hkl
      rw [List.take_length]
      refine ex_exit (xq ?_)
      refine exr (mV L rfl (aV L rfl (aV L rfl (aV L rfl (zn [(4,_),(5,_),(6,_)] [(105,_)] t3 t1 ?_)))))
      have hF:solF t b.length=((q+i:Nat):Int):=by
       rw [solF,← hq]
       refine firstI_eq (fun k hk=>?_) ?_ oM
       ·have:=hz k hk
        rw [hDg] at this
        rw [nzI,this]; rfl
       ·have h1:=hDg i
        rw [← hr] at h1
        simp only [nzI,← h1,Bool.not_eq_true',decide_eq_false_iff_not]
        exact hz0
      have hneg:¬ (((q+i:Nat):Int)<0):=by omega
      rw [← ht,solx,soly,sole,hF,if_neg hneg,if_neg hneg,if_neg hneg,Int.toNat_natCast,← hDg,← hr,solY,← hr']
      refine ex_cv [105] (sl:=[(4,_),(5,_),(6,_)]) (hb:=[]) (own_lo (by simp [hlo])) ⟨⟨_,rfl,(.p .nil)⟩,⟨_,rfl,(.ref rfl rfl (by exact (by first | (simp; done) | (simp; omega))) (by first | rfl | omega))⟩,⟨_,rfl,.same⟩,trivial⟩ t0 ?_
      refine ex_ret ?_
      refine ⟨.inr rfl,ResVs.cast (.cons (.tmp rfl) (.cons (.tmp rfl) (.cons (.tmp rfl) .nil))) ?_,trivial⟩
      rw [pV,pV,List.length_map]; rfl
  ·have hc2:=df hc2
   have hid:i=D'.length:=by omega
   refine ex_exit (xq ?_)
   refine exr (sw (c_fa un24 rfl sz3 dC rX L) t1 t1 ?_)
   refine sw (c_l1 ag3 rF rF L) t1 t1 ?_
   refine swb (c_co (k:=111) hG hX cl54 rfl hN (zeros_says c oM) (P0 _ rfl) L) t1 t0 ⟨rfl,rfl⟩ (aV L rfl (zn [(4,_),(11,_),(12,_)] [(111,_),(999,_)] t3 t2 (ex_seq (exr (mV L rfl (sw (c_ln un27 L) t1 t0 (mV L rfl (zn [(4,_),(11,_),(112,_),(113,_),(114,_)] [(111,_),(999,_)] t5 t2 (ex_block ?_)))))))))
   refine exl (α:=Nat) (fun k=>[(114,vi (k:Int))]) (fun k=>[(111,rowBlk (putP t.pv (fun j=>ent t.b j 0) (zsQ c) k))]) (fun k=>k≤t.pv.length) (fun k=>t.pv.length - k) (0) (sl:=[(4,_),(11,_),(112,_),(113,_)]) (hb:=[(999,_)]) ?_ ⟨oR,rfl,rfl,rfl,rfl,trivial⟩ t2 ?_
   ·exact Nat.zero_le _
   intro k hk
   refine exr (sw (c_ls L) t2 t0 (zn [(4,_),(11,_),(112,_),(113,_),(114,_),(115,_)] [(111,_),(999,_)] t6 t2 (ex_seq ?_)))
   refine ex_if rfl (fun hk2=>?_) (fun hk2=>?_)
   ·have hk2:=dt hk2
    have hkp:k<t.pv.length:=by have:=encP_length t.pv; omega
    have hpk:=r3.lt _ (getN_mem hkp)
    have hkb:k<t.b.length:=by rw [r2.1]; omega
    have hkl:=r2.get (i:=k) oM
    refine ex_skip (xq ?_)
    refine ex_seq (ex_block (exr (mV L rfl (sw (ixJ un27 sz3 (j:=k) rO oM sM L) t2 t0 ?_))))
    refine sw (c_li ag3 (getPv hkp) L) t1 t0 (aV L rfl (aV L rfl (zn [(4,_),(11,_),(20,_),(21,_),(112,_),(113,_),(114,_)] [(111,_),(999,_)] t7 t2 (exr0 (mV L rfl (mV L rfl (mV L rfl (sw (core_nilCheck rX L) t1 t1 ?_))))))))
    refine sw (c_fa un79 rfl sz77 dC rX L) t1 t1 ?_
    refine sw (c_l1 ag77 rF rF L) t1 t1 ?_
    refine mV L rfl (sw (ixJ un77 sz40 (j:=k) rO oM sM L) t2 t0 ?_)
    refine sw (c_li ag40 (getM0 hkb) L) t1 t0 (sw (core_indexAddrJ un40 sz47 dC oM sM dC L) t2 t0 ?_)
    refine sw (c_la ag47 sz47 (getQ (v:=t.b.getD k []) (i:=0) oM) rfl L) t1 t0 (sw (ixA0 (sz:=4) un40 sz47 (by exact sM) (j:=t.pv.getD k 0) rO (by simpa using hpk) L) t2 t1 ?_)
    refine sb (c_sn (n:=4) sz47 (by exact sM) rfl oM) t2 t1 ?_
    refine seq_nil (exr0 (sw (c_ad L (w64 oM oM)) t2 t0 (mV L rfl (seq_nil ?_))))
    exact ⟨k+1,oM,by omega,le_of ⟨oR,rfl,rfl,rfl,rfl,trivial⟩ ⟨obl rfl ((setBlk _ (by simpa using hpk)).trans (by rw [putP_succ]; rfl)),rfl,trivial⟩⟩
   ·have hk2:=df hk2
    have hkp:k=t.pv.length:=by have:=encP_length t.pv; omega
    subst hkp
    refine ex_exit (xq ?_)
    refine exr (mV L rfl (aV L rfl (aV L rfl (aV L rfl (zn [(4,_),(5,_),(6,_)] [(111,_)] t3 t1 ?_)))))
    have hF:solF t b.length = -1:=by
     rw [solF,← hq]
     refine firstI_no fun k hk=>?_
     have:=hz k oM
     rw [hDg] at this
     rw [nzI,this]; rfl
    rw [← ht,solx,soly,sole,hF,if_pos dC,if_pos dC,if_pos dC,solX]
    refine ex_cv [111] (sl:=[(4,_),(5,_),(6,_)]) (hb:=[]) (own_lo (by simp [hlo])) ⟨⟨_,rfl,(.ref rfl rfl (by exact sM) (by first | rfl | omega))⟩,⟨_,rfl,(.p .nil)⟩,⟨_,rfl,.same⟩,trivial⟩ t0 ?_
    refine ex_ret ?_
    refine ⟨.inr rfl,ResVs.cast (.cons (.tmp rfl) (.cons (.tmp rfl) (.cons (.tmp rfl) .nil))) ?_,trivial⟩
    rw [pV,putP_length,zsQ_length]; rfl

def chkT (M:List (List Rat))(y:List Rat)(j k:Nat):List Rat:=(List.range k).map fun i=>y.getD i 0*ent M i j
theorem chkT_succ {M:List (List Rat)}{y:List Rat}{j k:Nat}:chkT M y j (k+1)=chkT M y j k++[y.getD k 0*ent M k j]:=by simp [chkT,List.range_succ]
@[simp] theorem chkT_length {M:List (List Rat)}{y:List Rat}{j k:Nat}:(chkT M y j k).length=k:=by simp [chkT]
def chkC (M:List (List Rat))(y:List Rat)(c:Nat):Bool:=(List.range c).all fun j=>decide (sumQ (chkT M y j M.length)=0)
def chkQ (c:Nat)(M:List (List Rat))(b y:List Rat):Bool:=chkC M y c && decide (dotQ y b=1)
theorem cmpQ_e {a b:Rat}:cmpQ a b=0↔a=b:=by
 unfold cmpQ
 constructor
 ·intro h
  split at h
  ·cases h
  ·split at h
   ·cases h
   ·rename_i h1 h2; exact Rat.le_antisymm (Rat.not_lt.1 h2) (Rat.not_lt.1 h1)
 ·rintro rfl; simp [Rat.lt_irrefl]
theorem qw_dot {B C:Nat}{u v:List Rat}(hB:∀ a∈u,qw a≤B)(hC:∀ a∈v,qw a≤C):qw (dotQ u v)≤u.length*(B+C+1)+1:=by
 have:=qw_sum (dotT_bd hB hC)
 have h2:=Nat.mul_le_mul_right (B+C+1) (dotT_le (u:=u) (v:=v))
 rw [dotQ]; omega
theorem chkT_bd {B:Nat}{M:List (List Rat)}{y:List Rat}{j k:Nat}(hB:MB B M)(hy:∀ a∈y,qw a≤B)(h0:0<B)(hk:k≤y.length):∀ a∈chkT M y j k,qw a≤B+B:=by
 intro a ha
 simp only [chkT,List.mem_map,List.mem_range] at ha
 obtain ⟨i,hi,rfl⟩:=ha
 have:=qw_mul (y.getD i 0) (ent M i j)
 have:=hy _ (getD_mem (show i<y.length by omega))
 have:=mb_ent (i:=i) (j:=j) hB h0
 omega
theorem chkC_succ {M:List (List Rat)}{y:List Rat}{c:Nat}:chkC M y (c+1)=(chkC M y c && decide (sumQ (chkT M y c M.length)=0)):=by
 simp [chkC,List.range_succ]
theorem chkC_false {M:List (List Rat)}{y:List Rat}{j c:Nat}(hj:j<c)(h:¬ sumQ (chkT M y j M.length)=0):chkC M y c=false:=by
 rw [chkC,List.all_eq_false]
 exact ⟨j,by simpa using hj,by simpa using h⟩
theorem check_says (c B:Nat)(M:List (List Rat))(b y:List Rat)(h:MOk c M)(hB:MB B M)(hbB:∀ a∈b,qw a≤B)(hyB:∀ a∈y,qw a≤B)(hbl:b.length=M.length)(hyl:y.length=M.length)(h0:0<B)(hs:M.length*(B+B+1)+1<900000000)(hbb:B<100000000):Says E 25 [pMq c M,pV b,pV y] (bZ (chkQ c M b y)):=by
 refine says_of (xs:=[bZ (chkQ c M b y)]) Tryz.func25 rfl Tryz.ntmps25 Tryz.results25 sM fun F hG hX0 hnt hdf P0=>?_
 obtain ⟨L,hX,hN⟩:=pro hnt hX0 hG
 have hr4:=h.rows
 have hc60:=h.cols
 refine exr (swb (c_bx (k:=3) (n:=2) pa2 rfl rfl (P0 _ rfl) L) t1 t0 ⟨rfl,rfl⟩ (aV L rfl (zn [(1,_),(2,_),(3,_)] [(3,_)] t3 t1 (ex_seq (exr (lp2 ag24 sz24 L rfl rfl (cK hG hX cl40 hN (misq_says h hB oM) L t1 (sw (c_no L) t1 t0 (mV L rfl (gV (g:=14) rfl rfl L rfl rfl (swg (g:=14) rfl rfl (c_c hG hX cl64 rfl hN (canonq_says hbB oM oM) L) rfl t1 t0 ?_)))))))))))
 refine swg (g:=14) rfl rfl (c_no L) rfl t1 t0 (sw (c_pf rfl L) t2 t0 (mV L rfl (gV (g:=19) rfl rfl L rfl rfl (swg (g:=19) rfl rfl (c_c hG hX cl64 rfl hN (canonq_says hyB oM oM) L) rfl t1 t0 (swg (g:=19) rfl rfl (c_no L) rfl t1 t0 (sw (c_pf rfl L) t2 t0 (mV L rfl (gV (g:=24) rfl rfl L rfl rfl (swg (g:=24) rfl rfl (c_ln un40 L) rfl t1 t0 (swg (g:=24) rfl rfl (c_fa un24 rfl sz22 dC rX L) rfl t1 t1 ?_))))))))))
 refine swg (g:=24) rfl rfl (c_l1 ag22 rF rF L) rfl t1 t1 ?_
 refine swg (g:=24) rfl rfl (c_ln un22 L) rfl t1 t0 (swg (g:=24) rfl rfl (c_n L) rfl t2 t0 (sw (c_pf rfl L) t2 t0 (mV L rfl (gV (g:=32) rfl sO L rfl rfl (swg (g:=32) rfl sO (c_ln un40 L) rfl t1 t0 (swg (g:=32) rfl sO (c_fa un24 rfl sz22 dC rX L) rfl t1 t1 ?_))))))
 refine swg (g:=32) rfl sO (c_l1 ag22 rF rF L) rfl t1 t1 ?_
 refine swg (g:=32) rfl sO (c_ln un22 L) rfl t1 t0 (swg (g:=32) rfl sO (c_n L) rfl t2 t0 (sw (c_pf sO L) t2 t0 (zn [(1,_),(2,_),(3,_),(39,_)] [(3,_)] t4 t1 (ex_false rfl sO ?_))))
 refine ex_skip (xq ?_)
 refine ex_seq (exr (sw (c_fa un24 rfl sz3 dC rX L) t1 t1 ?_))
 refine sw (c_l1 ag3 rF rF L) t1 t1 ?_
 refine mV L rfl (zn [(1,_),(2,_),(3,_),(41,_),(42,_)] [(3,_)] t5 t1 (ex_block ?_))
 refine exl (α:=Nat) (fun j=>[(42,vi (j:Int))]) (fun j=>[]) (fun j=>j≤c∧chkC M y j=true) (fun j=>c - j) (0) (sl:=[(1,_),(2,_),(3,_),(41,_)]) (hb:=[(3,_)]) ?_ ⟨oR,rfl,rfl,rfl,rfl,trivial⟩ t1 ?_
 ·exact ⟨Nat.zero_le _,rfl⟩
 intro j hj
 obtain ⟨hj,hch⟩:=hj
 refine exr (sw (c_ls L) t2 t0 (zn [(1,_),(2,_),(3,_),(41,_),(42,_),(43,_)] [(3,_)] t6 t1 (ex_seq ?_)))
 refine ex_if rfl (fun hc=>?_) (fun hc=>?_)
 ·have hc:=dt hc
  have hjc:j<c:=by omega
  refine ex_skip (xq ?_)
  refine ex_seq (ex_block (exr (mV L rfl (aV L rfl (zn [(1,_),(2,_),(3,_),(7,_),(41,_),(42,_)] [(3,_)] t6 t1 (exr (aV L rfl (zn [(1,_),(2,_),(3,_),(7,_),(8,_),(41,_),(42,_)] [(3,_)] t7 t1 (ex_seq (exr (sw (c_fa un24 rfl sz22 dC rX L) t1 t1 ?_)))))))))))
  refine sw (c_l1 ag22 rF rF L) t1 t1 ?_
  refine sw (c_ln un22 L) t1 t0 (mV L rfl (zn [(1,_),(2,_),(3,_),(7,_),(8,_),(41,_),(42,_),(46,_),(47,_),(48,_)] [(3,_)] t10 t1 (ex_block ?_)))
  refine exl (α:=(Nat×List Rat)) (fun x=>[(48,vi (x.1:Int)),(8,rowV 64 x.2)]) (fun x=>[]++rowB 64 x.2) (fun x=>x.1≤M.length∧chkT M y j x.1=x.2) (fun x=>M.length - x.1) ((0,[])) (sl:=[(1,_),(2,_),(3,_),(7,_),(41,_),(42,_),(46,_),(47,_)]) (hb:=[(3,_)]) ?_ ⟨oR,oR,rfl,rfl,rfl,rfl,rfl,rfl,rfl,rfl,trivial⟩ (hbI (l':=[(3,_)]) rfl t1) ?_
  ·exact ⟨Nat.zero_le _,rfl⟩
  intro x hk
  obtain ⟨k,T⟩:=x
  obtain ⟨hk,hT⟩:=hk
  simp only at hk hT
  rcases T with _ | ⟨q,T⟩
  ·dsimp only [rowV,rowB,List.append_nil]
   refine exr (sw (c_ls L) t2 t0 (zn [(1,_),(2,_),(3,_),(7,_),(8,_),(41,_),(42,_),(46,_),(47,_),(48,_),(49,_)] [(3,_)] t11 t1 (ex_seq ?_)))
   refine ex_if rfl (fun hd=>?_) (fun hd=>?_)
   ·have hd:=dt hd
    have hkl:k<M.length:=by omega
    have hrl:=h.get hkl
    have ht:=chkT_succ (M:=M) (y:=y) (j:=j) (k:=k)
    rw [hT] at ht
    have hq1:=hyB _ (getD_mem (show k<y.length by omega))
    have hq2:=mb_ent (i:=k) (j:=j) hB h0
    refine ex_skip (xq ?_)
    refine ex_seq (ex_block (exr (mV L rfl (sw (ixJ un22 sz40 (j:=k) rO oM sM L) t2 t0 ?_))))
    refine sw (c_li ag40 (getM0 hkl) L) t1 t0 (aV L rfl (aV L rfl (zn [(1,_),(2,_),(3,_),(7,_),(8,_),(9,_),(10,_),(41,_),(42,_),(46,_),(47,_),(48,_)] [(3,_)] t12 t1 (exd0 rF ?_))))
    refine mV L rfl (mV L rfl (mV L rfl (sw (core_indexAddrJ un40 sz47 oM oM sM dC L) t2 t0 ?_)))
    refine sw (c_la ag47 sz47 (getQ (show k<y.length by omega)) rfl L) t1 t0 ?_
    refine mV L rfl (mV L rfl (sw (core_indexAddrJ un40 sz47 oM oM sM dC L) t2 t0 ?_))
    refine sw (c_la ag47 sz47 (getQ (show j<(M.getD k []).length by omega)) rfl L) t1 t0 ?_
    refine cK hG hX cl67 hN (qmul_says (y.getD k 0) (ent M k j) oM oM) L t2 (sw (c_bI (vs:=[_]) un40 ti47 rfl rfl dC dC rfl (zs_made (.cons rfl (.cons rfl (.cons rfl (.cons rfl .nil)))) rfl) rfl (.cons rfl pa4 rfl pu4 .nil) (.cons (.cons (.cons (.cons .nil)))) L) t1 t0 (swb (apN (k:=64) (sz:=4) un40 un40 ti47 rfl rfl rfl dC sM rfl (by simp [Tryz.t47]) oM (P0 _ rfl) L) t2 t0 ⟨rfl,rfl⟩ ?_))
    refine aV L rfl ?_
    refine seq_nil ⟨aok rfl rfl,?_⟩
    refine exr0 (sw (c_ad L (w64 oM oM)) t2 t0 (mV L rfl (seq_nil ?_)))
    exact ⟨(k+1,[y.getD k 0*ent M k j]),⟨by simp only; omega,ht⟩,(by simp only; omega),le_of ⟨oR,oR,rfl,rfl,rfl,rfl,rfl,rfl,rfl,rfl,trivial⟩ (hbI (l':=[(64,_),(3,_)]) rfl t2)⟩
   ·have hd:=df hd
    have hkl:k=M.length:=by omega
    rw [hkl] at hT
    refine ex_exit (xq ?_)
    refine ex_cv [] (sl:=[(1,_),(2,_),(3,_),(8,_),(41,_),(42,_)]) (hb:=[(3,_)]) (own_none hX0) ⟨⟨_,rfl,.same⟩,⟨_,rfl,.same⟩,⟨_,rfl,.same⟩,⟨_,rfl,(.p .nil)⟩,⟨_,rfl,.same⟩,⟨_,rfl,.same⟩,trivial⟩ ⟨⟨rfl,_,rfl,.same⟩,trivial⟩ (exr (mV L rfl (cK hG hX cl68 hN (sum_says [] (B+B) sM sM sM) L t1 ?_)))
    refine cK hG hX cl65 hN (zero_says (sumQ []) (by rw [show sumQ []=0 from rfl,qw_zero]; decide)) L t1 ?_
    refine sw (c_no L) t1 t0 (zn [(1,_),(2,_),(3,_),(41,_),(42,_),(69,_)] [(3,_)] t6 t1 (ex_false rfl (by rw [show sumQ []=0 from rfl]; rfl) ?_))
    refine ex_skip (xq ?_)
    refine exr0 (sw (c_ad L (w64 oM oM)) t2 t0 (mV L rfl (seq_nil ?_)))
    exact ⟨j+1,⟨by omega,by rw [chkC_succ,hch,hT]; rfl⟩,by omega,le_of ⟨oR,rfl,rfl,rfl,rfl,trivial⟩ t1⟩
  ·dsimp only [rowV,rowB]
   have hTl:(q :: T).length=k:=by rw [← hT]; simp
   have hTl2:T.length+1=k:=hTl
   refine exr (sw (c_ls L) t2 t0 (zn [(1,_),(2,_),(3,_),(7,_),(8,_),(41,_),(42,_),(46,_),(47,_),(48,_),(49,_)] [(3,_),(64,_)] t11 t2 (ex_seq ?_)))
   refine ex_if rfl (fun hd=>?_) (fun hd=>?_)
   ·have hd:=dt hd
    have hkl:k<M.length:=by omega
    have hrl:=h.get hkl
    have ht:=chkT_succ (M:=M) (y:=y) (j:=j) (k:=k)
    rw [hT] at ht
    have hq1:=hyB _ (getD_mem (show k<y.length by omega))
    have hq2:=mb_ent (i:=k) (j:=j) hB h0
    refine ex_skip (xq ?_)
    refine ex_seq (ex_block (exr (mV L rfl (sw (ixJ un22 sz40 (j:=k) rO oM sM L) t2 t0 ?_))))
    refine sw (c_li ag40 (getM0 hkl) L) t1 t0 (aV L rfl (aV L rfl (zn [(1,_),(2,_),(3,_),(7,_),(8,_),(9,_),(10,_),(41,_),(42,_),(46,_),(47,_),(48,_)] [(3,_),(64,_)] t12 t2 (exd0 rF ?_))))
    refine mV L rfl (mV L rfl (mV L rfl (sw (core_indexAddrJ un40 sz47 oM oM sM dC L) t2 t0 ?_)))
    refine sw (c_la ag47 sz47 (getQ (show k<y.length by omega)) rfl L) t1 t0 ?_
    refine mV L rfl (mV L rfl (sw (core_indexAddrJ un40 sz47 oM oM sM dC L) t2 t0 ?_))
    refine sw (c_la ag47 sz47 (getQ (show j<(M.getD k []).length by omega)) rfl L) t1 t0 ?_
    refine cK hG hX cl67 hN (qmul_says (y.getD k 0) (ent M k j) oM oM) L t2 (sw (c_bI (vs:=[_]) un40 ti47 rfl rfl dC dC rfl (zs_made (.cons rfl (.cons rfl (.cons rfl (.cons rfl .nil)))) rfl) rfl (.cons rfl pa4 rfl pu4 .nil) (.cons (.cons (.cons (.cons .nil)))) L) t1 t0 (swb (apP (sz:=4) un40 un40 ti47 rfl rfl rfl dC (by exact sM) oF sM rfl rfl rfl (by simp [Tryz.t47]; omega) oM (P0 _ rfl) L) t2 t1 t0 ?_))
    refine aV L rfl ?_
    refine seq_nil ⟨aoks [⟨[8],[],[53],[]⟩,⟨[2],[],[54],[]⟩,⟨[9],[],[55],[]⟩,⟨[54,55],[],[56],[]⟩,⟨[56],[],[57],[]⟩,⟨[10],[],[58],[]⟩,⟨[7],[],[59],[]⟩,⟨[58,59],[],[60],[]⟩,⟨[60],[],[61],[]⟩,⟨[57,61],[],[62],[]⟩,⟨[62],[],[63],[]⟩,⟨[53,63],[64],[64],[64]⟩,⟨[64],[],[8],[]⟩] rF rF dC,?_⟩
    refine exr0 (sw (c_ad L (w64 oM oM)) t2 t0 (mV L rfl (seq_nil ?_)))
    exact ⟨(k+1,q :: T++[y.getD k 0*ent M k j]),⟨by simp only; omega,ht⟩,(by simp only; omega),le_of ⟨oR,(by exact ov rfl sO),rfl,rfl,rfl,rfl,rfl,rfl,rfl,rfl,trivial⟩ (hbI (l':=[(64,_),(3,_)]) rfl ⟨(obl rfl (rowSn (q :: T) _)),rfl,trivial⟩)⟩
   ·have hd:=df hd
    have hkl:k=M.length:=by omega
    rw [hkl] at hT hTl
    have hbd:=chkT_bd (M:=M) (y:=y) (j:=j) (k:=M.length) hB hyB h0 oM
    rw [hT] at hbd
    have hsq:=qw_sum hbd
    rw [hTl] at hsq
    refine ex_exit (xq ?_)
    refine ex_cv [64] (sl:=[(1,_),(2,_),(3,_),(8,_),(41,_),(42,_)]) (hb:=[(3,_)]) (own_none hX0) ⟨⟨_,rfl,.same⟩,⟨_,rfl,.same⟩,⟨_,rfl,.same⟩,⟨_,rfl,(.ref rfl rfl (by exact sM) (by first | rfl | omega))⟩,⟨_,rfl,.same⟩,⟨_,rfl,.same⟩,trivial⟩ ⟨⟨rfl,_,rfl,.same⟩,trivial⟩ ?_
    refine exr (mV L rfl (cK hG hX cl68 hN (sum_says (q :: T) (B+B) (by rw [hTl]; omega) hbd (by rw [hTl]; exact hs)) L t1 ?_))
    refine cK hG hX cl65 hN (zero_says (sumQ (q :: T)) oM) L t1 (sw (c_no L) t1 t0 (zn [(1,_),(2,_),(3,_),(41,_),(42,_),(69,_)] [(3,_)] t6 t1 ?_))
    refine ex_if rfl (fun hz=>?_) (fun hz=>?_)
    ·have hz:¬ sumQ (chkT M y j M.length)=0:=by rw [hT]; simpa using hz
     refine exr (aV L rfl (zn [(6,_)] [] t1 trivial (ex_ret ?_)))
     refine ⟨.inr rfl,ResVs.cast (.cons (.tmp rfl) .nil) ?_⟩
     rw [chkQ,chkC_false hjc hz]; rfl
    ·have hz:sumQ (chkT M y j M.length)=0:=by rw [hT]; simpa using hz
     refine ex_skip (xq ?_)
     refine exr0 (sw (c_ad L (w64 oM oM)) t2 t0 (mV L rfl (seq_nil ?_)))
     exact ⟨j+1,⟨by omega,by rw [chkC_succ,hch,hz]; rfl⟩,by omega,le_of ⟨oR,rfl,rfl,rfl,rfl,trivial⟩ t1⟩
 ·have hc:=df hc
  have hjc:j=c:=by omega
  subst hjc
  have hq:=qw_dot (u:=y) (v:=b) hyB hbB
  have hmul:y.length*(B+B+1)=M.length*(B+B+1):=by rw [hyl]
  refine ex_exit (xq ?_)
  refine exr (mV L rfl (mV L rfl (cK hG hX cl70 hN (dot_says y b B B oM oM hyB hbB oM oM oM) L t2 (cK hG hX cl55 hN (whole_says 1 dC dC) L t1 (cK hG hX cl69 hN (qcmp_says (dotQ y b) 1 oM (by rw [qw_one]; decide)) L t2 ?_)))))
  refine sw (c_e L) t2 t0 (aV L rfl (zn [(6,_)] [] t1 trivial (ex_ret ?_)))
  refine ⟨.inr rfl,ResVs.cast (.cons (.tmp rfl) .nil) ?_⟩
  rw [chkQ,hch,Bool.true_and,show decide (cmpQ (dotQ y b) 1=0)=decide (dotQ y b=1) from decide_eq_decide.2 cmpQ_e]
theorem solve_says (n c B DB:Nat)(M:List (List Rat))(b:List Rat)(h:MOk c M)(hB1:MB B M)(hbB:∀ a∈b,qw a≤B)(hn:M.length=n)(hbn:b.length=n)(H:EU n c (n+1) B DB M (besS b)):Says E 24 [pMq c M,pV b] (.tup [pV (solx c (ech M (besS b) c) n),pV (soly (ech M (besS b) c) n),vZ (sole (ech M (besS b) c) n)]):=says_ofG (solveV_says n c B DB M b h hB1 hbB hn hbn H)
@[reducible] def b2 (vs:List (List RQ)):List (Nat×Blk):=[(2,⟨22,1,.mix [.p (.sl vs.length (encMR vs))]⟩)]
@[reducible] def b3 (vs:List (List RQ))(w:List RQ):List (Nat×Blk):=[(2,⟨22,1,.mix [.p (.sl vs.length (encMR vs))]⟩),(3,⟨40,1,.mix [.p (pVR w)]⟩)]
theorem cmb1_says (vs:List (List RQ))(i:Nat)(hi:i<vs.length)(hm:MSm vs):SaysG E (fun _=>true) 72 [.p (vZ i),.at_ 2 0 1] (b2 vs) (b2 vs) (.p (bZ (!(vs.getD i []).all RQ.is))):=by
 refine saysG_dat (xs:=[bZ (!(vs.getD i []).all RQ.is)]) Tryz.func72 rfl Tryz.ntmps72 Tryz.results72 sM fun F G=>?_
 have L:=@lti _ _ G.nt
 have hG:=G.g
 have hX:=G.x
 have hN:=ng_le hG
 have P0:=G.p0
 have hr:=hm.2 _ (gDL hi)
 refine exr (aV L rfl (zn [(0,_),(1,_)] [(2,_)] t2 t1 (exr (sw (c_l1 ag22 rF rF L) t1 t1 ?_))))
 refine mV L rfl (sw (ixJ un22 sz40 (j:=i) rO oM sM L) t2 t0 ?_)
 refine sw (c_li ag40 (getMR hi) L) t1 t0 (cK hG hX cl64 hN (canonical_says (vs.getD i []) hr.1 hr.2) L t1 (sw (c_no L) t1 t0 (aV L rfl (zn [(3,_)] [(2,_)] t1 t1 (ex_ret ?_)))))
 refine ⟨.inr rfl,ResVs.cast (.cons (.tmp rfl) .nil) ?_,t1⟩
 rfl
theorem cmb2_says (vs:List (List RQ))(w:List RQ)(i:Nat)(hi:i<vs.length):SaysG E (fun _=>true) 73 [.p (vZ i),.at_ 2 0 1,.at_ 3 0 1] (b3 vs w) (b3 vs w) (.p (bZ (!decide ((vs.getD i []).length=w.length)))):=by
 refine saysG_dat (xs:=[bZ (!decide ((vs.getD i []).length=w.length))]) Tryz.func73 rfl Tryz.ntmps73 Tryz.results73 sM fun F G=>?_
 have L:=@lti _ _ G.nt
 have hG:=G.g
 have hX:=G.x
 have hN:=ng_le hG
 have P0:=G.p0
 refine exr (aV L rfl (zn [(0,_),(1,_),(2,_)] [(2,_),(3,_)] t3 t2 (exd rF ?_)))
 refine sw (c_l1 ag22 rF rF L) t1 t1 ?_
 refine mV L rfl (sw (ixJ un22 sz40 (j:=i) rO oM sM L) t2 t0 ?_)
 refine sw (c_li ag40 (getMR hi) L) t1 t0 (sw (c_ln un40 L) t1 t0 (sw (c_l1 ag40 rF rF L) t1 t1 ?_))
 refine sw (c_ln un40 L) t1 t0 (sw (c_n L) t2 t0 (aV L rfl ?_))
 refine seq_nil ⟨aoks [⟨[1],[2],[5],[]⟩,⟨[0],[],[6],[]⟩,⟨[5,6],[],[7],[]⟩,⟨[7],[],[8],[]⟩,⟨[8],[],[9],[]⟩,⟨[2],[3],[10],[]⟩,⟨[10],[],[11],[]⟩,⟨[9,11],[],[12],[]⟩,⟨[12],[],[4],[]⟩] rF rF dC,[(4,_)],[(2,_),(3,_)],t1,t2,?_⟩
 refine ex_ret ?_
 refine ⟨.inr rfl,ResVs.cast (.cons (.tmp rfl) .nil) ?_,t2⟩
 rw [show decide (((vs.getD i []).length:Int)=w.length)=decide ((vs.getD i []).length=w.length) from decide_eq_decide.2 oM]
theorem first_all {p:Nat→Bool}{n:Nat}:0≤firstI p 0 (n - 0)↔∃ i,i<n∧p i=true:=by
 constructor
 ·intro h
  obtain ⟨h1,h2,h3,h4⟩:=firstI_hit (show ¬ firstI p 0 (n - 0)<0 by omega)
  exact ⟨_,by omega,h3⟩
 ·rintro ⟨i,hi,h⟩
  apply Classical.byContradiction
  intro hn
  have:=firstI_miss (show firstI p 0 (n - 0)<0 by omega) i (Nat.zero_le _) oM
  rw [h] at this; cases this
theorem first_form {vs:List (List RQ)}:decide (0≤firstI (fun i=>!(vs.getD i []).all RQ.is) 0 (vs.length - 0)) = !(vs.all fun r=>r.all RQ.is):=by
 rw [Bool.eq_iff_iff,decide_eq_true_iff,first_all,Bool.not_eq_true',List.all_eq_false]
 constructor
 ·rintro ⟨i,hi,h⟩
  exact ⟨_,gDL hi,by simpa using h⟩
 ·rintro ⟨r,hr,h⟩
  obtain ⟨i,hi,rfl⟩:=List.getElem_of_mem hr
  refine ⟨i,hi,?_⟩
  have e:vs.getD i []=vs[i]:=by simp [List.getD_eq_getElem?_getD,hi]
  rw [e]; simpa using h
theorem first_fit {vs:List (List RQ)}{n:Nat}:decide (0≤firstI (fun i=>!decide ((vs.getD i []).length=n)) 0 (vs.length - 0)) = !(vs.all fun r=>decide (r.length=n)):=by
 rw [Bool.eq_iff_iff,decide_eq_true_iff,first_all,Bool.not_eq_true',List.all_eq_false]
 constructor
 ·rintro ⟨i,hi,h⟩
  exact ⟨_,gDL hi,by simpa using h⟩
 ·rintro ⟨r,hr,h⟩
  obtain ⟨i,hi,rfl⟩:=List.getElem_of_mem hr
  refine ⟨i,hi,?_⟩
  have e:vs.getD i []=vs[i]:=by simp [List.getD_eq_getElem?_getD,hi]
  rw [e]; simpa using h
@[reducible] def pMl (V:List (List Rat)):Pure:=.sl V.length (encM V)
theorem allV (V:List (List Rat)):((V.map (List.map RQ.of)).all fun r=>r.all RQ.is)=true:=by
 rw [List.all_eq_true]; intro r hr
 obtain ⟨v,_,rfl⟩:=List.mem_map.1 hr
 exact all_is v
theorem msm_V {B:Nat}{V:List (List Rat)}(hB:MB B V)(hb:B<1000000000)(h1:V.length<1000000000)(h2:∀ r∈V,r.length<1000000000):MSm (V.map (List.map RQ.of)):=by
 refine ⟨by simpa using h1,fun r hr=>?_⟩
 obtain ⟨v,hv,rfl⟩:=List.mem_map.1 hr
 refine ⟨by simpa using h2 v hv,fun a ha=>?_⟩
 obtain ⟨q,hq,rfl⟩:=List.mem_map.1 ha
 have:=hB v hv q hq
 exact RQ.sm_of oM
theorem combine_says (B DB:Nat)(V:List (List Rat))(w:List Rat)(hV:∀ r∈V,r.length=w.length)(hk:V.length≤60)(hwl:w.length≤400)(hB:MB B V)(hwB:∀ a∈w,qw a≤B)(H:EU w.length V.length (w.length+1) B DB (trM w.length V) (besS w)):Says E 30 [pMl V,pV w] (.tup [pV (solx V.length (ech (trM w.length V) (besS w) V.length) w.length),pV (soly (ech (trM w.length V) (besS w) V.length) w.length),vZ (sole (ech (trM w.length V) (besS w) V.length) w.length)]):=by
 refine says_of (xs:=[pV (solx V.length (ech (trM w.length V) (besS w) V.length) w.length),pV (soly (ech (trM w.length V) (besS w) V.length) w.length),vZ (sole (ech (trM w.length V) (besS w) V.length) w.length)]) Tryz.func30 rfl Tryz.ntmps30 Tryz.results30 sM fun F hG hX0 hnt hdf P0=>?_
 obtain ⟨L,hX,hN⟩:=pro hnt hX0 hG
 have hb:=H.bl
 have hms:=msm_V hB oM oM (fun r hr=>by rw [hV r hr]; omega)
 have f1:=first_says 72 [.at_ 2 0 1] (b2 (V.map (List.map RQ.of))) sM (whole_of rfl) cl72 (fun i=>!((V.map (List.map RQ.of)).getD i []).all RQ.is) 0 (V.map (List.map RQ.of)).length sO (fun i _ hi=>cmb1_says _ i hi hms)
 have f2:=first_says 73 [.at_ 2 0 1,.at_ 3 0 1] (b3 (V.map (List.map RQ.of)) (w.map RQ.of)) sM (whole_of rfl) cl73 (fun i=>!decide (((V.map (List.map RQ.of)).getD i []).length=(w.map RQ.of).length)) 0 (V.map (List.map RQ.of)).length sO (fun i _ hi=>cmb2_says _ (w.map RQ.of) i hi)
 have ff:=first_form (vs:=V.map (List.map RQ.of))
 have fg:=first_fit (vs:=V.map (List.map RQ.of)) (n:=(w.map RQ.of).length)
 have fv:((V.map (List.map RQ.of)).all fun r=>decide (r.length=(w.map RQ.of).length))=true:=by
  rw [List.all_eq_true]; intro r hr
  obtain ⟨v,hv,rfl⟩:=List.mem_map.1 hr
  simp [hV v hv]
 have hst:=solve_says w.length V.length B DB (trM w.length V) w ⟨by simpa using hwl,hk,fun r hr=>by simp only [trM,List.mem_map] at hr; obtain ⟨j,_,rfl⟩:=hr; simp⟩ (fun r hr a ha=>by
  simp only [trM,List.mem_map,List.mem_range] at hr
  obtain ⟨j,hj,rfl⟩:=hr
  exact colB hB hj hV a ha) hwB sM rfl H
 rw [allV] at ff
 rw [fv] at fg
 obtain ⟨p1,hp1⟩:∃ p1,p1=firstI (fun i=>!((V.map (List.map RQ.of)).getD i []).all RQ.is) 0 ((V.map (List.map RQ.of)).length - 0):=⟨_,rfl⟩
 obtain ⟨p2,hp2⟩:∃ p2,p2=firstI (fun i=>!decide (((V.map (List.map RQ.of)).getD i []).length=(w.map RQ.of).length)) 0 ((V.map (List.map RQ.of)).length - 0):=⟨_,rfl⟩
 rw [← hp1] at f1 ff
 rw [← hp2] at f2 fg
 simp only [b2,b3,encMR_of,List.length_map,pVR_of] at f1 f2
 refine exr (swb (c_bx (k:=2) (n:=1) .sl rfl rfl (P0 _ rfl) L) t1 t0 ⟨rfl,rfl⟩ (swb (c_bx (k:=3) (n:=1) .sl rfl rfl (P0 _ rfl) L) t1 t0 ⟨rfl,rfl⟩ (aV L rfl (aV L rfl (aV L rfl (zn [(2,_),(3,_)] [(2,_),(3,_)] t2 t2 (ex_seq (exr (sw (c_l1 ag22 rF rF L) t1 t1 ?_)))))))))
 refine sw (c_ln un22 L) t1 t0 (sw (c_fn (vs:=[]) (us:=[_]) rfl rfl L) t1 t0 (sw (core_callI hG hX hN f1 rfl L (args_fn (ys:=[_,_,_]) cl52 rfl rfl) sM (whole_of rfl) (fun q h=>by cases h)) t3 t1 ?_))
 refine sw (c_ge L) t2 t0 (mV L rfl (swg (g:=17) rfl (by rw [ff] <;> rfl) (c_l1 ag40 rF rF L) rfl t1 t1 ?_))
 refine swg (g:=17) rfl (by rw [ff] <;> rfl) (c_c hG hX cl64 rfl hN (canonq_says hwB oM oM) L) rfl t1 t0 ?_
 refine swg (g:=17) rfl (by rw [ff] <;> rfl) (c_no L) rfl t1 t0 ?_
 refine sw (c_pf (by rw [ff] <;> rfl) L) t2 t0 ?_
 refine zn [(2,_),(3,_),(21,_)] [(2,_),(3,_)] t3 t2 (ex_false rfl rfl ?_)
 refine ex_skip (xq ?_)
 refine ex_seq (exr (sw (c_l1 ag22 rF rF L) t1 t1 ?_))
 refine sw (c_ln un22 L) t1 t0 (sw (c_fn (vs:=[]) (us:=[_,_]) rfl rfl L) t2 t0 (sw (core_callI hG hX hN f2 rfl L (args_fn (ys:=[_,_,_]) cl52 rfl rfl) sM (whole_of rfl) (fun q h=>by cases h)) t3 t2 ?_))
 refine sw (c_ge L) t2 t0 (zn [(2,_),(3,_),(26,_)] [(2,_),(3,_)] t3 t2 (ex_false rfl (by rw [fg] <;> rfl) ?_))
 refine ex_skip (xq ?_)
 refine ex_seq (exr (sw (c_l1 ag22 rF rF L) t1 t1 ?_))
 refine sw (c_ln un22 L) t1 t0 (sw (c_gt L) t2 t0 (mV L rfl (swg (g:=30) rfl sO (c_l1 ag40 rF rF L) rfl t1 t1 ?_)))
 refine swg (g:=30) rfl sO (c_ln un40 L) rfl t1 t0 (swg (g:=30) rfl sO (c_gt L) rfl t2 t0 (sw (c_pf sO L) t2 t0 (zn [(2,_),(3,_),(34,_)] [(2,_),(3,_)] t3 t2 (ex_false rfl sO ?_))))
 refine ex_skip (xq ?_)
 refine exr (sw (c_l1 ag22 rF rF L) t1 t1 ?_)
 refine sw (c_ln un22 L) t1 t0 (sw (c_bp (vs:=[_]) un24 zv24 (.cons rfl (.cons rfl .nil)) ((Places.cons sz3 (Places.cons sz22 Places.nil))).to rfl (.cons rfl (.atom rfl) rfl pu1 .nil) (.cons (.cons .nil)) L) t1 t0 (swb (c_al (k:=7) (n:=2) zv24 (.cons rfl (.cons rfl .nil)) rfl (P0 _ rfl) L) t0 t0 ⟨rfl,rfl⟩ (sb (c_sm sz24 rF pa2 rfl pu2) t2 t1 ?_)))
 refine zn [(2,_),(3,_),(7,_)] [(2,_),(3,_),(7,_)] t3 t3 (ex_seq (exr (sw (c_l1 ag40 rF rF L) t1 t1 ?_)))
 refine sw (c_ln un40 L) t1 t0 (mV L rfl (zn [(2,_),(3,_),(7,_),(39,_),(40,_)] [(2,_),(3,_),(7,_)] t5 t3 (ex_block ?_)))
 refine exl (α:=(Nat×List (List Rat))) (fun x=>[(40,vi (x.1:Int))]) (fun x=>[(7,⟨24,2,.mix [.p (vZ V.length),matV 64 x.2]⟩)]++matB 64 x.2) (fun x=>x.1≤w.length∧trM x.1 V=x.2) (fun x=>w.length - x.1) ((0,[])) (sl:=[(2,_),(3,_),(7,_),(39,_)]) (hb:=[(2,_),(3,_)]) ?_ ⟨oR,rfl,rfl,rfl,rfl,trivial⟩ (hbI (l':=[(7,_),(2,_),(3,_)]) rfl t3) ?_
 ·exact ⟨Nat.zero_le _,rfl⟩
 intro x hx
 obtain ⟨j,T⟩:=x
 obtain ⟨hj,hT⟩:=hx
 simp only at hj hT
 rcases T with _ | ⟨q,T⟩
 ·dsimp only [matV,matB,List.append_nil]
  refine exr (sw (c_ls L) t2 t0 (zn [(2,_),(3,_),(7,_),(39,_),(40,_),(41,_)] [(2,_),(3,_),(7,_)] t6 t3 (ex_seq ?_)))
  refine ex_if rfl (fun hc=>?_) (fun hc=>?_)
  ·have hc:=dt hc
   have hjc:j<w.length:=by omega
   have ht:=trM_succ j V
   rw [hT] at ht
   refine ex_skip (xq ?_)
   refine ex_seq (ex_block (exr (mV L rfl (aV L rfl (zn [(2,_),(3,_),(7,_),(8,_),(39,_),(40,_)] [(2,_),(3,_),(7,_)] t6 t3 (exr (sw (c_l1 ag22 rF rF L) t1 t1 ?_)))))))
   refine sw (c_ln un22 L) t1 t0 (swb (core_make (sz:=4) (k:=45) un40 ti47 rfl rfl dC rfl rfl rfl (show (0:Int)=((0:Nat):Int) from rfl) rfl (Nat.zero_le _) (by simp [Tryz.t47]; omega) oM (P0 _ rfl) L) t2 t0 ⟨rfl,rfl⟩ ?_)
   refine aV L rfl ?_
   refine seq_nil ⟨[(2,_),(3,_),(7,_),(8,_),(9,.ref 45 0 0 0),(39,_),(40,_)],[(2,_),(3,_),(7,_),(45,rowBlk [])],t7,t4,?_⟩
   refine ex_seq (exr (sw (c_l1 ag22 rF rF L) t1 t1 ?_))
   refine sw (c_ln un22 L) t1 t0 (mV L rfl (zn [(2,_),(3,_),(7,_),(8,_),(9,_),(39,_),(40,_),(46,_),(47,_),(48,_)] [(2,_),(3,_),(7,_),(45,_)] t10 t4 (ex_block ?_)))
   refine exl (α:=Nat) (fun k=>[(48,vi (k:Int)),(9,.ref 45 0 k (k*4))]) (fun k=>[(45,rowBlk (colM (V.take k) j))]) (fun k=>k≤V.length) (fun k=>V.length - k) (0) (sl:=[(2,_),(3,_),(7,_),(8,_),(39,_),(40,_),(46,_),(47,_)]) (hb:=[(2,_),(3,_),(7,_)]) ?_ ⟨oR,oR,rfl,rfl,rfl,rfl,rfl,rfl,rfl,rfl,trivial⟩ t4 ?_
   ·exact Nat.zero_le _
   intro k hk
   refine exr (sw (c_ls L) t2 t0 (zn [(2,_),(3,_),(7,_),(8,_),(9,_),(39,_),(40,_),(46,_),(47,_),(48,_),(49,_)] [(2,_),(3,_),(7,_),(45,_)] t11 t4 (ex_seq ?_)))
   refine ex_if rfl (fun he=>?_) (fun he=>?_)
   ·have he:=dt he
    have hk2:k<V.length:=by omega
    have hrl:=hV _ (gDL hk2)
    refine ex_skip (xq ?_)
    refine ex_seq (ex_block (exr (sw (ixJ un22 sz40 (j:=k) rO oM sM L) t2 t0 ?_)))
    refine sw (c_li ag40 (getM0 hk2) L) t1 t0 (aV L rfl (zn [(2,_),(3,_),(7,_),(8,_),(9,_),(11,_),(39,_),(40,_),(46,_),(47,_),(48,_)] [(2,_),(3,_),(7,_),(45,_)] t11 t4 (exr0 (mV L rfl (mV L rfl (mV L rfl (sw (core_indexAddrJ un40 sz47 oM oM sM dC L) t2 t0 ?_)))))))
    refine sw (c_la ag47 sz47 (getQ (show j<(V.getD k []).length by omega)) rfl L) t1 t0 ?_
    refine sw (c_bI (vs:=[_]) un40 ti47 rfl rfl dC dC rfl (zs_made (.cons rfl (.cons rfl (.cons rfl (.cons rfl .nil)))) rfl) rfl (.cons rfl pa4 rfl pu4 .nil) (.cons (.cons (.cons (.cons .nil)))) L) t1 t0 (swb (apP (sz:=4) un40 un40 ti47 rfl rfl rfl dC (by exact (by first | (simp; done) | (simp; omega))) oF sM rfl rfl rfl (by first | (simp [Tryz.t47]; done) | (simp [Tryz.t47]; omega)) oM (P0 _ rfl) L) t2 t1 t0 ?_)
    refine aV L rfl (seq_nil (exr0 (sw (c_ad L (w64 oM oM)) t2 t0 (mV L rfl (seq_nil ?_)))))
    exact ⟨k+1,oM,by omega,le_of ⟨oR,ov rfl sO,rfl,rfl,rfl,rfl,rfl,rfl,rfl,rfl,trivial⟩ ⟨obl rfl ((rowSn _ _).trans (by rw [colM_take hk2])),rfl,rfl,rfl,trivial⟩⟩
   ·have he:=df he
    have hkM:k=V.length:=by omega
    subst hkM
    rw [List.take_length]
    refine ex_exit (xq ?_)
    refine ex_cv [45] (sl:=[(2,_),(3,_),(7,_),(9,_),(39,_),(40,_)]) (hb:=[(2,_),(3,_),(7,_)]) (own_none hX0) ⟨⟨_,rfl,.same⟩,⟨_,rfl,.same⟩,⟨_,rfl,.same⟩,⟨_,rfl,(.ref rfl rfl (by exact (by first | (simp; done) | (simp; omega))) (by first | rfl | omega))⟩,⟨_,rfl,.same⟩,⟨_,rfl,.same⟩,trivial⟩ ⟨⟨rfl,_,rfl,.same⟩,⟨rfl,_,rfl,.same⟩,⟨rfl,_,rfl,.same⟩,trivial⟩ ?_
    refine exr0 (sw (c_fa un24 rfl sz22 dC rX L) t1 t1 ?_)
    refine sw (c_l1 ag22 rF rF L) t1 t1 ?_
    refine mV L rfl (sw (c_bI (vs:=[_]) un22 ti40 rfl rfl dC dC rfl (zs_made (.cons rfl .nil) rfl) rfl (.cons rfl .sl rfl pu1 .nil) (.cons .nil) L) t1 t0 (swb (apN (k:=64) (sz:=1) un22 un22 ti40 rfl rfl rfl dC sM rfl (by first | (simp [Tryz.t40]; done) | (simp [Tryz.t40]; omega)) oM (P0 _ rfl) L) t2 t0 ⟨rfl,rfl⟩ ?_))
    refine sw (c_fa un24 rfl sz22 dC rX L) t1 t1 ?_
    refine sb (c_sm sz22 rF .ref rfl (.skip pu1)) t2 t1 ?_
    refine seq_nil (exr0 (sw (c_ad L (w64 oM oM)) t2 t0 (mV L rfl (seq_nil ?_))))
    exact ⟨(j+1,[colM V j]),⟨by simp only; omega,ht⟩,(by simp only; omega),le_of ⟨oR,rfl,rfl,rfl,rfl,trivial⟩ (hbI (l':=[(7,_),(64,_),(2,_),(3,_)]) rfl ⟨rfl,obl rfl (by simp [encM]),rfl,rfl,trivial⟩)⟩
  ·have hc:=df hc
   have hjc:j=w.length:=by omega
   rw [hjc] at hT
   rw [hT] at hst ⊢
   refine ex_exit (xq ?_)
   refine ex_cv [] (sl:=[(3,_),(7,_)]) (hb:=[(3,_),(7,_)]) (own_none hX0) ⟨⟨_,rfl,.same⟩,⟨_,rfl,.same⟩,trivial⟩ ⟨⟨rfl,_,rfl,.same⟩,⟨rfl,_,rfl,(.mix (.cons .same (.cons (.p .nil) .nil)))⟩,trivial⟩ (exr (lp2 ag24 sz24 L rfl rfl (sw (c_l1 ag40 rF rF L) t1 t1 ?_)))
   refine cK hG hX cl24 hN hst L t2 (sw (c_ex rfl L) t1 t0 (sw (c_ex rfl L) t1 t0 (sw (c_ex rfl L) t1 t0 (aV L rfl (aV L rfl (aV L rfl (zn [(4,_),(5,_),(6,_)] [] t3 trivial (ex_ret ?_))))))))
   refine ⟨.inr rfl,ResVs.cast (.cons (.tmp rfl) (.cons (.tmp rfl) (.cons (.tmp rfl) .nil))) ?_⟩
   rfl
 ·dsimp only [matV,matB]
  have hTl:(q :: T).length=j:=by rw [← hT,trM_length]
  have hTl2:T.length+1=j:=hTl
  refine exr (sw (c_ls L) t2 t0 (zn [(2,_),(3,_),(7,_),(39,_),(40,_),(41,_)] [(2,_),(3,_),(7,_),(64,_)] t6 t4 (ex_seq ?_)))
  refine ex_if rfl (fun hc=>?_) (fun hc=>?_)
  ·have hc:=dt hc
   have hjc:j<w.length:=by omega
   have ht:=trM_succ j V
   rw [hT] at ht
   refine ex_skip (xq ?_)
   refine ex_seq (ex_block (exr (mV L rfl (aV L rfl (zn [(2,_),(3,_),(7,_),(8,_),(39,_),(40,_)] [(2,_),(3,_),(7,_),(64,_)] t6 t4 (exr (sw (c_l1 ag22 rF rF L) t1 t1 ?_)))))))
   refine sw (c_ln un22 L) t1 t0 (swb (core_make (sz:=4) (k:=45) un40 ti47 rfl rfl dC rfl rfl rfl (show (0:Int)=((0:Nat):Int) from rfl) rfl (Nat.zero_le _) (by simp [Tryz.t47]; omega) oM (P0 _ rfl) L) t2 t0 ⟨rfl,rfl⟩ ?_)
   refine aV L rfl ?_
   refine seq_nil ⟨[(2,_),(3,_),(7,_),(8,_),(9,.ref 45 0 0 0),(39,_),(40,_)],[(2,_),(3,_),(7,_),(45,rowBlk []),(64,_)],t7,t5,?_⟩
   refine ex_seq (exr (sw (c_l1 ag22 rF rF L) t1 t1 ?_))
   refine sw (c_ln un22 L) t1 t0 (mV L rfl (zn [(2,_),(3,_),(7,_),(8,_),(9,_),(39,_),(40,_),(46,_),(47,_),(48,_)] [(2,_),(3,_),(7,_),(45,_),(64,_)] t10 t5 (ex_block ?_)))
   refine exl (α:=Nat) (fun k=>[(48,vi (k:Int)),(9,.ref 45 0 k (k*4))]) (fun k=>[(45,rowBlk (colM (V.take k) j))]) (fun k=>k≤V.length) (fun k=>V.length - k) (0) (sl:=[(2,_),(3,_),(7,_),(8,_),(39,_),(40,_),(46,_),(47,_)]) (hb:=[(2,_),(3,_),(7,_),(64,_)]) ?_ ⟨oR,oR,rfl,rfl,rfl,rfl,rfl,rfl,rfl,rfl,trivial⟩ t5 ?_
   ·exact Nat.zero_le _
   intro k hk
   refine exr (sw (c_ls L) t2 t0 (zn [(2,_),(3,_),(7,_),(8,_),(9,_),(39,_),(40,_),(46,_),(47,_),(48,_),(49,_)] [(2,_),(3,_),(7,_),(45,_),(64,_)] t11 t5 (ex_seq ?_)))
   refine ex_if rfl (fun he=>?_) (fun he=>?_)
   ·have he:=dt he
    have hk2:k<V.length:=by omega
    have hrl:=hV _ (gDL hk2)
    refine ex_skip (xq ?_)
    refine ex_seq (ex_block (exr (sw (ixJ un22 sz40 (j:=k) rO oM sM L) t2 t0 ?_)))
    refine sw (c_li ag40 (getM0 hk2) L) t1 t0 (aV L rfl (zn [(2,_),(3,_),(7,_),(8,_),(9,_),(11,_),(39,_),(40,_),(46,_),(47,_),(48,_)] [(2,_),(3,_),(7,_),(45,_),(64,_)] t11 t5 (exr0 (mV L rfl (mV L rfl (mV L rfl (sw (core_indexAddrJ un40 sz47 oM oM sM dC L) t2 t0 ?_)))))))
    refine sw (c_la ag47 sz47 (getQ (show j<(V.getD k []).length by omega)) rfl L) t1 t0 ?_
    refine sw (c_bI (vs:=[_]) un40 ti47 rfl rfl dC dC rfl (zs_made (.cons rfl (.cons rfl (.cons rfl (.cons rfl .nil)))) rfl) rfl (.cons rfl pa4 rfl pu4 .nil) (.cons (.cons (.cons (.cons .nil)))) L) t1 t0 (swb (apP (sz:=4) un40 un40 ti47 rfl rfl rfl dC (by exact (by first | (simp; done) | (simp; omega))) oF sM rfl rfl rfl (by first | (simp [Tryz.t47]; done) | (simp [Tryz.t47]; omega)) oM (P0 _ rfl) L) t2 t1 t0 ?_)
    refine aV L rfl (seq_nil (exr0 (sw (c_ad L (w64 oM oM)) t2 t0 (mV L rfl (seq_nil ?_)))))
    exact ⟨k+1,oM,by omega,le_of ⟨oR,ov rfl sO,rfl,rfl,rfl,rfl,rfl,rfl,rfl,rfl,trivial⟩ ⟨obl rfl ((rowSn _ _).trans (by rw [colM_take hk2])),rfl,rfl,rfl,rfl,trivial⟩⟩
   ·have he:=df he
    have hkM:k=V.length:=by omega
    subst hkM
    rw [List.take_length]
    refine ex_exit (xq ?_)
    refine ex_cv [45] (sl:=[(2,_),(3,_),(7,_),(9,_),(39,_),(40,_)]) (hb:=[(2,_),(3,_),(7,_),(64,_)]) (own_none hX0) ⟨⟨_,rfl,.same⟩,⟨_,rfl,.same⟩,⟨_,rfl,.same⟩,⟨_,rfl,(.ref rfl rfl (by exact (by first | (simp; done) | (simp; omega))) (by first | rfl | omega))⟩,⟨_,rfl,.same⟩,⟨_,rfl,.same⟩,trivial⟩ ⟨⟨rfl,_,rfl,.same⟩,⟨rfl,_,rfl,.same⟩,⟨rfl,_,rfl,.same⟩,⟨rfl,_,rfl,.same⟩,trivial⟩ ?_
    refine exr0 (sw (c_fa un24 rfl sz22 dC rX L) t1 t1 ?_)
    refine sw (c_l1 ag22 rF rF L) t1 t1 ?_
    refine mV L rfl (sw (c_bI (vs:=[_]) un22 ti40 rfl rfl dC dC rfl (zs_made (.cons rfl .nil) rfl) rfl (.cons rfl .sl rfl pu1 .nil) (.cons .nil) L) t1 t0 (swb (apP (sz:=1) un22 un22 ti40 rfl rfl rfl dC (by exact (encM_length _)) oF sM rfl rfl rfl (by first | (simp [Tryz.t40]; done) | (simp [Tryz.t40]; omega)) oM (P0 _ rfl) L) t2 t1 t0 ?_))
    refine sw (c_fa un24 rfl sz22 dC rX L) t1 t1 ?_
    refine sb (c_sm sz22 rF .ref rfl (.skip pu1)) t2 t1 ?_
    refine seq_nil (exr0 (sw (c_ad L (w64 oM oM)) t2 t0 (mV L rfl (seq_nil ?_))))
    exact ⟨(j+1,q :: T++[colM V j]),⟨by simp only; omega,ht⟩,(by simp only; omega),le_of ⟨oR,rfl,rfl,rfl,rfl,trivial⟩ (hbI (l':=[(7,_),(64,_),(2,_),(3,_)]) rfl ⟨obl rfl sM,obl rfl (matSn V.length (q :: T) (colM V j) (colM_length _ _)),rfl,rfl,trivial⟩)⟩
  ·have hc:=df hc
   have hjc:j=w.length:=by omega
   rw [hjc] at hT
   rw [hT] at hst ⊢
   refine ex_exit (xq ?_)
   refine ex_cv [64] (sl:=[(3,_),(7,_)]) (hb:=[(3,_),(7,_)]) (own_none hX0) ⟨⟨_,rfl,.same⟩,⟨_,rfl,.same⟩,trivial⟩ ⟨⟨rfl,_,rfl,.same⟩,⟨rfl,_,rfl,(.mix (.cons .same (.cons (.ref rfl rfl (by exact (encM_length _)) (by first | rfl | omega)) .nil)))⟩,trivial⟩ ?_
   refine exr (lp2 ag24 sz24 L rfl rfl (sw (c_l1 ag40 rF rF L) t1 t1 ?_))
   refine cK hG hX cl24 hN hst L t2 (sw (c_ex rfl L) t1 t0 (sw (c_ex rfl L) t1 t0 (sw (c_ex rfl L) t1 t0 (aV L rfl (aV L rfl (aV L rfl (zn [(4,_),(5,_),(6,_)] [] t3 trivial (ex_ret ?_))))))))
   refine ⟨.inr rfl,ResVs.cast (.cons (.tmp rfl) (.cons (.tmp rfl) (.cons (.tmp rfl) .nil))) ?_⟩
   rfl
theorem dnt {p:Prop}[Decidable p](h:(!decide p)=true):¬ p:=by simpa using h
theorem dnf {p:Prop}[Decidable p](h:(!decide p)=false):p:=by simpa using h
theorem lt_step {p:Nat→Prop}{k:Nat}(h:∀ i,i<k→p i)(hk:p k):∀ i,i<k+1→p i:=fun i hi=>(Nat.lt_or_eq_of_le (Nat.le_of_lt_succ hi)).elim (h i) (fun e=>e ▸ hk)
theorem getI_ext {ws vs:List Int}(hl:ws.length=vs.length)(h:∀ k,k<ws.length→ws.getD k 0=vs.getD k 0):ws=vs:=by
 refine List.ext_getElem hl fun i h1 h2=>?_
 have:=h i h1
 simpa [List.getD_eq_getElem?_getD,h1,h2] using this
theorem rsameI_says (m n:Bool)(ws vs:List Int)(h1:ws.length<1000000000)(h2:vs.length<1000000000):Says E 74 [.agg [.a (.bool m),.sl ws.length (encW ws)],.agg [.a (.bool n),.sl vs.length (encW vs)]] (bZ (decide (m=n∧ws=vs))):=by
 refine says_of (xs:=[bZ (decide (m=n∧ws=vs))]) Tryz.func74 rfl Tryz.ntmps74 Tryz.results74 sM fun F hG hX0 hnt hdf P0=>?_
 obtain ⟨L,hX,hN⟩:=pro hnt hX0 hG
 refine exr (swb (c_bx (k:=2) (n:=2) pa2 rfl rfl (P0 _ rfl) L) t1 t0 ⟨rfl,rfl⟩ (swb (c_bx (k:=3) (n:=2) pa2 rfl rfl (P0 _ rfl) L) t1 t0 ⟨rfl,rfl⟩ (aV L rfl (zn [(2,_),(3,_)] [(2,_),(3,_)] t2 t2 (ex_seq ?_)))))
 refine exm (sl:=[(19,vb (decide (¬ (m=n∧ws.length=vs.length))))]) (sl0:=[(2,_),(3,_)]) (hb:=[]) (hb0:=[(2,_),(3,_)]) t2 t2 ?_ ?_
 ·by_cases h:m=n
  ·refine sw (c_fa un45 rfl sz4 dC rX L) t1 t1 ?_
   refine sw (c_l1 ag4 rF rF L) t1 t1 ?_
   refine sw (c_fa un45 rfl sz4 dC rX L) t1 t1 ?_
   refine sw (c_l1 ag4 rF rF L) t1 t1 ?_
   refine sw (c_bn un4 L) t2 t0 (mV L rfl (swg (g:=11) rfl (by rw [h]; cases n <;> rfl) (c_fa un45 rfl sz43 dC rX L) rfl t1 t1 ?_))
   refine swg (g:=11) rfl (by rw [h]; cases n <;> rfl) (c_l1 ag43 rF rF L) rfl t1 t1 ?_
   refine swg (g:=11) rfl (by rw [h]; cases n <;> rfl) (c_ln un43 L) rfl t1 t0 ?_
   refine swg (g:=11) rfl (by rw [h]; cases n <;> rfl) (c_fa un45 rfl sz43 dC rX L) rfl t1 t1 ?_
   refine swg (g:=11) rfl (by rw [h]; cases n <;> rfl) (c_l1 ag43 rF rF L) rfl t1 t1 ?_
   refine swg (g:=11) rfl (by rw [h]; cases n <;> rfl) (c_ln un43 L) rfl t1 t0 ?_
   refine swg (g:=11) rfl (by rw [h]; cases n <;> rfl) (c_n L) rfl t2 t0 ?_
   refine sw (c_pf (by rw [h]; cases n <;> rfl) L) t2 t0 ?_
   exact seq_nil ⟨⟨ob rfl (by simp [h]; omega),rfl,rfl,trivial⟩,t2⟩
  ·refine sw (c_fa un45 rfl sz4 dC rX L) t1 t1 ?_
   refine sw (c_l1 ag4 rF rF L) t1 t1 ?_
   refine sw (c_fa un45 rfl sz4 dC rX L) t1 t1 ?_
   refine sw (c_l1 ag4 rF rF L) t1 t1 ?_
   refine sw (c_bn un4 L) t2 t0 (mV L rfl (swn (g:=11) rfl (by revert h; cases m <;> cases n <;> simp) L rfl ?_))
   refine swn (g:=11) rfl (by revert h; cases m <;> cases n <;> simp) L rfl ?_
   refine swn (g:=11) rfl (by revert h; cases m <;> cases n <;> simp) L rfl ?_
   refine swn (g:=11) rfl (by revert h; cases m <;> cases n <;> simp) L rfl ?_
   refine swn (g:=11) rfl (by revert h; cases m <;> cases n <;> simp) L rfl ?_
   refine swn (g:=11) rfl (by revert h; cases m <;> cases n <;> simp) L rfl ?_
   refine swn (g:=11) rfl (by revert h; cases m <;> cases n <;> simp) L rfl ?_
   refine sw (c_pt (by revert h; cases m <;> cases n <;> simp) L) t2 t0 ?_
   exact seq_nil ⟨⟨ob rfl (by simp [h]),rfl,rfl,trivial⟩,t2⟩
 refine ex_if rfl (fun hc=>?_) (fun hc=>?_)
 ·have hc:=dt hc
  refine exr (aV L rfl (zn [(4,_)] [] t1 trivial (ex_ret ?_)))
  refine ⟨.inr rfl,ResVs.cast (.cons (.tmp rfl) .nil) ?_⟩
  rw [decide_eq_false (fun h=>hc ⟨h.1,by rw [h.2]⟩)]
 ·have hc:=df hc
  have hc:m=n∧ws.length=vs.length:=Classical.not_not.1 hc
  obtain ⟨rfl,hl⟩:=hc
  refine ex_skip (xq ?_)
  refine ex_seq (exr (aV L rfl (zn [(2,_),(3,_),(5,_)] [(2,_),(3,_)] t3 t2 (ex_block ?_))))
  refine exl (α:=Nat) (fun k=>[(5,vi (k:Int))]) (fun k=>[]) (fun k=>k≤ws.length∧∀ i,i<k→ws.getD i 0=vs.getD i 0) (fun k=>ws.length - k) (0) (sl:=[(2,_),(3,_)]) (hb:=[(2,_),(3,_)]) ?_ ⟨oR,rfl,rfl,trivial⟩ t2 ?_
  ·exact ⟨Nat.zero_le _,fun i h=>absurd h (Nat.not_lt_zero i)⟩
  intro k hk
  obtain ⟨hk,hw⟩:=hk
  refine ex_seq (exr (mV L rfl (sw (c_fa un45 rfl sz43 dC rX L) t1 t1 ?_)))
  refine sw (c_l1 ag43 rF rF L) t1 t1 ?_
  refine sw (c_ln un43 L) t1 t0 (sw (c_ls L) t2 t0 (zn [(2,_),(3,_),(5,_),(24,_)] [(2,_),(3,_)] t4 t2 ?_))
  refine ex_if rfl (fun hc=>?_) (fun hc=>?_)
  ·have hc:=dt hc
   have hk2:k<ws.length:=by omega
   have hk3:k<vs.length:=by omega
   refine ex_skip (xq ?_)
   refine ex_seq (ex_block (exd rF ?_))
   refine sw (c_fa un45 rfl sz43 dC rX L) t1 t1 ?_
   refine sw (c_l1 ag43 rF rF L) t1 t1 ?_
   refine mV L rfl (sw (ixJ un43 sz119 (j:=k) rO oM sM L) t2 t0 ?_)
   refine sw (c_li ag119 (getW hk2) L) t1 t0 (sw (c_fa un45 rfl sz43 dC rX L) t1 t1 ?_)
   refine sw (c_l1 ag43 rF rF L) t1 t1 ?_
   refine mV L rfl (sw (ixJ un43 sz119 (j:=k) rO oM sM L) t2 t0 ?_)
   refine sw (c_li ag119 (getW hk3) L) t1 t0 (sw (c_n L) t2 t0 ?_)
   refine seq_nil ⟨aoks [⟨[2],[2],[27],[]⟩,⟨[27],[2],[28],[]⟩,⟨[5],[],[29],[]⟩,⟨[28,29],[],[30],[]⟩,⟨[30],[],[31],[]⟩,⟨[3],[3],[32],[]⟩,⟨[32],[3],[33],[]⟩,⟨[5],[],[34],[]⟩,⟨[33,34],[],[35],[]⟩,⟨[35],[],[36],[]⟩,⟨[31,36],[],[37],[]⟩] rF rF dC,[(2,_),(3,_),(5,_),(37,_)],[(2,_),(3,_)],t4,t2,?_⟩
   refine ex_if rfl (fun he=>?_) (fun he=>?_)
   ·have he:=dnt he
    refine exr (aV L rfl (zn [(4,_)] [] t1 trivial (ex_ret ?_)))
    refine ⟨.inr rfl,ResVs.cast (.cons (.tmp rfl) .nil) ?_⟩
    rw [decide_eq_false (fun h=>he (by rw [h.2]))]
   ·have he:=dnf he
    refine ex_skip (xq ?_)
    refine exr0 (mV L rfl (sw (c_ad L (w64 oM oM)) t2 t0 (aV L rfl (seq_nil ?_))))
    exact ⟨k+1,⟨by omega,lt_step hw he⟩,by omega,le_of ⟨oR,rfl,rfl,trivial⟩ t2⟩
  ·have hc:=df hc
   refine ex_exit (xq ?_)
   refine exr (aV L rfl (zn [(4,_)] [] t1 trivial (ex_ret ?_)))
   refine ⟨.inr rfl,ResVs.cast (.cons (.tmp rfl) .nil) ?_⟩
   rw [decide_eq_true (⟨rfl,getI_ext hl (fun i hi=>hw i oM)⟩:m=m∧ws=vs)]
deriving instance DecidableEq for RQ
theorem getD_extT {α:Type}{d:α}{u v:List α}(hl:u.length=v.length)(h:∀ k,k<u.length→u.getD k d=v.getD k d):u=v:=by
 refine List.ext_getElem hl fun i h1 h2=>?_
 have:=h i h1
 simpa [List.getD_eq_getElem?_getD,h1,h2] using this
theorem rqsame_says (a b:RQ)(ha:a.sm)(hb:b.sm):Says E 33 [.agg (cR a),.agg (cR b)] (bZ (decide (a=b))):=by
 refine says_of (xs:=[bZ (decide (a=b))]) Tryz.func33 rfl Tryz.ntmps33 Tryz.results33 sM fun F hG hX0 hnt hdf P0=>?_
 obtain ⟨L,hX,hN⟩:=pro hnt hX0 hG
 have e:(a=b)=((a.m=b.m∧a.ws=b.ws)∧(a.n=b.n∧a.vs=b.vs)):=by
  cases a; cases b; simp only [RQ.mk.injEq,and_assoc]
 refine exr (swb (c_bx (k:=2) (n:=4) pa4 rfl rfl (P0 _ rfl) L) t1 t0 ⟨rfl,rfl⟩ (swb (c_bx (k:=3) (n:=4) pa4 rfl rfl (P0 _ rfl) L) t1 t0 ⟨rfl,rfl⟩ (aV L rfl (zn [(2,_),(3,_)] [(2,_),(3,_)] t2 t2 ?_))))
 refine exm (sl:=[(4,vb (decide (a=b)))]) (sl0:=[]) (hb:=[]) (hb0:=[]) t0 t0 ?_ ?_
 ·by_cases h:a.m=b.m∧a.ws=b.ws
  ·refine sw (c_fa un47 rfl sz45 dC rX L) t1 t1 ?_
   refine lp2 ag45 sz45 L rfl rfl (sw (c_fa un47 rfl sz45 dC rX L) t1 t1 ?_)
   refine lp2 ag45 sz45 L rfl rfl (cK hG hX cl74 hN (rsameI_says a.m b.m a.ws b.ws ha.2.1 hb.2.1) L t2 (mV L rfl (swg (g:=10) rfl (by rw [decide_eq_true h] <;> rfl) (c_fa un47 rfl sz45 dC rX L) rfl t1 t1 ?_)))
   refine swg (g:=10) rfl (by rw [decide_eq_true h] <;> rfl) (c_lp ag45 sz45 rF (by exact al2) rfl L) rfl t1 t1 ?_
   refine swg (g:=10) rfl (by rw [decide_eq_true h] <;> rfl) (c_fa un47 rfl sz45 dC rX L) rfl t1 t1 ?_
   refine swg (g:=10) rfl (by rw [decide_eq_true h] <;> rfl) (c_lp ag45 sz45 rF (by exact al2) rfl L) rfl t1 t1 ?_
   refine swg (g:=10) rfl (by rw [decide_eq_true h] <;> rfl) (c_c hG hX cl74 rfl hN (rsameI_says a.n b.n a.vs b.vs ha.2.2 hb.2.2) L) rfl t2 t0 ?_
   refine sw (c_pt (by rw [decide_eq_true h] <;> rfl) L) t2 t0 ?_
   refine aV L rfl ?_
   exact seq_nil ⟨⟨ob rfl (by simp only [e,h,true_and,and_self]),trivial⟩,trivial⟩
  ·refine sw (c_fa un47 rfl sz45 dC rX L) t1 t1 ?_
   refine lp2 ag45 sz45 L rfl rfl (sw (c_fa un47 rfl sz45 dC rX L) t1 t1 ?_)
   refine lp2 ag45 sz45 L rfl rfl (cK hG hX cl74 hN (rsameI_says a.m b.m a.ws b.ws ha.2.1 hb.2.1) L t2 (mV L rfl (swn (g:=10) rfl (by rw [decide_eq_false h] <;> rfl) L rfl ?_)))
   refine swn (g:=10) rfl (by rw [decide_eq_false h] <;> rfl) L rfl ?_
   refine swn (g:=10) rfl (by rw [decide_eq_false h] <;> rfl) L rfl ?_
   refine swn (g:=10) rfl (by rw [decide_eq_false h] <;> rfl) L rfl ?_
   refine swn (g:=10) rfl (by rw [decide_eq_false h] <;> rfl) L rfl ?_
   refine sw (c_pf (by rw [decide_eq_false h] <;> rfl) L) t2 t0 ?_
   refine aV L rfl ?_
   exact seq_nil ⟨⟨ob rfl (by simp only [e,h,false_and,decide_false]),trivial⟩,trivial⟩
 refine ex_ret ?_
 refine ⟨.inr rfl,ResVs.cast (.cons (.tmp rfl) .nil) ?_⟩
 rfl
theorem rsameV_says (u v:List RQ)(hu:u.length<1000000000)(su:∀ r∈u,r.sm)(sv:∀ r∈v,r.sm):Says E 29 [pVR u,pVR v] (bZ (decide (u=v))):=by
 refine says_of (xs:=[bZ (decide (u=v))]) Tryz.func29 rfl Tryz.ntmps29 Tryz.results29 sM fun F hG hX0 hnt hdf P0=>?_
 obtain ⟨L,hX,hN⟩:=pro hnt hX0 hG
 refine exr (aV L rfl (zn [(0,_),(1,_)] [] t2 trivial (ex_seq (exr (mV L rfl (sw (c_ln un40 L) t1 t0 (mV L rfl (sw (c_ln un40 L) t1 t0 (sw (c_n L) t2 t0 (zn [(0,_),(1,_),(10,_)] [] t3 trivial ?_))))))))))
 refine ex_if rfl (fun hc=>?_) (fun hc=>?_)
 ·have hc:=dnt hc
  refine exr (aV L rfl (zn [(4,_)] [] t1 trivial (ex_ret ?_)))
  refine ⟨.inr rfl,ResVs.cast (.cons (.tmp rfl) .nil) ?_⟩
  rw [decide_eq_false (fun h=>hc (by rw [h]))]
 ·have hc:=dnf hc
  have hl:u.length=v.length:=by omega
  refine ex_skip (xq ?_)
  refine ex_seq (exr (aV L rfl (zn [(0,_),(1,_),(5,_)] [] t3 trivial (ex_block ?_))))
  refine exl (α:=Nat) (fun k=>[(5,vi (k:Int))]) (fun k=>[]) (fun k=>k≤u.length∧∀ i,i<k→u.getD i default=v.getD i default) (fun k=>u.length - k) (0) (sl:=[(0,_),(1,_)]) (hb:=[]) ?_ ⟨oR,rfl,rfl,trivial⟩ t0 ?_
  ·exact ⟨Nat.zero_le _,fun i h=>absurd h (Nat.not_lt_zero i)⟩
  intro k hk
  obtain ⟨hk,hw⟩:=hk
  refine ex_seq (exr (mV L rfl (mV L rfl (sw (c_ln un40 L) t1 t0 (sw (c_ls L) t2 t0 (zn [(0,_),(1,_),(5,_),(14,_)] [] t4 trivial ?_))))))
  refine ex_if rfl (fun hc=>?_) (fun hc=>?_)
  ·have hc:=dt hc
   have hk2:k<u.length:=by omega
   have hk3:k<v.length:=by omega
   refine ex_skip (xq ?_)
   refine ex_seq (ex_block (exd rF ?_))
   refine mV L rfl (mV L rfl (sw (core_indexAddrJ un40 sz47 oM oM sM dC L) t2 t0 ?_))
   refine sw (c_la ag47 sz47 (getR hk2) rfl L) t1 t0 (mV L rfl (mV L rfl (sw (core_indexAddrJ un40 sz47 oM oM sM dC L) t2 t0 ?_)))
   refine sw (c_la ag47 sz47 (getR hk3) rfl L) t1 t0 (cK hG hX cl33 hN (rqsame_says _ _ (su _ (gD hk2)) (sv _ (gD hk3))) L t2 (sw (c_no L) t1 t0 ?_))
   refine seq_nil ⟨aoks [⟨[0],[],[17],[]⟩,⟨[5],[],[18],[]⟩,⟨[17,18],[],[19],[]⟩,⟨[19],[],[20],[]⟩,⟨[1],[],[21],[]⟩,⟨[5],[],[22],[]⟩,⟨[21,22],[],[23],[]⟩,⟨[23],[],[24],[]⟩,⟨[20,24],[],[25],[]⟩,⟨[25],[],[26],[]⟩] rF rF dC,[(0,_),(1,_),(5,_),(26,_)],[],t4,trivial,?_⟩
   refine ex_if rfl (fun he=>?_) (fun he=>?_)
   ·have he:=dnt he
    refine exr (aV L rfl (zn [(4,_)] [] t1 trivial (ex_ret ?_)))
    refine ⟨.inr rfl,ResVs.cast (.cons (.tmp rfl) .nil) ?_⟩
    rw [decide_eq_false (fun h=>he (by rw [h]))]
   ·have he:=dnf he
    refine ex_skip (xq ?_)
    refine exr0 (mV L rfl (sw (c_ad L (w64 oM oM)) t2 t0 (aV L rfl (seq_nil ?_))))
    exact ⟨k+1,⟨by omega,lt_step hw he⟩,by omega,le_of ⟨oR,rfl,rfl,trivial⟩ trivial⟩
  ·have hc:=df hc
   refine ex_exit (xq ?_)
   refine exr (aV L rfl (zn [(4,_)] [] t1 trivial (ex_ret ?_)))
   refine ⟨.inr rfl,ResVs.cast (.cons (.tmp rfl) .nil) ?_⟩
   rw [decide_eq_true (getD_extT hl (fun i hi=>hw i oM))]
theorem rsameR_says (u v:List (List RQ))(hu:MSm u)(hv:MSm v):Says E 19 [.sl u.length (encMR u),.sl v.length (encMR v)] (bZ (decide (u=v))):=by
 refine says_of (xs:=[bZ (decide (u=v))]) Tryz.func19 rfl Tryz.ntmps19 Tryz.results19 sM fun F hG hX0 hnt hdf P0=>?_
 obtain ⟨L,hX,hN⟩:=pro hnt hX0 hG
 have hul:=hu.1
 have hvl:=hv.1
 refine exr (aV L rfl (zn [(0,_),(1,_)] [] t2 trivial (ex_seq (exr (mV L rfl (sw (c_ln un22 L) t1 t0 (mV L rfl (sw (c_ln un22 L) t1 t0 (sw (c_n L) t2 t0 (zn [(0,_),(1,_),(10,_)] [] t3 trivial ?_))))))))))
 refine ex_if rfl (fun hc=>?_) (fun hc=>?_)
 ·have hc:=dnt hc
  refine exr (aV L rfl (zn [(4,_)] [] t1 trivial (ex_ret ?_)))
  refine ⟨.inr rfl,ResVs.cast (.cons (.tmp rfl) .nil) ?_⟩
  rw [decide_eq_false (fun h=>hc (by rw [h]))]
 ·have hc:=dnf hc
  have hl:u.length=v.length:=by omega
  refine ex_skip (xq ?_)
  refine ex_seq (exr (aV L rfl (zn [(0,_),(1,_),(5,_)] [] t3 trivial (ex_block ?_))))
  refine exl (α:=Nat) (fun k=>[(5,vi (k:Int))]) (fun k=>[]) (fun k=>k≤u.length∧∀ i,i<k→u.getD i []=v.getD i []) (fun k=>u.length - k) (0) (sl:=[(0,_),(1,_)]) (hb:=[]) ?_ ⟨oR,rfl,rfl,trivial⟩ t0 ?_
  ·exact ⟨Nat.zero_le _,fun i h=>absurd h (Nat.not_lt_zero i)⟩
  intro k hk
  obtain ⟨hk,hw⟩:=hk
  refine ex_seq (exr (mV L rfl (mV L rfl (sw (c_ln un22 L) t1 t0 (sw (c_ls L) t2 t0 (zn [(0,_),(1,_),(5,_),(14,_)] [] t4 trivial ?_))))))
  refine ex_if rfl (fun hc=>?_) (fun hc=>?_)
  ·have hc:=dt hc
   have hk2:k<u.length:=by omega
   have hk3:k<v.length:=by omega
   have m1:=hu.2 _ (gDL hk2)
   have m2:=hv.2 _ (gDL hk3)
   refine ex_skip (xq ?_)
   refine ex_seq (ex_block (exd rF ?_))
   refine mV L rfl (mV L rfl (sw (ixJ un22 sz40 (j:=k) rO oM sM L) t2 t0 ?_))
   refine sw (c_li ag40 (getMR hk2) L) t1 t0 (mV L rfl (mV L rfl (sw (ixJ un22 sz40 (j:=k) rO oM sM L) t2 t0 ?_)))
   refine sw (c_li ag40 (getMR hk3) L) t1 t0 (cK hG hX cl29 hN (rsameV_says _ _ m1.1 m1.2 m2.2) L t2 (sw (c_no L) t1 t0 ?_))
   refine seq_nil ⟨aoks [⟨[0],[],[17],[]⟩,⟨[5],[],[18],[]⟩,⟨[17,18],[],[19],[]⟩,⟨[19],[],[20],[]⟩,⟨[1],[],[21],[]⟩,⟨[5],[],[22],[]⟩,⟨[21,22],[],[23],[]⟩,⟨[23],[],[24],[]⟩,⟨[20,24],[],[25],[]⟩,⟨[25],[],[26],[]⟩] rF rF dC,[(0,_),(1,_),(5,_),(26,_)],[],t4,trivial,?_⟩
   refine ex_if rfl (fun he=>?_) (fun he=>?_)
   ·have he:=dnt he
    refine exr (aV L rfl (zn [(4,_)] [] t1 trivial (ex_ret ?_)))
    refine ⟨.inr rfl,ResVs.cast (.cons (.tmp rfl) .nil) ?_⟩
    rw [decide_eq_false (fun h=>he (by rw [h]))]
   ·have he:=dnf he
    refine ex_skip (xq ?_)
    refine exr0 (mV L rfl (sw (c_ad L (w64 oM oM)) t2 t0 (aV L rfl (seq_nil ?_))))
    exact ⟨k+1,⟨by omega,lt_step hw he⟩,by omega,le_of ⟨oR,rfl,rfl,trivial⟩ trivial⟩
  ·have hc:=df hc
   refine ex_exit (xq ?_)
   refine exr (aV L rfl (zn [(4,_)] [] t1 trivial (ex_ret ?_)))
   refine ⟨.inr rfl,ResVs.cast (.cons (.tmp rfl) .nil) ?_⟩
   rw [decide_eq_true (getD_extT hl (fun i hi=>hw i oM))]
theorem rsameM_says (c d:Int)(u v:List (List RQ))(hu:MSm u)(hv:MSm v):Says E 17 [pMR c u,pMR d v] (bZ (decide (c=d∧u=v))):=by
 refine says_of (xs:=[bZ (decide (c=d∧u=v))]) Tryz.func17 rfl Tryz.ntmps17 Tryz.results17 sM fun F hG hX0 hnt hdf P0=>?_
 obtain ⟨L,hX,hN⟩:=pro hnt hX0 hG
 refine exr (swb (c_bx (k:=2) (n:=2) pa2 rfl rfl (P0 _ rfl) L) t1 t0 ⟨rfl,rfl⟩ (swb (c_bx (k:=3) (n:=2) pa2 rfl rfl (P0 _ rfl) L) t1 t0 ⟨rfl,rfl⟩ (aV L rfl (zn [(2,_),(3,_)] [(2,_),(3,_)] t2 t2 ?_))))
 refine exm (sl:=[(4,vb (decide (c=d∧u=v)))]) (sl0:=[]) (hb:=[]) (hb0:=[]) t0 t0 ?_ ?_
 ·by_cases h:c=d
  ·refine sw (c_fa un24 rfl sz3 dC rX L) t1 t1 ?_
   refine sw (c_l1 ag3 rF rF L) t1 t1 ?_
   refine sw (c_fa un24 rfl sz3 dC rX L) t1 t1 ?_
   refine sw (c_l1 ag3 rF rF L) t1 t1 ?_
   refine sw (c_e L) t2 t0 (mV L rfl (swg (g:=10) rfl (by simp [h]) (c_fa un24 rfl sz22 dC rX L) rfl t1 t1 ?_))
   refine swg (g:=10) rfl (by simp [h]) (c_l1 ag22 rF rF L) rfl t1 t1 ?_
   refine swg (g:=10) rfl (by simp [h]) (c_fa un24 rfl sz22 dC rX L) rfl t1 t1 ?_
   refine swg (g:=10) rfl (by simp [h]) (c_l1 ag22 rF rF L) rfl t1 t1 ?_
   refine swg (g:=10) rfl (by simp [h]) (c_c hG hX cl19 rfl hN (rsameR_says u v hu hv) L) rfl t2 t0 ?_
   refine sw (c_pt (by simp [h]) L) t2 t0 ?_
   refine aV L rfl ?_
   exact seq_nil ⟨⟨ob rfl (by simp only [h,true_and]),trivial⟩,trivial⟩
  ·refine sw (c_fa un24 rfl sz3 dC rX L) t1 t1 ?_
   refine sw (c_l1 ag3 rF rF L) t1 t1 ?_
   refine sw (c_fa un24 rfl sz3 dC rX L) t1 t1 ?_
   refine sw (c_l1 ag3 rF rF L) t1 t1 ?_
   refine sw (c_e L) t2 t0 (mV L rfl (swn (g:=10) rfl (by rw [decide_eq_false h] <;> rfl) L rfl ?_))
   refine swn (g:=10) rfl (by rw [decide_eq_false h] <;> rfl) L rfl ?_
   refine swn (g:=10) rfl (by rw [decide_eq_false h] <;> rfl) L rfl ?_
   refine swn (g:=10) rfl (by rw [decide_eq_false h] <;> rfl) L rfl ?_
   refine swn (g:=10) rfl (by rw [decide_eq_false h] <;> rfl) L rfl ?_
   refine sw (c_pf (by rw [decide_eq_false h] <;> rfl) L) t2 t0 ?_
   refine aV L rfl ?_
   exact seq_nil ⟨⟨ob rfl (by simp only [h,false_and,decide_false]),trivial⟩,trivial⟩
 refine ex_ret ?_
 refine ⟨.inr rfl,ResVs.cast (.cons (.tmp rfl) .nil) ?_⟩
 rfl
theorem all_take {α:Type}{p:α→Bool}{v:List α}{k:Nat}{d:α}(h:k<v.length)(h1:(v.take k).all p=true)(h2:p (v.getD k d)=true):(v.take (k+1)).all p=true:=by
 rw [List.take_add_one,List.all_append,h1]
 simpa [List.getD_eq_getElem?_getD,h] using h2
theorem all_no {α:Type}{p:α→Bool}{v:List α}{a:α}(h:a∈v)(h2:p a=false):v.all p=false:=by
 rw [Bool.eq_false_iff]; intro hh
 rw [List.all_eq_true] at hh
 rw [hh a h] at h2; cases h2
theorem risV_says (v:List RQ)(hl:v.length<1000000000)(hs:∀ r∈v,r.sm):Says E 27 [pVR v] (bZ (v.all RQ.is)):=by
 refine says_of (xs:=[bZ (v.all RQ.is)]) Tryz.func27 rfl Tryz.ntmps27 Tryz.results27 sM fun F hG hX0 hnt hdf P0=>?_
 obtain ⟨L,hX,hN⟩:=pro hnt hX0 hG
 refine exr (aV L rfl (zn [(0,_)] [] t1 trivial (ex_seq (exr (aV L rfl (zn [(0,_),(3,_)] [] t2 trivial (ex_block ?_)))))))
 refine exl (α:=Nat) (fun k=>[(3,vi (k:Int))]) (fun k=>[]) (fun k=>k≤v.length∧(v.take k).all RQ.is=true) (fun k=>v.length - k) (0) (sl:=[(0,_)]) (hb:=[]) ?_ ⟨oR,rfl,trivial⟩ t0 ?_
 ·exact ⟨Nat.zero_le _,rfl⟩
 intro k hk
 obtain ⟨hk,hw⟩:=hk
 refine ex_seq (exr (mV L rfl (mV L rfl (sw (c_ln un40 L) t1 t0 (sw (c_ls L) t2 t0 (zn [(0,_),(3,_),(7,_)] [] t3 trivial ?_))))))
 refine ex_if rfl (fun hc=>?_) (fun hc=>?_)
 ·have hc:=dt hc
  have hk2:k<v.length:=by omega
  have hr:=hs _ (gD hk2)
  refine ex_skip (xq ?_)
  refine ex_seq (ex_block (exr (mV L rfl (mV L rfl (sw (core_indexAddrJ un40 sz47 oM oM sM dC L) t2 t0 ?_)))))
  refine sw (c_la ag47 sz47 (getR hk2) rfl L) t1 t0 (cK hG hX cl36 hN (rqis_says hr.1 hr.2.1 hr.2.2) L t1 (sw (c_no L) t1 t0 (zn [(0,_),(3,_),(15,_)] [] t3 trivial ?_)))
  refine ex_if rfl (fun he=>?_) (fun he=>?_)
  ·have he:(v.getD k default).is=false:=by simpa using he
   refine exr (aV L rfl (zn [(2,_)] [] t1 trivial (ex_ret ?_)))
   refine ⟨.inr rfl,ResVs.cast (.cons (.tmp rfl) .nil) ?_⟩
   rw [all_no (gD hk2) he]
  ·have he:(v.getD k default).is=true:=by simpa using he
   refine ex_skip (xq ?_)
   refine exr0 (mV L rfl (sw (c_ad L (w64 oM oM)) t2 t0 (aV L rfl (seq_nil ?_))))
   exact ⟨k+1,⟨by omega,all_take hk2 hw he⟩,by omega,le_of ⟨oR,rfl,trivial⟩ trivial⟩
 ·have hc:=df hc
  refine ex_exit (xq ?_)
  refine exr (aV L rfl (zn [(2,_)] [] t1 trivial (ex_ret ?_)))
  refine ⟨.inr rfl,ResVs.cast (.cons (.tmp rfl) .nil) ?_⟩
  rw [show k=v.length by omega,List.take_length] at hw; rw [hw]
theorem rmis_says (c:Int)(m:List (List RQ))(hm:MSm m):Says E 15 [pMR c m] (bZ (isM c m)):=by
 refine says_of (xs:=[bZ (isM c m)]) Tryz.func15 rfl Tryz.ntmps15 Tryz.results15 sM fun F hG hX0 hnt hdf P0=>?_
 obtain ⟨L,hX,hN⟩:=pro hnt hX0 hG
 have hl:=hm.1
 refine exr (swb (c_bx (k:=1) (n:=2) pa2 rfl rfl (P0 _ rfl) L) t1 t0 ⟨rfl,rfl⟩ (aV L rfl (zn [(1,_)] [(1,_)] t1 t1 (ex_seq ?_))))
 refine exm (sl:=[(17,vb (!decide (m.length≤400∧0≤c∧c≤60)))]) (sl0:=[(1,_)]) (hb:=[]) (hb0:=[(1,_)]) t1 t1 ?_ ?_
 ·rcases (by omega:c<0∨0≤c∧60<c∨0≤c∧c≤60) with h | h | h
  ·refine sw (c_fa un24 rfl sz3 dC rX L) t1 t1 ?_
   refine sw (c_l1 ag3 rF rF L) t1 t1 ?_
   refine sw (c_ls L) t2 t0 (mV L rfl (swn (g:=7) rfl sO L rfl (swn (g:=7) rfl sO L rfl (swn (g:=7) rfl sO L rfl (sw (c_pt sO L) t2 t0 (mV L rfl (swn (g:=12) rfl rfl L rfl (swn (g:=12) rfl rfl L rfl (swn (g:=12) rfl rfl L rfl (swn (g:=12) rfl rfl L rfl (sw (c_pt rfl L) t2 t0 ?_)))))))))))
   exact seq_nil ⟨⟨ob rfl sO,rfl,trivial⟩,t1⟩
  ·refine sw (c_fa un24 rfl sz3 dC rX L) t1 t1 ?_
   refine sw (c_l1 ag3 rF rF L) t1 t1 ?_
   refine sw (c_ls L) t2 t0 (mV L rfl (swg (g:=7) rfl sO (c_fa un24 rfl sz3 dC rX L) rfl t1 t1 ?_))
   refine swg (g:=7) rfl sO (c_l1 ag3 rF rF L) rfl t1 t1 ?_
   refine swg (g:=7) rfl sO (c_gt L) rfl t2 t0 (sw (c_pf sO L) t2 t0 (mV L rfl (swn (g:=12) rfl sO L rfl (swn (g:=12) rfl sO L rfl (swn (g:=12) rfl sO L rfl (swn (g:=12) rfl sO L rfl (sw (c_pt sO L) t2 t0 ?_)))))))
   exact seq_nil ⟨⟨ob rfl sO,rfl,trivial⟩,t1⟩
  ·refine sw (c_fa un24 rfl sz3 dC rX L) t1 t1 ?_
   refine sw (c_l1 ag3 rF rF L) t1 t1 ?_
   refine sw (c_ls L) t2 t0 (mV L rfl (swg (g:=7) rfl sO (c_fa un24 rfl sz3 dC rX L) rfl t1 t1 ?_))
   refine swg (g:=7) rfl sO (c_l1 ag3 rF rF L) rfl t1 t1 ?_
   refine swg (g:=7) rfl sO (c_gt L) rfl t2 t0 (sw (c_pf sO L) t2 t0 (mV L rfl (swg (g:=12) rfl sO (c_fa un24 rfl sz22 dC rX L) rfl t1 t1 ?_)))
   refine swg (g:=12) rfl sO (c_l1 ag22 rF rF L) rfl t1 t1 ?_
   refine swg (g:=12) rfl sO (c_ln un22 L) rfl t1 t0 (swg (g:=12) rfl sO (c_gt L) rfl t2 t0 (sw (c_pf sO L) t2 t0 ?_))
   exact seq_nil ⟨⟨ob rfl (by rw [Bool.eq_iff_iff]; simp; omega),rfl,trivial⟩,t1⟩
 refine ex_if rfl (fun hc=>?_) (fun hc=>?_)
 ·refine exr (aV L rfl (zn [(2,_)] [] t1 trivial (ex_ret ?_)))
  refine ⟨.inr rfl,ResVs.cast (.cons (.tmp rfl) .nil) ?_⟩
  simp only [isM]; rw [show decide (m.length≤400∧0≤c∧c≤60)=false by simpa only [Bool.not_eq_true'] using hc]; rfl
 ·have hd:decide (m.length≤400∧0≤c∧c≤60)=true:=by simpa only [Bool.not_eq_false'] using hc
  refine ex_skip (xq ?_)
  refine ex_seq (exr (aV L rfl (zn [(1,_),(3,_)] [(1,_)] t2 t1 (ex_block ?_))))
  refine exl (α:=Nat) (fun k=>[(3,vi (k:Int))]) (fun k=>[]) (fun k=>k≤m.length∧(m.take k).all (rowOk c)=true) (fun k=>m.length - k) (0) (sl:=[(1,_)]) (hb:=[(1,_)]) ?_ ⟨oR,rfl,trivial⟩ t1 ?_
  ·exact ⟨Nat.zero_le _,rfl⟩
  intro k hk
  obtain ⟨hk,hw⟩:=hk
  refine ex_seq (exr (mV L rfl (sw (c_fa un24 rfl sz22 dC rX L) t1 t1 ?_)))
  refine sw (c_l1 ag22 rF rF L) t1 t1 ?_
  refine sw (c_ln un22 L) t1 t0 (sw (c_ls L) t2 t0 (zn [(1,_),(3,_),(22,_)] [(1,_)] t3 t1 ?_))
  refine ex_if rfl (fun hc=>?_) (fun hc=>?_)
  ·have hc:=dt hc
   have hk2:k<m.length:=by omega
   have hr:=hm.2 _ (gDL hk2)
   refine ex_skip (xq ?_)
   refine ex_seq (ex_block ?_)
   refine exmd (sl:=[(42,vb (!rowOk c (m.getD k [])))]) (sl0:=[(1,_),(3,_)]) (hb:=[]) (hb0:=[(1,_)]) rF t2 t1 ?_ ?_
   ·by_cases h:((m.getD k []).length:Int)=c
    ·refine sw (c_fa un24 rfl sz22 dC rX L) t1 t1 ?_
     refine sw (c_l1 ag22 rF rF L) t1 t1 ?_
     refine mV L rfl (sw (ixJ un22 sz40 (j:=k) rO oM sM L) t2 t0 ?_)
     refine sw (c_li ag40 (getMR hk2) L) t1 t0 (sw (c_ln un40 L) t1 t0 (sw (c_fa un24 rfl sz3 dC rX L) t1 t1 ?_))
     refine sw (c_l1 ag3 rF rF L) t1 t1 ?_
     refine sw (c_n L) t2 t0 (mV L rfl (swg (g:=34) rfl (by rw [h]; simp) (c_fa un24 rfl sz22 dC rX L) rfl t1 t1 ?_))
     refine swg (g:=34) rfl (by rw [h]; simp) (c_l1 ag22 rF rF L) rfl t1 t1 ?_
     refine gV (g:=34) rfl (by rw [h]; simp) L rfl rfl ?_
     refine swg (g:=34) rfl (by rw [h]; simp) (ixJ un22 sz40 (j:=k) rO oM sM L) rfl t2 t0 ?_
     refine swg (g:=34) rfl (by rw [h]; simp) (c_li ag40 (getMR hk2) L) rfl t1 t0 ?_
     refine swg (g:=34) rfl (by rw [h]; simp) (c_c hG hX cl27 rfl hN (risV_says (m.getD k []) hr.1 hr.2) L) rfl t1 t0 ?_
     refine swg (g:=34) rfl (by rw [h]; simp) (c_no L) rfl t1 t0 ?_
     refine sw (c_pf (by rw [h]; simp) L) t2 t0 ?_
     exact seq_nil ⟨aoks [⟨[1],[1],[25],[]⟩,⟨[25],[1],[26],[]⟩,⟨[3],[],[27],[]⟩,⟨[26,27],[],[28],[]⟩,⟨[28],[],[29],[]⟩,⟨[29],[],[30],[]⟩,⟨[1],[1],[31],[]⟩,⟨[31],[1],[32],[]⟩,⟨[30,32],[],[33],[]⟩,⟨[33],[],[34],[]⟩,⟨[34,1],[1],[35],[]⟩,⟨[34,35],[1],[36],[]⟩,⟨[34,3],[],[37],[]⟩,⟨[34,36,37],[],[38],[]⟩,⟨[34,38],[],[39],[]⟩,⟨[34,39],[],[40],[]⟩,⟨[34,40],[],[41],[]⟩,⟨[34,41],[],[42],[]⟩] rF rF dC,⟨ob rfl (by rw [rowOk,h]; simp),rfl,rfl,trivial⟩,t1⟩
    ·refine sw (c_fa un24 rfl sz22 dC rX L) t1 t1 ?_
     refine sw (c_l1 ag22 rF rF L) t1 t1 ?_
     refine mV L rfl (sw (ixJ un22 sz40 (j:=k) rO oM sM L) t2 t0 ?_)
     refine sw (c_li ag40 (getMR hk2) L) t1 t0 (sw (c_ln un40 L) t1 t0 (sw (c_fa un24 rfl sz3 dC rX L) t1 t1 ?_))
     refine sw (c_l1 ag3 rF rF L) t1 t1 ?_
     refine sw (c_n L) t2 t0 (mV L rfl (swn (g:=34) rfl (by rw [decide_eq_false h] <;> rfl) L rfl ?_))
     refine swn (g:=34) rfl (by rw [decide_eq_false h] <;> rfl) L rfl ?_
     refine swn (g:=34) rfl (by rw [decide_eq_false h] <;> rfl) L rfl ?_
     refine swn (g:=34) rfl (by rw [decide_eq_false h] <;> rfl) L rfl ?_
     refine swn (g:=34) rfl (by rw [decide_eq_false h] <;> rfl) L rfl ?_
     refine swn (g:=34) rfl (by rw [decide_eq_false h] <;> rfl) L rfl ?_
     refine swn (g:=34) rfl (by rw [decide_eq_false h] <;> rfl) L rfl ?_
     refine sw (c_pt (by rw [decide_eq_false h] <;> rfl) L) t2 t0 ?_
     exact seq_nil ⟨aoks [⟨[1],[1],[25],[]⟩,⟨[25],[1],[26],[]⟩,⟨[3],[],[27],[]⟩,⟨[26,27],[],[28],[]⟩,⟨[28],[],[29],[]⟩,⟨[29],[],[30],[]⟩,⟨[1],[1],[31],[]⟩,⟨[31],[1],[32],[]⟩,⟨[30,32],[],[33],[]⟩,⟨[33],[],[34],[]⟩,⟨[34],[],[35],[]⟩,⟨[34],[],[36],[]⟩,⟨[34],[],[37],[]⟩,⟨[34],[],[38],[]⟩,⟨[34],[],[39],[]⟩,⟨[34],[],[40],[]⟩,⟨[34],[],[41],[]⟩,⟨[34],[],[42],[]⟩] rF rF dC,⟨ob rfl (by rw [rowOk,decide_eq_false h]; rfl),rfl,rfl,trivial⟩,t1⟩
   refine ex_if rfl (fun he=>?_) (fun he=>?_)
   ·have he:rowOk c (m.getD k [])=false:=by simpa using he
    refine exr (aV L rfl (zn [(2,_)] [] t1 trivial (ex_ret ?_)))
    refine ⟨.inr rfl,ResVs.cast (.cons (.tmp rfl) .nil) ?_⟩
    rw [isM,hd,all_no (gDL hk2) he]; rfl
   ·have he:rowOk c (m.getD k [])=true:=by simpa using he
    refine ex_skip (xq ?_)
    refine exr0 (mV L rfl (sw (c_ad L (w64 oM oM)) t2 t0 (aV L rfl (seq_nil ?_))))
    exact ⟨k+1,⟨by omega,all_take hk2 hw he⟩,by omega,le_of ⟨oR,rfl,trivial⟩ t1⟩
  ·have hc:=df hc
   refine ex_exit (xq ?_)
   refine exr (aV L rfl (zn [(2,_)] [] t1 trivial (ex_ret ?_)))
   refine ⟨.inr rfl,ResVs.cast (.cons (.tmp rfl) .nil) ?_⟩
   rw [show k=m.length by omega,List.take_length] at hw; rw [isM,hd,hw]; rfl
end Go.Proofs.YtjagfionflbjbaaGreat.N
