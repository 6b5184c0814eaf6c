/- Part E of the proof: lemmas for the walks of the given functions. No statement of its own. -/
import Derived.ChangeSame
import Derived.ChangeVars
import Derived.JoinedOf
import Derived.RowKit
import Derived.RowKitTokens
import Derived.LaidLaws
import Derived.LaidHandle
import Derived.Carry
import Derived.OpenShut
import Derived.Lib.SmallJoins
import Derived.Lib.LaidTab
import Derived.Lay
import Derived.LaidMore
import Derived.MakeChecks
import Derived.Stop.LaidErr
import Derived.ProofKit
import Derived.Test.YtjagfionflbjbaaGreatRows
import Derived.Test.YtjagfionflbjbaaGreatPD
set_option linter.unusedVariables false
set_option linter.unusedSimpArgs false
set_option linter.deprecated false
set_option maxRecDepth 100000
set_option maxHeartbeats 4000000
namespace Go.Proofs.YtjagfionflbjbaaGreat.N
open Go Go.Proofs.YtjagfionflbjbaaGreat.SH Go.Proofs.YtjagfionflbjbaaGreat.NumA
open Go.Proofs.Tryz renaming call55→cl55,call89→cl89,isAgg22→ag22,isAgg3→ag3,isAgg40→ag40,isAgg47→ag47,isAgg73→ag73,isAgg77→ag77,sizeOf22→sz22,sizeOf3→sz3,sizeOf40→sz40,sizeOf47→sz47,sizeOf77→sz77,typeInfo40→ti40,underlying22→un22,underlying24→un24,underlying27→un27,underlying77→un77,underlying79→un79,zeroValue3→zv3,zeroValue47→zv47,zeroValue79→zv79
theorem G0d {M:List (List Rat)}{i:Nat}(h:i<M.length):M.take (i+1)=M.take i++[M.getD i []]:=by
 rw [I1]; congr 1; simp [f0,h]
theorem m0w (s:Bool)(n cols:Nat)(M b:List (List Rat))(hM:RC n cols M)(hn:n<1000)(hc:cols<1000):K4 E (fun _=>false) 50 [.p (.agg [vZ cols,.sl n (P5 M)]),bv s n] (bsT s b) ([wU cols M (bv s n)]++n5 s M b) (.at_ 999 0 3):=by
 refine w0g Tryz.func50 rfl Tryz.ntmps50 Tryz.results50 sM fun F G=>?_
 have L:=@lti _ _ G.nt
 have hG:=G.g
 have hX:=G.x
 have hN:=R5 hG
 have P0:∀ k,Nat.blt k 1000=true→F.pin k=none:=fun k hk=>G.p0 k ((s5 s b).low k hk)
 obtain ⟨rfl,hMc⟩:=hM
 refine exr (swb (U3 (k:=989) (n:=2) pa2 rfl rfl (P0 _ rfl) L) t1 t0 (frT [] (s5 s b) rfl rfl (by simp [I3,X2,Cells.free,PV.freeL,PV.free,V3,i3])) ?_)
 refine aV L rfl ?_
 refine O1 ⟨[(1,_),(2,_)],(989,_) :: ((bsT s b)),t2,⟨rfl,(hbT [_] (s5 s b) rfl)⟩,?_⟩
 refine exr (sw (Z1 un24 rfl sz3 dC rX L) t1 t1 ?_)
 refine sw (Y1 ag3 rF rF L) t1 t1 ?_
 refine mV L rfl (sw (h0j (vs:=[_,_]) un79 zv79 (.cons rfl (.cons rfl (.cons rfl .nil))) ((J2.cons sz77 (J2.cons sz3 (J2.cons sz77 J2.nil)))).to rfl (.cons rfl (.atom rfl) rfl (.skip pu1) (.cons rfl H1s rfl (.skip (.skip pu1)) .nil)) L) t2 t0 (swb (U3 (k:=999) (n:=3) .agg rfl (by simp [PV.freeL,PV.free]) (P0 _ rfl) L) t1 t0 (frT [_] (s5 s b) rfl rfl (by simp [I3,X2,Cells.free,PV.freeL,PV.free,V3,i3])) ?_))
 refine aV L rfl ?_
 refine O1 ⟨[(2,_),(5,_)],(989,_) :: (999,_) :: ((bsT s b)),t2,⟨rfl,rfl,(hbT [_,_] (s5 s b) rfl)⟩,?_⟩
 refine R1 (exr (sw (Z1 un24 rfl sz22 dC rX L) t1 t1 ?_))
 refine sw (Y1 ag22 rF rF L) t1 t1 ?_
 refine sw (U2 un22 L) t1 t0 (mV L rfl ?_)
 refine O1 ⟨[(5,_),(14,_),(15,_),(16,_)],(999,_) :: ((bsT s b)),t4,⟨rfl,(hbT [_,_] (s5 s b) rfl)⟩,?_⟩
 refine V1 ?_
 refine H0h (α:=Nat) (fun i=>[(16,vi (i:Int))]) (fun i=>[(999,(wU cols (M.take i) (bv s M.length)).2)]) (fun i=>(n5 s (M.take i) b)) (fun i=>i≤M.length) (fun i=>M.length - i) (0) (sl:=[(5,_),(14,_),(15,_)]) (hb:=[]) ?_ ⟨oR,rfl,rfl,rfl,trivial⟩ ⟨rfl,(hbT [_] (s5 s b) rfl)⟩ ?_
 ·exact Nat.zero_le _
 intro i hi
 refine exr (sw (W3 L) t2 t0 ?_)
 refine O1 ⟨[(5,_),(14,_),(15,_),(16,_),(17,_)],(999,_) :: ((n5 s (M.take i) b)),t5,⟨rfl,(hbT [_] (w6 s (M.take i) b) rfl)⟩,?_⟩
 refine R1 ?_
 refine i2 rfl (fun hc=>?_) (fun hc=>?_)
 ·have hc2:=dt hc
  have hil:i<M.length:=by omega
  refine U1 (xq ?_)
  refine R1 (V1 (exr (sw (ixJ un22 sz40 (j:=i) rO oM sM L) t2 t0 ?_)))
  refine sw (d4 ag40 (by rw [v7 hil]) L) t1 t0 ?_
  refine aV L rfl ?_
  refine O1 ⟨[(5,_),(7,_),(14,_),(15,_),(16,_)],(999,_) :: ((n5 s (M.take i) b)),t5,⟨rfl,(hbT [_] (w6 s (M.take i) b) rfl)⟩,?_⟩
  obtain ⟨v,hv⟩:∃ v,v=M.getD i []:=⟨_,rfl⟩
  obtain ⟨cs,hcs⟩:∃ cs,cs=P4 0 0 (M.take i):=⟨_,rfl⟩
  have hvl:v.length=cols:=by rw [hv]; exact hMc _ (f0f hil)
  have htl:(M.take i).length=i:=by rw [J0]; omega
  have hcl:cs.length=i:=by rw [hcs,E2,htl]
  have hts:=G0d hil
  rw [← hv] at hts ⊢
  have hcs2:P4 0 0 (M.take (i+1))=cs++[.ref (G3 0 i) 0 v.length (v.length*4)]:=by rw [hts,k0f,← hcs,htl,F1]
  have hp1:F.pin 1001=none:=G.ps _ rfl
  have hp2:F.pin (G3 0 i)=none:=G.ps _ rfl
  show Z3 _ _ _ ⟨_,[(999,⟨79,3,.mix [rvV 1001 (P4 0 0 (M.take i)),.p (vZ cols),bv s M.length]⟩)]++n5 s (M.take i) b⟩ _
  rw [← hcs]
  have nf:∀ k,k<1001→X2 k (n5 s (M.take i) b)=true:=fun k hk=>v0k (fun q _=>by simp only [G3]; omega) (fun q=>by simp only [G3]; omega)
  have nfi:X2 (G3 0 i) (n5 s (M.take i) b)=true:=v0k (fun q hq=>B0h oM) (fun q=>d1s i q)
  have nli:(n5 s (M.take i) b).lookup (G3 0 i)=none:=Y0y (fun q hq=>B0h oM) (fun q=>d1s i q) (fun h=>by simp only [G3] at h; omega) (by simp only [G3]; omega)
  have nf1:X2 1001 (n5 s (M.take i) b)=true:=v0k (fun q _=>by unfold G3; omega) (fun q=>by unfold G3; omega)
  have nl:∀ k,k<1000→(n5 s (M.take i) b).lookup k=none:=fun k hk=>(w6 s (M.take i) b).low k (by simpa [Nat.blt_eq] using hk)
  have h27:G3 0 i≠27∧G3 0 i≠999∧G3 0 i≠1001∧G3 0 i≠1002:=by simp only [G3]; omega
  refine d0g rF ?_
  refine mV L rfl (mV L rfl (sw (Z2 rX L) t1 t1 ?_))
  refine sw (Z1 un79 rfl sz77 dC rX L) t1 t1 ?_
  refine sw (Y1 ag77 rF rF L) t1 t1 ?_
  refine mV L rfl ?_
  refine swb (g1b (k:=G3 0 i) hG hX cl89 rfl hN (Q0h v oM) hp2 L) t1 t0 ⟨?_,?_⟩ ?_
  ·show ([(999,_)]++n5 s (M.take i) b).lookup (G3 0 i)=none
   rw [T1,i0,show (G3 0 i == 999)=false by simpa using h27.2.1]; exact nli
  ·show (I3 (G3 0 i) _ && X2 (G3 0 i) ([(999,_)]++n5 s (M.take i) b))=true
   have hcf:PV.freeL (G3 0 i) cs=true:=by rw [hcs]; exact m0s fun q hq=>B0h oM
   rw [J4,nfi]
   simp [I3,X2,Cells.free,PV.freeL,PV.free,h0m (cs:=cs) (Ne.symm h27.2.2.1),N0x (s:=s) (n:=M.length) (Ne.symm h27.2.2.2),Ne.symm h27.2.1]
  refine swb (W1c (k:=27) (vs:=[_]) un77 ti40 rfl rfl dC dC rfl (M2 (.cons rfl .nil) rfl) rfl (.cons rfl .ref rfl pu1 .nil) rfl (by simp [PV.freeL,PV.free,h27.1]; rfl) (P0 _ rfl) L) t1 t0 ⟨?_,?_⟩ ?_
  ·show (List.lookup 27 ((G3 0 i,_) :: ([(999,_)]++n5 s (M.take i) b)))=none
   rw [i0,show (27 == G3 0 i)=false by simpa using Ne.symm h27.1,T1,i0]; exact nl 27 dC
  ·show (I3 27 _ && X2 27 ((G3 0 i,_) :: ([(999,_)]++n5 s (M.take i) b)))=true
   simp only [X2,J4,nf 27 dC]
   simp [I3,Cells.free,PV.freeL,PV.free,h0m (k:=1001) (q:=27) (cs:=cs) dC,h27.1]
  refine swA (n1a (k:=1001) (j:=27) (cs:=cs) (u:=.ref (G3 0 i) 0 v.length (v.length*4)) un77 un77 ti40 rfl rfl rfl (by simp [PV.free,h27.2.2.1]) (by simp [Tryz.t40]; omega) oM hp1 L) t2 ?_ ?_ ?_
  ·refine D0b ?_ t1
   rw [hcs]
   exact b2g (pre:=[_,_,_]) (fun B hB=>by simp [Ne.symm h27.2.2.1] at hB)
  ·cases hcs0:cs with
   | cons a l=>trivial
   | nil =>
    have hM0:M.take i=[]:=List.length_eq_zero_iff.1 (by rw [htl,← hcl,hcs0]; rfl)
    refine ⟨?_,?_⟩
    ·show (List.lookup 1001 ((27,_) :: (G3 0 i,_) :: ([(999,_)]++n5 s (M.take i) b)))=none
     rw [F8 dC,F8 (Ne.symm h27.2.2.1),T1,F8 dC]
     exact Y0y (fun q _=>by unfold G3; omega) (fun q=>by unfold G3; omega) (fun _=>hM0) dC
    ·show (I3 1001 _ && X2 1001 ((27,_) :: (G3 0 i,_) :: ([(999,_)]++n5 s (M.take i) b)))=true
     simp only [X2,J4,nf1]
     simp [I3,Cells.free,PV.freeL,PV.free,rvV,h27.2.2.1,B1m]
  refine sw (Z2 rX L) t1 t1 ?_
  refine sw (Z1 un79 rfl sz77 dC rX L) t1 t1 ?_
  refine sb (Y2 sz77 rF .ref rfl pu1) t2 t1 ?_
  refine O1 ⟨Y1s cls (cgB i) [⟨[5],[],[20],[]⟩,⟨[5],[],[21],[]⟩,⟨[21],[999],[22],[]⟩,⟨[22],[999],[23],[]⟩,⟨[23],[999],[24],[]⟩,⟨[7],[],[25],[]⟩,⟨[25],[],[26],[1000]⟩,⟨[26],[],[27],[27]⟩,⟨[24,27],[1000,27],[28],[1000]⟩,⟨[20],[999],[29],[]⟩,⟨[29],[999],[30],[]⟩,⟨[30,28],[999],[],[999]⟩] [([],[999]),([],[999]),([],[999]),([],[999]),([],[1001]),([],[]),([2000],[2000]),([27],[27,2000]),([1001],[1001,1003,2000]),([],[999]),([],[999]),([],[999,1001,1002])] (.cons (cf0 rfl) (.cons (cf0 rfl) (.cons (cf0 rfl) (.cons (cf0 rfl) (.cons (cf0 rfl) (.cons (cf0 rfl) (.cons ?_ (.cons (cf0 rfl) (.cons ?_ (.cons (cf0 rfl) (.cons (cf0 rfl) (.cons (cf0 rfl) .nil)))))))))))) (.cons ?_ (.cons ?_ (.cons ?_ (.cons ?_ (.cons ?_ (.cons ?_ (.cons ?_ (.cons ?_ (.cons ?_ (.cons ?_ (.cons ?_ (.cons ?_ .nil)))))))))))) ?_ dC dC,(show Z3 _ _ _ _ _ from exw (sl:=[(5,_),(14,_),(15,_),(16,_)]) (hb:=(wU cols (M.take (i+1)) (bv s M.length)) :: (n5 s (M.take (i+1)) b)) t4 ⟨?_,?_⟩ ?_)⟩
  ·exact ⟨fun k hk=>(by injection hk with hk; subst hk; simp),rfl,fun _ h=>(by cases h),rfl,I8 (B5 0 i)⟩
  ·refine ⟨fun k hk=>by rw [(b1y hk).1]; rfl,rfl,fun p hp=>?_,rfl,I8 dC⟩
   rcases List.mem_append.1 hp with hp | hp
   ·rw [k1d hp]; decide
   ·obtain rfl:=List.mem_singleton.1 hp
    show cls 27∈[1000,27]
    decide
  ·exact q1n dC
  ·exact q1n dC
  ·exact q1n dC
  ·exact q1n dC
  ·exact b2c
  ·exact mkP
  ·exact mkN
  ·exact mkS dC
  ·rw [hcs]; exact mkH htl
  ·exact q1n dC
  ·exact q1n dC
  ·exact mkW
  ·intro k hk
   show (I3 k _ && X2 k ([(999,_)]++n5 s (M.take i) b))=true
   simp only [d7,Option.toList_none,Option.toList_some,List.nil_append,List.append_nil,List.mem_append,List.mem_singleton,Option.mem_toList] at hk
   rw [J4]
   rcases hk with rfl | rfl | hk
   ·rw [nfi]; simp [I3,X2,Cells.free,PV.freeL,PV.free,h0m (cs:=cs) (Ne.symm h27.2.2.1),N0x (s:=s) (n:=M.length) (Ne.symm h27.2.2.2),Ne.symm h27.2.1]
   ·rw [nf 27 dC]; simp [I3,X2,Cells.free,PV.freeL,PV.free,h0m (k:=1001) (q:=27) (cs:=cs) dC]
   ·obtain ⟨rfl,h0⟩:=b1y hk
    rw [nf1,h0]; simp [I3,X2,Cells.free,PV.freeL,PV.free,rvV]
  ·rw [hcs2,K1h]; rfl
  ·rw [hts,hcs]; exact N1n htl
  refine s3 (sw (F3 L (w64 oM oM)) t2 t0 (mV L rfl (O1 ?_)))
  exact ⟨i+1,oM,by omega,j3 ⟨oR,rfl,rfl,rfl,trivial⟩ ⟨rfl,(hbT [_] (w6 s (M.take (i+1)) b) rfl)⟩⟩
 ·have hc2:=df hc
  have e:i=M.length:=by omega
  subst e
  rw [I0]
  refine I2 (xq ?_)
  refine exr (mV L rfl (aV L rfl ?_))
  refine O1 ⟨[(4,_)],(999,_) :: ((n5 s M b)),t1,⟨rfl,(hbT [_] (w6 s M b) rfl)⟩,?_⟩
  refine X1 ?_
  refine ⟨.inr rfl,rfl,⟨rfl,hbT [_] (w6 s M b) rfl⟩⟩
@[simp] theorem Q1n {k q:Nat}{cs:List PV}(h:k≠q):(rvV k cs).free q=true:=h0m h
theorem j1p {sl:List (Nat×PV)}{pre pre' T:List (Nat×Blk)}(hT:G5 T)(hp:Z5 pre=true)(hb:K5 ⟨[],pre⟩ pre'):j0p ⟨sl,pre++T⟩ [] (pre'++T):=by
 refine q0c fun p hp2=>⟨rfl,?_⟩
 show (pre++T).lookup p.1=_
 rcases List.mem_append.1 hp2 with h | h
 ·rw [T1,q0b hb h]; rfl
 ·have h1:=L5 (j:=p.1) (B:=p.2) hT.nd h
  have h2:pre.lookup p.1=none:=by
   cases e:pre.lookup p.1 with
   | none=>rfl
   | some C =>
    have:=f0h hp e
    rw [hT.low _ (by simpa [Nat.blt_eq] using this)] at h1; cases h1
  rw [T1,h2,l0,h1]
theorem k1n (s:Bool)(n cols:Nat)(b:List (List Rat)):K4 E s8 51 [.at_ 999 0 3] ([wU cols [] (bv s n)]++bsT s b) ([wU cols [] (bv s n)]++bsT s b) (.p (.tup [.sl 0 [],pQ 1])):=by
 refine l4 (xs:=[.sl 0 [],pQ 1]) Tryz.func51 rfl Tryz.ntmps51 Tryz.results51 sM fun F G=>?_
 have L:=@lti _ _ G.nt
 have hG:=G.g
 have hX:=G.x
 have hN:=R5 hG
 have P0:=fun k (hk:(Nat.blt k 1000 && (List.lookup k _).isNone)=true)=>G.p0 k (p0T (s5 s b) hk)
 refine exr (swb (f0r (k:=1) rX rfl (P0 _ rfl) L) t1 t1 (frT [_] (s5 s b) rfl rfl (by simp [I3,X2,Cells.free,PV.freeL,PV.free,V3,i3])) ?_)
 refine aV L rfl (swb (O3 (k:=3) (n:=4) zv47 (.cons rfl (.cons rfl (.cons rfl (.cons rfl .nil)))) rfl (P0 _ rfl) L) t0 t0 (frT [_,_] (s5 s b) rfl rfl (by simp [I3,X2,Cells.free,PV.freeL,PV.free,V3,i3])) ?_)
 refine O1 ⟨[(1,_),(2,_),(3,_)],(1,_) :: (3,_) :: (999,_) :: ((bsT s b)),t3,⟨rfl,rfl,rfl,(hbT [_,_,_] (s5 s b) rfl)⟩,?_⟩
 refine exr (cK hG hX cl55 hN (e7 1 dC dC) L t1 (sb (Y2 sz47 rF pa4 rfl pu4) t2 t1 ?_))
 refine O1 ⟨[(1,_),(2,_),(3,_)],(1,_) :: (3,_) :: (999,_) :: ((bsT s b)),t3,⟨rfl,rfl,rfl,(hbT [_,_,_,_] (s5 s b) rfl)⟩,?_⟩
 refine R1 (exr (swb (O3 (k:=4) (n:=1) zv3 (.cons rfl .nil) rfl (P0 _ rfl) L) t0 t0 (frT [_,_,_] (s5 s b) rfl rfl (by simp [I3,X2,Cells.free,PV.freeL,PV.free,V3,i3])) ?_))
 refine sb (Y2 sz3 rF (.atom rfl) rfl pu1) t2 t1 ?_
 refine O1 ⟨[(1,_),(2,_),(3,_),(4,_)],(1,_) :: (3,_) :: (4,_) :: (999,_) :: ((bsT s b)),t4,⟨rfl,rfl,rfl,rfl,(hbT [_,_,_,_,_] (s5 s b) rfl)⟩,?_⟩
 refine V1 ?_
 refine H0h (α:=Nat) (fun x=>[]) (fun x=>[(4,⟨3,1,.mix [.p (vZ (x:Int))]⟩)]) (fun x=>(bsT s b)) (fun x=>x=0) (fun x=>x) (0) (sl:=[(1,_),(2,_),(3,_),(4,_)]) (hb:=[(1,_),(3,_),(999,_)]) ?_ t4 ⟨rfl,rfl,rfl,rfl,(hbT [_,_,_,_] (s5 s b) rfl)⟩ ?_
 ·rfl
 intro x hx
 subst hx
 by_cases hcc:0<cols
 ·refine R1 (exd rF ?_)
  refine sw (Y1 ag3 rF rF L) t1 t1 ?_
  refine sw (Y1 ag73 rF rF L) t1 t1 ?_
  refine sw (Z2 rX L) t1 t1 ?_
  refine sw (Z1 un79 rfl sz3 dC rX L) t1 t1 ?_
  refine sw (Y1 ag3 rF rF L) t1 t1 ?_
  refine sw (W3 L) t2 t0 (mV L rfl (gV (g:=19) rfl sO L rfl rfl (swg (g:=19) rfl sO (q0q un27 L) rfl t1 t0 (swg (g:=19) rfl sO (Y1 ag73 rF rF L) rfl t1 t1 ?_))))
  refine swg (g:=19) rfl sO (Z2 rX L) rfl t1 t1 ?_
  refine swg (g:=19) rfl sO (Z1 un79 rfl sz77 dC rX L) rfl t1 t1 ?_
  refine swg (g:=19) rfl sO (Y1 ag77 rF rF L) rfl t1 t1 ?_
  refine swg (g:=19) rfl sO (q0q un77 L) rfl t1 t0 (swg (g:=19) rfl sO (W3 L) rfl t2 t0 (sw (Y4 sO L) t2 t0 ?_))
  refine O1 ⟨h0a [⟨[4],[4],[13],[]⟩,⟨[1],[1],[14],[]⟩,⟨[14],[999],[15],[]⟩,⟨[15],[999],[16],[]⟩,⟨[16],[999],[17],[]⟩,⟨[13,17],[],[18],[]⟩,⟨[18],[],[19],[]⟩,⟨[19,2],[],[20],[]⟩,⟨[19,20],[],[21],[]⟩,⟨[19,1],[1],[22],[]⟩,⟨[19,22],[999],[23],[]⟩,⟨[19,23],[999],[24],[]⟩,⟨[19,24],[999],[25],[]⟩,⟨[19,25],[],[26],[]⟩,⟨[19,21,26],[],[27],[]⟩,⟨[19,27],[],[28],[]⟩] (.cons (cf0 rfl) (.cons (cf0 rfl) (.cons (cf0 rfl) (.cons (cf0 rfl) (.cons (cf0 rfl) (.cons (cf0 rfl) (.cons (cf0 rfl) (.cons (cf0 rfl) (.cons (cf0 rfl) (.cons (cf0 rfl) (.cons (cf0 rfl) (.cons (cf0 rfl) (.cons (cf0 rfl) (.cons (cf0 rfl) (.cons (cf0 rfl) (.cons (cf0 rfl)  .nil)))))))))))))))) rfl (frS [] [_,_,_,_] (s5 s b) rfl (by simp [I3,X2,Cells.free,PV.freeL,PV.free,V3,i3])) dC,[(1,_),(2,_),(3,_),(4,_),(28,_)],(1,_) :: (3,_) :: (4,_) :: (999,_) :: ((bsT s b)),t5,⟨rfl,rfl,rfl,rfl,(hbT [_,_,_,_] (s5 s b) rfl)⟩,?_⟩
  refine j4 rfl rfl ?_
  refine I2 (xq ?_)
  refine exd rF ?_
  refine mV L rfl (lp4 ag47 sz47 L rfl rfl (aV L rfl (sb (Y2 sz47 rF pa4 rfl pu4) t2 t1 ?_)))
  refine O1 ⟨h0a [⟨[2],[],[84],[]⟩,⟨[3],[3],[85],[]⟩,⟨[84],[],[2],[]⟩,⟨[3,85],[3],[],[3]⟩] (.cons (cf0 rfl) (.cons (cf0 rfl) (.cons (cf0 rfl) (.cons (cf0 rfl)  .nil)))) rfl (frS [] [_,_,_,_] (s5 s b) rfl (by simp [I3,X2,Cells.free,PV.freeL,PV.free,V3,i3])) dC,[(2,_),(3,_)],(3,_) :: (999,_) :: ((bsT s b)),t2,⟨rfl,rfl,(hbT [_,_,_,_,_] (s5 s b) rfl)⟩,?_⟩
  refine O4 [] (sl:=[(2,.p (.sl 0 [])),(3,.at_ 3 0 4)]) (hb:=[(3,bQ 1),wU cols [] (bv s n)]++bsT s b) (g0h rfl) ⟨⟨_,rfl,.p .nil⟩,⟨_,rfl,.same⟩,trivial⟩ (j1p (pre:=[_,_]) (s5 s b) rfl t2) (X1 ?_)
  exact ⟨.inr rfl,.cons (.tmp rfl) (.cons (.agg rfl rfl rfl ag47 sz47 (.cons (.cons (.cons (.cons .nil))))) .nil),rfl,hbT [_,_] (s5 s b) rfl⟩
 ·refine R1 (exd rF ?_)
  refine sw (Y1 ag3 rF rF L) t1 t1 ?_
  refine sw (Y1 ag73 rF rF L) t1 t1 ?_
  refine sw (Z2 rX L) t1 t1 ?_
  refine sw (Z1 un79 rfl sz3 dC rX L) t1 t1 ?_
  refine sw (Y1 ag3 rF rF L) t1 t1 ?_
  refine sw (W3 L) t2 t0 (mV L rfl (swn (g:=19) rfl sO L rfl (swn (g:=19) rfl sO L rfl (swn (g:=19) rfl sO L rfl (swn (g:=19) rfl sO L rfl (swn (g:=19) rfl sO L rfl (swn (g:=19) rfl sO L rfl (swn (g:=19) rfl sO L rfl (swn (g:=19) rfl sO L rfl (sw (n4 sO L) t2 t0 ?_))))))))))
  refine O1 ⟨h0a [⟨[4],[4],[13],[]⟩,⟨[1],[1],[14],[]⟩,⟨[14],[999],[15],[]⟩,⟨[15],[999],[16],[]⟩,⟨[16],[999],[17],[]⟩,⟨[13,17],[],[18],[]⟩,⟨[18],[],[19],[]⟩,⟨[19],[],[20],[]⟩,⟨[19],[],[21],[]⟩,⟨[19],[],[22],[]⟩,⟨[19],[],[23],[]⟩,⟨[19],[],[24],[]⟩,⟨[19],[],[25],[]⟩,⟨[19],[],[26],[]⟩,⟨[19],[],[27],[]⟩,⟨[19],[],[28],[]⟩] (.cons (cf0 rfl) (.cons (cf0 rfl) (.cons (cf0 rfl) (.cons (cf0 rfl) (.cons (cf0 rfl) (.cons (cf0 rfl) (.cons (cf0 rfl) (.cons (cf0 rfl) (.cons (cf0 rfl) (.cons (cf0 rfl) (.cons (cf0 rfl) (.cons (cf0 rfl) (.cons (cf0 rfl) (.cons (cf0 rfl) (.cons (cf0 rfl) (.cons (cf0 rfl)  .nil)))))))))))))))) rfl (frS [] [_,_,_,_] (s5 s b) rfl (by simp [I3,X2,Cells.free,PV.freeL,PV.free,V3,i3])) dC,[(1,_),(2,_),(3,_),(4,_),(28,_)],(1,_) :: (3,_) :: (4,_) :: (999,_) :: ((bsT s b)),t5,⟨rfl,rfl,rfl,rfl,(hbT [_,_,_,_] (s5 s b) rfl)⟩,?_⟩
  refine j4 rfl rfl ?_
  refine I2 (xq ?_)
  refine exd rF ?_
  refine mV L rfl (lp4 ag47 sz47 L rfl rfl (aV L rfl (sb (Y2 sz47 rF pa4 rfl pu4) t2 t1 ?_)))
  refine O1 ⟨h0a [⟨[2],[],[84],[]⟩,⟨[3],[3],[85],[]⟩,⟨[84],[],[2],[]⟩,⟨[3,85],[3],[],[3]⟩] (.cons (cf0 rfl) (.cons (cf0 rfl) (.cons (cf0 rfl) (.cons (cf0 rfl)  .nil)))) rfl (frS [] [_,_,_,_] (s5 s b) rfl (by simp [I3,X2,Cells.free,PV.freeL,PV.free,V3,i3])) dC,[(2,_),(3,_)],(3,_) :: (999,_) :: ((bsT s b)),t2,⟨rfl,rfl,(hbT [_,_,_,_,_] (s5 s b) rfl)⟩,?_⟩
  refine O4 [] (sl:=[(2,.p (.sl 0 [])),(3,.at_ 3 0 4)]) (hb:=[(3,bQ 1),wU cols [] (bv s n)]++bsT s b) (g0h rfl) ⟨⟨_,rfl,.p .nil⟩,⟨_,rfl,.same⟩,trivial⟩ (j1p (pre:=[_,_]) (s5 s b) rfl t2) (X1 ?_)
  exact ⟨.inr rfl,.cons (.tmp rfl) (.cons (.agg rfl rfl rfl ag47 sz47 (.cons (.cons (.cons (.cons .nil))))) .nil),rfl,hbT [_,_] (s5 s b) rfl⟩
theorem k1g {b:List (List Rat)}:∀ c,ech [] b c=⟨[],b,[],1⟩
 | 0=>rfl
 | c+1=>by rw [Z8,k1g c]; rfl
structure EU (n cols d B DB:Nat) (m b:List (List Rat)):Prop where
 rc:RC n cols m
 rb:RC n d b
 nl:n<1000
 cl:cols<1000
 dl:d<1000
 b0:0<B
 bl:B<100000000
 dbl:DB+B<1000000000
 me:∀ c,c≤cols→MB B (ech m b c).m
 be:∀ c,c≤cols→MB B (ech m b c).b
 de:∀ c,c≤cols→qw (ech m b c).det≤DB
theorem v0v (s:Bool)(n cols d B DB:Nat)(m b:List (List Rat))(H:EU n cols d B DB m b):K4 E s8 51 [.at_ 999 0 3] ([wU cols m (bv s n)]++n5 s m b) ([wU cols (ech m b cols).m (bv s n)]++n5 s (ech m b cols).m (ech m b cols).b) (.p (.tup [.sl (ech m b cols).pv.length (L6 (ech m b cols).pv),pQ (ech m b cols).det])):=by
 cases m with
 | nil =>
  rw [k1g]
  exact k1n s n cols b
 | cons r m =>
  have h0:0<n:=by have:=H.rc.1; simp at this; omega
  have hm:0<(r :: m).length:=by simp
  have hrc:=G6 H.rc H.rb cols (Nat.le_refl _)
  have hm':0<(ech (r :: m) b cols).m.length:=by rw [hrc.1.1]; exact h0
  have hn:=H.rc.1
  have:=w1c s n cols d B DB (r :: m) b ⟨H.rc,H.rb,h0,H.nl,H.cl,H.dl,H.b0,H.bl,H.dbl,H.me,H.be,H.de⟩
  rw [N0w hm,N0w hm',V1m hm,V1m hm',hrc.1.1,hn]; exact this
end Go.Proofs.YtjagfionflbjbaaGreat.N
namespace Go.Proofs.YtjagfionflbjbaaGreat.SH
open Go Go.RowKit
section
variable {P:Program} {F:Fr} {d:Nat} {T:TypeId} {pos:String} {aft:Array Edge} {g:Option (Nat×Bool)} {t:TypeId}
theorem Y1p {x hi mx:Operand}{n h:Nat}{i:Int}{xs ys:List K2}{e:TypeId}{sz:Nat}{kh km:IntKind}(hu:P.underlying t=some (.slice e))(hsz:∀ w,(sizeOf e).run P w = .ok sz w)(hi':i=(h:Int))(h2:h≤n)(hy:xs.take (h*sz)=ys)(hlt:d<F.nt) :
  O2 P F ⟨some d,.slice t x none (some hi) (some mx),T,pos,aft,g⟩ { rs:=[(x,.p (.sl n xs)),(hi,.p (.a (.int kh i))),(mx,.p (.a (.int km i)))],ws:=[(d,.p (.sl h ys))] }:=by
 subst hi'
 exact s4 rfl hlt rfl rfl fun ρ S a w hS hA=>by
  have hx:=U4 hS (v:=.p (.sl n xs)) (hA.rs (x,_) (by simp))
  simp only [L2,Rel] at hx
  obtain ⟨ad,cap,he,hc,hr⟩:=hx
  have e1:a.eval hi = .int kh h:=F4 hS (hA.rs (hi,_) (by simp))
  have e2:a.eval mx = .int km h:=F4 hS (hA.rs (mx,_) (by simp))
  have b1:(h:Int)≤cap:=by omega
  have hb:(Instr.sliceBounds true n cap none (some (a.eval hi)) (some (a.eval mx))).run P w = .ok (0,h,h) w:=by
   simp_all [Instr.sliceBounds,Instr.sliceBound,asIntOf]
  refine ⟨.slice (if h=0 then ad else ad.map (·.add (0*sz))) h h,?_,?_⟩
  ·simp [execOp,Instr.sliceAt,Instr.slice,run_underlying hu,he,hb,hsz]
  ·simp only [L2,Rel]
   refine ⟨_,_,rfl,Nat.le_refl _,?_⟩
   by_cases hyn:ys=[]
   ·subst hyn; simp [B7]
   ·have hxn:xs≠[]:=fun e=>by subst e; simp at hy; exact hyn (by first | exact hy | exact hy.symm)
    obtain ⟨b,o,rfl,hok,hra⟩:=hr.at hxn
    have h0:0<h:=by
     rcases Nat.eq_zero_or_pos h with e | e
     ·subst e; simp at hy; exact absurd (by first | exact hy | exact hy.symm) hyn
     ·exact e
    rw [if_neg (by omega)]
    have e:(⟨b,o,none⟩:Addr).add (0*sz)=⟨b,o,none⟩:=by unfold Addr.add; split <;> simp_all
    simp only [Option.map_some,e]
    rw [← hy]
    exact B7.of hok (hra.take _)
end
theorem V0k {P:Program}{F:Fr}{ops:Array Oper}{o:Oper}{S S1 S2:St}(h:B0z P F ops o S S1)(hs:∀ t,S2.slot t=S1.slot t)(hb:∀ k,S2.blk k=S1.blk k):B0z P F ops o S S2:=by
 intro a w hS Q K hK
 exact h a w hS Q K fun a' w' h'=>hK a' w' (h'.congr hs hb)
def P0y (l:List (Nat×Blk)):Bool:=l.all fun p=>Nat.blt p.1 900
theorem f0d {l:List (Nat×Blk)}(h:P0y l=true){k:Nat}(hk:900≤k):l.lookup k=none:=by
 cases e:l.lookup k with
 | none=>rfl
 | some B =>
  unfold P0y at h
  rw [s0] at h
  have:=h _ (K3 e)
  simp only [Nat.blt_eq] at this
  omega
theorem F0z {sl:List (Nat×PV)}{pre H:List (Nat×Blk)}:∀ {l:List (Nat×Blk)},K5 ⟨[],pre⟩ l→K5 ⟨sl,pre++H⟩ l
 | [],_=>trivial
 | (k, B) :: l, h => ⟨by
   show (pre++H).lookup k=some B
   rw [T1,show pre.lookup k=some B from h.1]; rfl,F0z h.2⟩
theorem w1q {P:Program}{F:Fr}{ops:Array Oper}{o:Oper}{S S1 S2:St}(h:B0z P F ops o S S1)(hl:St.le S2 S1):B0z P F ops o S S2:=by
 intro a w hS Q K hK
 exact h a w hS Q K fun a' w' ⟨ρ,h'⟩=>hK a' w' ⟨ρ,h'.weakR hl⟩
theorem nsU {E:Env}{st st0:Nat→Bool}{F:Fr}{nt:Nat}(G:GFr E st0 [] nt F)(hng:E.ng≤F.w0.heap.size){ops:Array Oper}{d:Nat}{f:FuncId}{op:Op}{T:TypeId}{pos:String}{aft:Array Edge}{xs:List PV}{sl:List (Nat×PV)}{pre H H':List (Nat×Blk)}{r:PV}{rs:List (Operand×PV)}{os:List Oper}{K:St→Prop}(ks:List Nat)(slR:List (Nat×PV))(hbR:List (Nat×Blk))(hs:K4 E st f xs H H' r)(hlt:d<F.nt)
  (hargs:∀ ρ S a w,V4 F ρ S a w→(∀ p∈rs,S.opd p.1=some p.2)→∃ vals:List Value,(execOp a.eval ⟨some d,op,T,pos,aft,none⟩).run E.P w = .ok (.enter f vals.toArray) w∧C3 S.blk ρ (okI F S.blk ρ) (hp w) xs vals)
  (hr:i8 ⟨sl,pre++H⟩ rs) (hh:∀ k B,H.lookup k=some B→900≤k) (hh':∀ k B,H'.lookup k=some B→900≤k) (nd:(H.map (·.1)).Nodup) (nd':(H'.map (·.1)).Nodup) (hw:Whole H') (hres:∀ q,r.free q=false→H'.lookup q≠none) (h9:ks.contains 999=true→∃ B0 B1,st 999=true∧H.lookup 999=some B0∧H'.lookup 999=some B1∧B1.sz=B0.sz∧B1.cs.len=B0.cs.len)
  (hp:P0y pre=true) (hR:K5 ⟨[],pre⟩ hbR) (hR9:P0y hbR=true) (hsl:b7 ⟨sl,pre++H⟩ slR) (hd:slR.lookup d=none) (ho:(slR.all fun p=>p.2.only ks)=true) (hbo:(hbR.all fun p=>p.2.cs.only ks)=true) (hks:(ks.all fun k=>(hbR.lookup k).isSome || k == 999)=true)
  (hn:g0a E.P F ops os ⟨(d,r) :: slR,hbR++H'⟩ K):g0a E.P F ops (⟨some d,op,T,pos,aft,none⟩ :: os) ⟨sl,pre++H⟩ K:=by
 have hHno:∀ k,k<900→H.lookup k=none:=fun k hk=>by
  cases e:H.lookup k with
  | none=>rfl
  | some B=>have:=hh k B e; omega
 have hHno':∀ k,k<900→H'.lookup k=none:=fun k hk=>by
  cases e:H'.lookup k with
  | none=>rfl
  | some B=>have:=hh' k B e; omega
 have hlt9:∀ k,hbR.lookup k≠none→k<900:=fun k hk=>by
  apply Classical.byContradiction
  intro h
  exact hk (f0d hR9 (by omega))
 refine .cons (V0k (S2:=⟨(d,r) :: slR,hbR++H'⟩) (K1r (H:=H) (H':=H') G.g G.x hng ks slR hbR hs hlt hargs hr (q5 nd fun k B hk=>?_) hsl (F0z hR) hd nd nd' (fun k hk=>⟨hHno k (hlt9 k hk),hHno' k (hlt9 k hk)⟩) hw hres ho (fun k B hk=>by rw [s0] at hbo; exact hbo _ (K3 hk)) (fun k hk=>by
  rw [s0] at hks
  have:=hks k hk
  rw [Bool.or_eq_true,beq_iff_eq] at this
  rcases this with h | h
  ·exact .inl fun e=>by rw [e] at h; cases h
  ·subst h; exact .inr (h9 (by rw [List.contains_iff_mem]; exact hk))) (fun i j hi _ _ hlo=>by rw [G.lo] at hlo; cases hlo) (fun j _ hj=>absurd (G.p0 j rfl) hj)) (fun t=>rfl) (fun k=>?_)) hn
 ·show (pre++H).lookup k=some B
  rw [T1,f0d hp (hh k B hk),l0,hk]
 ·show (hbR++H').lookup k=(H'++hbR).lookup k
  rw [T1,T1]
  cases e:hbR.lookup k with
  | none=>simp
  | some B=>rw [hHno' k (hlt9 k (by rw [e]; simp))]; rfl
theorem Y1z {E:Env}{st st0:Nat→Bool}{F:Fr}{nt:Nat}(G:GFr E st0 [] nt F)(hng:E.ng≤F.w0.heap.size){ops:Array Oper}{d:Nat}{f:FuncId}{op:Op}{T:TypeId}{pos:String}{aft:Array Edge}{xs:List PV}{sl:List (Nat×PV)}{pre H H':List (Nat×Blk)}{r:PV}{rs:List (Operand×PV)}{os:List Oper}{K:St→Prop}(ks:List Nat)(slR:List (Nat×PV))(hbR:List (Nat×Blk))(hs:K4 E st f xs H H' r)(hlt:d<F.nt)
  (hargs:∀ ρ S a w,V4 F ρ S a w→(∀ p∈rs,S.opd p.1=some p.2)→∃ vals:List Value,(execOp a.eval ⟨some d,op,T,pos,aft,none⟩).run E.P w = .ok (.enter f vals.toArray) w∧C3 S.blk ρ (okI F S.blk ρ) (hp w) xs vals)
  (hr:i8 ⟨sl,pre++H⟩ rs) (hh:∀ k B,H.lookup k=some B→900≤k) (hh':∀ k B,H'.lookup k=some B→900≤k) (nd:(H.map (·.1)).Nodup) (nd':(H'.map (·.1)).Nodup) (hw:Whole H') (hres:∀ q,r.free q=false→H'.lookup q≠none) (h9:ks.contains 999=true→∃ B0 B1,st 999=true∧H.lookup 999=some B0∧H'.lookup 999=some B1∧B1.sz=B0.sz∧B1.cs.len=B0.cs.len)
  (hp:P0y pre=true) (hR:K5 ⟨[],pre⟩ hbR) (hR9:P0y hbR=true) (hsl:b7 ⟨sl,pre++H⟩ slR) (hd:slR.lookup d=none) (ho:(slR.all fun p=>p.2.only ks)=true) (hbo:(hbR.all fun p=>p.2.cs.only ks)=true) (hks:(ks.all fun k=>(hbR.lookup k).isSome || k == 999)=true)
  (hn:g0a E.P F ops os ⟨(d,r) :: slR,hbR⟩ K):g0a E.P F ops (⟨some d,op,T,pos,aft,none⟩ :: os) ⟨sl,pre++H⟩ K:=by
 have hlt9:∀ k,hbR.lookup k≠none→k<900:=fun k hk=>by
  apply Classical.byContradiction
  intro h
  exact hk (f0d hR9 (by omega))
 have hHno:∀ k,k<900→H.lookup k=none:=fun k hk=>by
  cases e:H.lookup k with
  | none=>rfl
  | some B=>have:=hh k B e; omega
 have hHno':∀ k,k<900→H'.lookup k=none:=fun k hk=>by
  cases e:H'.lookup k with
  | none=>rfl
  | some B=>have:=hh' k B e; omega
 refine .cons (w1q (S1:=⟨(d,r) :: slR,H'++hbR⟩) (S2:=⟨(d,r) :: slR,hbR⟩) (K1r (H:=H) (H':=H') G.g G.x hng ks slR hbR hs hlt hargs hr (q5 nd fun k B hk=>?_) hsl (F0z hR) hd nd nd' (fun k hk=>⟨hHno k (hlt9 k hk),hHno' k (hlt9 k hk)⟩) hw hres ho (fun k B hk=>by rw [s0] at hbo; exact hbo _ (K3 hk)) (fun k hk=>by
  rw [s0] at hks
  have:=hks k hk
  rw [Bool.or_eq_true,beq_iff_eq] at this
  rcases this with h | h
  ·exact .inl fun e=>by rw [e] at h; cases h
  ·subst h; exact .inr (h9 (by rw [List.contains_iff_mem]; exact hk))) (fun i j hi _ _ hlo=>by rw [G.lo] at hlo; cases hlo) (fun j _ hj=>absurd (G.p0 j rfl) hj)) ⟨fun t v h=>h,fun k B h=>?_⟩) hn
 ·show (pre++H).lookup k=some B
  rw [T1,f0d hp (hh k B hk),l0,hk]
 ·show (H'++hbR).lookup k=some B
  rw [T1,hHno' k (hlt9 k (by rw [show hbR.lookup k=some B from h]; simp)),l0]; exact h
end Go.Proofs.YtjagfionflbjbaaGreat.SH
set_option maxRecDepth 100000
set_option maxHeartbeats 4000000
namespace Go.Proofs.YtjagfionflbjbaaGreat.N
open Go Go.Proofs.YtjagfionflbjbaaGreat.SH Go.Proofs.YtjagfionflbjbaaGreat.NumA
open Go.Proofs.Tryz renaming call13→cl13,call40→cl40,call50→cl50,call51→cl51,call52→cl52,call53→cl53,call54→cl54,call55→cl55,call56→cl56,isAgg22→ag22,isAgg24→ag24,isAgg27→ag27,isAgg3→ag3,isAgg40→ag40,isAgg47→ag47,isAgg77→ag77,sizeOf22→sz22,sizeOf24→sz24,sizeOf27→sz27,sizeOf3→sz3,sizeOf40→sz40,sizeOf45→sz45,sizeOf47→sz47,sizeOf77→sz77,typeInfo40→ti40,underlying22→un22,underlying24→un24,underlying27→un27,underlying40→un40,underlying47→un47,underlying77→un77,underlying79→un79,zeroValue24→zv24,zeroValue27→zv27,zeroValue3→zv3,zeroValue47→zv47
theorem K1f {s:Bool}{m b:List (List Rat)}:∀ k B,(n5 s m b).lookup k=some B→900≤k:=fun k B h=>by
 have:=b0n (w6 s m b) _ (K3 h)
 simp only at this; omega
theorem b1m {s:Bool}{b:List (List Rat)}:∀ k B,(bsT s b).lookup k=some B→900≤k:=fun k B h=>by
 have:=b0n (s5 s b) _ (K3 h)
 simp only at this; omega
theorem q0f {s:Bool}{c:Nat}{m b:List (List Rat)}{v:PV}:∀ k B,([wU c m v]++n5 s m b).lookup k=some B→900≤k:=fun k B h=>by
 rw [List.singleton_append,i0] at h
 by_cases e:k=999
 ·omega
 ·rw [show (k == 999)=false by simpa using e] at h; exact K1f k B h
theorem q0m {s:Bool}{c:Nat}{m b:List (List Rat)}{v:PV}:(([wU c m v]++n5 s m b).map (·.1)).Nodup:=by
 rw [List.singleton_append,R0,List.nodup_cons]
 refine ⟨fun hm=>?_,(w6 s m b).nd⟩
 obtain ⟨⟨q,B⟩,hp,e⟩:=G0.1 hm
 have:=b0n (w6 s m b) _ hp
 simp only at this e; omega
theorem v1n {b:List (List Rat)}:(bsT true b).lookup 1002=some (hdB 1 b):=hdL
theorem p1n {s:Bool}{c n:Nat}{m b:List (List Rat)}:Whole ([wU c m (bv s n)]++n5 s m b):=by
 intro j B hj i x hx q hq
 rw [T1] at hj
 cases e:([wU c m (bv s n)]:List (Nat×Blk)).lookup j with
 | none =>
  rw [e,l0] at hj
  exact B8 ((w6 s m b).whole j B hj i x hx q hq)
 | some C =>
  rw [e,K0] at hj
  injection hj with hj
  subst hj
  obtain rfl:C=(wU c m (bv s n)).2:=by
   simp only [i0,List.lookup_nil] at e
   split at e
   ·injection e with e; exact e.symm
   ·cases e
  have hx:[rvV 1001 (P4 0 0 m),PV.p (vZ c),bv s n][i]? = some x:=hx
  have hm:=M1 hx
  simp only [List.mem_cons,List.not_mem_nil,or_false] at hm
  rcases hm with rfl | rfl | rfl
  ·cases m with
   | nil=>cases hq
   | cons r m =>
    rw [M0m hq]
    refine B8 ?_
    rw [N0w sM,j1n]; simp
  ·cases hq
  ·cases s
   ·cases hq
   ·obtain rfl:1002=q:=by simpa [bv,PV.free] using hq
    refine B8 ?_
    rw [n5,T1,v1n]
    cases (y0q 0 m).lookup 1002 <;> simp
theorem d1y {s:Bool}{c:Nat}{m b:List (List Rat)}{v:PV}:∀ q,(PV.at_ 999 0 3).free q=false→([wU c m v]++n5 s m b).lookup q≠none:=fun q h=>by
 obtain rfl:999=q:=by simpa [PV.free] using h
 simp [i0]
theorem W1x {s:Bool}{c:Nat}{m m' b b':List (List Rat)}{v v':PV}{p:Prop}:p→∃ B0 B1,s8 999=true∧([wU c m v]++n5 s m b).lookup 999=some B0∧([wU c m' v']++n5 s m' b').lookup 999=some B1∧B1.sz=B0.sz∧B1.cs.len=B0.cs.len:=fun _=>⟨_,_,rfl,rfl,rfl,rfl,rfl⟩
def nob (n:Nat):List (List Rat):=List.replicate n []
theorem m0y {n:Nat}:RC n 0 (nob n):=⟨by simp [nob],fun r hr=>by obtain ⟨_,rfl⟩:=List.mem_replicate.1 hr; rfl⟩
theorem n1p (n B DB:Nat)(M:List (List Rat))(h:MOk n M)(hB1:MB B M)(hn:M.length=n)(H:EU n n 0 B DB M (nob n)):K4 E (fun _=>true) 31 [.p (pMq n M)] ([]) ([]) (.p (.tup [pQ (k1k n M (nob n)),vZ 0])):=by
 refine l4 (xs:=[pQ (k1k n M (nob n)),vZ 0]) Tryz.func31 rfl Tryz.ntmps31 Tryz.results31 sM fun F G=>?_
 have L:=@lti _ _ G.nt
 have hG:=G.g
 have hX:=G.x
 have hN:=R5 hG
 have P0:=G.p0
 have hb:=H.bl
 subst hn
 refine exr (swb (U3 (k:=1) (n:=2) pa2 rfl rfl (P0 _ rfl) L) t1 t0 ⟨rfl,rfl⟩ (swb (O3 (k:=2) (n:=4) zv47 (.cons rfl (.cons rfl (.cons rfl (.cons rfl .nil)))) rfl (P0 _ rfl) L) t0 t0 ⟨rfl,rfl⟩ (aV L rfl (zn [(1,_),(2,_)] [(1,_),(2,_)] t2 t2 (R1 (exr (lp2 ag24 sz24 L rfl rfl (cK hG hX cl40 hN (I9 h hB1 oM) L t1 (sw (v4 L) t1 t0 (zn [(1,_),(2,_),(8,_)] [(1,_),(2,_)] t3 t2 (j4 rfl rfl ?_)))))))))))
 refine U1 (xq ?_)
 refine R1 (exr (sw (Z1 un24 rfl sz22 dC rX L) t1 t1 ?_))
 refine sw (Y1 ag22 rF rF L) t1 t1 ?_
 refine sw (U2 un22 L) t1 t0 (sw (Z1 un24 rfl sz3 dC rX L) t1 t1 ?_)
 refine sw (Y1 ag3 rF rF L) t1 t1 ?_
 refine sw (c_n L) t2 t0 (zn [(1,_),(2,_),(15,_)] [(1,_),(2,_)] t3 t2 (j4 rfl sM ?_))
 refine U1 (xq ?_)
 refine n0x (nsw (y6 ag24 sz24 rF (by exact al2) rfl L) t1 t1 ?_)
 refine nsU (pre:=[_,_]) (H:=bsT false (nob M.length)) G hN [1,2] [(1,.at_ 1 0 2),(2,.at_ 2 0 4)] [(1,_),(2,_)] (m0w false M.length M.length M (nob M.length) H.rc H.nl H.cl) L (X4 (ys:=[_,_]) cl50 rfl rfl) t2 b1m q0f (s5 _ _).nd q0m p1n d1y (fun h=>by cases h) rfl t2 rfl t2 rfl rfl rfl rfl ?_
 refine Y1z (pre:=[_,_]) (H:=[wU M.length M (bv false M.length)]++n5 false M (nob M.length)) G hN [1,2] [(1,.at_ 1 0 2),(2,.at_ 2 0 4)] [(1,_),(2,_)] (v0v false M.length M.length 0 B DB M (nob M.length) H) L (X4 (ys:=[_]) cl51 rfl rfl) t1 q0f q0f q0m q0m p1n (fun q h=>by cases h) (fun h=>by cases h) rfl t2 rfl t2 rfl rfl rfl rfl ?_
 refine nsw (c_m L) t1 t0 (nsw (R3 rfl L) t1 t0 (nsw (R3 rfl L) t1 t0 (M1s (O3 (k:=5) (n:=4) zv47 (.cons rfl (.cons rfl (.cons rfl (.cons rfl .nil)))) rfl (P0 _ rfl) L) t0 t0 ⟨rfl,rfl⟩ (nsw (c_a L) t1 t0 (nsb (Y2 sz47 rF pa4 rfl pu4) t2 t1 ?_)))))
 refine .nil ⟨[(1,_),(2,_),(4,_),(5,_)],(1,_) :: (2,_) :: (5,_) :: [],t4,t3,?_⟩
 refine R1 (exr (mV L rfl (sw (U2 un27 L) t1 t0 (sw (Z1 un24 rfl sz3 dC rX L) t1 t1 ?_))))
 refine sw (Y1 ag3 rF rF L) t1 t1 ?_
 refine sw (W3 L) t2 t0 (zn [(2,_),(5,_),(27,_)] [(2,_),(5,_)] t3 t2 ?_)
 refine i2 rfl (fun hc=>?_) (fun hc=>?_)
 ·have hc2:=dt hc
  refine exr (cK hG hX cl55 hN (e7 0 dC dC) L t1 (sb (Y2 sz47 rF pa4 rfl pu4) t2 t1 ?_))
  refine aV L rfl (zn [(2,_),(3,_)] [(2,_)] t2 t1 (X1 ?_))
  refine ⟨.inr rfl,R4.cast (.cons (.agg rfl rfl rfl ag47 sz47 (.cons (.cons (.cons (.cons .nil))))) (.cons (.tmp rfl) .nil)) ?_,trivial⟩
  rw [k1k,if_pos oM]; rfl
 ·have hc2:=df hc
  refine U1 (xq ?_)
  refine exr (lp4 ag47 sz47 L rfl rfl (sb (Y2 sz47 rF pa4 rfl pu4) t2 t1 ?_))
  refine aV L rfl (zn [(2,_),(3,_)] [(2,_)] t2 t1 (X1 ?_))
  refine ⟨.inr rfl,R4.cast (.cons (.agg rfl rfl rfl ag47 sz47 (.cons (.cons (.cons (.cons .nil))))) (.cons (.tmp rfl) .nil)) ?_,trivial⟩
  rw [k1k,if_neg oM]
theorem F1s (n B DB:Nat)(M:List (List Rat))(h:MOk n M)(hB1:MB B M)(hn:M.length=n)(H:EU n n 0 B DB M (nob n)):l3 E 31 [pMq n M] (.tup [pQ (k1k n M (nob n)),vZ 0]):=n0w (n1p n B DB M h hB1 hn H)
theorem G0r {β:Nat→Option Blk}{z:List Nat}{s:Nat}:∀ {i:Nat} {m:List (List Rat)},(∀ j,j<m.length→z.contains (G3 s (i+j))=true∧β (G3 s (i+j))=some (i4 (m.getD j [])))→CvP β z (P4 s i m) (P5 m)
 | _,[],_=>.nil
 | i,v :: m,h=>by
  have h0:=h 0 sM
  refine .cons (.ref h0.1 h0.2 (R2 v) rfl) (G0r fun j hj=>?_)
  have:=h (j+1) (by simpa using hj)
  rw [show i+1+j=i+(j+1) by omega]
  exact this
def bw (s:Bool)(b:List (List Rat)):PV:=if s then .p (.sl b.length (P5 b)) else .p (.a (.slice none 0 0))
@[reducible] def wD (s:Bool)(c:Nat)(m b:List (List Rat)):Nat×Blk:=(999,⟨79,3,.mix [.p (.sl m.length (P5 m)),.p (vZ c),bw s b]⟩)
theorem h1k {sl:List (Nat×PV)}{pre T:List (Nat×Blk)}{k:Nat}(hp:P0y pre=true)(hk:900≤k):St.blk ⟨sl,pre++T⟩ k=T.lookup k:=by
 show (pre++T).lookup k=_
 rw [T1,f0d hp hk,l0]
theorem D1b {s:Bool}{m b:List (List Rat)}{j:Nat}(h:j<m.length):(n5 s m b).lookup (G3 0 j)=some (i4 (m.getD j [])):=by
 rw [n5,v0j oM,T1,rwL dC h]; rfl
theorem J1r {s:Bool}{m b:List (List Rat)}(h:0<m.length):(n5 s m b).lookup 1001=some (hdB 0 m):=by
 rw [n5,v0j h,T1,show (1001:Nat)=0+1001 from rfl,hdL]; rfl
theorem h1a {m:List (List Rat)}{k:Nat}(h1:k≠1001)(h2:∀ q,k≠G3 0 q):(y0q 0 m).lookup k=none:=by
 cases e:(y0q 0 m).lookup k with
 | none=>rfl
 | some B =>
  rcases K0r dC (show (y0q 0 m).lookup k≠none by rw [e]; simp) with h | ⟨q,_,h⟩
  ·exact absurd h h1
  ·exact absurd h (h2 q)
theorem B1k {m b:List (List Rat)}:(n5 true m b).lookup 1002=some (hdB 1 b):=by
 rw [n5,T1,h1a dC (fun q=>by unfold G3; omega),l0]; exact v1n
theorem n1v {m b:List (List Rat)}{j:Nat}(h:j<b.length):(n5 true m b).lookup (G3 1 j)=some (i4 (b.getD j [])):=by
 rw [n5,T1,h1a (by unfold G3; omega) (fun q=>Ne.symm (d1s q j)),l0]; exact rwL dC h
theorem j1k {T:List (Nat×Blk)}{k:Nat}{B:Blk}(h:T.lookup k=some B):(T.map (·.1)).contains k=true:=by
 rw [List.contains_iff_mem]; exact G0.2 ⟨_,K3 h,rfl⟩
theorem W1p {T:List (Nat×Blk)}{k:Nat}(h:G5 T)(hk:k<1000):(T.map (·.1)).contains k=false:=by
 cases e:(T.map (·.1)).contains k with
 | false=>rfl
 | true =>
  rw [List.contains_iff_mem] at e
  obtain ⟨p,hp,rfl⟩:=G0.1 e
  have:=b0n h p hp; omega
theorem v1p {P:Program}{F:Fr}{c:Code}{Q:Exit→St→Prop}{s:Bool}{cols n:Nat}{m b:List (List Rat)}{sl:List (Nat×PV)}{pre:List (Nat×Blk)}(hlo:∀ k,F.lo k=true)(hp:P0y pre=true)(hpn:(pre.map (·.1)).Nodup)(hb:s=true→b.length=n)
  (hsl:M0n ⟨sl,pre++([wU cols m (bv s n)]++n5 s m b)⟩ ((n5 s m b).map (·.1)) sl) (hn:Z3 P F c ⟨sl,pre++[wD s cols m b]⟩ Q):Z3 P F c ⟨sl,pre++([wU cols m (bv s n)]++n5 s m b)⟩ Q:=by
 have hT:=w6 s m b
 refine O4 ((n5 s m b).map (·.1)) (g0h (by rw [s0]; exact fun k _=>hlo k)) hsl ?_ hn
 have hbig:∀ k B,1000≤k→(n5 s m b).lookup k=some B→St.blk ⟨sl,pre++([wU cols m (bv s n)]++n5 s m b)⟩ k=some B:=fun k B hk h=>by
  rw [h1k hp oM,List.singleton_append,F8 oM,h]
 have key:∀ (l:List (Nat×Blk)),(∀ p∈l,p.1<900∧pre.lookup p.1=some p.2)→∀ r,j0p ⟨sl,pre++([wU cols m (bv s n)]++n5 s m b)⟩ ((n5 s m b).map (·.1)) r→j0p ⟨sl,pre++([wU cols m (bv s n)]++n5 s m b)⟩ ((n5 s m b).map (·.1)) (l++r):=by
  intro l
  induction l with
  | nil=>intro _ r h; exact h
  | cons p l ih =>
   intro h r hr
   obtain ⟨h1,h2⟩:=h p sM
   refine ⟨⟨W1p hT oM,p.2,?_,.same⟩,ih (fun q hq=>h q (by simp [hq])) r hr⟩
   show (pre++_).lookup p.1=_
   rw [T1,h2]; rfl
 refine key pre (fun p hm=>⟨?_,L5 hpn hm⟩) _ ⟨⟨W1p hT dC,⟨79,3,.mix [rvV 1001 (P4 0 0 m),.p (vZ cols),bv s n]⟩,?_,.mix (.cons ?_ (.cons .same (.cons ?_ .nil)))⟩,trivial⟩
 ·unfold P0y at hp
  rw [s0] at hp
  simpa [Nat.blt_eq] using hp p hm
 ·rw [h1k hp dC]; rfl
 ·cases m with
  | nil=>exact .p .nil
  | cons r m =>
   have h1:=J1r (s:=s) (m:=r :: m) (b:=b) sM
   have:=Cv.refm (n:=(r :: m).length) (j1k h1) (hbig _ _ dC h1) (E2 0 0 _) (Nat.mul_one _) (G0r fun j hj=>by
    rw [F1]
    have h2:=D1b (s:=s) (b:=b) hj
    exact ⟨j1k h2,hbig _ _ (by unfold G3; omega) h2⟩)
   simpa [rvV,P4] using this
 ·cases s with
  | false=>exact .same
  | true =>
   have hb':=hb rfl
   subst hb'
   have h1:=B1k (m:=m) (b:=b)
   have:=Cv.refm (n:=b.length) (j1k h1) (hbig _ _ dC h1) (E2 1 0 _) (Nat.mul_one _) (G0r fun j hj=>by
    rw [F1]
    have h2:=n1v (m:=m) hj
    exact ⟨j1k h2,hbig _ _ (by unfold G3; omega) h2⟩)
   exact this
@[reducible] def pIs (l:List Nat):K2:=.sl l.length (L6 l)
theorem p1k {m:List (List Rat)}{k:Nat}:(P5 m).take k=P5 (m.take k):=by simp [P5,List.map_take]
theorem H0v (n c B DB:Nat)(M:List (List Rat))(h:MOk c M)(hB1:MB B M)(hn:M.length=n)(H:EU n c 0 B DB M (nob n)):K4 E (fun _=>true) 13 [.p (pMq c M)] ([]) ([]) (.p (.tup [pMq c ((ech M (nob n) c).m.take (ech M (nob n) c).pv.length),pIs (ech M (nob n) c).pv,vZ 0])):=by
 refine l4 (xs:=[pMq c ((ech M (nob n) c).m.take (ech M (nob n) c).pv.length),pIs (ech M (nob n) c).pv,vZ 0]) Tryz.func13 rfl Tryz.ntmps13 Tryz.results13 sM fun F G=>?_
 have L:=@lti _ _ G.nt
 have hG:=G.g
 have hX:=G.x
 have hN:=R5 hG
 have P0:=G.p0
 have hb:=H.bl
 subst hn
 have hsp:=G6 H.rc H.rb c (Nat.le_refl _)
 refine exr (swb (U3 (k:=1) (n:=2) pa2 rfl rfl (P0 _ rfl) L) t1 t0 ⟨rfl,rfl⟩ (swb (O3 (k:=2) (n:=2) zv24 (.cons rfl (.cons rfl .nil)) rfl (P0 _ rfl) L) t0 t0 ⟨rfl,rfl⟩ (aV L rfl (aV L rfl (zn [(1,_),(2,_)] [(1,_),(2,_)] t2 t2 (R1 (exr (lp2 ag24 sz24 L rfl rfl (cK hG hX cl40 hN (I9 h hB1 oM) L t1 (sw (v4 L) t1 t0 (zn [(1,_),(2,_),(10,_)] [(1,_),(2,_)] t3 t2 ?_)))))))))))
 refine j4 rfl rfl ?_
 refine U1 (xq ?_)
 refine n0x (nsw (y6 ag24 sz24 rF (by exact al2) rfl L) t1 t1 ?_)
 refine nsU (pre:=[_,_]) (H:=bsT false (nob M.length)) G hN [1,2] [(1,.at_ 1 0 2),(2,.at_ 2 0 2)] [(1,_),(2,_)] (m0w false M.length c M (nob M.length) H.rc H.nl H.cl) L (X4 (ys:=[_,_]) cl50 rfl rfl) t2 b1m q0f (s5 _ _).nd q0m p1n d1y (fun h=>by cases h) rfl t2 rfl t2 rfl rfl rfl rfl ?_
 refine nsw (c_a L) t1 t0 ?_
 refine .nil ⟨[(1,_),(2,_),(5,_)],(1,_) :: (2,_) :: (999,_) :: (n5 false M (nob M.length)),t3,⟨rfl,rfl,rfl,(hbT [_,_,_] (w6 false M (nob M.length)) rfl)⟩,?_⟩
 refine n0x (nsw (c_m L) t1 t0 (nsU (pre:=[_,_]) (H:=[wU c M (bv false M.length)]++n5 false M (nob M.length)) G hN [1,2,999] [(1,.at_ 1 0 2),(2,.at_ 2 0 2),(5,.at_ 999 0 3)] [(1,_),(2,_)] (v0v false M.length c 0 B DB M (nob M.length) H) L (X4 (ys:=[_]) cl51 rfl rfl) t1 q0f q0f q0m q0m p1n (fun q h=>by cases h) W1x rfl t2 rfl t3 rfl rfl rfl rfl ?_))
 refine nsw (c_m L) t1 t0 (nsw (R3 rfl L) t1 t0 (nsw (R3 rfl L) t1 t0 (M1s (O3 (k:=7) (n:=4) zv47 (.cons rfl (.cons rfl (.cons rfl (.cons rfl .nil)))) rfl (P0 _ rfl) L) t0 t0 (frT [_,_,_] (w6 false (ech M (nob M.length) c).m (ech M (nob M.length) c).b) rfl rfl (by simp [I3,X2,Cells.free,PV.freeL,PV.free,V3,i3])) ?_)))
 refine nsw (c_a L) t1 t0 (nsb (Y2 sz47 rF pa4 rfl pu4) t2 t1 ?_)
 refine .nil ⟨[(1,_),(2,_),(5,_),(6,_)],(1,_) :: (2,_) :: (999,_) :: (n5 false (ech M (nob M.length) c).m (ech M (nob M.length) c).b),t4,⟨rfl,rfl,rfl,(hbT [_,_,_,_,_] (w6 false (ech M (nob M.length) c).m (ech M (nob M.length) c).b) rfl)⟩,?_⟩
 refine v1p (pre:=[_,_]) (fun k=>by rw [G.lo]; rfl) rfl sM (fun h=>by cases h) ⟨⟨_,rfl,.same⟩,⟨_,rfl,.same⟩,⟨_,rfl,.same⟩,⟨_,rfl,.same⟩,trivial⟩ ?_
 have hle:=hsp.2.2.1.le
 have hml:=hsp.1.1
 refine exd rF ?_
 refine sw (Z1 un24 rfl sz3 dC rX L) t1 t1 ?_
 refine sw (Y1 ag3 rF rF L) t1 t1 ?_
 refine mV L rfl (sw (Z2 rX L) t1 t1 ?_)
 refine sw (Z1 un79 rfl sz77 dC rX L) t1 t1 ?_
 refine sw (Y1 ag77 rF rF L) t1 t1 ?_
 refine mV L rfl (sw (U2 un27 L) t1 t0 (mV L rfl (sw (U2 un27 L) t1 t0 (sw (Y1p un77 sz40 (h:=(ech M (nob M.length) c).pv.length) rO oM (by rw [Nat.mul_one,p1k]) L) t3 t0 ?_))))
 refine sw (E7 (vs:=[_,_]) un24 zv24 (.cons rfl (.cons rfl .nil)) ((J2.cons sz3 (J2.cons sz22 J2.nil))).to rfl (.cons rfl (.atom rfl) rfl pu1 (.cons rfl .sl rfl (.skip pu1) .nil)) (.cons (.cons .nil)) L) t2 t0 (mV L rfl (sb (Y2 sz24 rF pa2 rfl pu2) t2 t1 ?_))
 refine aV L rfl (aV L rfl ?_)
 refine O1 ⟨Z4 [⟨[1],[1],[19],[]⟩,⟨[19],[1],[20],[]⟩,⟨[5],[],[21],[]⟩,⟨[21],[999],[22],[]⟩,⟨[22],[999],[23],[]⟩,⟨[23],[999],[24],[]⟩,⟨[6],[],[25],[]⟩,⟨[25],[],[26],[]⟩,⟨[6],[],[27],[]⟩,⟨[27],[],[28],[]⟩,⟨[24,26,28],[],[29],[]⟩,⟨[20,29],[],[30],[]⟩,⟨[6],[],[31],[]⟩,⟨[2,30],[2],[],[2]⟩,⟨[31],[],[3],[]⟩,⟨[],[],[4],[]⟩] rF rF dC,[(2,_),(3,_),(4,_)],[(2,_)],t3,t1,?_⟩
 refine X1 ?_
 refine ⟨.inr rfl,R4.cast (.cons (.agg rfl rfl rfl ag24 sz24 (.cons (.cons .nil))) (.cons (.tmp rfl) (.cons (.tmp rfl) .nil))) ?_,trivial⟩
 rw [pMq,J0,G1 oM]
theorem G1g {pv:List Nat}{i:Nat}(h:i<pv.length):(L6 pv)[i]? = some (vZ (pv.getD i 0:Nat)):=by
 simp [L6,h,f0]
@[reducible] def bK (pv:List Nat)(c:Nat):List (Nat×Blk):=[(5,⟨27,1,.mix [.p (pIs pv)]⟩),(8,⟨3,1,.mix [.p (vZ c)]⟩)]
theorem p1d (pv:List Nat)(c i:Nat)(hi:i<pv.length)(hl:pv.length<1000):K4 E (fun _=>true) 53 [.p (vZ i),.at_ 5 0 1,.at_ 8 0 1] (bK pv c) (bK pv c) (.p (bZ (decide (pv.getD i 0=c)))):=by
 refine l4 (xs:=[bZ (decide (pv.getD i 0=c))]) Tryz.func53 rfl Tryz.ntmps53 Tryz.results53 sM fun F G=>?_
 have L:=@lti _ _ G.nt
 have hG:=G.g
 have hX:=G.x
 have hN:=R5 hG
 have P0:=G.p0
 refine exr (aV L rfl (zn [(0,_),(1,_),(2,_)] [(5,_),(8,_)] t3 t2 (exd rF ?_)))
 refine sw (Y1 ag27 rF rF L) t1 t1 ?_
 refine mV L rfl (sw (ixJ un27 sz3 (j:=i) rO oM sM L) t2 t0 ?_)
 refine sw (d4 ag3 (G1g hi) L) t1 t0 (sw (Y1 ag3 rF rF L) t1 t1 ?_)
 refine sw (c_e L) t2 t0 (aV L rfl ?_)
 refine O1 ⟨Z4 [⟨[1],[5],[5],[]⟩,⟨[0],[],[6],[]⟩,⟨[5,6],[],[7],[]⟩,⟨[7],[],[8],[]⟩,⟨[2],[8],[9],[]⟩,⟨[8,9],[],[10],[]⟩,⟨[10],[],[4],[]⟩] rF rF dC,[(4,_)],[(5,_),(8,_)],t1,t2,?_⟩
 refine X1 ?_
 refine ⟨.inr rfl,R4.cast (.cons (.tmp rfl) .nil) ?_,t2⟩
 rw [show decide ((pv.getD i 0:Int)=c)=decide (pv.getD i 0=c) from decide_eq_decide.2 oM]
theorem J0n {pv:List Nat}{c:Nat}:0≤G4 (fun i=>decide (pv.getD i 0=c)) 0 (pv.length - 0)↔c∈pv:=by
 constructor
 ·intro h
  obtain ⟨h1,h2,h3,h4⟩:=g0g (show ¬ G4 (fun i=>decide (pv.getD i 0=c)) 0 (pv.length - 0)<0 by omega)
  have h3:pv.getD (G4 (fun i=>decide (pv.getD i 0=c)) 0 (pv.length - 0)).toNat 0=c:=by simpa using h3
  rw [← h3]; exact I6 oM
 ·intro h
  apply Classical.byContradiction
  intro hn
  obtain ⟨i,hi,e⟩:=v1x h
  have:=b0r (show G4 (fun i=>decide (pv.getD i 0=c)) 0 (pv.length - 0)<0 by omega) i (Nat.zero_le _) oM
  simp only [decide_eq_false_iff_not] at this
  exact this e
theorem V1b {sl:List (Nat×PV)}{pre:List (Nat×Blk)}{xs:List K2}{e:TypeId}(hp:Z5 pre=true)(hf:xs=[]→(I3 1003 sl && X2 1003 pre)=true):f0y ⟨sl,pre++pvB 1003 e xs⟩ (pvF 1003 xs):=by
 cases xs with
 | cons a l=>trivial
 | nil =>
  have h:=hf rfl
  simp only [j0] at h
  refine ⟨?_,?_⟩
  ·show (pre++_).lookup 1003=none
   rw [T1,m5 hp dC,l0]; rfl
  ·show (I3 1003 sl && X2 1003 (pre++_))=true
   rw [J4,h.1,h.2]; rfl
theorem V1y {sl:List (Nat×PV)}{r:List (Nat×Blk)}{xs:List K2}{y:K2}{e:TypeId}:K5 ⟨sl,pvB 1003 e (xs++[y])++r⟩ (pvB 1003 e (xs++[y])):=by
 obtain ⟨C,hC⟩:=F0w (xs:=xs) (y:=y) (k:=1003) (e:=e)
 rw [hC]
 exact ⟨by show List.lookup 1003 _=_; simp,trivial⟩
theorem Q1p {sl:List (Nat×PV)}{pre:List (Nat×Blk)}{xs:List K2}{e:TypeId}(hp:Z5 pre=true):Cv (St.blk ⟨sl,pre++pvB 1003 e xs⟩) [1003] (pvV 1003 xs) (.p (.sl xs.length xs)):=by
 cases xs with
 | nil=>exact .p .nil
 | cons a l =>
  have hB:St.blk ⟨sl,pre++pvB 1003 e (a :: l)⟩ 1003=some ⟨e,1,.pure (a :: l)⟩:=by
   show (pre++_).lookup 1003=_
   rw [T1,m5 hp dC]; rfl
  exact Cv.ref (n:=(a :: l).length) (z:=[1003]) rfl hB rfl (Nat.mul_one _)
theorem s6:G5 []:=⟨fun _ _=>rfl,List.nodup_nil,fun _ _=>rfl,fun j B hj=>by cases hj⟩
theorem k1q {f:Nat}{pv:List Nat}{c:Nat}{m:List (List Rat)}:(Y6 (f+1) pv).map (q8 c pv m)=(Y6 f pv).map (q8 c pv m)++if f∈pv then [] else [q8 c pv m f]:=by
 rw [Y6,List.range_succ,List.filter_append,List.map_append,← Y6]
 congr 1
 by_cases h:f∈pv
 ·rw [if_pos h,List.filter_cons_of_neg (by simpa using h)]; rfl
 ·rw [if_neg h,List.filter_cons_of_pos (by simpa using h)]; rfl
theorem D0s (c:Int)(m:List (List RQ))(hm:MSm m)(h:isM c m=false):l3 E 13 [pMR c m] (.tup [pMq 0 [],.sl 0 [],vZ 3]):=by
 refine D2 (xs:=[pMq 0 [],.sl 0 [],vZ 3]) Tryz.func13 rfl Tryz.ntmps13 Tryz.results13 sM fun F hG hX0 hnt hdf P0=>?_
 obtain ⟨L,hX,hN⟩:=pro hnt hX0 hG
 refine exr (swb (U3 (k:=1) (n:=2) pa2 rfl rfl (P0 _ rfl) L) t1 t0 ⟨rfl,rfl⟩ (swb (O3 (k:=2) (n:=2) zv24 (.cons rfl (.cons rfl .nil)) rfl (P0 _ rfl) L) t0 t0 ⟨rfl,rfl⟩ (aV L rfl (aV L rfl (zn [(1,_),(2,_)] [(1,_),(2,_)] t2 t2 (R1 (exr (lp2 ag24 sz24 L rfl rfl (cK hG hX cl40 hN (W0c c m hm) L t1 (sw (v4 L) t1 t0 (zn [(1,_),(2,_),(10,_)] [(1,_),(2,_)] t3 t2 ?_)))))))))))
 refine b0q rfl (by rw [h]; rfl) ?_
 refine exr (sw (D9 (E7 (vs:=[]) un24 zv24 (.cons rfl (.cons rfl .nil)) ((J2.cons sz3 (J2.cons sz22 J2.nil))).to rfl .nil (.cons (.cons .nil)) L) (.agg (.cons .same (.cons .nil .nil)))) t0 t0 (sb (Y2 sz24 rF pa2 rfl pu2) t2 t1 ?_))
 refine aV L rfl (aV L rfl (zn [(2,_),(3,_),(4,_)] [(2,_)] t3 t1 (O4 [] (sl:=[(2,_),(3,_),(4,_)]) (hb:=[(2,_)]) (L3 hX0) ⟨⟨_,rfl,.same⟩,⟨_,rfl,(.p .nil)⟩,⟨_,rfl,.same⟩,trivial⟩ ⟨⟨rfl,_,rfl,.same⟩,trivial⟩ (X1 ?_))))
 refine P1 (.agg rfl rfl rfl ag24 sz24 (.cons (.cons .nil))) (.tmp rfl) (.tmp rfl) ?_
 rfl
theorem g0m (n c B DB:Nat)(M:List (List Rat))(h:MOk c M)(hB1:MB B M)(hn:M.length=n)(H:EU n c 0 B DB M (nob n)):l3 E 13 [pMq c M] (.tup [pMq c ((ech M (nob n) c).m.take (ech M (nob n) c).pv.length),pIs (ech M (nob n) c).pv,vZ 0]):=n0w (H0v n c B DB M h hB1 hn H)
theorem q1v (c:Int)(m:List (List RQ))(hm:MSm m)(h:isM c m=false):l3 E 14 [pMR c m] (.tup [.sl 0 [],vZ 3]):=by
 refine D2 (xs:=[.sl 0 [],vZ 3]) Tryz.func14 rfl Tryz.ntmps14 Tryz.results14 sM fun F hG hX0 hnt hdf P0=>?_
 obtain ⟨L,hX,hN⟩:=pro hnt hX0 hG
 refine exr (swb (U3 (k:=1) (n:=2) pa2 rfl rfl (P0 _ rfl) L) t1 t0 ⟨rfl,rfl⟩ (aV L rfl (aV L rfl (zn [(1,_)] [(1,_)] t1 t1 (exr (lp2 ag24 sz24 L rfl rfl (cK hG hX cl13 hN (D0s c m hm h) L t1 (mV L rfl (sw (R3 rfl L) t1 t0 (sw (R3 rfl L) t1 t0 (sw (R3 rfl L) t1 t0 ?_)))))))))))
 refine swb (O3 (k:=4) (n:=2) zv24 (.cons rfl (.cons rfl .nil)) rfl (P0 _ rfl) L) t0 t0 ⟨rfl,rfl⟩ (swb (O3 (k:=5) (n:=1) zv27 (.cons rfl .nil) rfl (P0 _ rfl) L) t0 t0 ⟨rfl,rfl⟩ (sb (Y2 sz24 rF pa2 rfl pu2) t2 t1 ?_))
 refine sb (Y2 sz27 rF .sl rfl pu1) t2 t1 ?_
 refine aV L rfl (zn [(1,_),(4,_),(5,_),(6,_)] [(1,_),(4,_),(5,_)] t4 t3 (R1 (exr (mV L rfl (sw (c_n L) t2 t0 (zn [(1,_),(4,_),(5,_),(6,_),(19,_)] [(1,_),(4,_),(5,_)] t5 t3 (b0q rfl rfl (exr (mV L rfl (aV L rfl (aV L rfl ?_)))))))))))
 refine zn [(2,_),(3,_)] [] t2 trivial (O4 [] (sl:=[(2,_),(3,_)]) (hb:=[]) (L3 hX0) ⟨⟨_,rfl,(.p .nil)⟩,⟨_,rfl,.same⟩,trivial⟩ t0 (X1 ?_))
 refine Y0 (.tmp rfl) (.tmp rfl) ?_
 rfl
theorem f0c {c f:Nat}{pv:List Nat}{m:List (List Rat)}:(q8 c pv m f).length=c:=by simp [q8]
theorem F1v {c f:Nat}{pv:List Nat}{m:List (List Rat)}(hf:f<1000):((Y6 f pv).map (q8 c pv m)).length<1000:=by
 rw [O0,Y6]
 have:=List.length_filter_le (fun g=>!pv.contains g) (List.range f)
 rw [List.length_range] at this; omega
theorem Q1f {β:Nat→Option Blk}{z:List Nat}{k n:Nat}{v:List Rat}(hz:z.contains k=true)(hb:β k=some (i4 v))(hv:v.length=n):Cv β z (.ref k 0 n (n*4)) (.p (pV v)):=by
 subst hv
 exact .ref hz hb (R2 v) rfl
theorem H1c {sl:List (Nat×PV)}{pre pre' T:List (Nat×Blk)}{z:List Nat}(hT:G5 T)(hp:Z5 pre=true)(hb:K5 ⟨[],pre⟩ pre')(hz:(z.all fun k=>Nat.blt k 1000)=true)(hz':(pre'.all fun p=>!z.contains p.1)=true):j0p ⟨sl,pre++T⟩ z (pre'++T):=by
 refine q0c fun p hp2=>?_
 rcases List.mem_append.1 hp2 with h | h
 ·rw [s0] at hz'
  refine ⟨by simpa using hz' p h,?_⟩
  show (pre++T).lookup p.1=_
  rw [T1,q0b hb h]; rfl
 ·have h1:=L5 (j:=p.1) (B:=p.2) hT.nd h
  have h3:=b0n hT p h
  refine ⟨?_,?_⟩
  ·cases e:z.contains p.1 with
   | false=>rfl
   | true =>
    rw [List.contains_iff_mem] at e
    rw [s0] at hz
    have:=hz _ e
    simp only [Nat.blt_eq] at this; omega
  ·show (pre++T).lookup p.1=_
   rw [T1,m5 hp h3,l0,h1]
theorem tPv {L:List (List Rat)}:G5 (pvB 1003 40 (P5 L)):=y1v dC _
theorem V1c {sl:List (Nat×PV)}{pre:List (Nat×Blk)}{e:TypeId}{xs:List K2}(hp:Z5 pre=true):C6 ⟨sl,pre++pvB 1003 e xs⟩ (pvB 1003 e xs):=by
 have:=H1y (sl:=sl) (R:=[]) (k:=1003) (e:=e) (xs:=xs) pre hp dC
 rwa [List.append_nil] at this
theorem p1m {c f k:Nat}{pv:List Nat}{g:Nat→Rat}(hk:k<pv.length):(h0k pv g ((zsQ c).set f 1) k).set (pv.getD k 0) (g k)=h0k pv g ((zsQ c).set f 1) (k+1):=L7.symm
theorem P0g (n c B DB:Nat)(M:List (List Rat))(h:MOk c M)(hB1:MB B M)(hn:M.length=n)(H:EU n c 0 B DB M (nob n)):K4 E (fun _=>true) 14 [.p (pMq c M)] ([]) ([]) (.p (.tup [.sl (w0b c (ech M (nob n) c).pv ((ech M (nob n) c).m.take (ech M (nob n) c).pv.length)).length (P5 (w0b c (ech M (nob n) c).pv ((ech M (nob n) c).m.take (ech M (nob n) c).pv.length))),vZ 0])):=by
 refine l4 (xs:=[.sl (w0b c (ech M (nob n) c).pv ((ech M (nob n) c).m.take (ech M (nob n) c).pv.length)).length (P5 (w0b c (ech M (nob n) c).pv ((ech M (nob n) c).m.take (ech M (nob n) c).pv.length))),vZ 0]) Tryz.func14 rfl Tryz.ntmps14 Tryz.results14 sM fun F G=>?_
 have L:=@lti _ _ G.nt
 have hG:=G.g
 have hX:=G.x
 have hN:=R5 hG
 have P0:∀ k,Nat.blt k 1000=true→F.pin k=none:=fun k hk=>G.p0 k (s6.low k hk)
 have hb:=H.bl
 have hcl:=H.cl
 have hsp:=G6 H.rc H.rb c (Nat.le_refl _)
 have hme:=H.me c (Nat.le_refl _)
 have hecho:=g0m n c B DB M h hB1 hn H
 obtain ⟨E',hE⟩:∃ E',E'=(ech M (nob n) c).m.take (ech M (nob n) c).pv.length:=⟨_,rfl⟩
 obtain ⟨pv,hpv⟩:∃ pv,pv=(ech M (nob n) c).pv:=⟨_,rfl⟩
 have hrc:=hsp.1
 have hR:=hsp.2.2.1
 have hEl:E'.length=pv.length:=by rw [hE,hpv,J0,hrc.1]; exact G1 hR.le
 have hEr:∀ i,i<pv.length→(E'.getD i []).length=c:=fun i hi=>by
  have hm:E'.getD i []∈E':=f0f oM
  rw [hE] at hm
  exact hrc.2 _ (by rw [hE]; exact List.mem_of_mem_take hm)
 have hEB:MB B E':=fun r hr a ha=>hme r (List.mem_of_mem_take (by rw [hE] at hr; exact hr)) a ha
 have hpl:pv.length<1000:=by have:=hR.le; have:=H.nl; rw [← hpv] at *; omega
 have hplt:∀ p∈pv,p<c:=by rw [hpv]; exact hR.lt
 rw [← hE,← hpv] at hecho ⊢
 have hlo:F.lo 1003=true:=by rw [G.lo]; rfl
 have hpin3:F.pin 1003=none:=G.p0 _ rfl
 refine exr (swb (U3 (k:=1) (n:=2) pa2 rfl rfl (P0 _ rfl) L) t1 t0 (frT [] s6 rfl rfl rfl) (aV L rfl (aV L rfl ?_)))
 refine O1 ⟨[(1,_)],(1,_) :: (([]:List (Nat×Blk))),t1,⟨rfl,(hbT [_] s6 rfl)⟩,?_⟩
 refine exr (lp2 ag24 sz24 L rfl rfl (cK hG hX cl13 hN hecho L t1 (mV L rfl (sw (R3 rfl L) t1 t0 (sw (R3 rfl L) t1 t0 (sw (R3 rfl L) t1 t0 (swb (O3 (k:=4) (n:=2) zv24 (.cons rfl (.cons rfl .nil)) rfl (P0 _ rfl) L) t0 t0 (frT [_] s6 rfl rfl rfl) (swb (O3 (k:=5) (n:=1) zv27 (.cons rfl .nil) rfl (P0 _ rfl) L) t0 t0 (frT [_,_] s6 rfl rfl rfl) (sb (Y2 sz24 rF pa2 rfl pu2) t2 t1 ?_)))))))))
 refine sb (Y2 sz27 rF .sl rfl pu1) t2 t1 ?_
 refine aV L rfl ?_
 refine O1 ⟨[(1,_),(4,_),(5,_),(6,_)],(1,_) :: (4,_) :: (5,_) :: (([]:List (Nat×Blk))),t4,⟨rfl,rfl,rfl,(hbT [_,_,_,_,_] s6 rfl)⟩,?_⟩
 refine R1 (exr (mV L rfl (sw (c_n L) t2 t0 ?_)))
 refine O1 ⟨[(1,_),(4,_),(5,_),(6,_),(19,_)],(1,_) :: (4,_) :: (5,_) :: (([]:List (Nat×Blk))),t5,⟨rfl,rfl,rfl,(hbT [_,_,_] s6 rfl)⟩,?_⟩
 refine j4 rfl rfl ?_
 refine U1 (xq ?_)
 refine exr (aV L rfl ?_)
 refine O1 ⟨[(1,_),(4,_),(5,_),(7,pvV 1003 (P5 []))],(1,_) :: (4,_) :: (5,_) :: ((pvB 1003 40 (P5 []))),t4,⟨rfl,rfl,rfl,(hbT [_,_,_] s6 rfl)⟩,?_⟩
 refine R1 (exr (sw (Z1 un24 rfl sz3 dC rX L) t1 t1 ?_))
 refine sw (Y1 ag3 rF rF L) t1 t1 ?_
 refine mV L rfl ?_
 refine O1 ⟨[(1,_),(4,_),(5,_),(7,_),(22,_),(23,_)],(1,_) :: (4,_) :: (5,_) :: ((pvB 1003 40 (P5 []))),t6,⟨rfl,rfl,rfl,(hbT [_,_,_] (tPv (L:=[])) rfl)⟩,?_⟩
 refine V1 ?_
 refine H0h (α:=Nat) (fun f=>[(23,vi (f:Int)),(7,pvV 1003 (P5 ((Y6 f pv).map (q8 c pv E'))))]) (fun f=>[]) (fun f=>(pvB 1003 40 (P5 ((Y6 f pv).map (q8 c pv E'))))) (fun f=>f≤c) (fun f=>c - f) (0) (sl:=[(1,_),(4,_),(5,_),(22,_)]) (hb:=[(1,_),(4,_),(5,_)]) ?_ ⟨oR,oR,rfl,rfl,rfl,rfl,trivial⟩ ⟨rfl,rfl,rfl,(hbT [_,_,_] (tPv (L:=[])) rfl)⟩ ?_
 ·exact Nat.zero_le _
 intro f hf
 refine exr (sw (W3 L) t2 t0 ?_)
 refine O1 ⟨[(1,_),(4,_),(5,_),(7,_),(22,_),(23,_),(24,_)],(1,_) :: (4,_) :: (5,_) :: ((pvB 1003 40 (P5 ((Y6 f pv).map (q8 c pv E'))))),t7,⟨rfl,rfl,rfl,(hbT [_,_,_] (tPv (L:=(Y6 f pv).map (q8 c pv E'))) rfl)⟩,?_⟩
 refine R1 ?_
 refine i2 rfl (fun hc=>?_) (fun hc=>?_)
 ·have hc:=dt hc
  have hfc:f<c:=by omega
  have hstep:=k1q (f:=f) (pv:=pv) (c:=c) (m:=E')
  have hlen:=F1v (c:=c) (f:=f) (pv:=pv) (m:=E') oM
  refine U1 (xq ?_)
  refine R1 (V1 (exr (mV L rfl (swb (O3 (k:=8) (n:=1) zv3 (.cons rfl .nil) rfl (P0 _ rfl) L) t0 t0 (frT [_,_,_] (tPv (L:=(Y6 f pv).map (q8 c pv E'))) rfl rfl (by simp [I3,X2,Cells.free,PV.freeL,PV.free,V3,i3])) ?_))))
  refine sb (Y2 sz3 rF (.atom rfl) rfl pu1) t2 t1 ?_
  refine O1 ⟨[(1,_),(4,_),(5,_),(7,_),(8,_),(22,_),(23,_)],(1,_) :: (4,_) :: (5,_) :: (8,_) :: ((pvB 1003 40 (P5 ((Y6 f pv).map (q8 c pv E'))))),t7,⟨rfl,rfl,rfl,rfl,(hbT [_,_,_,_,_] (tPv (L:=(Y6 f pv).map (q8 c pv E'))) rfl)⟩,?_⟩
  have f1:=R8 53 [.at_ 5 0 1,.at_ 8 0 1] (bK pv f) sM (Y7 rfl) cl53 (fun i=>decide (pv.getD i 0=f)) 0 pv.length oM (fun i _ hi=>p1d pv f i hi hpl)
  refine R1 (exr (sw (Y1 ag27 rF rF L) t1 t1 ?_))
  refine sw (U2 un27 L) t1 t0 (sw (q0v (vs:=[]) (us:=[_,_]) rfl rfl L) t2 t0 (sw (f6 hG hX hN f1 rfl L (X4 (ys:=[_,_,_]) cl52 rfl rfl) sM (Y7 rfl) (fun q h=>by cases h)) t3 t2 ?_))
  refine sw (h0b L) t2 t0 ?_
  refine O1 ⟨[(1,_),(4,_),(5,_),(7,_),(8,_),(22,_),(23,_),(30,_)],(1,_) :: (4,_) :: (5,_) :: (8,_) :: ((pvB 1003 40 (P5 ((Y6 f pv).map (q8 c pv E'))))),t8,⟨rfl,rfl,rfl,rfl,(hbT [_,_,_,_] (tPv (L:=(Y6 f pv).map (q8 c pv E'))) rfl)⟩,?_⟩
  refine i2 rfl (fun hg=>?_) (fun hg=>?_)
  ·have hg:f∈pv:=J0n.1 (dt hg)
   rw [if_pos hg,List.append_nil] at hstep
   refine I2 (xq ?_)
   refine s3 (sw (F3 L (w64 oM oM)) t2 t0 (mV L rfl (O1 ?_)))
   exact ⟨f+1,oM,by omega,j3 ⟨oR,(by rw [hstep]; rfl),rfl,rfl,rfl,rfl,trivial⟩ ⟨rfl,rfl,rfl,(by rw [hstep]; exact hbT [_,_,_,_] tPv rfl)⟩⟩
  ·have hg:f ∉ pv:=fun h=>(df hg) (J0n.2 h)
   rw [if_neg hg] at hstep
   obtain ⟨L0,hL0⟩:∃ L0,L0=(Y6 f pv).map (q8 c pv E'):=⟨_,rfl⟩
   rw [← hL0] at hstep hlen ⊢
   refine U1 (xq ?_)
   refine exr (sw (Z1 un24 rfl sz3 dC rX L) t1 t1 ?_)
   refine sw (Y1 ag3 rF rF L) t1 t1 ?_
   refine swb (g1b (k:=33) hG hX cl54 rfl hN (m0v c oM) (P0 _ rfl) L) t1 t0 (frT [_,_,_,_] (tPv (L:=L0)) rfl rfl (by simp [I3,X2,Cells.free,PV.freeL,PV.free,V3,i3])) ?_
   refine aV L rfl ?_
   refine O1 ⟨[(1,_),(4,_),(5,_),(7,_),(8,_),(9,_),(22,_),(23,_)],(1,_) :: (4,_) :: (5,_) :: (8,_) :: (33,_) :: ((pvB 1003 40 (P5 L0))),t8,⟨rfl,rfl,rfl,rfl,rfl,(hbT [_,_,_,_,_] (tPv (L:=L0)) rfl)⟩,?_⟩
   refine exd rF ?_
   refine mV L rfl (sw (Y1 ag3 rF rF L) t1 t1 ?_)
   refine cK hG hX cl55 hN (e7 1 dC dC) L t1 (sw (m0k (sz:=4) un40 sz47 (by exact sM) (j:=f) rO oM L) t2 t1 ?_)
   refine sb (y0z (n:=4) sz47 (by exact sM) rfl oM) t2 t1 ?_
   refine O1 ⟨h0a [⟨[9],[],[34],[]⟩,⟨[8],[8],[35],[]⟩,⟨[],[],[36],[]⟩,⟨[34,35],[33],[37],[]⟩,⟨[37,36],[33],[],[33]⟩] (.cons (cf0 rfl) (.cons (cf0 rfl) (.cons (cf0 rfl) (.cons (cf0 rfl) (.cons (cf0 rfl)  .nil))))) rfl (frS [] [_,_,_,_,_] (tPv (L:=L0)) rfl (by simp [I3,X2,Cells.free,PV.freeL,PV.free,V3,i3])) dC,[(1,_),(4,_),(5,_),(7,_),(8,_),(9,_),(22,_),(23,_)],(1,_) :: (4,_) :: (5,_) :: (8,_) :: (33,_) :: ((pvB 1003 40 (P5 L0))),t8,⟨rfl,rfl,rfl,rfl,rfl,(hbT [_,_,_,_,_,_] (tPv (L:=L0)) rfl)⟩,?_⟩
   refine R1 (exr (sw (Y1 ag27 rF rF L) t1 t1 ?_))
   refine sw (U2 un27 L) t1 t0 (mV L rfl ?_)
   refine O1 ⟨[(1,_),(4,_),(5,_),(7,_),(8,_),(9,_),(22,_),(23,_),(38,_),(39,_),(40,_)],(1,_) :: (4,_) :: (5,_) :: (8,_) :: (33,_) :: ((pvB 1003 40 (P5 L0))),t11,⟨rfl,rfl,rfl,rfl,rfl,(hbT [_,_,_,_,_] (tPv (L:=L0)) rfl)⟩,?_⟩
   refine V1 ?_
   refine H0h (α:=Nat) (fun k=>[(40,vi (k:Int))]) (fun k=>[(33,i4 (h0k pv (fun i=>-(ent E' i f)) ((zsQ c).set f 1) k))]) (fun k=>(pvB 1003 40 (P5 L0))) (fun k=>k≤pv.length) (fun k=>pv.length - k) (0) (sl:=[(1,_),(4,_),(5,_),(7,_),(8,_),(9,_),(22,_),(23,_),(38,_),(39,_)]) (hb:=[(1,_),(4,_),(5,_),(8,_)]) ?_ ⟨oR,rfl,rfl,rfl,rfl,rfl,rfl,rfl,rfl,rfl,rfl,trivial⟩ ⟨obl rfl (h0x 1 sO),rfl,rfl,rfl,rfl,(hbT [_,_,_,_,_] (tPv (L:=L0)) rfl)⟩ ?_
   ·exact Nat.zero_le _
   intro k hk
   refine exr (sw (W3 L) t2 t0 ?_)
   refine O1 ⟨[(1,_),(4,_),(5,_),(7,_),(8,_),(9,_),(22,_),(23,_),(38,_),(39,_),(40,_),(41,_)],(1,_) :: (4,_) :: (5,_) :: (8,_) :: (33,_) :: ((pvB 1003 40 (P5 L0))),t12,⟨rfl,rfl,rfl,rfl,rfl,(hbT [_,_,_,_,_] (tPv (L:=L0)) rfl)⟩,?_⟩
   refine R1 ?_
   refine i2 rfl (fun he=>?_) (fun he=>?_)
   ·have he:=dt he
    have hk2:k<pv.length:=by omega
    have hpk:=hplt _ (I6 hk2)
    have hq:=g0d (i:=k) (j:=f) hEB H.b0
    refine U1 (xq ?_)
    refine R1 (V1 (exr (mV L rfl (sw (ixJ un27 sz3 (j:=k) rO oM sM L) t2 t0 ?_))))
    refine sw (d4 ag3 (G1g hk2) L) t1 t0 (aV L rfl (aV L rfl ?_))
    refine O1 ⟨[(1,_),(4,_),(5,_),(7,_),(8,_),(9,_),(10,_),(11,_),(22,_),(23,_),(38,_),(39,_),(40,_)],(1,_) :: (4,_) :: (5,_) :: (8,_) :: (33,_) :: ((pvB 1003 40 (P5 L0))),t13,⟨rfl,rfl,rfl,rfl,rfl,(hbT [_,_,_,_,_] (tPv (L:=L0)) rfl)⟩,?_⟩
    refine d0g rF ?_
    refine mV L rfl (mV L rfl (sw (Z1 un24 rfl sz22 dC rX L) t1 t1 ?_))
    refine sw (Y1 ag22 rF rF L) t1 t1 ?_
    refine mV L rfl (sw (ixJ un22 sz40 (j:=k) rO oM sM L) t2 t0 ?_)
    refine sw (d4 ag40 (v7 oM) L) t1 t0 (sw (Y1 ag3 rF rF L) t1 t1 ?_)
    refine sw (y2 un40 sz47 oM (by rw [hEr k hk2]; omega) sM dC L) t2 t0 ?_
    refine sw (V6 ag47 sz47 (W6 (by rw [hEr k hk2]; exact hfc)) rfl L) t1 t0 ?_
    refine cK hG hX cl56 hN (v0c (ent E' k f) oM) L t1 (sw (m0k (sz:=4) un40 sz47 (by exact sM) (j:=pv.getD k 0) rO (by simpa using hpk) L) t2 t1 ?_)
    refine sb (y0z (n:=4) sz47 (by exact sM) rfl oM) t2 t1 ?_
    refine O1 ⟨h0a [⟨[9],[],[45],[]⟩,⟨[11],[],[46],[]⟩,⟨[4],[4],[47],[]⟩,⟨[47],[4],[48],[]⟩,⟨[10],[],[49],[]⟩,⟨[48,49],[],[50],[]⟩,⟨[50],[],[51],[]⟩,⟨[8],[8],[52],[]⟩,⟨[51,52],[],[53],[]⟩,⟨[53],[],[54],[]⟩,⟨[54],[],[55],[]⟩,⟨[45,46],[33],[56],[]⟩,⟨[56,55],[33],[],[33]⟩] (.cons (cf0 rfl) (.cons (cf0 rfl) (.cons (cf0 rfl) (.cons (cf0 rfl) (.cons (cf0 rfl) (.cons (cf0 rfl) (.cons (cf0 rfl) (.cons (cf0 rfl) (.cons (cf0 rfl) (.cons (cf0 rfl) (.cons (cf0 rfl) (.cons (cf0 rfl) (.cons (cf0 rfl)  .nil))))))))))))) rfl (frS [] [_,_,_,_,_] (tPv (L:=L0)) rfl (by simp [I3,X2,Cells.free,PV.freeL,PV.free,V3,i3])) dC,(show Z3 _ _ _ _ _ from exw (sl:=[(1,_),(4,_),(5,_),(7,_),(8,_),(9,_),(22,_),(23,_),(38,_),(39,_),(40,_)]) (hb:=(1,_) :: (4,_) :: (5,_) :: (8,_) :: (33,_) :: ((pvB 1003 40 (P5 L0)))) t11 ⟨rfl,rfl,rfl,rfl,rfl,(hbT [_,_,_,_,_,_] (tPv (L:=L0)) rfl)⟩ ?_)⟩
    refine s3 (sw (F3 L (w64 oM oM)) t2 t0 (mV L rfl (O1 ?_)))
    exact ⟨k+1,oM,by omega,j3 ⟨oR,rfl,rfl,rfl,rfl,rfl,rfl,rfl,rfl,rfl,rfl,trivial⟩ ⟨obl rfl ((h0x _ (by simpa using hpk)).trans (by rw [p1m hk2])),rfl,rfl,rfl,rfl,(hbT [_,_,_,_,_] (tPv (L:=L0)) rfl)⟩⟩
   ·have he:=df he
    have hkp:k=pv.length:=by omega
    subst hkp
    refine I2 (xq ?_)
    refine O4 [33] (sl:=[(1,_),(4,_),(5,_),(7,_),(9,.p (pV (q8 c pv E' f))),(22,_),(23,_)]) (hb:=[(1,_),(4,_),(5,_)]++pvB 1003 40 (P5 L0)) (g0h (by simp [G.lo])) ⟨⟨_,rfl,.same⟩,⟨_,rfl,.same⟩,⟨_,rfl,.same⟩,⟨_,rfl,.same⟩,⟨_,rfl,?_⟩,⟨_,rfl,.same⟩,⟨_,rfl,.same⟩,trivial⟩ (H1c (pre:=[_,_,_,_,_]) tPv rfl t3 rfl rfl) ?_
    ·exact (Q1f rF rF f0c)
    refine s3 (mV L rfl (mV L rfl (sw (B4 (vs:=[_]) un22 ti40 rfl rfl dC dC rfl (M2 (.cons rfl .nil) rfl) rfl (.cons rfl .sl rfl pu1 .nil) (.cons .nil) L) t1 t0 (swA (K0d (k:=1003) un22 un22 ti40 rfl rfl rfl (by first | (simp [Tryz.t40]; done) | (simp [Tryz.t40]; omega)) sO hpin3 L) t2 ((V1c (pre:=[_,_,_]) rfl)) (V1b (pre:=[_,_,_]) rfl (fun e=>by rw [e]; rfl)) ?_))))
    refine aV L rfl ?_
    refine O1 (show Z3 _ _ _ _ _ from exw (sl:=[(1,_),(4,_),(5,_),(7,pvV 1003 (P5 (L0++[q8 c pv E' f]))),(22,_),(23,_)]) (hb:=(1,_) :: (4,_) :: (5,_) :: ((pvB 1003 40 (P5 (L0++[q8 c pv E' f]))))) ⟨rfl,rfl,rfl,(by rw [h0r]; rfl),rfl,rfl,trivial⟩ ⟨(b1p (pre:=[_,_,_]) dC rfl),(b1p (pre:=[_,_,_]) dC rfl),(b1p (pre:=[_,_,_]) dC rfl),(by rw [h0r]; exact V1y)⟩ ?_)
    refine s3 (sw (F3 L (w64 oM oM)) t2 t0 (mV L rfl (O1 ?_)))
    exact ⟨f+1,oM,by omega,j3 ⟨oR,(by rw [hstep]; rfl),rfl,rfl,rfl,rfl,trivial⟩ ⟨rfl,rfl,rfl,(by rw [hstep]; exact hbT [_,_,_] tPv rfl)⟩⟩
 ·have hc:=df hc
  have hfc:f=c:=by omega
  subst hfc
  obtain ⟨L0,hL0⟩:∃ L0,L0=(Y6 f pv).map (q8 f pv E'):=⟨_,rfl⟩
  have hk:w0b f pv E'=L0:=by rw [hL0]; rfl
  rw [← hL0,hk]
  refine I2 (xq ?_)
  refine exr (mV L rfl (aV L rfl (aV L rfl ?_)))
  refine O1 ⟨[(2,_),(3,_)],((pvB 1003 40 (P5 L0))),t2,(hbT [_,_,_] (tPv (L:=L0)) rfl),?_⟩
  refine O4 [1003] (sl:=[(2,.p (.sl (P5 L0).length (P5 L0))),(3,_)]) (hb:=[]) (g0h (by simp [G.lo])) ⟨⟨_,rfl,Q1p (pre:=[]) rfl⟩,⟨_,rfl,.same⟩,trivial⟩ t0 ?_
  refine X1 ?_
  exact ⟨.inr rfl,.cons (.tmp (by rw [← X5 L0]; rfl)) (.cons (.tmp rfl) .nil),trivial⟩
end Go.Proofs.YtjagfionflbjbaaGreat.N
namespace Go.Proofs.YtjagfionflbjbaaGreat.SH
open Go Go.RowKit
def swN (a b k:Nat):Nat:=if k=a then b else if k=b then a else k
theorem B0f (a b k:Nat):swN a b (swN a b k)=k:=by
 unfold swN
 by_cases h1:k=a
 ·rw [if_pos h1]
  by_cases h2:b=a
  ·rw [if_pos h2,h1,h2]
  ·rw [if_neg h2,if_pos rfl,h1]
 ·rw [if_neg h1]
  by_cases h2:k=b
  ·rw [if_pos h2,if_pos rfl,h2]
  ·rw [if_neg h2,if_neg h1,if_neg h2]
theorem B1d {P:Program}{F:Fr}{c:Code}{Q:Exit→St→Prop}{S S':St}(a b:Nat)(hpa:F.pin a=none)(hpb:F.pin b=none)(hlo:F.lo a=F.lo b)
  (hs:∀ t v',S'.slot t=some v'→∃ v,S.slot t=some v∧v'=v.ren (swN a b)) (hb:∀ k B',S'.blk k=some B'→∃ B,S.blk (swN a b k)=some B∧B'=B.ren (swN a b)) (hn:Z3 P F c S' Q):Z3 P F c S Q:=by
 refine ⟨fun n a' w hS=>hn.run n a' w ?_⟩
 obtain ⟨ρ,h⟩:=hS
 have hne:∀ k,S'.blk k≠none→S.blk (swN a b k)≠none:=fun k hk=>by
  obtain ⟨B',hB'⟩:=j1.1 hk
  obtain ⟨B,h1,_⟩:=hb k B' hB'
  rw [h1]; simp
 have hcar:Carry (okI F S.blk ρ) (okI F S'.blk fun k=>ρ (swN a b k)) (hp w) (hp w):=fun x hx _=>⟨⟨hx.1,fun k hk e=>hx.2 _ (hne k hk) e⟩,rfl⟩
 have hre:∀ (v:PV) (u:Value),L2 S.blk ρ (okI F S.blk ρ) (hp w) v u→L2 S'.blk (fun k=>ρ (swN a b k)) (okI F S'.blk fun k=>ρ (swN a b k)) (hp w) (v.ren (swN a b)) u:=fun v u hr=>by
  have h1:=F0h (β:=S'.blk) (β0:=S.blk) (ρ:=fun k=>ρ (swN a b k)) (ρ0:=ρ) (ok:=okI F S.blk ρ) (Hp:=hp w) (κ:=swN a b) (K:=fun _=>True) (fun j _ B' hB'=>by
   obtain ⟨B,h2,h3⟩:=hb _ B' hB'
   rw [B0f] at h2
   refine ⟨B,h2,by rw [h3]; rfl,by rw [h3]; exact Cells.ren_len _ _,by simp only [B0f]⟩) v u (fun _ _=>trivial) hr
  exact L2.mono (K:=fun _=>True) hcar (fun k _ B hB=>⟨B,hB,rfl,Nat.le_refl _,fun _=>⟨rfl,fun c T fr hc=>⟨c,T,fr,hc,rfl⟩⟩⟩) _ u (fun _ _=>trivial) h1
 refine ⟨fun k=>ρ (swN a b k),fun t v' ht=>?_,fun k B' hk=>?_,fun k k' h1 h2 e=>?_,h.frame,h.nt,h.df,fun j x n hj hS=>?_⟩
 ·obtain ⟨v,hv,rfl⟩:=hs t v' ht
  obtain ⟨u,hu,hr⟩:=h.slots t v hv
  exact ⟨u,hu,hre v u hr⟩
 ·obtain ⟨B,h1,rfl⟩:=hb k B' hk
  obtain ⟨c,g1,g2,g3,g4⟩:=h.blks _ B h1
  refine ⟨c,g1,?_,by rw [show (B.ren (swN a b)).cs.len=B.cs.len from Cells.ren_len _ _]; exact g3,fun i x hx=>?_⟩
  ·rcases g2 with ⟨e1,e2⟩ | e1
   ·refine .inl ⟨e1,?_⟩
    unfold swN at e2
    split at e2
    ·rename_i e; rw [e,hlo]; exact e2
    ·split at e2
     ·rename_i e; rw [e,← hlo]; exact e2
     ·exact e2
   ·exact .inr e1
  ·have hx:(B.cs.ren (swN a b)).get i=some x:=hx
   rw [Cells.ren_get,M0] at hx
   obtain ⟨y,hy,rfl⟩:=hx
   obtain ⟨u,hu,ho,hr⟩:=g4 i y hy
   exact ⟨u,hu,ho,hre y u hr⟩
 ·have:=h.inj _ _ (hne k h1) (hne k' h2) e
  rw [← B0f a b k,this,B0f]
 ·have hja:j≠a:=fun e=>by rw [e,hpa] at hj; cases hj
  have hjb:j≠b:=fun e=>by rw [e,hpb] at hj; cases hj
  have e:swN a b j=j:=by rw [swN,if_neg hja,if_neg hjb]
  have:=h.pin j x n hj (by have:=hne j hS; rwa [e] at this)
  simp only [e]; exact this
end Go.Proofs.YtjagfionflbjbaaGreat.SH
set_option maxRecDepth 100000
set_option maxHeartbeats 4000000
namespace Go.Proofs.YtjagfionflbjbaaGreat.SH
open Go Go.RowKit
mutual
theorem PV.ren_only {κ:Nat→Nat}{ks:List Nat}(hk:∀ k∈ks,κ k=k):∀ x:PV,x.only ks=true→x.ren κ=x
 | .p _,_=>rfl
 | .at_ j _ _,h=>by
  have h:ks.contains j=true:=h
  rw [PV.ren,hk j (by simpa using h)]
 | .im _ _,_=>rfl
 | .ref j _ _ _,h=>by
  have h:ks.contains j=true:=h
  rw [PV.ren,hk j (by simpa using h)]
 | .agg xs,h=>by
  simp only [PV.only] at h
  rw [PV.ren,PV.renL_only hk xs h]
 | .tup xs,h=>by
  simp only [PV.only] at h
  rw [PV.ren,PV.renL_only hk xs h]
 | .clo f a b,h=>by
  simp only [PV.only,j0] at h
  rw [PV.ren,PV.renL_only hk a h.1,PV.renL_only hk b h.2]
 | .ifc t x,h=>by
  simp only [PV.only] at h
  rw [PV.ren,PV.ren_only hk x h]
 | .dead,_=>rfl
theorem PV.renL_only {κ:Nat→Nat}{ks:List Nat}(hk:∀ k∈ks,κ k=k):∀ xs:List PV,PV.onlyL ks xs=true→PV.renL κ xs=xs
 | [],_=>rfl
 | x :: xs,h=>by
  simp only [PV.onlyL,j0] at h
  rw [PV.renL,PV.ren_only hk x h.1,PV.renL_only hk xs h.2]
end
theorem Blk.ren_only {κ:Nat→Nat}{ks:List Nat}(hk:∀ k∈ks,κ k=k)(B:Blk)(h:B.cs.only ks=true):B.ren κ=B:=by
 obtain ⟨T,sz,cs⟩:=B
 cases cs with
 | pure xs=>rfl
 | mix vs =>
  have h:PV.onlyL ks vs=true:=h
  have:vs.map (PV.ren κ)=vs:=by rw [← d0v]; exact PV.renL_only hk vs h
  simp only [Blk.ren,Cells.ren,this]
end Go.Proofs.YtjagfionflbjbaaGreat.SH
namespace Go.Proofs.YtjagfionflbjbaaGreat.N
open Go Go.Proofs.YtjagfionflbjbaaGreat.SH Go.Proofs.YtjagfionflbjbaaGreat.NumA
theorem D1c {s:Nat}{m:List (List Rat)}{v:List Rat}:G2 s (m++[v])=(s+1001,⟨40,1,.mix (P4 s 0 m++[.ref (G3 s m.length) 0 v.length (v.length*4)])⟩) :: (R6 s 0 m++[(G3 s m.length,i4 v)]):=by
 rw [G2,hdB,k0f,v0r,F1]
theorem N1z {P:Program}{F:Fr}{c:Code}{Q:Exit→St→Prop}{S:St}{sl:List (Nat×PV)}{pre:List (Nat×Blk)}{m:List (List Rat)}{s a:Nat}{v:List Rat}(ks:List Nat)(hs2:s<9)(ha:a<1000)(hpa:F.pin a=none)(hpb:F.pin (G3 s m.length)=none)(hlo:F.lo a=F.lo (G3 s m.length))(hks:(ks.all fun k=>Nat.blt k 1100 && k != a)=true)
  (hS:b7 S sl) (hSo:(sl.all fun p=>p.2.only ks)=true) (hB:K5 S pre) (hBo:(pre.all fun p=>p.2.cs.only ks)=true) (hBk:(pre.all fun p=>Nat.blt p.1 1000 && p.1 != a)=true)
  (h1:S.blk (s+1001)=some ⟨40,1,.mix (P4 s 0 m++[.ref a 0 v.length (v.length*4)])⟩) (h2:S.blk a=some (i4 v)) (h3:∀ k B,(R6 s 0 m).lookup k=some B→S.blk k=some B)
  (hn:Z3 P F c ⟨sl,pre++G2 s (m++[v])⟩ Q):Z3 P F c S Q:=by
 have hfix:∀ k∈ks,swN a (G3 s m.length) k=k:=fun k hk=>by
  rw [s0] at hks
  have:=hks k hk
  simp only [j0,Nat.blt_eq,bne_iff_ne] at this
  rw [swN,if_neg this.2,if_neg (by unfold G3; omega)]
 rw [s0] at hSo hBo hBk
 refine B1d a (G3 s m.length) hpa hpb hlo (fun t v' ht=>?_) (fun k B' hk=>?_) hn
 ·have h4:=o8 (show sl.lookup t=some v' from ht)
  exact ⟨v',hS.all t v' ht,(PV.ren_only hfix v' (hSo _ h4)).symm⟩
 ·have hk:(pre++G2 s (m++[v])).lookup k=some B':=hk
  rw [T1] at hk
  cases e:pre.lookup k with
  | some C =>
   rw [e,K0] at hk
   injection hk with hk
   subst hk
   have h5:=hBk _ (K3 e)
   simp only [j0,Nat.blt_eq,bne_iff_ne] at h5
   refine ⟨C,?_,(Blk.ren_only hfix C (hBo _ (K3 e))).symm⟩
   rw [swN,if_neg h5.2,if_neg (by unfold G3; omega)]
   exact hB.all k C e
  | none =>
   rw [e,l0,D1c,i0] at hk
   have hrow:∀ j,j<m.length→swN a (G3 s m.length) (G3 s j)=G3 s j:=fun j hj=>by rw [swN,if_neg (by unfold G3; omega),if_neg (by unfold G3; omega)]
   by_cases e1:k=s+1001
   ·subst e1
    simp only [BEq.rfl,U0] at hk
    subst hk
    refine ⟨⟨40,1,.mix (P4 s 0 m++[.ref a 0 v.length (v.length*4)])⟩,by rw [swN,if_neg oM,if_neg (by unfold G3; omega)]; exact h1,?_⟩
    have hr:∀ (i:Nat) (q:List (List Rat)),i+q.length≤m.length→(P4 s i q).map (PV.ren (swN a (G3 s m.length)))=P4 s i q:=by
     intro i q
     induction q generalizing i with
     | nil=>intro _; rfl
     | cons w q ih =>
      intro hq
      simp only [D1] at hq
      simp only [P4,R0,PV.ren,hrow i oM,ih (i+1) oM]
    simp only [Blk.ren,Cells.ren,List.map_append,hr 0 m oM,R0,List.map_nil,PV.ren,swN,if_true]
   ·rw [show (k == s+1001)=false by simpa using e1,T1] at hk
    cases e2:(R6 s 0 m).lookup k with
    | some C =>
     rw [e2,K0] at hk
     injection hk with hk
     subst hk
     obtain ⟨j,hj,h6⟩:=d9 (G0.2 ⟨_,K3 e2,rfl⟩)
     simp only [F1] at h6
     refine ⟨C,by rw [h6,hrow j hj,← h6]; exact h3 k C e2,?_⟩
     rw [h6] at e2
     rw [V0q,M0] at e2
     obtain ⟨w,_,rfl⟩:=e2
     rfl
    | none =>
     rw [e2,l0,i0] at hk
     by_cases e3:k=G3 s m.length
     ·subst e3
      simp only [BEq.rfl,U0] at hk
      subst hk
      refine ⟨i4 v,by rw [swN,if_neg (by unfold G3; omega),if_pos rfl]; exact h2,rfl⟩
     ·rw [show (k == G3 s m.length)=false by simpa using e3] at hk; cases hk
end Go.Proofs.YtjagfionflbjbaaGreat.N
namespace Go.Proofs.YtjagfionflbjbaaGreat.SH
open Go Go.RowKit
theorem D1v {P:Program}{F:Fr}{c:Code}{Q:Exit→St→Prop}{S S':St}(hs:∀ t v,S'.slot t=some v→S.slot t=some v)(hb:∀ k B',S'.blk k=some B'→∃ B,S.blk k=some B∧B'.T=B.T∧B'.sz=B.sz∧B'.cs.len=B.cs.len∧∀ i,B'.cs.get i=B.cs.get i)(hn:Z3 P F c S' Q):Z3 P F c S Q:=by
 refine ⟨fun n a w ⟨ρ,h⟩=>hn.run n a w ⟨ρ,?_⟩⟩
 have hn':∀ j,S'.blk j≠none→S.blk j≠none:=fun j hj=>by
  obtain ⟨B,hB⟩:=j1.1 hj
  obtain ⟨B0,h0,_⟩:=hb j B hB
  rw [h0]; simp
 have hcar:Carry (okI F S.blk ρ) (okI F S'.blk ρ) (hp w) (hp w):=fun b hb _=>⟨⟨hb.1,fun j hj=>hb.2 j (hn' j hj)⟩,rfl⟩
 have hkp:∀ K:Nat→Prop,b0d K S.blk S'.blk ρ ρ (hp w) (hp w):=fun K j _ B hB=>by
  obtain ⟨B0,h0,h1,h2,h3,_⟩:=hb j B hB
  exact ⟨B0,h0,h2,by omega,fun _=>⟨rfl,fun c T fr hc=>⟨c,T,fr,hc,rfl⟩⟩⟩
 refine ⟨fun t v ht=>?_,fun j B hB=>?_,fun j j' h1 h2 e=>h.inj j j' (hn' j h1) (hn' j' h2) e,h.frame,h.nt,h.df,fun j b n hj hS=>h.pin j b n hj (hn' j hS)⟩
 ·obtain ⟨u,hu,hr⟩:=h.slots t v (hs t v ht)
  exact ⟨u,hu,L2.mono (K:=fun _=>True) hcar (hkp _) v u (fun _ _=>trivial) hr⟩
 ·obtain ⟨B0,h0,h1,h2,h3,h4⟩:=hb j B hB
  obtain ⟨c,c1,c2,c3,c4⟩:=h.blks j B0 h0
  refine ⟨c,by rw [h1]; exact c1,c2,by omega,fun i x hx=>?_⟩
  obtain ⟨u,hu,ho,hr⟩:=c4 i x (by rw [← h4]; exact hx)
  exact ⟨u,hu,ho,L2.mono (K:=fun _=>True) hcar (hkp _) x u (fun _ _=>trivial) hr⟩
section
variable {P:Program} {F:Fr} {d:Nat} {T:TypeId} {pos:String} {aft:Array Edge} {g:Option (Nat×Bool)} {t tx:TypeId}
theorem m1d {x y:Operand}{k j n:Nat}{e:TypeId}{ie:TypeInfo}{z:Value}{cs:List PV}{u:PV}(hu:P.underlying t=some (.slice e))(hux:P.underlying tx=some (.slice e))(hi:∀ w,(typeInfo e).run P w = .ok ie w)(hz:ie.zero=some z)(hsz:ie.size=1)
  (hzl:z.cells.size=1) (hn:cs.length=n) (hby:2*(n+1)*ie.bytes≤281474976710656) (h63:n+1≤9223372036854775807) (hpk:F.pin k=none) (hlt:d<F.nt) :
  O2 P F ⟨some d,.call ⟨.builtin .append,#[x,y],#[t,tx]⟩,T,pos,aft,g⟩ ⟨[(x,.ref k 0 n n),(y,.ref j 0 1 1)],[(k,⟨e,1,.mix cs⟩),(j,⟨e,1,.mix [u]⟩)],none,[(d,.ref k 0 (n+1) (n+1))],[(k,⟨e,1,.mix (cs++[u])⟩)]⟩ :=
 F0n (m:=1) (sz:=1) (cs:=.mix cs) (us:=[u]) hu hi hz hsz hzl (by omega) hn (by simp) (Q1d (B:=⟨e,1,.mix [u]⟩) (k:=j) (o:=0) hux rfl rfl rfl) rfl .mix rfl hby h63 hpk hlt
end
end Go.Proofs.YtjagfionflbjbaaGreat.SH
set_option maxRecDepth 100000
set_option maxHeartbeats 4000000
namespace Go.Proofs.YtjagfionflbjbaaGreat.N
open Go Go.Proofs.YtjagfionflbjbaaGreat.SH Go.Proofs.YtjagfionflbjbaaGreat.NumA
open Go.Proofs.Tryz renaming call103→cl103,call104→cl104,call11→cl11,call12→cl12,call132→cl132,call133→cl133,call13→cl13,call14→cl14,call15→cl15,call16→cl16,call17→cl17,call19→cl19,call22→cl22,call23→cl23,call24→cl24,call25→cl25,call27→cl27,call29→cl29,call30→cl30,call31→cl31,call33→cl33,call34→cl34,call35→cl35,call36→cl36,call37→cl37,call38→cl38,call39→cl39,call40→cl40,call41→cl41,call47→cl47,call48→cl48,call49→cl49,call50→cl50,call51→cl51,call52→cl52,call54→cl54,call55→cl55,call57→cl57,call58→cl58,call59→cl59,call60→cl60,call61→cl61,call62→cl62,call63→cl63,call64→cl64,call65→cl65,call66→cl66,call67→cl67,call68→cl68,call69→cl69,call70→cl70,call71→cl71,call72→cl72,call73→cl73,call74→cl74,call75→cl75,call76→cl76,call84→cl84,isAgg119→ag119,isAgg22→ag22,isAgg24→ag24,isAgg3→ag3,isAgg40→ag40,isAgg43→ag43,isAgg45→ag45,isAgg47→ag47,isAgg4→ag4,isAgg77→ag77,sizeOf119→sz119,sizeOf22→sz22,sizeOf24→sz24,sizeOf3→sz3,sizeOf40→sz40,sizeOf43→sz43,sizeOf45→sz45,sizeOf47→sz47,sizeOf4→sz4,sizeOf77→sz77,typeInfo3→ti3,typeInfo40→ti40,typeInfo47→ti47,underlying22→un22,underlying24→un24,underlying27→un27,underlying40→un40,underlying43→un43,underlying45→un45,underlying47→un47,underlying4→un4,underlying77→un77,underlying79→un79,zeroValue24→zv24,zeroValue47→zv47
theorem J1v {P:Program}{F:Fr}{c:Code}{Q:Exit→St→Prop}{S:St}{sl:List (Nat×PV)}{pre:List (Nat×Blk)}{s a t:Nat}(ks:List Nat)(hs2:s<9)(ha:a<1000)(hpa:F.pin a=none)(hpb:F.pin (s+1001)=none)(hlo:F.lo a=F.lo (s+1001))(hks:(ks.all fun k=>Nat.blt k 1000 && k != a)=true)
  (hS:b7 S sl) (hSo:(sl.all fun p=>p.2.only ks && p.1 != t)=true) (ht:S.slot t=some (.ref a 0 0 0)) (hB:K5 S pre) (hBo:(pre.all fun p=>p.2.cs.only ks)=true) (hBk:(pre.all fun p=>Nat.blt p.1 1000 && p.1 != a)=true)
  (h1:S.blk a=some ⟨40,1,.pure []⟩) (hn:Z3 P F c ⟨(t,.ref (s+1001) 0 0 0) :: sl,pre++G2 s []⟩ Q):Z3 P F c S Q:=by
 have hfix:∀ k∈ks,swN a (s+1001) k=k:=fun k hk=>by
  rw [s0] at hks
  have:=hks k hk
  simp only [j0,Nat.blt_eq,bne_iff_ne] at this
  rw [swN,if_neg this.2,if_neg oM]
 rw [s0] at hSo hBo hBk
 refine B1d (S':=⟨(t,.ref (s+1001) 0 0 0) :: sl,pre++[(s+1001,⟨40,1,.pure []⟩)]⟩) a (s+1001) hpa hpb hlo (fun t' v' ht'=>?_) (fun k B' hk=>?_) (D1v (S':=⟨(t,.ref (s+1001) 0 0 0) :: sl,pre++G2 s []⟩) (fun t v h=>h) (fun k B' hk=>?_) hn)
 ·have h2:List.lookup t' ((t,.ref (s+1001) 0 0 0) :: sl)=some v':=ht'
  rw [i0] at h2
  by_cases e:t'=t
  ·subst e
   simp only [BEq.rfl,U0] at h2
   subst h2
   exact ⟨_,ht,(by simp [PV.ren,swN])⟩
  ·rw [show (t' == t)=false by simpa using e] at h2
   have h4:=hSo _ (o8 h2)
   simp only [j0] at h4
   exact ⟨v',hS.all t' v' h2,(PV.ren_only hfix v' h4.1).symm⟩
 ·have hk:(pre++([(s+1001,⟨40,1,.pure []⟩)]:List (Nat×Blk))).lookup k=some B':=hk
  rw [T1] at hk
  cases e:pre.lookup k with
  | some C =>
   rw [e,K0] at hk
   injection hk with hk
   subst hk
   have h5:=hBk _ (K3 e)
   simp only [j0,Nat.blt_eq,bne_iff_ne] at h5
   refine ⟨C,?_,(Blk.ren_only hfix C (hBo _ (K3 e))).symm⟩
   rw [swN,if_neg h5.2,if_neg oM]
   exact hB.all k C e
  | none =>
   rw [e,l0,i0] at hk
   by_cases e1:k=s+1001
   ·subst e1
    simp only [BEq.rfl,U0] at hk
    subst hk
    exact ⟨_,(by rw [swN,if_neg oM,if_pos rfl]; exact h1),rfl⟩
   ·rw [show (k == s+1001)=false by simpa using e1] at hk; cases hk
 ·have hk:(pre++G2 s []).lookup k=some B':=hk
  show ∃ B,(pre++([(s+1001,⟨40,1,.pure []⟩)]:List (Nat×Blk))).lookup k=some B∧_
  rw [T1] at hk ⊢
  cases e:pre.lookup k with
  | some C =>
   rw [e,K0] at hk
   injection hk with hk
   subst hk
   exact ⟨C,rfl,rfl,rfl,rfl,fun _=>rfl⟩
  | none =>
   rw [e,l0,G2,i0] at hk
   by_cases e1:k=s+1001
   ·subst e1
    simp only [BEq.rfl,U0] at hk
    subst hk
    exact ⟨⟨40,1,.pure []⟩,(by rw [l0,List.lookup_cons_self]),rfl,rfl,rfl,fun _=>rfl⟩
   ·rw [show (k == s+1001)=false by simpa using e1] at hk; cases hk
theorem k1r {b:List Rat}{i:Nat}(h:i<b.length):(f5 b).take (i+1)=(f5 b).take i++[((zsQ (b.length+1)).set 0 (b.getD i 0)).set (i+1) 1]:=by
 rw [G0d (by simpa [f5] using h),y1s h]
theorem d0a {B:Nat}{b:List Rat}(hB:∀ a∈b,qw a≤B)(hb:B<1000000000)(hl:b.length<1000000000):l3 E 64 [pV b] (bZ true):=by
 have:=U9 (b.map RQ.of) (by simpa using hl) (fun r hr=>by
  obtain ⟨a,ha,rfl⟩:=G0.1 hr
  have:=hB a ha
  exact RQ.sm_of oM)
 rwa [d1v,N0k] at this
theorem J1f {v:List Rat}{a c:Rat}{j:Nat}(h0:0<v.length)(hj:j<v.length):(⟨47,4,.pure ((((U5 v).take (0*4)++cQ a++(U5 v).drop (0*4+4)).take (j*4))++cQ c++(((U5 v).take (0*4)++cQ a++(U5 v).drop (0*4+4)).drop (j*4+4)))⟩:Blk)=i4 ((v.set 0 a).set j c):=by rw [M1y a h0,h0x c (by simpa using hj)]
theorem m1x {m:List (List Rat)}{k:Nat}:(P5 m).drop k=P5 (m.drop k):=by simp [P5,List.map_drop]
theorem y1r {p:Nat→Prop}{i:Nat}(h:∀ k,k<i→p k)(hi:p i):∀ k,k<i+1→p k:=fun k hk=>by
 by_cases e:k=i
 ·rw [e]; exact hi
 ·exact h k oM
theorem K0c:∀ {v:List Rat}{k:Nat},(U5 v).drop (k*4)=U5 (v.drop k)
 | v,0=>by simp
 | [],k+1=>by simp [U5]
 | a :: v,k+1=>by
  rw [show (k+1)*4=k*4+1+1+1+1 by omega]
  simp only [U5,cQ,L1,List.nil_append,List.drop_succ_cons]
  exact K0c
theorem F1x {u:List Rat}{a:Rat}{k:Nat}(h:k<u.length):(u.take (k+1)).map (· / a)=(u.take k).map (· / a)++[u.getD k 0 / a]:=by
 rw [I1,List.map_append]; congr 1; simp [f0,h]
def W1s (r:List Rat):List Rat:=(r.drop 1).map (· / r.getD 0 0)
theorem K0j {p:Nat→Bool}:∀ {n a i:Nat},(∀ k,k<i→p (a+k)=false)→p (a+i)=true→i<n→G4 p a n=((a+i:Nat):Int)
 | 0,_,_,_,_,h=>by omega
 | n+1,a,0,_,h1,_=>by rw [G4,if_pos (by simpa using h1)]; simp
 | n+1,a,i+1,h0,h1,h=>by
  have h2:=h0 0 oM
  rw [Nat.add_zero] at h2
  rw [G4,if_neg (by rw [h2]; simp),K0j (a:=a+1) (i:=i) (fun k hk=>by rw [Nat.add_assoc,Nat.add_comm 1 k]; exact h0 (k+1) oM) (by rw [Nat.add_assoc,Nat.add_comm 1 i]; exact h1) oM]
  rw [Nat.add_assoc,Nat.add_comm 1 i]
theorem M0r {p:Nat→Bool}:∀ {n a:Nat},(∀ k,k<n→p (a+k)=false)→G4 p a n = -1
 | 0,_,_=>rfl
 | n+1,a,h=>by
  have h2:=h 0 oM
  rw [Nat.add_zero] at h2
  rw [G4,if_neg (by rw [h2]; simp)]
  exact M0r fun k hk=>by rw [Nat.add_assoc,Nat.add_comm 1 k]; exact h (k+1) oM
def Y0a (t:ESt)(n:Nat):Int:=G4 (nzI t.b 0) t.pv.length (n - t.pv.length)
def P0b (c:Nat)(t:ESt)(n:Nat):List Rat:=if Y0a t n<0 then W1y c t.pv (fun i=>ent t.b i 0) else []
def W0q (t:ESt)(n:Nat):List Rat:=if Y0a t n<0 then [] else W1s (t.b.getD (Y0a t n).toNat [])
def H0f (t:ESt)(n:Nat):Int:=if Y0a t n<0 then 0 else 4
theorem Y0h (n c B DB:Nat)(M:List (List Rat))(b:List Rat)(h:MOk c M)(hB1:MB B M)(hbB:∀ a∈b,qw a≤B)(hn:M.length=n)(hbn:b.length=n)(H:EU n c (n+1) B DB M (f5 b)):K4 E (fun _=>true) 24 [.p (pMq c M),.p (pV b)] ([]) ([]) (.p (.tup [pV (P0b c (ech M (f5 b) c) n),pV (W0q (ech M (f5 b) c) n),vZ (H0f (ech M (f5 b) c) n)])):=by
 refine l4 (xs:=[pV (P0b c (ech M (f5 b) c) n),pV (W0q (ech M (f5 b) c) n),vZ (H0f (ech M (f5 b) c) n)]) Tryz.func24 rfl Tryz.ntmps24 Tryz.results24 sM fun F G=>?_
 have L:=@lti _ _ G.nt
 have hG:=G.g
 have hX:=G.x
 have hN:=R5 hG
 have P0:∀ k,Nat.blt k 1000=true→F.pin k=none:=fun k hk=>G.p0 k (s6.low k hk)
 have hb:=H.bl
 have hcl:=H.cl
 have hnl:=H.nl
 have hsp:=G6 H.rc H.rb c (Nat.le_refl _)
 subst hbn
 have hpin:∀ k,F.pin k=none:=fun k=>G.p0 k rfl
 have hlo:∀ k,F.lo k=true:=fun k=>by rw [G.lo]; rfl
 refine exr (swb (U3 (k:=2) (n:=2) pa2 rfl rfl (P0 _ rfl) L) t1 t0 (frT [] s6 rfl rfl rfl) (aV L rfl (aV L rfl (aV L rfl ?_))))
 refine O1 ⟨[(1,_),(2,_),(5,_)],(2,_) :: (([]:List (Nat×Blk))),t3,⟨rfl,(hbT [_] s6 rfl)⟩,?_⟩
 refine R1 (exr (lp2 ag24 sz24 L rfl rfl (cK hG hX cl40 hN (I9 h hB1 oM) L t1 (sw (v4 L) t1 t0 (mV L rfl (gV (g:=25) rfl rfl L rfl rfl (swg (g:=25) rfl rfl (c_c hG hX cl64 rfl hN (d0a hbB oM oM) L) rfl t1 t0 (swg (g:=25) rfl rfl (v4 L) rfl t1 t0 (sw (n4 rfl L) t2 t0 ?_)))))))))
 refine O1 ⟨[(1,_),(2,_),(5,_),(29,_)],(2,_) :: (([]:List (Nat×Blk))),t4,⟨rfl,(hbT [_] s6 rfl)⟩,?_⟩
 refine j4 rfl rfl ?_
 refine U1 (xq ?_)
 refine R1 (exr (mV L rfl (sw (U2 un40 L) t1 t0 (sw (Z1 un24 rfl sz22 dC rX L) t1 t1 ?_))))
 refine sw (Y1 ag22 rF rF L) t1 t1 ?_
 refine sw (U2 un22 L) t1 t0 (sw (c_n L) t2 t0 ?_)
 refine O1 ⟨[(1,_),(2,_),(5,_),(35,_)],(2,_) :: (([]:List (Nat×Blk))),t4,⟨rfl,(hbT [_] s6 rfl)⟩,?_⟩
 refine j4 rfl sO ?_
 refine U1 (xq ?_)
 refine exr (mV L rfl (sw (U2 un40 L) t1 t0 (swb (m0r (k:=38) un77 ti40 rfl rfl rfl rfl (show (0:Int)=((0:Nat):Int) from rfl) rfl (Nat.zero_le _) (by simp [Tryz.t40]; omega) oM (P0 _ rfl) L) t2 t0 (frT [_] s6 rfl rfl rfl) ?_)))
 refine aV L rfl ?_
 refine O1 ⟨[(1,_),(2,_),(5,_),(7,_)],(2,_) :: (38,_) :: (([]:List (Nat×Blk))),t4,⟨rfl,rfl,(hbT [_,_] s6 rfl)⟩,?_⟩
 refine J1v (s:=1) (a:=38) (t:=7) [2] (sl:=[(1,_),(2,_),(5,_)]) (pre:=[(2,_)]) dC dC (hpin _) (hpin _) (by rw [hlo,hlo]) rfl t3 rfl rfl t1 rfl rfl rfl ?_
 refine R1 (exr (mV L rfl (sw (U2 un40 L) t1 t0 (mV L rfl ?_))))
 refine O1 ⟨[(1,_),(2,_),(5,_),(7,_),(39,_),(40,_),(41,_)],(2,_) :: ((G2 1 [])),t7,⟨rfl,(hbT [_] (j2 (s:=1) dC []) rfl)⟩,?_⟩
 refine V1 ?_
 refine H0h (α:=Nat) (fun i=>[(41,vi (i:Int)),(7,.ref 1002 0 i i)]) (fun i=>[]) (fun i=>(G2 1 ((f5 b).take i))) (fun i=>i≤b.length) (fun i=>b.length - i) (0) (sl:=[(1,_),(2,_),(5,_),(39,_),(40,_)]) (hb:=[(2,_)]) ?_ ⟨oR,oR,rfl,rfl,rfl,rfl,rfl,trivial⟩ ⟨rfl,(hbT [_] (j2 (s:=1) dC []) rfl)⟩ ?_
 ·exact Nat.zero_le _
 intro i hi
 have hbsl:(f5 b).length=b.length:=by simp [f5]
 have htl:((f5 b).take i).length=i:=by rw [J0]; omega
 refine exr (sw (W3 L) t2 t0 ?_)
 refine O1 ⟨[(1,_),(2,_),(5,_),(7,_),(39,_),(40,_),(41,_),(42,_)],(2,_) :: ((G2 1 ((f5 b).take i))),t8,⟨rfl,(hbT [_] (j2 (s:=1) dC ((f5 b).take i)) rfl)⟩,?_⟩
 refine R1 ?_
 refine i2 rfl (fun hc=>?_) (fun hc=>?_)
 ·have hc:=dt hc
  have hib:i<b.length:=by omega
  have hst:=k1r hib
  have hqb:=hbB _ (Y3 hib)
  refine U1 (xq ?_)
  refine R1 (V1 (exr (mV L rfl (sw (y2 un40 sz47 oM oM sM dC L) t2 t0 ?_))))
  refine sw (V6 ag47 sz47 (W6 hib) rfl L) t1 t0 (swb (O3 (k:=9) (n:=4) zv47 (.cons rfl (.cons rfl (.cons rfl (.cons rfl .nil)))) rfl (P0 _ rfl) L) t0 t0 (frT [_] (j2 (s:=1) dC ((f5 b).take i)) rfl rfl (by simp [I3,X2,Cells.free,PV.freeL,PV.free,V3,i3])) ?_)
  refine aV L rfl (sb (Y2 sz47 rF pa4 rfl pu4) t2 t1 ?_)
  refine O1 ⟨[(1,_),(2,_),(5,_),(7,_),(8,_),(9,_),(39,_),(40,_),(41,_)],(2,_) :: (9,_) :: ((G2 1 ((f5 b).take i))),t9,⟨rfl,rfl,(hbT [_,_,_] (j2 (s:=1) dC ((f5 b).take i)) rfl)⟩,?_⟩
  refine exr (mV L rfl (sw (U2 un40 L) t1 t0 (sw (F3 L (w64 oM oM)) t2 t0 (swb (g1b (k:=49) hG hX cl54 rfl hN (m0v (b.length+1) oM) (P0 _ rfl) L) t1 t0 (frT [_,_] (j2 (s:=1) dC ((f5 b).take i)) rfl rfl (by simp [I3,X2,Cells.free,PV.freeL,PV.free,V3,i3])) ?_))))
  refine aV L rfl ?_
  refine O1 ⟨[(1,_),(2,_),(5,_),(7,_),(8,_),(9,_),(10,_),(39,_),(40,_),(41,_)],(2,_) :: (9,_) :: (49,_) :: ((G2 1 ((f5 b).take i))),t10,⟨rfl,rfl,rfl,(hbT [_,_,_] (j2 (s:=1) dC ((f5 b).take i)) rfl)⟩,?_⟩
  refine exd rF ?_
  refine mV L rfl (mV L rfl (mV L rfl (sw (F3 L (w64 oM oM)) t2 t0 (lp4 ag47 sz47 L rfl rfl (cK hG hX cl55 hN (e7 1 dC dC) L t1 (sw (K9 un40 sz47 (by exact sM) dC oM L) t2 t1 ?_))))))
  refine sb (y0z (n:=4) sz47 (by exact sM) rfl sO) t2 t1 ?_
  refine sw (m0k (sz:=4) un40 sz47 (by exact (by first | (simp; done) | (simp; omega))) (j:=i+1) rO oM L) t2 t1 ?_
  refine sb (y0z (n:=4) sz47 (by exact (by first | (simp; done) | (simp; omega))) rfl oM) t2 t1 ?_
  refine O1 ⟨h0a [⟨[10],[],[50],[]⟩,⟨[10],[],[51],[]⟩,⟨[8],[],[52],[]⟩,⟨[52],[],[53],[]⟩,⟨[9],[9],[54],[]⟩,⟨[],[],[55],[]⟩,⟨[50],[49],[56],[]⟩,⟨[56,54],[49],[],[49]⟩,⟨[51,53],[49],[57],[]⟩,⟨[57,55],[49],[],[49]⟩] (.cons (cf0 rfl) (.cons (cf0 rfl) (.cons (cf0 rfl) (.cons (cf0 rfl) (.cons (cf0 rfl) (.cons (cf0 rfl) (.cons (cf0 rfl) (.cons (cf0 rfl) (.cons (cf0 rfl) (.cons (cf0 rfl)  .nil)))))))))) rfl (frS [] [_,_,_] (j2 (s:=1) dC ((f5 b).take i)) rfl (by simp [I3,X2,Cells.free,PV.freeL,PV.free,V3,i3])) dC,[(1,_),(2,_),(5,_),(7,_),(10,_),(39,_),(40,_),(41,_)],(2,_) :: (49,i4 (((zsQ (b.length+1)).set 0 (b.getD i 0)).set (i+1) 1)) :: ((G2 1 ((f5 b).take i))),t8,⟨rfl,obl rfl (J1f (v:=zq (b.length+1)) sM sO),(hbT [_,_,_,_,_] (j2 (s:=1) dC ((f5 b).take i)) rfl)⟩,?_⟩
  obtain ⟨ln,hln⟩:∃ ln,ln=((zsQ (b.length+1)).set 0 (b.getD i 0)).set (i+1) 1:=⟨_,rfl⟩
  have hlnl:ln.length=b.length+1:=by rw [hln]; simp
  rw [← hln] at hst ⊢
  rw [← hlnl]
  refine s3 (mV L rfl (mV L rfl (swb (W1c (k:=60) (vs:=[_]) un77 ti40 rfl rfl dC dC rfl (M2 (.cons rfl .nil) rfl) rfl (.cons rfl .ref rfl pu1 .nil) rfl rfl (P0 _ rfl) L) t1 t0 (frT [_,_] (j2 (s:=1) dC ((f5 b).take i)) rfl rfl rfl) ?_)))
  refine swb (m1d (k:=1002) (j:=60) (cs:=P4 1 0 ((f5 b).take i)) un77 un77 ti40 rfl rfl rfl (by rw [E2,htl]) (by simp [Tryz.t40]; omega) oM (hpin _) L) t2 ⟨?_,rfl,trivial⟩ t0 ?_
  ·exact rdT [_,_,_] (j2 (s:=1) dC _) rfl hdL
  refine aV L rfl ?_
  refine O1 (xq ?_)
  refine N1z (s:=1) (a:=49) (m:=(f5 b).take i) (v:=ln) [2,1002] (sl:=[(1,_),(2,_),(5,_),(7,.ref 1002 0 (i+1) (i+1)),(39,_),(40,_),(41,_)]) (pre:=[(2,_)]) dC dC (hpin _) (hpin _) (by rw [hlo,hlo]) rfl t7 rfl t1 rfl rfl rfl rfl (fun k B hk=>?_) ?_
  ·obtain ⟨j,_,hj⟩:=d9 (G0.2 ⟨_,K3 hk,rfl⟩)
   have hj:k=G3 1 (0+j):=hj
   have hk9:k≠1002∧k≠60∧k≠2∧k≠49:=by rw [hj]; unfold G3; omega
   show List.lookup k ((1002,_) :: (60,_) :: (2,_) :: (49,_) :: G2 1 ((f5 b).take i))=some B
   rw [F8 hk9.1,F8 hk9.2.1,F8 hk9.2.2.1,F8 hk9.2.2.2,G2,F8 hk9.1]; exact hk
  rw [← hst]
  refine s3 (sw (F3 L (w64 oM oM)) t2 t0 (mV L rfl (O1 ?_)))
  exact ⟨i+1,oM,by omega,j3 ⟨oR,oR,rfl,rfl,rfl,rfl,rfl,trivial⟩ ⟨rfl,(hbT [_] (j2 (s:=1) dC ((f5 b).take (i+1))) rfl)⟩⟩
 ·have hc:=df hc
  have hib:i=b.length:=by omega
  subst hib
  rw [show (f5 b).take b.length=f5 b from C0 oM]
  obtain ⟨t,ht⟩:∃ t,t=ech M (f5 b) c:=⟨_,rfl⟩
  have hech:=v0v true b.length c (b.length+1) B DB M (f5 b) H
  rw [← ht] at hech hsp
  obtain ⟨r1,r2,r3,-⟩:=hsp
  have hbe:=H.be c (Nat.le_refl _)
  rw [← ht] at hbe
  have hbeg:K4 E (fun _=>false) 50 [.p (.agg [vZ c,.sl M.length (P5 M)]),bv true b.length] (bsT true (f5 b)) ([wU c M (bv true b.length)]++n5 true M (f5 b)) (.at_ 999 0 3):=by rw [hn]; exact m0w true b.length c M (f5 b) H.rc H.nl H.cl
  refine I2 (xq ?_)
  refine n0x (nsw (y6 ag24 sz24 rF (by exact al2) rfl L) t1 t1 ?_)
  refine nsw (c_m L) t1 t0 (nsU (pre:=[_]) (H:=bsT true (f5 b)) G hN [2] [(1,_),(2,_),(5,_)] [(2,_)] hbeg L (X4 (ys:=[_,_]) cl50 rfl rfl) t2 b1m q0f (s5 _ _).nd q0m p1n d1y (fun h=>by cases h) rfl t1 rfl t3 rfl rfl rfl rfl ?_)
  refine nsw (c_a L) t1 t0 ?_
  refine .nil ⟨[(2,_),(5,_),(11,_)],(2,_) :: (999,_) :: (n5 true M (f5 b)),t3,⟨rfl,rfl,(hbT [_,_] (w6 true M (f5 b)) rfl)⟩,?_⟩
  refine n0x (nsw (c_m L) t1 t0 (nsU (pre:=[_]) (H:=[wU c M (bv true b.length)]++n5 true M (f5 b)) G hN [2,999] [(2,_),(5,_),(11,.at_ 999 0 3)] [(2,_)] hech L (X4 (ys:=[_]) cl51 rfl rfl) t1 q0f q0f q0m q0m p1n (fun q h=>by cases h) W1x rfl t1 rfl t3 rfl rfl rfl rfl ?_))
  refine nsw (c_m L) t1 t0 (nsw (R3 rfl L) t1 t0 (nsw (R3 rfl L) t1 t0 (M1s (O3 (k:=13) (n:=4) zv47 (.cons rfl (.cons rfl (.cons rfl (.cons rfl .nil)))) rfl (P0 _ rfl) L) t0 t0 (frT [_,_] (w6 true t.m t.b) rfl rfl (by simp [I3,X2,Cells.free,PV.freeL,PV.free,V3,i3])) ?_)))
  refine nsw (c_a L) t1 t0 (nsb (Y2 sz47 rF pa4 rfl pu4) t2 t1 ?_)
  refine .nil ⟨[(2,_),(5,_),(11,_),(12,_)],(2,_) :: (999,_) :: (n5 true t.m t.b),t4,⟨rfl,rfl,(hbT [_,_,_,_] (w6 true t.m t.b) rfl)⟩,?_⟩
  refine v1p (pre:=[_]) hlo rfl sM (fun _=>r2.1) ⟨⟨_,rfl,.same⟩,⟨_,rfl,.same⟩,⟨_,rfl,.same⟩,⟨_,rfl,.same⟩,trivial⟩ ?_
  have hle:=r3.le
  obtain ⟨q,hq⟩:∃ q,q=t.pv.length:=⟨_,rfl⟩
  have hdl:(t.b.drop q).length=b.length - q:=by rw [List.length_drop,r2.1]
  show Z3 _ _ _ ⟨_,[_]++[(999,⟨79,3,.mix [.p (.sl t.m.length (P5 t.m)),.p (vZ c),.p (.sl t.b.length (P5 t.b))]⟩)]⟩ _
  refine R1 (exr (mV L rfl (sw (Z2 rX L) t1 t1 ?_)))
  refine sw (Z1 un79 rfl sz77 dC rX L) t1 t1 ?_
  refine sw (Y1 ag77 rF rF L) t1 t1 ?_
  refine mV L rfl (sw (U2 un27 L) t1 t0 (sw (F1w un77 sz40 (l:=q) rO (by have:=r2.1; omega) (show t.b.length - q=(t.b.drop q).length by simp) sM (by rw [Nat.mul_one,m1x]) L) t2 t0 ?_))
  refine sw (U2 un77 L) t1 t0 (mV L rfl (zn [(2,_),(5,_),(11,_),(12,_),(77,_),(78,_),(79,_)] [(2,_),(999,_)] t7 t2 ?_))
  obtain ⟨D',hD⟩:∃ D',D'=t.b.drop q:=⟨_,rfl⟩
  rw [← hD] at hdl ⊢
  have hDg:∀ j,D'.getD j []=t.b.getD (q+j) []:=fun j=>by rw [hD,f0,f0,List.getElem?_drop]
  have hDl:∀ j,j<D'.length→(D'.getD j []).length=b.length+1:=fun j hj=>by rw [hDg]; exact r2.get oM
  have hDB:∀ j,∀ a∈D'.getD j [],qw a≤B:=fun j a ha=>by
   rw [hDg] at ha
   obtain ⟨k,rfl⟩:=g0c ha
   exact g0d hbe H.b0
  refine V1 ?_
  refine exl (α:=Nat) (fun i=>[(79,vi (i:Int))]) (fun i=>[]) (fun i=>i≤D'.length∧∀ k,k<i→(D'.getD k []).getD 0 0=0) (fun i=>D'.length - i) (0) (sl:=[(2,_),(5,_),(11,_),(12,_),(77,_),(78,_)]) (hb:=[(2,_),(999,_)]) ?_ ⟨oR,rfl,rfl,rfl,rfl,rfl,rfl,trivial⟩ t2 ?_
  ·exact ⟨Nat.zero_le _,fun k hk=>by omega⟩
  intro i hi
  obtain ⟨hi,hz⟩:=hi
  refine exr (sw (W3 L) t2 t0 (zn [(2,_),(5,_),(11,_),(12,_),(77,_),(78,_),(79,_),(80,_)] [(2,_),(999,_)] t8 t2 (R1 ?_)))
  refine i2 rfl (fun hc2=>?_) (fun hc2=>?_)
  ·have hc2:=dt hc2
   have hid:i<D'.length:=by omega
   have hl:=hDl i hid
   have hlB:=hDB i
   obtain ⟨r,hr⟩:∃ r,r=D'.getD i []:=⟨_,rfl⟩
   rw [← hr] at hl hlB
   have h0l:0<r.length:=by omega
   have hqa:=hlB _ (Y3 h0l)
   refine U1 (xq ?_)
   refine R1 (V1 (exr (sw (ixJ un77 sz40 (j:=i) rO oM sM L) t2 t0 ?_)))
   refine sw (d4 ag40 (by rw [v7 hid,← hr]) L) t1 t0 ?_
   refine aV L rfl (zn [(2,_),(5,_),(11,_),(12,_),(15,_),(77,_),(78,_),(79,_)] [(2,_),(999,_)] t8 t2 (R1 (exr (mV L rfl (sw (y2 un40 sz47 dC oM sM dC L) t2 t0 ?_)))))
   refine sw (V6 ag47 sz47 (W6 (v:=r) (i:=0) h0l) rfl L) t1 t0 (cK hG hX cl65 hN (E6 (r.getD 0 0) oM) L t1 (zn [(2,_),(5,_),(11,_),(12,_),(15,_),(77,_),(78,_),(79,_),(86,_)] [(2,_),(999,_)] t9 t2 ?_))
   refine i2 rfl (fun hz0=>?_) (fun hz0=>?_)
   ·have hz0:=dt hz0
    refine I2 (xq ?_)
    refine s3 (sw (F3 L (w64 oM oM)) t2 t0 (mV L rfl (O1 ?_)))
    exact ⟨i+1,⟨by omega,y1r hz (by rw [← hr]; exact hz0)⟩,by omega,j3 ⟨oR,rfl,rfl,rfl,rfl,rfl,rfl,trivial⟩ t2⟩
   ·have hz0:=df hz0
    obtain ⟨r',hr'⟩:∃ r',r'=r.drop 1:=⟨_,rfl⟩
    have hl1:r'.length=b.length:=by rw [hr',List.length_drop,hl]; omega
    have hnb:0<b.length:=by omega
    have hB1':∀ a∈r',qw a≤B:=fun a ha=>hlB a (List.mem_of_mem_drop (by rw [hr'] at ha; exact ha))
    have hsy:∀ k,k<r'.length→(r'.take (k+1)).map (· / r.getD 0 0)=(r'.take k).map (· / r.getD 0 0)++[r'.getD k 0 / r.getD 0 0]:=fun k hk=>F1x hk
    refine U1 (xq ?_)
    refine R1 (exr (mV L rfl (sw (F1w un40 sz47 (l:=1) rfl oM (show r.length - 1=r'.length by rw [hl1,hl]; omega) sM (show (U5 r).drop (1*4)=U5 r' by rw [hr']; exact K0c) L) t2 t0 ?_)))
    refine sw (U2 un40 L) t1 t0 (mV L rfl (zn [(5,_),(15,_),(88,_),(89,_),(90,_)] [] t5 trivial (V1 ?_)))
    refine H1m (α:=Nat) (fun k=>[(90,vi (k:Int)),(5,.ref 105 0 k (k*4))]) (fun k=>[(105,i4 ((r'.take k).map (· / r.getD 0 0)))]) (fun k=>0<k∧k≤r'.length) (fun k=>r'.length - k) (r'.length+1) (sl:=[(15,_),(88,_),(89,_)]) (hb:=[]) t3 t0 ?_ ?_
    ·refine exr (sw (W3 L) t2 t0 (zn [(5,_),(15,_),(88,_),(89,_),(90,_),(91,_)] [] t6 trivial (R1 (b0q rfl sO ?_))))
     have hk0:0<r'.length:=by omega
     have hqk:=hB1' _ (Y3 hk0)
     refine U1 (xq ?_)
     refine R1 (V1 (exr (sw (y2 un40 sz47 dC oM sM dC L) t2 t0 ?_)))
     refine sw (V6 ag47 sz47 (W6 (v:=r') (i:=0) hk0) rfl L) t1 t0 (swb (O3 (k:=17) (n:=4) zv47 (.cons rfl (.cons rfl (.cons rfl (.cons rfl .nil)))) rfl (P0 _ rfl) L) t0 t0 ⟨rfl,rfl⟩ (sb (Y2 sz47 rF pa4 rfl pu4) t2 t1 ?_))
     refine zn [(5,_),(15,_),(17,_),(88,_),(89,_),(90,_)] [(17,_)] t6 t1 (exd rF ?_)
     refine lp4 ag47 sz47 L rfl rfl (mV L rfl (sw (y2 un40 sz47 dC oM sM dC L) t2 t0 ?_))
     refine sw (V6 ag47 sz47 (W6 (v:=r) (i:=0) h0l) rfl L) t1 t0 (cK hG hX cl66 hN (q0n (r'.getD 0 0) (r.getD 0 0) oM oM hz0) L t2 (mV L rfl (sw (R3 rfl L) t1 t0 (sw (R3 rfl L) t1 t0 (swb (O3 (k:=18) (n:=4) zv47 (.cons rfl (.cons rfl (.cons rfl (.cons rfl .nil)))) rfl (P0 _ rfl) L) t0 t0 ⟨rfl,rfl⟩ (sb (Y2 sz47 rF pa4 rfl pu4) t2 t1 ?_))))))
     refine aV L rfl ?_
     refine O1 ⟨aok rfl rfl,[(5,_),(15,_),(18,_),(88,_),(89,_),(90,_)],[(18,_)],t6,t1,?_⟩
     refine s3 (mV L rfl (lp4 ag47 sz47 L rfl rfl (sw (B4 (vs:=[_]) un40 ti47 rfl rfl dC dC rfl (M2 (.cons rfl (.cons rfl (.cons rfl (.cons rfl .nil)))) rfl) rfl (.cons rfl pa4 rfl pu4 .nil) (.cons (.cons (.cons (.cons .nil)))) L) t1 t0 (swb (apN (k:=105) (sz:=4) un40 un40 ti47 rfl rfl rfl dC sM rfl (by first | (simp [Tryz.t47]; done) | (simp [Tryz.t47]; omega)) oM (P0 _ rfl) L) t2 t0 ⟨rfl,rfl⟩ ?_))))
     refine aV L rfl (O1 (s3 (sw (F3 L (w64 oM oM)) t2 t0 (mV L rfl (O1 ?_)))))
     exact ⟨1,⟨by omega,by omega⟩,oM,j3 ⟨oR,oR,rfl,rfl,rfl,trivial⟩ ⟨obl rfl (by rw [hsy 0 hk0]; rfl),trivial⟩⟩
    ·intro k hk
     obtain ⟨hk0,hk1⟩:=hk
     refine exr (sw (W3 L) t2 t0 (zn [(5,_),(15,_),(88,_),(89,_),(90,_),(91,_)] [(105,_)] t6 t1 (R1 ?_)))
     refine i2 rfl (fun hk2=>?_) (fun hk2=>?_)
     ·have hk2:=dt hk2
      have hkl:k<r'.length:=by omega
      have hqk:=hB1' _ (Y3 hkl)
      refine U1 (xq ?_)
      refine R1 (V1 (exr (sw (y2 un40 sz47 oM oM sM dC L) t2 t0 ?_)))
      refine sw (V6 ag47 sz47 (W6 hkl) rfl L) t1 t0 (swb (O3 (k:=17) (n:=4) zv47 (.cons rfl (.cons rfl (.cons rfl (.cons rfl .nil)))) rfl (P0 _ rfl) L) t0 t0 ⟨rfl,rfl⟩ (sb (Y2 sz47 rF pa4 rfl pu4) t2 t1 ?_))
      refine zn [(5,_),(15,_),(17,_),(88,_),(89,_),(90,_)] [(17,_),(105,_)] t6 t2 (exd rF ?_)
      refine lp4 ag47 sz47 L rfl rfl (mV L rfl (sw (y2 un40 sz47 dC oM sM dC L) t2 t0 ?_))
      refine sw (V6 ag47 sz47 (W6 (v:=r) (i:=0) h0l) rfl L) t1 t0 (cK hG hX cl66 hN (q0n (r'.getD k 0) (r.getD 0 0) oM oM hz0) L t2 (mV L rfl (sw (R3 rfl L) t1 t0 (sw (R3 rfl L) t1 t0 (swb (O3 (k:=18) (n:=4) zv47 (.cons rfl (.cons rfl (.cons rfl (.cons rfl .nil)))) rfl (P0 _ rfl) L) t0 t0 ⟨rfl,rfl⟩ (sb (Y2 sz47 rF pa4 rfl pu4) t2 t1 ?_))))))
      refine aV L rfl ?_
      refine O1 ⟨aok rfl rfl,[(5,_),(15,_),(18,_),(88,_),(89,_),(90,_)],[(18,_),(105,_)],t6,t2,?_⟩
      refine s3 (mV L rfl (lp4 ag47 sz47 L rfl rfl (sw (B4 (vs:=[_]) un40 ti47 rfl rfl dC dC rfl (M2 (.cons rfl (.cons rfl (.cons rfl (.cons rfl .nil)))) rfl) rfl (.cons rfl pa4 rfl pu4 .nil) (.cons (.cons (.cons (.cons .nil)))) L) t1 t0 (swb (apP (sz:=4) un40 un40 ti47 rfl rfl rfl dC (by exact (by first | (simp; done) | (simp; omega))) oF sM rfl rfl rfl (by first | (simp [Tryz.t47]; done) | (simp [Tryz.t47]; omega)) oM (P0 _ rfl) L) t2 t1 t0 ?_))))
      refine aV L rfl (O1 (s3 (sw (F3 L (w64 oM oM)) t2 t0 (mV L rfl (O1 ?_)))))
      exact ⟨k+1,⟨by omega,by omega⟩,by omega,j3 ⟨oR,(ov rfl sO),rfl,rfl,rfl,trivial⟩ ⟨obl rfl ((g0r _ _).trans (by rw [hsy k hkl])),trivial⟩⟩
     ·have hk2:=df hk2
      have hkl:k=r'.length:=by omega
      subst hkl
      rw [I0]
      refine I2 (xq ?_)
      refine exr (mV L rfl (aV L rfl (aV L rfl (aV L rfl (zn [(4,_),(5,_),(6,_)] [(105,_)] t3 t1 ?_)))))
      have hF:Y0a t b.length=((q+i:Nat):Int):=by
       rw [Y0a,← hq]
       refine K0j (fun k hk=>?_) ?_ oM
       ·have:=hz k hk
        rw [hDg] at this
        rw [nzI,this]; rfl
       ·have h1:=hDg i
        rw [← hr] at h1
        simp only [nzI,← h1,Bool.not_eq_true',decide_eq_false_iff_not]
        exact hz0
      have hneg:¬ (((q+i:Nat):Int)<0):=by omega
      rw [← ht,P0b,W0q,H0f,hF,if_neg hneg,if_neg hneg,if_neg hneg,Int.toNat_natCast,← hDg,← hr,W1s,← hr']
      refine O4 [105] (sl:=[(4,_),(5,_),(6,_)]) (hb:=[]) (g0h (by simp [hlo])) ⟨⟨_,rfl,(.p .nil)⟩,⟨_,rfl,(.ref rfl rfl (by exact (by first | (simp; done) | (simp; omega))) (by first | rfl | omega))⟩,⟨_,rfl,.same⟩,trivial⟩ t0 ?_
      refine X1 ?_
      refine ⟨.inr rfl,R4.cast (.cons (.tmp rfl) (.cons (.tmp rfl) (.cons (.tmp rfl) .nil))) ?_,trivial⟩
      rw [pV,pV,O0]; rfl
  ·have hc2:=df hc2
   have hid:i=D'.length:=by omega
   refine I2 (xq ?_)
   refine exr (sw (Z1 un24 rfl sz3 dC rX L) t1 t1 ?_)
   refine sw (Y1 ag3 rF rF L) t1 t1 ?_
   refine swb (g1b (k:=111) hG hX cl54 rfl hN (m0v c oM) (P0 _ rfl) L) t1 t0 ⟨rfl,rfl⟩ (aV L rfl (zn [(4,_),(11,_),(12,_)] [(111,_),(999,_)] t3 t2 (R1 (exr (mV L rfl (sw (U2 un27 L) t1 t0 (mV L rfl (zn [(4,_),(11,_),(112,_),(113,_),(114,_)] [(111,_),(999,_)] t5 t2 (V1 ?_)))))))))
   refine exl (α:=Nat) (fun k=>[(114,vi (k:Int))]) (fun k=>[(111,i4 (h0k t.pv (fun j=>ent t.b j 0) (zsQ c) k))]) (fun k=>k≤t.pv.length) (fun k=>t.pv.length - k) (0) (sl:=[(4,_),(11,_),(112,_),(113,_)]) (hb:=[(999,_)]) ?_ ⟨oR,rfl,rfl,rfl,rfl,trivial⟩ t2 ?_
   ·exact Nat.zero_le _
   intro k hk
   refine exr (sw (W3 L) t2 t0 (zn [(4,_),(11,_),(112,_),(113,_),(114,_),(115,_)] [(111,_),(999,_)] t6 t2 (R1 ?_)))
   refine i2 rfl (fun hk2=>?_) (fun hk2=>?_)
   ·have hk2:=dt hk2
    have hkp:k<t.pv.length:=by have:=n8 t.pv; omega
    have hpk:=r3.lt _ (I6 hkp)
    have hkb:k<t.b.length:=by rw [r2.1]; omega
    have hkl:=r2.get (i:=k) oM
    refine U1 (xq ?_)
    refine R1 (V1 (exr (mV L rfl (sw (ixJ un27 sz3 (j:=k) rO oM sM L) t2 t0 ?_))))
    refine sw (d4 ag3 (G1g hkp) L) t1 t0 (aV L rfl (aV L rfl (zn [(4,_),(11,_),(20,_),(21,_),(112,_),(113,_),(114,_)] [(111,_),(999,_)] t7 t2 (s3 (mV L rfl (mV L rfl (mV L rfl (sw (Z2 rX L) t1 t1 ?_))))))))
    refine sw (Z1 un79 rfl sz77 dC rX L) t1 t1 ?_
    refine sw (Y1 ag77 rF rF L) t1 t1 ?_
    refine mV L rfl (sw (ixJ un77 sz40 (j:=k) rO oM sM L) t2 t0 ?_)
    refine sw (d4 ag40 (v7 hkb) L) t1 t0 (sw (y2 un40 sz47 dC oM sM dC L) t2 t0 ?_)
    refine sw (V6 ag47 sz47 (W6 (v:=t.b.getD k []) (i:=0) oM) rfl L) t1 t0 (sw (m0k (sz:=4) un40 sz47 (by exact sM) (j:=t.pv.getD k 0) rO (by simpa using hpk) L) t2 t1 ?_)
    refine sb (y0z (n:=4) sz47 (by exact sM) rfl oM) t2 t1 ?_
    refine O1 (s3 (sw (F3 L (w64 oM oM)) t2 t0 (mV L rfl (O1 ?_))))
    exact ⟨k+1,oM,by omega,j3 ⟨oR,rfl,rfl,rfl,rfl,trivial⟩ ⟨obl rfl ((h0x _ (by simpa using hpk)).trans (by rw [L7]; rfl)),rfl,trivial⟩⟩
   ·have hk2:=df hk2
    have hkp:k=t.pv.length:=by have:=n8 t.pv; omega
    subst hkp
    refine I2 (xq ?_)
    refine exr (mV L rfl (aV L rfl (aV L rfl (aV L rfl (zn [(4,_),(5,_),(6,_)] [(111,_)] t3 t1 ?_)))))
    have hF:Y0a t b.length = -1:=by
     rw [Y0a,← hq]
     refine M0r fun k hk=>?_
     have:=hz k oM
     rw [hDg] at this
     rw [nzI,this]; rfl
    rw [← ht,P0b,W0q,H0f,hF,if_pos dC,if_pos dC,if_pos dC,W1y]
    refine O4 [111] (sl:=[(4,_),(5,_),(6,_)]) (hb:=[]) (g0h (by simp [hlo])) ⟨⟨_,rfl,(.ref rfl rfl (by exact sM) (by first | rfl | omega))⟩,⟨_,rfl,(.p .nil)⟩,⟨_,rfl,.same⟩,trivial⟩ t0 ?_
    refine X1 ?_
    refine ⟨.inr rfl,R4.cast (.cons (.tmp rfl) (.cons (.tmp rfl) (.cons (.tmp rfl) .nil))) ?_,trivial⟩
    rw [pV,b0k,G0f]; rfl

def w0f (M:List (List Rat))(y:List Rat)(j k:Nat):List Rat:=(List.range k).map fun i=>y.getD i 0*ent M i j
theorem K0y {M:List (List Rat)}{y:List Rat}{j k:Nat}:w0f M y j (k+1)=w0f M y j k++[y.getD k 0*ent M k j]:=by simp [w0f,List.range_succ]
@[simp] theorem M1c {M:List (List Rat)}{y:List Rat}{j k:Nat}:(w0f M y j k).length=k:=by simp [w0f]
def f1a (M:List (List Rat))(y:List Rat)(c:Nat):Bool:=(List.range c).all fun j=>decide (v8 (w0f M y j M.length)=0)
def v1r (c:Nat)(M:List (List Rat))(b y:List Rat):Bool:=f1a M y c && decide (B9 y b=1)
theorem P1j {a b:Rat}:m0n a b=0↔a=b:=by
 unfold m0n
 constructor
 ·intro h
  split at h
  ·cases h
  ·split at h
   ·cases h
   ·rename_i h1 h2; exact Rat.le_antisymm (Rat.not_lt.1 h2) (Rat.not_lt.1 h1)
 ·rintro rfl; simp [Rat.lt_irrefl]
theorem N1h {B C:Nat}{u v:List Rat}(hB:∀ a∈u,qw a≤B)(hC:∀ a∈v,qw a≤C):qw (B9 u v)≤u.length*(B+C+1)+1:=by
 have:=d1h (N0m hB hC)
 have h2:=V0 (B+C+1) (j0w (u:=u) (v:=v))
 rw [B9]; omega
theorem H1z {B:Nat}{M:List (List Rat)}{y:List Rat}{j k:Nat}(hB:MB B M)(hy:∀ a∈y,qw a≤B)(h0:0<B)(hk:k≤y.length):∀ a∈w0f M y j k,qw a≤B+B:=by
 intro a ha
 simp only [w0f,G0,List.mem_range] at ha
 obtain ⟨i,hi,rfl⟩:=ha
 have:=M8 (y.getD i 0) (ent M i j)
 have:=hy _ (Y3 (show i<y.length by omega))
 have:=g0d (i:=i) (j:=j) hB h0
 omega
theorem K0a {M:List (List Rat)}{y:List Rat}{c:Nat}:f1a M y (c+1)=(f1a M y c && decide (v8 (w0f M y c M.length)=0)):=by
 simp [f1a,List.range_succ]
theorem g1d {M:List (List Rat)}{y:List Rat}{j c:Nat}(hj:j<c)(h:¬ v8 (w0f M y j M.length)=0):f1a M y c=false:=by
 rw [f1a,List.all_eq_false]
 exact ⟨j,by simpa using hj,by simpa using h⟩
theorem b1s (c B:Nat)(M:List (List Rat))(b y:List Rat)(h:MOk c M)(hB:MB B M)(hbB:∀ a∈b,qw a≤B)(hyB:∀ a∈y,qw a≤B)(hbl:b.length=M.length)(hyl:y.length=M.length)(h0:0<B)(hs:M.length*(B+B+1)+1<900000000)(hbb:B<100000000):l3 E 25 [pMq c M,pV b,pV y] (bZ (v1r c M b y)):=by
 refine D2 (xs:=[bZ (v1r c M b y)]) Tryz.func25 rfl Tryz.ntmps25 Tryz.results25 sM fun F hG hX0 hnt hdf P0=>?_
 obtain ⟨L,hX,hN⟩:=pro hnt hX0 hG
 have hr4:=h.rows
 have hc60:=h.cols
 refine exr (swb (U3 (k:=3) (n:=2) pa2 rfl rfl (P0 _ rfl) L) t1 t0 ⟨rfl,rfl⟩ (aV L rfl (zn [(1,_),(2,_),(3,_)] [(3,_)] t3 t1 (R1 (exr (lp2 ag24 sz24 L rfl rfl (cK hG hX cl40 hN (I9 h hB oM) L t1 (sw (v4 L) t1 t0 (mV L rfl (gV (g:=14) rfl rfl L rfl rfl (swg (g:=14) rfl rfl (c_c hG hX cl64 rfl hN (d0a hbB oM oM) L) rfl t1 t0 ?_)))))))))))
 refine swg (g:=14) rfl rfl (v4 L) rfl t1 t0 (sw (n4 rfl L) t2 t0 (mV L rfl (gV (g:=19) rfl rfl L rfl rfl (swg (g:=19) rfl rfl (c_c hG hX cl64 rfl hN (d0a hyB oM oM) L) rfl t1 t0 (swg (g:=19) rfl rfl (v4 L) rfl t1 t0 (sw (n4 rfl L) t2 t0 (mV L rfl (gV (g:=24) rfl rfl L rfl rfl (swg (g:=24) rfl rfl (U2 un40 L) rfl t1 t0 (swg (g:=24) rfl rfl (Z1 un24 rfl sz22 dC rX L) rfl t1 t1 ?_))))))))))
 refine swg (g:=24) rfl rfl (Y1 ag22 rF rF L) rfl t1 t1 ?_
 refine swg (g:=24) rfl rfl (U2 un22 L) rfl t1 t0 (swg (g:=24) rfl rfl (c_n L) rfl t2 t0 (sw (n4 rfl L) t2 t0 (mV L rfl (gV (g:=32) rfl sO L rfl rfl (swg (g:=32) rfl sO (U2 un40 L) rfl t1 t0 (swg (g:=32) rfl sO (Z1 un24 rfl sz22 dC rX L) rfl t1 t1 ?_))))))
 refine swg (g:=32) rfl sO (Y1 ag22 rF rF L) rfl t1 t1 ?_
 refine swg (g:=32) rfl sO (U2 un22 L) rfl t1 t0 (swg (g:=32) rfl sO (c_n L) rfl t2 t0 (sw (n4 sO L) t2 t0 (zn [(1,_),(2,_),(3,_),(39,_)] [(3,_)] t4 t1 (j4 rfl sO ?_))))
 refine U1 (xq ?_)
 refine R1 (exr (sw (Z1 un24 rfl sz3 dC rX L) t1 t1 ?_))
 refine sw (Y1 ag3 rF rF L) t1 t1 ?_
 refine mV L rfl (zn [(1,_),(2,_),(3,_),(41,_),(42,_)] [(3,_)] t5 t1 (V1 ?_))
 refine exl (α:=Nat) (fun j=>[(42,vi (j:Int))]) (fun j=>[]) (fun j=>j≤c∧f1a M y j=true) (fun j=>c - j) (0) (sl:=[(1,_),(2,_),(3,_),(41,_)]) (hb:=[(3,_)]) ?_ ⟨oR,rfl,rfl,rfl,rfl,trivial⟩ t1 ?_
 ·exact ⟨Nat.zero_le _,rfl⟩
 intro j hj
 obtain ⟨hj,hch⟩:=hj
 refine exr (sw (W3 L) t2 t0 (zn [(1,_),(2,_),(3,_),(41,_),(42,_),(43,_)] [(3,_)] t6 t1 (R1 ?_)))
 refine i2 rfl (fun hc=>?_) (fun hc=>?_)
 ·have hc:=dt hc
  have hjc:j<c:=by omega
  refine U1 (xq ?_)
  refine R1 (V1 (exr (mV L rfl (aV L rfl (zn [(1,_),(2,_),(3,_),(7,_),(41,_),(42,_)] [(3,_)] t6 t1 (exr (aV L rfl (zn [(1,_),(2,_),(3,_),(7,_),(8,_),(41,_),(42,_)] [(3,_)] t7 t1 (R1 (exr (sw (Z1 un24 rfl sz22 dC rX L) t1 t1 ?_)))))))))))
  refine sw (Y1 ag22 rF rF L) t1 t1 ?_
  refine sw (U2 un22 L) t1 t0 (mV L rfl (zn [(1,_),(2,_),(3,_),(7,_),(8,_),(41,_),(42,_),(46,_),(47,_),(48,_)] [(3,_)] t10 t1 (V1 ?_)))
  refine exl (α:=(Nat×List Rat)) (fun x=>[(48,vi (x.1:Int)),(8,n1q 64 x.2)]) (fun x=>[]++n1f 64 x.2) (fun x=>x.1≤M.length∧w0f M y j x.1=x.2) (fun x=>M.length - x.1) ((0,[])) (sl:=[(1,_),(2,_),(3,_),(7,_),(41,_),(42,_),(46,_),(47,_)]) (hb:=[(3,_)]) ?_ ⟨oR,oR,rfl,rfl,rfl,rfl,rfl,rfl,rfl,rfl,trivial⟩ (hbI (l':=[(3,_)]) rfl t1) ?_
  ·exact ⟨Nat.zero_le _,rfl⟩
  intro x hk
  obtain ⟨k,T⟩:=x
  obtain ⟨hk,hT⟩:=hk
  simp only at hk hT
  rcases T with _ | ⟨q,T⟩
  ·dsimp only [n1q,n1f,List.append_nil]
   refine exr (sw (W3 L) t2 t0 (zn [(1,_),(2,_),(3,_),(7,_),(8,_),(41,_),(42,_),(46,_),(47,_),(48,_),(49,_)] [(3,_)] t11 t1 (R1 ?_)))
   refine i2 rfl (fun hd=>?_) (fun hd=>?_)
   ·have hd:=dt hd
    have hkl:k<M.length:=by omega
    have hrl:=h.get hkl
    have ht:=K0y (M:=M) (y:=y) (j:=j) (k:=k)
    rw [hT] at ht
    have hq1:=hyB _ (Y3 (show k<y.length by omega))
    have hq2:=g0d (i:=k) (j:=j) hB h0
    refine U1 (xq ?_)
    refine R1 (V1 (exr (mV L rfl (sw (ixJ un22 sz40 (j:=k) rO oM sM L) t2 t0 ?_))))
    refine sw (d4 ag40 (v7 hkl) L) t1 t0 (aV L rfl (aV L rfl (zn [(1,_),(2,_),(3,_),(7,_),(8,_),(9,_),(10,_),(41,_),(42,_),(46,_),(47,_),(48,_)] [(3,_)] t12 t1 (d0g rF ?_))))
    refine mV L rfl (mV L rfl (mV L rfl (sw (y2 un40 sz47 oM oM sM dC L) t2 t0 ?_)))
    refine sw (V6 ag47 sz47 (W6 (show k<y.length by omega)) rfl L) t1 t0 ?_
    refine mV L rfl (mV L rfl (sw (y2 un40 sz47 oM oM sM dC L) t2 t0 ?_))
    refine sw (V6 ag47 sz47 (W6 (show j<(M.getD k []).length by omega)) rfl L) t1 t0 ?_
    refine cK hG hX cl67 hN (j8 (y.getD k 0) (ent M k j) oM oM) L t2 (sw (B4 (vs:=[_]) un40 ti47 rfl rfl dC dC rfl (M2 (.cons rfl (.cons rfl (.cons rfl (.cons rfl .nil)))) rfl) rfl (.cons rfl pa4 rfl pu4 .nil) (.cons (.cons (.cons (.cons .nil)))) L) t1 t0 (swb (apN (k:=64) (sz:=4) un40 un40 ti47 rfl rfl rfl dC sM rfl (by simp [Tryz.t47]) oM (P0 _ rfl) L) t2 t0 ⟨rfl,rfl⟩ ?_))
    refine aV L rfl ?_
    refine O1 ⟨aok rfl rfl,?_⟩
    refine s3 (sw (F3 L (w64 oM oM)) t2 t0 (mV L rfl (O1 ?_)))
    exact ⟨(k+1,[y.getD k 0*ent M k j]),⟨by simp only; omega,ht⟩,(by simp only; omega),j3 ⟨oR,oR,rfl,rfl,rfl,rfl,rfl,rfl,rfl,rfl,trivial⟩ (hbI (l':=[(64,_),(3,_)]) rfl t2)⟩
   ·have hd:=df hd
    have hkl:k=M.length:=by omega
    rw [hkl] at hT
    refine I2 (xq ?_)
    refine O4 [] (sl:=[(1,_),(2,_),(3,_),(8,_),(41,_),(42,_)]) (hb:=[(3,_)]) (L3 hX0) ⟨⟨_,rfl,.same⟩,⟨_,rfl,.same⟩,⟨_,rfl,.same⟩,⟨_,rfl,(.p .nil)⟩,⟨_,rfl,.same⟩,⟨_,rfl,.same⟩,trivial⟩ ⟨⟨rfl,_,rfl,.same⟩,trivial⟩ (exr (mV L rfl (cK hG hX cl68 hN (p0g [] (B+B) sM sM sM) L t1 ?_)))
    refine cK hG hX cl65 hN (E6 (v8 []) (by rw [show v8 []=0 from rfl,g0b]; decide)) L t1 ?_
    refine sw (v4 L) t1 t0 (zn [(1,_),(2,_),(3,_),(41,_),(42,_),(69,_)] [(3,_)] t6 t1 (j4 rfl (by rw [show v8 []=0 from rfl]; rfl) ?_))
    refine U1 (xq ?_)
    refine s3 (sw (F3 L (w64 oM oM)) t2 t0 (mV L rfl (O1 ?_)))
    exact ⟨j+1,⟨by omega,by rw [K0a,hch,hT]; rfl⟩,by omega,j3 ⟨oR,rfl,rfl,rfl,rfl,trivial⟩ t1⟩
  ·dsimp only [n1q,n1f]
   have hTl:(q :: T).length=k:=by rw [← hT]; simp
   have hTl2:T.length+1=k:=hTl
   refine exr (sw (W3 L) t2 t0 (zn [(1,_),(2,_),(3,_),(7,_),(8,_),(41,_),(42,_),(46,_),(47,_),(48,_),(49,_)] [(3,_),(64,_)] t11 t2 (R1 ?_)))
   refine i2 rfl (fun hd=>?_) (fun hd=>?_)
   ·have hd:=dt hd
    have hkl:k<M.length:=by omega
    have hrl:=h.get hkl
    have ht:=K0y (M:=M) (y:=y) (j:=j) (k:=k)
    rw [hT] at ht
    have hq1:=hyB _ (Y3 (show k<y.length by omega))
    have hq2:=g0d (i:=k) (j:=j) hB h0
    refine U1 (xq ?_)
    refine R1 (V1 (exr (mV L rfl (sw (ixJ un22 sz40 (j:=k) rO oM sM L) t2 t0 ?_))))
    refine sw (d4 ag40 (v7 hkl) L) t1 t0 (aV L rfl (aV L rfl (zn [(1,_),(2,_),(3,_),(7,_),(8,_),(9,_),(10,_),(41,_),(42,_),(46,_),(47,_),(48,_)] [(3,_),(64,_)] t12 t2 (d0g rF ?_))))
    refine mV L rfl (mV L rfl (mV L rfl (sw (y2 un40 sz47 oM oM sM dC L) t2 t0 ?_)))
    refine sw (V6 ag47 sz47 (W6 (show k<y.length by omega)) rfl L) t1 t0 ?_
    refine mV L rfl (mV L rfl (sw (y2 un40 sz47 oM oM sM dC L) t2 t0 ?_))
    refine sw (V6 ag47 sz47 (W6 (show j<(M.getD k []).length by omega)) rfl L) t1 t0 ?_
    refine cK hG hX cl67 hN (j8 (y.getD k 0) (ent M k j) oM oM) L t2 (sw (B4 (vs:=[_]) un40 ti47 rfl rfl dC dC rfl (M2 (.cons rfl (.cons rfl (.cons rfl (.cons rfl .nil)))) rfl) rfl (.cons rfl pa4 rfl pu4 .nil) (.cons (.cons (.cons (.cons .nil)))) L) t1 t0 (swb (apP (sz:=4) un40 un40 ti47 rfl rfl rfl dC (by exact sM) oF sM rfl rfl rfl (by simp [Tryz.t47]; omega) oM (P0 _ rfl) L) t2 t1 t0 ?_))
    refine aV L rfl ?_
    refine O1 ⟨Z4 [⟨[8],[],[53],[]⟩,⟨[2],[],[54],[]⟩,⟨[9],[],[55],[]⟩,⟨[54,55],[],[56],[]⟩,⟨[56],[],[57],[]⟩,⟨[10],[],[58],[]⟩,⟨[7],[],[59],[]⟩,⟨[58,59],[],[60],[]⟩,⟨[60],[],[61],[]⟩,⟨[57,61],[],[62],[]⟩,⟨[62],[],[63],[]⟩,⟨[53,63],[64],[64],[64]⟩,⟨[64],[],[8],[]⟩] rF rF dC,?_⟩
    refine s3 (sw (F3 L (w64 oM oM)) t2 t0 (mV L rfl (O1 ?_)))
    exact ⟨(k+1,q :: T++[y.getD k 0*ent M k j]),⟨by simp only; omega,ht⟩,(by simp only; omega),j3 ⟨oR,(by exact ov rfl sO),rfl,rfl,rfl,rfl,rfl,rfl,rfl,rfl,trivial⟩ (hbI (l':=[(64,_),(3,_)]) rfl ⟨(obl rfl (g0r (q :: T) _)),rfl,trivial⟩)⟩
   ·have hd:=df hd
    have hkl:k=M.length:=by omega
    rw [hkl] at hT hTl
    have hbd:=H1z (M:=M) (y:=y) (j:=j) (k:=M.length) hB hyB h0 oM
    rw [hT] at hbd
    have hsq:=d1h hbd
    rw [hTl] at hsq
    refine I2 (xq ?_)
    refine O4 [64] (sl:=[(1,_),(2,_),(3,_),(8,_),(41,_),(42,_)]) (hb:=[(3,_)]) (L3 hX0) ⟨⟨_,rfl,.same⟩,⟨_,rfl,.same⟩,⟨_,rfl,.same⟩,⟨_,rfl,(.ref rfl rfl (by exact sM) (by first | rfl | omega))⟩,⟨_,rfl,.same⟩,⟨_,rfl,.same⟩,trivial⟩ ⟨⟨rfl,_,rfl,.same⟩,trivial⟩ ?_
    refine exr (mV L rfl (cK hG hX cl68 hN (p0g (q :: T) (B+B) (by rw [hTl]; omega) hbd (by rw [hTl]; exact hs)) L t1 ?_))
    refine cK hG hX cl65 hN (E6 (v8 (q :: T)) oM) L t1 (sw (v4 L) t1 t0 (zn [(1,_),(2,_),(3,_),(41,_),(42,_),(69,_)] [(3,_)] t6 t1 ?_))
    refine i2 rfl (fun hz=>?_) (fun hz=>?_)
    ·have hz:¬ v8 (w0f M y j M.length)=0:=by rw [hT]; simpa using hz
     refine exr (aV L rfl (zn [(6,_)] [] t1 trivial (X1 ?_)))
     refine Q0 (.tmp rfl) ?_
     rw [v1r,g1d hjc hz]; rfl
    ·have hz:v8 (w0f M y j M.length)=0:=by rw [hT]; simpa using hz
     refine U1 (xq ?_)
     refine s3 (sw (F3 L (w64 oM oM)) t2 t0 (mV L rfl (O1 ?_)))
     exact ⟨j+1,⟨by omega,by rw [K0a,hch,hz]; rfl⟩,by omega,j3 ⟨oR,rfl,rfl,rfl,rfl,trivial⟩ t1⟩
 ·have hc:=df hc
  have hjc:j=c:=by omega
  subst hjc
  have hq:=N1h (u:=y) (v:=b) hyB hbB
  have hmul:y.length*(B+B+1)=M.length*(B+B+1):=by rw [hyl]
  refine I2 (xq ?_)
  refine exr (mV L rfl (mV L rfl (cK hG hX cl70 hN (F0r y b B B oM oM hyB hbB oM oM oM) L t2 (cK hG hX cl55 hN (e7 1 dC dC) L t1 (cK hG hX cl69 hN (n1x (B9 y b) 1 oM (by rw [G0c]; decide)) L t2 ?_)))))
  refine sw (c_e L) t2 t0 (aV L rfl (zn [(6,_)] [] t1 trivial (X1 ?_)))
  refine Q0 (.tmp rfl) ?_
  rw [v1r,hch,Bool.true_and,show decide (m0n (B9 y b) 1=0)=decide (B9 y b=1) from decide_eq_decide.2 P1j]
theorem n0b (n c B DB:Nat)(M:List (List Rat))(b:List Rat)(h:MOk c M)(hB1:MB B M)(hbB:∀ a∈b,qw a≤B)(hn:M.length=n)(hbn:b.length=n)(H:EU n c (n+1) B DB M (f5 b)):l3 E 24 [pMq c M,pV b] (.tup [pV (P0b c (ech M (f5 b) c) n),pV (W0q (ech M (f5 b) c) n),vZ (H0f (ech M (f5 b) c) n)]):=n0w (Y0h n c B DB M b h hB1 hbB hn hbn H)
@[reducible] def b2 (vs:List (List RQ)):List (Nat×Blk):=[(2,⟨22,1,.mix [.p (.sl vs.length (f0k vs))]⟩)]
@[reducible] def b3 (vs:List (List RQ))(w:List RQ):List (Nat×Blk):=[(2,⟨22,1,.mix [.p (.sl vs.length (f0k vs))]⟩),(3,⟨40,1,.mix [.p (pVR w)]⟩)]
theorem n1s (vs:List (List RQ))(i:Nat)(hi:i<vs.length)(hm:MSm vs):K4 E (fun _=>true) 72 [.p (vZ i),.at_ 2 0 1] (b2 vs) (b2 vs) (.p (bZ (!(vs.getD i []).all RQ.is))):=by
 refine l4 (xs:=[bZ (!(vs.getD i []).all RQ.is)]) Tryz.func72 rfl Tryz.ntmps72 Tryz.results72 sM fun F G=>?_
 have L:=@lti _ _ G.nt
 have hG:=G.g
 have hX:=G.x
 have hN:=R5 hG
 have P0:=G.p0
 have hr:=hm.2 _ (gDL hi)
 refine exr (aV L rfl (zn [(0,_),(1,_)] [(2,_)] t2 t1 (exr (sw (Y1 ag22 rF rF L) t1 t1 ?_))))
 refine mV L rfl (sw (ixJ un22 sz40 (j:=i) rO oM sM L) t2 t0 ?_)
 refine sw (d4 ag40 (g0w hi) L) t1 t0 (cK hG hX cl64 hN (U9 (vs.getD i []) hr.1 hr.2) L t1 (sw (v4 L) t1 t0 (aV L rfl (zn [(3,_)] [(2,_)] t1 t1 (X1 ?_)))))
 refine ⟨.inr rfl,R4.cast (.cons (.tmp rfl) .nil) ?_,t1⟩
 rfl
theorem p1b (vs:List (List RQ))(w:List RQ)(i:Nat)(hi:i<vs.length):K4 E (fun _=>true) 73 [.p (vZ i),.at_ 2 0 1,.at_ 3 0 1] (b3 vs w) (b3 vs w) (.p (bZ (!decide ((vs.getD i []).length=w.length)))):=by
 refine l4 (xs:=[bZ (!decide ((vs.getD i []).length=w.length))]) Tryz.func73 rfl Tryz.ntmps73 Tryz.results73 sM fun F G=>?_
 have L:=@lti _ _ G.nt
 have hG:=G.g
 have hX:=G.x
 have hN:=R5 hG
 have P0:=G.p0
 refine exr (aV L rfl (zn [(0,_),(1,_),(2,_)] [(2,_),(3,_)] t3 t2 (exd rF ?_)))
 refine sw (Y1 ag22 rF rF L) t1 t1 ?_
 refine mV L rfl (sw (ixJ un22 sz40 (j:=i) rO oM sM L) t2 t0 ?_)
 refine sw (d4 ag40 (g0w hi) L) t1 t0 (sw (U2 un40 L) t1 t0 (sw (Y1 ag40 rF rF L) t1 t1 ?_))
 refine sw (U2 un40 L) t1 t0 (sw (c_n L) t2 t0 (aV L rfl ?_))
 refine O1 ⟨Z4 [⟨[1],[2],[5],[]⟩,⟨[0],[],[6],[]⟩,⟨[5,6],[],[7],[]⟩,⟨[7],[],[8],[]⟩,⟨[8],[],[9],[]⟩,⟨[2],[3],[10],[]⟩,⟨[10],[],[11],[]⟩,⟨[9,11],[],[12],[]⟩,⟨[12],[],[4],[]⟩] rF rF dC,[(4,_)],[(2,_),(3,_)],t1,t2,?_⟩
 refine X1 ?_
 refine ⟨.inr rfl,R4.cast (.cons (.tmp rfl) .nil) ?_,t2⟩
 rw [show decide (((vs.getD i []).length:Int)=w.length)=decide ((vs.getD i []).length=w.length) from decide_eq_decide.2 oM]
theorem J0h {p:Nat→Bool}{n:Nat}:0≤G4 p 0 (n - 0)↔∃ i,i<n∧p i=true:=by
 constructor
 ·intro h
  obtain ⟨h1,h2,h3,h4⟩:=g0g (show ¬ G4 p 0 (n - 0)<0 by omega)
  exact ⟨_,by omega,h3⟩
 ·rintro ⟨i,hi,h⟩
  apply Classical.byContradiction
  intro hn
  have:=b0r (show G4 p 0 (n - 0)<0 by omega) i (Nat.zero_le _) oM
  rw [h] at this; cases this
theorem d1p {vs:List (List RQ)}:decide (0≤G4 (fun i=>!(vs.getD i []).all RQ.is) 0 (vs.length - 0)) = !(vs.all fun r=>r.all RQ.is):=by
 rw [Bool.eq_iff_iff,decide_eq_true_iff,J0h,Bool.not_eq_true',List.all_eq_false]
 constructor
 ·rintro ⟨i,hi,h⟩
  exact ⟨_,gDL hi,by simpa using h⟩
 ·rintro ⟨r,hr,h⟩
  obtain ⟨i,hi,rfl⟩:=List.getElem_of_mem hr
  refine ⟨i,hi,?_⟩
  have e:vs.getD i []=vs[i]:=by simp [f0,hi]
  rw [e]; simpa using h
theorem q1m {vs:List (List RQ)}{n:Nat}:decide (0≤G4 (fun i=>!decide ((vs.getD i []).length=n)) 0 (vs.length - 0)) = !(vs.all fun r=>decide (r.length=n)):=by
 rw [Bool.eq_iff_iff,decide_eq_true_iff,J0h,Bool.not_eq_true',List.all_eq_false]
 constructor
 ·rintro ⟨i,hi,h⟩
  exact ⟨_,gDL hi,by simpa using h⟩
 ·rintro ⟨r,hr,h⟩
  obtain ⟨i,hi,rfl⟩:=List.getElem_of_mem hr
  refine ⟨i,hi,?_⟩
  have e:vs.getD i []=vs[i]:=by simp [f0,hi]
  rw [e]; simpa using h
@[reducible] def pMl (V:List (List Rat)):K2:=.sl V.length (P5 V)
theorem Y1y (V:List (List Rat)):((V.map (List.map RQ.of)).all fun r=>r.all RQ.is)=true:=by
 rw [s0]; intro r hr
 obtain ⟨v,_,rfl⟩:=G0.1 hr
 exact d1v v
theorem Y1c {B:Nat}{V:List (List Rat)}(hB:MB B V)(hb:B<1000000000)(h1:V.length<1000000000)(h2:∀ r∈V,r.length<1000000000):MSm (V.map (List.map RQ.of)):=by
 refine ⟨by simpa using h1,fun r hr=>?_⟩
 obtain ⟨v,hv,rfl⟩:=G0.1 hr
 refine ⟨by simpa using h2 v hv,fun a ha=>?_⟩
 obtain ⟨q,hq,rfl⟩:=G0.1 ha
 have:=hB v hv q hq
 exact RQ.sm_of oM
theorem P0f (B DB:Nat)(V:List (List Rat))(w:List Rat)(hV:∀ r∈V,r.length=w.length)(hk:V.length≤60)(hwl:w.length≤400)(hB:MB B V)(hwB:∀ a∈w,qw a≤B)(H:EU w.length V.length (w.length+1) B DB (trM w.length V) (f5 w)):l3 E 30 [pMl V,pV w] (.tup [pV (P0b V.length (ech (trM w.length V) (f5 w) V.length) w.length),pV (W0q (ech (trM w.length V) (f5 w) V.length) w.length),vZ (H0f (ech (trM w.length V) (f5 w) V.length) w.length)]):=by
 refine D2 (xs:=[pV (P0b V.length (ech (trM w.length V) (f5 w) V.length) w.length),pV (W0q (ech (trM w.length V) (f5 w) V.length) w.length),vZ (H0f (ech (trM w.length V) (f5 w) V.length) w.length)]) Tryz.func30 rfl Tryz.ntmps30 Tryz.results30 sM fun F hG hX0 hnt hdf P0=>?_
 obtain ⟨L,hX,hN⟩:=pro hnt hX0 hG
 have hb:=H.bl
 have hms:=Y1c hB oM oM (fun r hr=>by rw [hV r hr]; omega)
 have f1:=R8 72 [.at_ 2 0 1] (b2 (V.map (List.map RQ.of))) sM (Y7 rfl) cl72 (fun i=>!((V.map (List.map RQ.of)).getD i []).all RQ.is) 0 (V.map (List.map RQ.of)).length sO (fun i _ hi=>n1s _ i hi hms)
 have f2:=R8 73 [.at_ 2 0 1,.at_ 3 0 1] (b3 (V.map (List.map RQ.of)) (w.map RQ.of)) sM (Y7 rfl) cl73 (fun i=>!decide (((V.map (List.map RQ.of)).getD i []).length=(w.map RQ.of).length)) 0 (V.map (List.map RQ.of)).length sO (fun i _ hi=>p1b _ (w.map RQ.of) i hi)
 have ff:=d1p (vs:=V.map (List.map RQ.of))
 have fg:=q1m (vs:=V.map (List.map RQ.of)) (n:=(w.map RQ.of).length)
 have fv:((V.map (List.map RQ.of)).all fun r=>decide (r.length=(w.map RQ.of).length))=true:=by
  rw [s0]; intro r hr
  obtain ⟨v,hv,rfl⟩:=G0.1 hr
  simp [hV v hv]
 have hst:=n0b w.length V.length B DB (trM w.length V) w ⟨by simpa using hwl,hk,fun r hr=>by simp only [trM,G0] at hr; obtain ⟨j,_,rfl⟩:=hr; simp⟩ (fun r hr a ha=>by
  simp only [trM,G0,List.mem_range] at hr
  obtain ⟨j,hj,rfl⟩:=hr
  exact G1z hB hj hV a ha) hwB sM rfl H
 rw [Y1y] at ff
 rw [fv] at fg
 obtain ⟨p1,hp1⟩:∃ p1,p1=G4 (fun i=>!((V.map (List.map RQ.of)).getD i []).all RQ.is) 0 ((V.map (List.map RQ.of)).length - 0):=⟨_,rfl⟩
 obtain ⟨p2,hp2⟩:∃ p2,p2=G4 (fun i=>!decide (((V.map (List.map RQ.of)).getD i []).length=(w.map RQ.of).length)) 0 ((V.map (List.map RQ.of)).length - 0):=⟨_,rfl⟩
 rw [← hp1] at f1 ff
 rw [← hp2] at f2 fg
 simp only [b2,b3,j0s,O0,N0k] at f1 f2
 refine exr (swb (U3 (k:=2) (n:=1) .sl rfl rfl (P0 _ rfl) L) t1 t0 ⟨rfl,rfl⟩ (swb (U3 (k:=3) (n:=1) .sl rfl rfl (P0 _ rfl) L) t1 t0 ⟨rfl,rfl⟩ (aV L rfl (aV L rfl (aV L rfl (zn [(2,_),(3,_)] [(2,_),(3,_)] t2 t2 (R1 (exr (sw (Y1 ag22 rF rF L) t1 t1 ?_)))))))))
 refine sw (U2 un22 L) t1 t0 (sw (q0v (vs:=[]) (us:=[_]) rfl rfl L) t1 t0 (sw (f6 hG hX hN f1 rfl L (X4 (ys:=[_,_,_]) cl52 rfl rfl) sM (Y7 rfl) (fun q h=>by cases h)) t3 t1 ?_))
 refine sw (h0b L) t2 t0 (mV L rfl (swg (g:=17) rfl (by rw [ff] <;> rfl) (Y1 ag40 rF rF L) rfl t1 t1 ?_))
 refine swg (g:=17) rfl (by rw [ff] <;> rfl) (c_c hG hX cl64 rfl hN (d0a hwB oM oM) L) rfl t1 t0 ?_
 refine swg (g:=17) rfl (by rw [ff] <;> rfl) (v4 L) rfl t1 t0 ?_
 refine sw (n4 (by rw [ff] <;> rfl) L) t2 t0 ?_
 refine zn [(2,_),(3,_),(21,_)] [(2,_),(3,_)] t3 t2 (j4 rfl rfl ?_)
 refine U1 (xq ?_)
 refine R1 (exr (sw (Y1 ag22 rF rF L) t1 t1 ?_))
 refine sw (U2 un22 L) t1 t0 (sw (q0v (vs:=[]) (us:=[_,_]) rfl rfl L) t2 t0 (sw (f6 hG hX hN f2 rfl L (X4 (ys:=[_,_,_]) cl52 rfl rfl) sM (Y7 rfl) (fun q h=>by cases h)) t3 t2 ?_))
 refine sw (h0b L) t2 t0 (zn [(2,_),(3,_),(26,_)] [(2,_),(3,_)] t3 t2 (j4 rfl (by rw [fg] <;> rfl) ?_))
 refine U1 (xq ?_)
 refine R1 (exr (sw (Y1 ag22 rF rF L) t1 t1 ?_))
 refine sw (U2 un22 L) t1 t0 (sw (P6 L) t2 t0 (mV L rfl (swg (g:=30) rfl sO (Y1 ag40 rF rF L) rfl t1 t1 ?_)))
 refine swg (g:=30) rfl sO (U2 un40 L) rfl t1 t0 (swg (g:=30) rfl sO (P6 L) rfl t2 t0 (sw (n4 sO L) t2 t0 (zn [(2,_),(3,_),(34,_)] [(2,_),(3,_)] t3 t2 (j4 rfl sO ?_))))
 refine U1 (xq ?_)
 refine exr (sw (Y1 ag22 rF rF L) t1 t1 ?_)
 refine sw (U2 un22 L) t1 t0 (sw (E7 (vs:=[_]) un24 zv24 (.cons rfl (.cons rfl .nil)) ((J2.cons sz3 (J2.cons sz22 J2.nil))).to rfl (.cons rfl (.atom rfl) rfl pu1 .nil) (.cons (.cons .nil)) L) t1 t0 (swb (O3 (k:=7) (n:=2) zv24 (.cons rfl (.cons rfl .nil)) rfl (P0 _ rfl) L) t0 t0 ⟨rfl,rfl⟩ (sb (Y2 sz24 rF pa2 rfl pu2) t2 t1 ?_)))
 refine zn [(2,_),(3,_),(7,_)] [(2,_),(3,_),(7,_)] t3 t3 (R1 (exr (sw (Y1 ag40 rF rF L) t1 t1 ?_)))
 refine sw (U2 un40 L) t1 t0 (mV L rfl (zn [(2,_),(3,_),(7,_),(39,_),(40,_)] [(2,_),(3,_),(7,_)] t5 t3 (V1 ?_)))
 refine exl (α:=(Nat×List (List Rat))) (fun x=>[(40,vi (x.1:Int))]) (fun x=>[(7,⟨24,2,.mix [.p (vZ V.length),p1g 64 x.2]⟩)]++m1c 64 x.2) (fun x=>x.1≤w.length∧trM x.1 V=x.2) (fun x=>w.length - x.1) ((0,[])) (sl:=[(2,_),(3,_),(7,_),(39,_)]) (hb:=[(2,_),(3,_)]) ?_ ⟨oR,rfl,rfl,rfl,rfl,trivial⟩ (hbI (l':=[(7,_),(2,_),(3,_)]) rfl t3) ?_
 ·exact ⟨Nat.zero_le _,rfl⟩
 intro x hx
 obtain ⟨j,T⟩:=x
 obtain ⟨hj,hT⟩:=hx
 simp only at hj hT
 rcases T with _ | ⟨q,T⟩
 ·dsimp only [p1g,m1c,List.append_nil]
  refine exr (sw (W3 L) t2 t0 (zn [(2,_),(3,_),(7,_),(39,_),(40,_),(41,_)] [(2,_),(3,_),(7,_)] t6 t3 (R1 ?_)))
  refine i2 rfl (fun hc=>?_) (fun hc=>?_)
  ·have hc:=dt hc
   have hjc:j<w.length:=by omega
   have ht:=Y0q j V
   rw [hT] at ht
   refine U1 (xq ?_)
   refine R1 (V1 (exr (mV L rfl (aV L rfl (zn [(2,_),(3,_),(7,_),(8,_),(39,_),(40,_)] [(2,_),(3,_),(7,_)] t6 t3 (exr (sw (Y1 ag22 rF rF L) t1 t1 ?_)))))))
   refine sw (U2 un22 L) t1 t0 (swb (D6 (sz:=4) (k:=45) un40 ti47 rfl rfl dC rfl rfl rfl (show (0:Int)=((0:Nat):Int) from rfl) rfl (Nat.zero_le _) (by simp [Tryz.t47]; omega) oM (P0 _ rfl) L) t2 t0 ⟨rfl,rfl⟩ ?_)
   refine aV L rfl ?_
   refine O1 ⟨[(2,_),(3,_),(7,_),(8,_),(9,.ref 45 0 0 0),(39,_),(40,_)],[(2,_),(3,_),(7,_),(45,i4 [])],t7,t4,?_⟩
   refine R1 (exr (sw (Y1 ag22 rF rF L) t1 t1 ?_))
   refine sw (U2 un22 L) t1 t0 (mV L rfl (zn [(2,_),(3,_),(7,_),(8,_),(9,_),(39,_),(40,_),(46,_),(47,_),(48,_)] [(2,_),(3,_),(7,_),(45,_)] t10 t4 (V1 ?_)))
   refine exl (α:=Nat) (fun k=>[(48,vi (k:Int)),(9,.ref 45 0 k (k*4))]) (fun k=>[(45,i4 (o9 (V.take k) j))]) (fun k=>k≤V.length) (fun k=>V.length - k) (0) (sl:=[(2,_),(3,_),(7,_),(8,_),(39,_),(40,_),(46,_),(47,_)]) (hb:=[(2,_),(3,_),(7,_)]) ?_ ⟨oR,oR,rfl,rfl,rfl,rfl,rfl,rfl,rfl,rfl,trivial⟩ t4 ?_
   ·exact Nat.zero_le _
   intro k hk
   refine exr (sw (W3 L) t2 t0 (zn [(2,_),(3,_),(7,_),(8,_),(9,_),(39,_),(40,_),(46,_),(47,_),(48,_),(49,_)] [(2,_),(3,_),(7,_),(45,_)] t11 t4 (R1 ?_)))
   refine i2 rfl (fun he=>?_) (fun he=>?_)
   ·have he:=dt he
    have hk2:k<V.length:=by omega
    have hrl:=hV _ (gDL hk2)
    refine U1 (xq ?_)
    refine R1 (V1 (exr (sw (ixJ un22 sz40 (j:=k) rO oM sM L) t2 t0 ?_)))
    refine sw (d4 ag40 (v7 hk2) L) t1 t0 (aV L rfl (zn [(2,_),(3,_),(7,_),(8,_),(9,_),(11,_),(39,_),(40,_),(46,_),(47,_),(48,_)] [(2,_),(3,_),(7,_),(45,_)] t11 t4 (s3 (mV L rfl (mV L rfl (mV L rfl (sw (y2 un40 sz47 oM oM sM dC L) t2 t0 ?_)))))))
    refine sw (V6 ag47 sz47 (W6 (show j<(V.getD k []).length by omega)) rfl L) t1 t0 ?_
    refine sw (B4 (vs:=[_]) un40 ti47 rfl rfl dC dC rfl (M2 (.cons rfl (.cons rfl (.cons rfl (.cons rfl .nil)))) rfl) rfl (.cons rfl pa4 rfl pu4 .nil) (.cons (.cons (.cons (.cons .nil)))) L) t1 t0 (swb (apP (sz:=4) un40 un40 ti47 rfl rfl rfl dC (by exact (by first | (simp; done) | (simp; omega))) oF sM rfl rfl rfl (by first | (simp [Tryz.t47]; done) | (simp [Tryz.t47]; omega)) oM (P0 _ rfl) L) t2 t1 t0 ?_)
    refine aV L rfl (O1 (s3 (sw (F3 L (w64 oM oM)) t2 t0 (mV L rfl (O1 ?_)))))
    exact ⟨k+1,oM,by omega,j3 ⟨oR,ov rfl sO,rfl,rfl,rfl,rfl,rfl,rfl,rfl,rfl,trivial⟩ ⟨obl rfl ((g0r _ _).trans (by rw [k0n hk2])),rfl,rfl,rfl,trivial⟩⟩
   ·have he:=df he
    have hkM:k=V.length:=by omega
    subst hkM
    rw [I0]
    refine I2 (xq ?_)
    refine O4 [45] (sl:=[(2,_),(3,_),(7,_),(9,_),(39,_),(40,_)]) (hb:=[(2,_),(3,_),(7,_)]) (L3 hX0) ⟨⟨_,rfl,.same⟩,⟨_,rfl,.same⟩,⟨_,rfl,.same⟩,⟨_,rfl,(.ref rfl rfl (by exact (by first | (simp; done) | (simp; omega))) (by first | rfl | omega))⟩,⟨_,rfl,.same⟩,⟨_,rfl,.same⟩,trivial⟩ ⟨⟨rfl,_,rfl,.same⟩,⟨rfl,_,rfl,.same⟩,⟨rfl,_,rfl,.same⟩,trivial⟩ ?_
    refine s3 (sw (Z1 un24 rfl sz22 dC rX L) t1 t1 ?_)
    refine sw (Y1 ag22 rF rF L) t1 t1 ?_
    refine mV L rfl (sw (B4 (vs:=[_]) un22 ti40 rfl rfl dC dC rfl (M2 (.cons rfl .nil) rfl) rfl (.cons rfl .sl rfl pu1 .nil) (.cons .nil) L) t1 t0 (swb (apN (k:=64) (sz:=1) un22 un22 ti40 rfl rfl rfl dC sM rfl (by first | (simp [Tryz.t40]; done) | (simp [Tryz.t40]; omega)) oM (P0 _ rfl) L) t2 t0 ⟨rfl,rfl⟩ ?_))
    refine sw (Z1 un24 rfl sz22 dC rX L) t1 t1 ?_
    refine sb (Y2 sz22 rF .ref rfl (.skip pu1)) t2 t1 ?_
    refine O1 (s3 (sw (F3 L (w64 oM oM)) t2 t0 (mV L rfl (O1 ?_))))
    exact ⟨(j+1,[o9 V j]),⟨by simp only; omega,ht⟩,(by simp only; omega),j3 ⟨oR,rfl,rfl,rfl,rfl,trivial⟩ (hbI (l':=[(7,_),(64,_),(2,_),(3,_)]) rfl ⟨rfl,obl rfl (by simp [P5]),rfl,rfl,trivial⟩)⟩
  ·have hc:=df hc
   have hjc:j=w.length:=by omega
   rw [hjc] at hT
   rw [hT] at hst ⊢
   refine I2 (xq ?_)
   refine O4 [] (sl:=[(3,_),(7,_)]) (hb:=[(3,_),(7,_)]) (L3 hX0) ⟨⟨_,rfl,.same⟩,⟨_,rfl,.same⟩,trivial⟩ ⟨⟨rfl,_,rfl,.same⟩,⟨rfl,_,rfl,(.mix (.cons .same (.cons (.p .nil) .nil)))⟩,trivial⟩ (exr (lp2 ag24 sz24 L rfl rfl (sw (Y1 ag40 rF rF L) t1 t1 ?_)))
   refine cK hG hX cl24 hN hst L t2 (sw (R3 rfl L) t1 t0 (sw (R3 rfl L) t1 t0 (sw (R3 rfl L) t1 t0 (aV L rfl (aV L rfl (aV L rfl (zn [(4,_),(5,_),(6,_)] [] t3 trivial (X1 ?_))))))))
   refine P1 (.tmp rfl) (.tmp rfl) (.tmp rfl) ?_
   rfl
 ·dsimp only [p1g,m1c]
  have hTl:(q :: T).length=j:=by rw [← hT,f1z]
  have hTl2:T.length+1=j:=hTl
  refine exr (sw (W3 L) t2 t0 (zn [(2,_),(3,_),(7,_),(39,_),(40,_),(41,_)] [(2,_),(3,_),(7,_),(64,_)] t6 t4 (R1 ?_)))
  refine i2 rfl (fun hc=>?_) (fun hc=>?_)
  ·have hc:=dt hc
   have hjc:j<w.length:=by omega
   have ht:=Y0q j V
   rw [hT] at ht
   refine U1 (xq ?_)
   refine R1 (V1 (exr (mV L rfl (aV L rfl (zn [(2,_),(3,_),(7,_),(8,_),(39,_),(40,_)] [(2,_),(3,_),(7,_),(64,_)] t6 t4 (exr (sw (Y1 ag22 rF rF L) t1 t1 ?_)))))))
   refine sw (U2 un22 L) t1 t0 (swb (D6 (sz:=4) (k:=45) un40 ti47 rfl rfl dC rfl rfl rfl (show (0:Int)=((0:Nat):Int) from rfl) rfl (Nat.zero_le _) (by simp [Tryz.t47]; omega) oM (P0 _ rfl) L) t2 t0 ⟨rfl,rfl⟩ ?_)
   refine aV L rfl ?_
   refine O1 ⟨[(2,_),(3,_),(7,_),(8,_),(9,.ref 45 0 0 0),(39,_),(40,_)],[(2,_),(3,_),(7,_),(45,i4 []),(64,_)],t7,t5,?_⟩
   refine R1 (exr (sw (Y1 ag22 rF rF L) t1 t1 ?_))
   refine sw (U2 un22 L) t1 t0 (mV L rfl (zn [(2,_),(3,_),(7,_),(8,_),(9,_),(39,_),(40,_),(46,_),(47,_),(48,_)] [(2,_),(3,_),(7,_),(45,_),(64,_)] t10 t5 (V1 ?_)))
   refine exl (α:=Nat) (fun k=>[(48,vi (k:Int)),(9,.ref 45 0 k (k*4))]) (fun k=>[(45,i4 (o9 (V.take k) j))]) (fun k=>k≤V.length) (fun k=>V.length - k) (0) (sl:=[(2,_),(3,_),(7,_),(8,_),(39,_),(40,_),(46,_),(47,_)]) (hb:=[(2,_),(3,_),(7,_),(64,_)]) ?_ ⟨oR,oR,rfl,rfl,rfl,rfl,rfl,rfl,rfl,rfl,trivial⟩ t5 ?_
   ·exact Nat.zero_le _
   intro k hk
   refine exr (sw (W3 L) t2 t0 (zn [(2,_),(3,_),(7,_),(8,_),(9,_),(39,_),(40,_),(46,_),(47,_),(48,_),(49,_)] [(2,_),(3,_),(7,_),(45,_),(64,_)] t11 t5 (R1 ?_)))
   refine i2 rfl (fun he=>?_) (fun he=>?_)
   ·have he:=dt he
    have hk2:k<V.length:=by omega
    have hrl:=hV _ (gDL hk2)
    refine U1 (xq ?_)
    refine R1 (V1 (exr (sw (ixJ un22 sz40 (j:=k) rO oM sM L) t2 t0 ?_)))
    refine sw (d4 ag40 (v7 hk2) L) t1 t0 (aV L rfl (zn [(2,_),(3,_),(7,_),(8,_),(9,_),(11,_),(39,_),(40,_),(46,_),(47,_),(48,_)] [(2,_),(3,_),(7,_),(45,_),(64,_)] t11 t5 (s3 (mV L rfl (mV L rfl (mV L rfl (sw (y2 un40 sz47 oM oM sM dC L) t2 t0 ?_)))))))
    refine sw (V6 ag47 sz47 (W6 (show j<(V.getD k []).length by omega)) rfl L) t1 t0 ?_
    refine sw (B4 (vs:=[_]) un40 ti47 rfl rfl dC dC rfl (M2 (.cons rfl (.cons rfl (.cons rfl (.cons rfl .nil)))) rfl) rfl (.cons rfl pa4 rfl pu4 .nil) (.cons (.cons (.cons (.cons .nil)))) L) t1 t0 (swb (apP (sz:=4) un40 un40 ti47 rfl rfl rfl dC (by exact (by first | (simp; done) | (simp; omega))) oF sM rfl rfl rfl (by first | (simp [Tryz.t47]; done) | (simp [Tryz.t47]; omega)) oM (P0 _ rfl) L) t2 t1 t0 ?_)
    refine aV L rfl (O1 (s3 (sw (F3 L (w64 oM oM)) t2 t0 (mV L rfl (O1 ?_)))))
    exact ⟨k+1,oM,by omega,j3 ⟨oR,ov rfl sO,rfl,rfl,rfl,rfl,rfl,rfl,rfl,rfl,trivial⟩ ⟨obl rfl ((g0r _ _).trans (by rw [k0n hk2])),rfl,rfl,rfl,rfl,trivial⟩⟩
   ·have he:=df he
    have hkM:k=V.length:=by omega
    subst hkM
    rw [I0]
    refine I2 (xq ?_)
    refine O4 [45] (sl:=[(2,_),(3,_),(7,_),(9,_),(39,_),(40,_)]) (hb:=[(2,_),(3,_),(7,_),(64,_)]) (L3 hX0) ⟨⟨_,rfl,.same⟩,⟨_,rfl,.same⟩,⟨_,rfl,.same⟩,⟨_,rfl,(.ref rfl rfl (by exact (by first | (simp; done) | (simp; omega))) (by first | rfl | omega))⟩,⟨_,rfl,.same⟩,⟨_,rfl,.same⟩,trivial⟩ ⟨⟨rfl,_,rfl,.same⟩,⟨rfl,_,rfl,.same⟩,⟨rfl,_,rfl,.same⟩,⟨rfl,_,rfl,.same⟩,trivial⟩ ?_
    refine s3 (sw (Z1 un24 rfl sz22 dC rX L) t1 t1 ?_)
    refine sw (Y1 ag22 rF rF L) t1 t1 ?_
    refine mV L rfl (sw (B4 (vs:=[_]) un22 ti40 rfl rfl dC dC rfl (M2 (.cons rfl .nil) rfl) rfl (.cons rfl .sl rfl pu1 .nil) (.cons .nil) L) t1 t0 (swb (apP (sz:=1) un22 un22 ti40 rfl rfl rfl dC (by exact (X5 _)) oF sM rfl rfl rfl (by first | (simp [Tryz.t40]; done) | (simp [Tryz.t40]; omega)) oM (P0 _ rfl) L) t2 t1 t0 ?_))
    refine sw (Z1 un24 rfl sz22 dC rX L) t1 t1 ?_
    refine sb (Y2 sz22 rF .ref rfl (.skip pu1)) t2 t1 ?_
    refine O1 (s3 (sw (F3 L (w64 oM oM)) t2 t0 (mV L rfl (O1 ?_))))
    exact ⟨(j+1,q :: T++[o9 V j]),⟨by simp only; omega,ht⟩,(by simp only; omega),j3 ⟨oR,rfl,rfl,rfl,rfl,trivial⟩ (hbI (l':=[(7,_),(64,_),(2,_),(3,_)]) rfl ⟨obl rfl sM,obl rfl (v1c V.length (q :: T) (o9 V j) (b9 _ _)),rfl,rfl,trivial⟩)⟩
  ·have hc:=df hc
   have hjc:j=w.length:=by omega
   rw [hjc] at hT
   rw [hT] at hst ⊢
   refine I2 (xq ?_)
   refine O4 [64] (sl:=[(3,_),(7,_)]) (hb:=[(3,_),(7,_)]) (L3 hX0) ⟨⟨_,rfl,.same⟩,⟨_,rfl,.same⟩,trivial⟩ ⟨⟨rfl,_,rfl,.same⟩,⟨rfl,_,rfl,(.mix (.cons .same (.cons (.ref rfl rfl (by exact (X5 _)) (by first | rfl | omega)) .nil)))⟩,trivial⟩ ?_
   refine exr (lp2 ag24 sz24 L rfl rfl (sw (Y1 ag40 rF rF L) t1 t1 ?_))
   refine cK hG hX cl24 hN hst L t2 (sw (R3 rfl L) t1 t0 (sw (R3 rfl L) t1 t0 (sw (R3 rfl L) t1 t0 (aV L rfl (aV L rfl (aV L rfl (zn [(4,_),(5,_),(6,_)] [] t3 trivial (X1 ?_))))))))
   refine P1 (.tmp rfl) (.tmp rfl) (.tmp rfl) ?_
   rfl
theorem w1s {a:Rat}:((v3 a.num.natAbs).length:Int)=0↔a=0:=by
 have:=h1h (a:=a.num)
 unfold nw at this
 rw [← Rat.num_eq_zero,← this]; omega
theorem g1n (a:Rat):l3 E 22 [pQ a] (bZ (decide (a=0))):=by
 refine D2 (xs:=[bZ (decide (a=0))]) Tryz.func22 rfl Tryz.ntmps22 Tryz.results22 sM fun F hG hX0 hnt hdf P0=>?_
 obtain ⟨L,hX,hN⟩:=pro hnt hX0 hG
 refine exr (swb (U3 (k:=1) (n:=4) pa4 rfl rfl (P0 _ rfl) L) t1 t0 ⟨rfl,rfl⟩ (aV L rfl (zn [(1,_)] [(1,_)] t1 t1 (exr (sw (Z1 un47 rfl sz45 dC rX L) t1 t1 ?_)))))
 refine sw (Z1 un45 rfl sz43 dC rX L) t1 t1 ?_
 refine sw (Y1 ag43 rF rF L) t1 t1 ?_
 refine sw (U2 un43 L) t1 t0 (sw (c_e L) t2 t0 (aV L rfl (zn [(2,_)] [] t1 trivial (X1 ?_))))
 refine Q0 (.tmp rfl) ?_
 rw [decide_eq_decide.2 (w1s (a:=a))]
theorem dnt {p:Prop}[Decidable p](h:(!decide p)=true):¬ p:=by simpa using h
theorem dnf {p:Prop}[Decidable p](h:(!decide p)=false):p:=by simpa using h
theorem B0c {p:Nat→Prop}{k:Nat}(h:∀ i,i<k→p i)(hk:p k):∀ i,i<k+1→p i:=fun i hi=>(Nat.lt_or_eq_of_le (Nat.le_of_lt_succ hi)).elim (h i) (fun e=>e ▸ hk)
theorem v1k {ws vs:List Int}(hl:ws.length=vs.length)(h:∀ k,k<ws.length→ws.getD k 0=vs.getD k 0):ws=vs:=by
 refine List.ext_getElem hl fun i h1 h2=>?_
 have:=h i h1
 simpa [f0,h1,h2] using this
theorem h0g (m n:Bool)(ws vs:List Int)(h1:ws.length<1000000000)(h2:vs.length<1000000000):l3 E 74 [.agg [.a (.bool m),.sl ws.length (D4 ws)],.agg [.a (.bool n),.sl vs.length (D4 vs)]] (bZ (decide (m=n∧ws=vs))):=by
 refine D2 (xs:=[bZ (decide (m=n∧ws=vs))]) Tryz.func74 rfl Tryz.ntmps74 Tryz.results74 sM fun F hG hX0 hnt hdf P0=>?_
 obtain ⟨L,hX,hN⟩:=pro hnt hX0 hG
 refine exr (swb (U3 (k:=2) (n:=2) pa2 rfl rfl (P0 _ rfl) L) t1 t0 ⟨rfl,rfl⟩ (swb (U3 (k:=3) (n:=2) pa2 rfl rfl (P0 _ rfl) L) t1 t0 ⟨rfl,rfl⟩ (aV L rfl (zn [(2,_),(3,_)] [(2,_),(3,_)] t2 t2 (R1 ?_)))))
 refine exm (sl:=[(19,vb (decide (¬ (m=n∧ws.length=vs.length))))]) (sl0:=[(2,_),(3,_)]) (hb:=[]) (hb0:=[(2,_),(3,_)]) t2 t2 ?_ ?_
 ·by_cases h:m=n
  ·refine sw (Z1 un45 rfl sz4 dC rX L) t1 t1 ?_
   refine sw (Y1 ag4 rF rF L) t1 t1 ?_
   refine sw (Z1 un45 rfl sz4 dC rX L) t1 t1 ?_
   refine sw (Y1 ag4 rF rF L) t1 t1 ?_
   refine sw (w0h un4 L) t2 t0 (mV L rfl (swg (g:=11) rfl (by rw [h]; cases n <;> rfl) (Z1 un45 rfl sz43 dC rX L) rfl t1 t1 ?_))
   refine swg (g:=11) rfl (by rw [h]; cases n <;> rfl) (Y1 ag43 rF rF L) rfl t1 t1 ?_
   refine swg (g:=11) rfl (by rw [h]; cases n <;> rfl) (U2 un43 L) rfl t1 t0 ?_
   refine swg (g:=11) rfl (by rw [h]; cases n <;> rfl) (Z1 un45 rfl sz43 dC rX L) rfl t1 t1 ?_
   refine swg (g:=11) rfl (by rw [h]; cases n <;> rfl) (Y1 ag43 rF rF L) rfl t1 t1 ?_
   refine swg (g:=11) rfl (by rw [h]; cases n <;> rfl) (U2 un43 L) rfl t1 t0 ?_
   refine swg (g:=11) rfl (by rw [h]; cases n <;> rfl) (c_n L) rfl t2 t0 ?_
   refine sw (n4 (by rw [h]; cases n <;> rfl) L) t2 t0 ?_
   exact O1 ⟨⟨ob rfl (by simp [h]; omega),rfl,rfl,trivial⟩,t2⟩
  ·refine sw (Z1 un45 rfl sz4 dC rX L) t1 t1 ?_
   refine sw (Y1 ag4 rF rF L) t1 t1 ?_
   refine sw (Z1 un45 rfl sz4 dC rX L) t1 t1 ?_
   refine sw (Y1 ag4 rF rF L) t1 t1 ?_
   refine sw (w0h un4 L) t2 t0 (mV L rfl (swn (g:=11) rfl (by revert h; cases m <;> cases n <;> simp) L rfl ?_))
   refine swn (g:=11) rfl (by revert h; cases m <;> cases n <;> simp) L rfl ?_
   refine swn (g:=11) rfl (by revert h; cases m <;> cases n <;> simp) L rfl ?_
   refine swn (g:=11) rfl (by revert h; cases m <;> cases n <;> simp) L rfl ?_
   refine swn (g:=11) rfl (by revert h; cases m <;> cases n <;> simp) L rfl ?_
   refine swn (g:=11) rfl (by revert h; cases m <;> cases n <;> simp) L rfl ?_
   refine swn (g:=11) rfl (by revert h; cases m <;> cases n <;> simp) L rfl ?_
   refine sw (Y4 (by revert h; cases m <;> cases n <;> simp) L) t2 t0 ?_
   exact O1 ⟨⟨ob rfl (by simp [h]),rfl,rfl,trivial⟩,t2⟩
 refine i2 rfl (fun hc=>?_) (fun hc=>?_)
 ·have hc:=dt hc
  refine exr (aV L rfl (zn [(4,_)] [] t1 trivial (X1 ?_)))
  refine Q0 (.tmp rfl) ?_
  rw [decide_eq_false (fun h=>hc ⟨h.1,by rw [h.2]⟩)]
 ·have hc:=df hc
  have hc:m=n∧ws.length=vs.length:=Classical.not_not.1 hc
  obtain ⟨rfl,hl⟩:=hc
  refine U1 (xq ?_)
  refine R1 (exr (aV L rfl (zn [(2,_),(3,_),(5,_)] [(2,_),(3,_)] t3 t2 (V1 ?_))))
  refine exl (α:=Nat) (fun k=>[(5,vi (k:Int))]) (fun k=>[]) (fun k=>k≤ws.length∧∀ i,i<k→ws.getD i 0=vs.getD i 0) (fun k=>ws.length - k) (0) (sl:=[(2,_),(3,_)]) (hb:=[(2,_),(3,_)]) ?_ ⟨oR,rfl,rfl,trivial⟩ t2 ?_
  ·exact ⟨Nat.zero_le _,fun i h=>absurd h (Nat.not_lt_zero i)⟩
  intro k hk
  obtain ⟨hk,hw⟩:=hk
  refine R1 (exr (mV L rfl (sw (Z1 un45 rfl sz43 dC rX L) t1 t1 ?_)))
  refine sw (Y1 ag43 rF rF L) t1 t1 ?_
  refine sw (U2 un43 L) t1 t0 (sw (W3 L) t2 t0 (zn [(2,_),(3,_),(5,_),(24,_)] [(2,_),(3,_)] t4 t2 ?_))
  refine i2 rfl (fun hc=>?_) (fun hc=>?_)
  ·have hc:=dt hc
   have hk2:k<ws.length:=by omega
   have hk3:k<vs.length:=by omega
   refine U1 (xq ?_)
   refine R1 (V1 (exd rF ?_))
   refine sw (Z1 un45 rfl sz43 dC rX L) t1 t1 ?_
   refine sw (Y1 ag43 rF rF L) t1 t1 ?_
   refine mV L rfl (sw (ixJ un43 sz119 (j:=k) rO oM sM L) t2 t0 ?_)
   refine sw (d4 ag119 (T5 hk2) L) t1 t0 (sw (Z1 un45 rfl sz43 dC rX L) t1 t1 ?_)
   refine sw (Y1 ag43 rF rF L) t1 t1 ?_
   refine mV L rfl (sw (ixJ un43 sz119 (j:=k) rO oM sM L) t2 t0 ?_)
   refine sw (d4 ag119 (T5 hk3) L) t1 t0 (sw (c_n L) t2 t0 ?_)
   refine O1 ⟨Z4 [⟨[2],[2],[27],[]⟩,⟨[27],[2],[28],[]⟩,⟨[5],[],[29],[]⟩,⟨[28,29],[],[30],[]⟩,⟨[30],[],[31],[]⟩,⟨[3],[3],[32],[]⟩,⟨[32],[3],[33],[]⟩,⟨[5],[],[34],[]⟩,⟨[33,34],[],[35],[]⟩,⟨[35],[],[36],[]⟩,⟨[31,36],[],[37],[]⟩] rF rF dC,[(2,_),(3,_),(5,_),(37,_)],[(2,_),(3,_)],t4,t2,?_⟩
   refine i2 rfl (fun he=>?_) (fun he=>?_)
   ·have he:=dnt he
    refine exr (aV L rfl (zn [(4,_)] [] t1 trivial (X1 ?_)))
    refine Q0 (.tmp rfl) ?_
    rw [decide_eq_false (fun h=>he (by rw [h.2]))]
   ·have he:=dnf he
    refine U1 (xq ?_)
    refine s3 (mV L rfl (sw (F3 L (w64 oM oM)) t2 t0 (aV L rfl (O1 ?_))))
    exact ⟨k+1,⟨by omega,B0c hw he⟩,by omega,j3 ⟨oR,rfl,rfl,trivial⟩ t2⟩
  ·have hc:=df hc
   refine I2 (xq ?_)
   refine exr (aV L rfl (zn [(4,_)] [] t1 trivial (X1 ?_)))
   refine Q0 (.tmp rfl) ?_
   rw [decide_eq_true (⟨rfl,v1k hl (fun i hi=>hw i oM)⟩:m=m∧ws=vs)]
deriving instance DecidableEq for RQ
theorem v0y {α:Type}{d:α}{u v:List α}(hl:u.length=v.length)(h:∀ k,k<u.length→u.getD k d=v.getD k d):u=v:=by
 refine List.ext_getElem hl fun i h1 h2=>?_
 have:=h i h1
 simpa [f0,h1,h2] using this
theorem y0h (a b:RQ)(ha:a.sm)(hb:b.sm):l3 E 33 [.agg (cR a),.agg (cR b)] (bZ (decide (a=b))):=by
 refine D2 (xs:=[bZ (decide (a=b))]) Tryz.func33 rfl Tryz.ntmps33 Tryz.results33 sM fun F hG hX0 hnt hdf P0=>?_
 obtain ⟨L,hX,hN⟩:=pro hnt hX0 hG
 have e:(a=b)=((a.m=b.m∧a.ws=b.ws)∧(a.n=b.n∧a.vs=b.vs)):=by
  cases a; cases b; simp only [RQ.mk.injEq,and_assoc]
 refine exr (swb (U3 (k:=2) (n:=4) pa4 rfl rfl (P0 _ rfl) L) t1 t0 ⟨rfl,rfl⟩ (swb (U3 (k:=3) (n:=4) pa4 rfl rfl (P0 _ rfl) L) t1 t0 ⟨rfl,rfl⟩ (aV L rfl (zn [(2,_),(3,_)] [(2,_),(3,_)] t2 t2 ?_))))
 refine exm (sl:=[(4,vb (decide (a=b)))]) (sl0:=[]) (hb:=[]) (hb0:=[]) t0 t0 ?_ ?_
 ·by_cases h:a.m=b.m∧a.ws=b.ws
  ·refine sw (Z1 un47 rfl sz45 dC rX L) t1 t1 ?_
   refine lp2 ag45 sz45 L rfl rfl (sw (Z1 un47 rfl sz45 dC rX L) t1 t1 ?_)
   refine lp2 ag45 sz45 L rfl rfl (cK hG hX cl74 hN (h0g a.m b.m a.ws b.ws ha.2.1 hb.2.1) L t2 (mV L rfl (swg (g:=10) rfl (by rw [decide_eq_true h] <;> rfl) (Z1 un47 rfl sz45 dC rX L) rfl t1 t1 ?_)))
   refine swg (g:=10) rfl (by rw [decide_eq_true h] <;> rfl) (y6 ag45 sz45 rF (by exact al2) rfl L) rfl t1 t1 ?_
   refine swg (g:=10) rfl (by rw [decide_eq_true h] <;> rfl) (Z1 un47 rfl sz45 dC rX L) rfl t1 t1 ?_
   refine swg (g:=10) rfl (by rw [decide_eq_true h] <;> rfl) (y6 ag45 sz45 rF (by exact al2) rfl L) rfl t1 t1 ?_
   refine swg (g:=10) rfl (by rw [decide_eq_true h] <;> rfl) (c_c hG hX cl74 rfl hN (h0g a.n b.n a.vs b.vs ha.2.2 hb.2.2) L) rfl t2 t0 ?_
   refine sw (Y4 (by rw [decide_eq_true h] <;> rfl) L) t2 t0 ?_
   refine aV L rfl ?_
   exact O1 ⟨⟨ob rfl (by simp only [e,h,true_and,and_self]),trivial⟩,trivial⟩
  ·refine sw (Z1 un47 rfl sz45 dC rX L) t1 t1 ?_
   refine lp2 ag45 sz45 L rfl rfl (sw (Z1 un47 rfl sz45 dC rX L) t1 t1 ?_)
   refine lp2 ag45 sz45 L rfl rfl (cK hG hX cl74 hN (h0g a.m b.m a.ws b.ws ha.2.1 hb.2.1) L t2 (mV L rfl (swn (g:=10) rfl (by rw [decide_eq_false h] <;> rfl) L rfl ?_)))
   refine swn (g:=10) rfl (by rw [decide_eq_false h] <;> rfl) L rfl ?_
   refine swn (g:=10) rfl (by rw [decide_eq_false h] <;> rfl) L rfl ?_
   refine swn (g:=10) rfl (by rw [decide_eq_false h] <;> rfl) L rfl ?_
   refine swn (g:=10) rfl (by rw [decide_eq_false h] <;> rfl) L rfl ?_
   refine sw (n4 (by rw [decide_eq_false h] <;> rfl) L) t2 t0 ?_
   refine aV L rfl ?_
   exact O1 ⟨⟨ob rfl (by simp only [e,h,false_and,decide_false]),trivial⟩,trivial⟩
 refine X1 ?_
 refine Q0 (.tmp rfl) ?_
 rfl
theorem y0c (u v:List RQ)(hu:u.length<1000000000)(su:∀ r∈u,r.sm)(sv:∀ r∈v,r.sm):l3 E 29 [pVR u,pVR v] (bZ (decide (u=v))):=by
 refine D2 (xs:=[bZ (decide (u=v))]) Tryz.func29 rfl Tryz.ntmps29 Tryz.results29 sM fun F hG hX0 hnt hdf P0=>?_
 obtain ⟨L,hX,hN⟩:=pro hnt hX0 hG
 refine exr (aV L rfl (zn [(0,_),(1,_)] [] t2 trivial (R1 (exr (mV L rfl (sw (U2 un40 L) t1 t0 (mV L rfl (sw (U2 un40 L) t1 t0 (sw (c_n L) t2 t0 (zn [(0,_),(1,_),(10,_)] [] t3 trivial ?_))))))))))
 refine i2 rfl (fun hc=>?_) (fun hc=>?_)
 ·have hc:=dnt hc
  refine exr (aV L rfl (zn [(4,_)] [] t1 trivial (X1 ?_)))
  refine Q0 (.tmp rfl) ?_
  rw [decide_eq_false (fun h=>hc (by rw [h]))]
 ·have hc:=dnf hc
  have hl:u.length=v.length:=by omega
  refine U1 (xq ?_)
  refine R1 (exr (aV L rfl (zn [(0,_),(1,_),(5,_)] [] t3 trivial (V1 ?_))))
  refine exl (α:=Nat) (fun k=>[(5,vi (k:Int))]) (fun k=>[]) (fun k=>k≤u.length∧∀ i,i<k→u.getD i default=v.getD i default) (fun k=>u.length - k) (0) (sl:=[(0,_),(1,_)]) (hb:=[]) ?_ ⟨oR,rfl,rfl,trivial⟩ t0 ?_
  ·exact ⟨Nat.zero_le _,fun i h=>absurd h (Nat.not_lt_zero i)⟩
  intro k hk
  obtain ⟨hk,hw⟩:=hk
  refine R1 (exr (mV L rfl (mV L rfl (sw (U2 un40 L) t1 t0 (sw (W3 L) t2 t0 (zn [(0,_),(1,_),(5,_),(14,_)] [] t4 trivial ?_))))))
  refine i2 rfl (fun hc=>?_) (fun hc=>?_)
  ·have hc:=dt hc
   have hk2:k<u.length:=by omega
   have hk3:k<v.length:=by omega
   refine U1 (xq ?_)
   refine R1 (V1 (exd rF ?_))
   refine mV L rfl (mV L rfl (sw (y2 un40 sz47 oM oM sM dC L) t2 t0 ?_))
   refine sw (V6 ag47 sz47 (n1g hk2) rfl L) t1 t0 (mV L rfl (mV L rfl (sw (y2 un40 sz47 oM oM sM dC L) t2 t0 ?_)))
   refine sw (V6 ag47 sz47 (n1g hk3) rfl L) t1 t0 (cK hG hX cl33 hN (y0h _ _ (su _ (gD hk2)) (sv _ (gD hk3))) L t2 (sw (v4 L) t1 t0 ?_))
   refine O1 ⟨Z4 [⟨[0],[],[17],[]⟩,⟨[5],[],[18],[]⟩,⟨[17,18],[],[19],[]⟩,⟨[19],[],[20],[]⟩,⟨[1],[],[21],[]⟩,⟨[5],[],[22],[]⟩,⟨[21,22],[],[23],[]⟩,⟨[23],[],[24],[]⟩,⟨[20,24],[],[25],[]⟩,⟨[25],[],[26],[]⟩] rF rF dC,[(0,_),(1,_),(5,_),(26,_)],[],t4,trivial,?_⟩
   refine i2 rfl (fun he=>?_) (fun he=>?_)
   ·have he:=dnt he
    refine exr (aV L rfl (zn [(4,_)] [] t1 trivial (X1 ?_)))
    refine Q0 (.tmp rfl) ?_
    rw [decide_eq_false (fun h=>he (by rw [h]))]
   ·have he:=dnf he
    refine U1 (xq ?_)
    refine s3 (mV L rfl (sw (F3 L (w64 oM oM)) t2 t0 (aV L rfl (O1 ?_))))
    exact ⟨k+1,⟨by omega,B0c hw he⟩,by omega,j3 ⟨oR,rfl,rfl,trivial⟩ trivial⟩
  ·have hc:=df hc
   refine I2 (xq ?_)
   refine exr (aV L rfl (zn [(4,_)] [] t1 trivial (X1 ?_)))
   refine Q0 (.tmp rfl) ?_
   rw [decide_eq_true (v0y hl (fun i hi=>hw i oM))]
theorem y0d (u v:List (List RQ))(hu:MSm u)(hv:MSm v):l3 E 19 [.sl u.length (f0k u),.sl v.length (f0k v)] (bZ (decide (u=v))):=by
 refine D2 (xs:=[bZ (decide (u=v))]) Tryz.func19 rfl Tryz.ntmps19 Tryz.results19 sM fun F hG hX0 hnt hdf P0=>?_
 obtain ⟨L,hX,hN⟩:=pro hnt hX0 hG
 have hul:=hu.1
 have hvl:=hv.1
 refine exr (aV L rfl (zn [(0,_),(1,_)] [] t2 trivial (R1 (exr (mV L rfl (sw (U2 un22 L) t1 t0 (mV L rfl (sw (U2 un22 L) t1 t0 (sw (c_n L) t2 t0 (zn [(0,_),(1,_),(10,_)] [] t3 trivial ?_))))))))))
 refine i2 rfl (fun hc=>?_) (fun hc=>?_)
 ·have hc:=dnt hc
  refine exr (aV L rfl (zn [(4,_)] [] t1 trivial (X1 ?_)))
  refine Q0 (.tmp rfl) ?_
  rw [decide_eq_false (fun h=>hc (by rw [h]))]
 ·have hc:=dnf hc
  have hl:u.length=v.length:=by omega
  refine U1 (xq ?_)
  refine R1 (exr (aV L rfl (zn [(0,_),(1,_),(5,_)] [] t3 trivial (V1 ?_))))
  refine exl (α:=Nat) (fun k=>[(5,vi (k:Int))]) (fun k=>[]) (fun k=>k≤u.length∧∀ i,i<k→u.getD i []=v.getD i []) (fun k=>u.length - k) (0) (sl:=[(0,_),(1,_)]) (hb:=[]) ?_ ⟨oR,rfl,rfl,trivial⟩ t0 ?_
  ·exact ⟨Nat.zero_le _,fun i h=>absurd h (Nat.not_lt_zero i)⟩
  intro k hk
  obtain ⟨hk,hw⟩:=hk
  refine R1 (exr (mV L rfl (mV L rfl (sw (U2 un22 L) t1 t0 (sw (W3 L) t2 t0 (zn [(0,_),(1,_),(5,_),(14,_)] [] t4 trivial ?_))))))
  refine i2 rfl (fun hc=>?_) (fun hc=>?_)
  ·have hc:=dt hc
   have hk2:k<u.length:=by omega
   have hk3:k<v.length:=by omega
   have m1:=hu.2 _ (gDL hk2)
   have m2:=hv.2 _ (gDL hk3)
   refine U1 (xq ?_)
   refine R1 (V1 (exd rF ?_))
   refine mV L rfl (mV L rfl (sw (ixJ un22 sz40 (j:=k) rO oM sM L) t2 t0 ?_))
   refine sw (d4 ag40 (g0w hk2) L) t1 t0 (mV L rfl (mV L rfl (sw (ixJ un22 sz40 (j:=k) rO oM sM L) t2 t0 ?_)))
   refine sw (d4 ag40 (g0w hk3) L) t1 t0 (cK hG hX cl29 hN (y0c _ _ m1.1 m1.2 m2.2) L t2 (sw (v4 L) t1 t0 ?_))
   refine O1 ⟨Z4 [⟨[0],[],[17],[]⟩,⟨[5],[],[18],[]⟩,⟨[17,18],[],[19],[]⟩,⟨[19],[],[20],[]⟩,⟨[1],[],[21],[]⟩,⟨[5],[],[22],[]⟩,⟨[21,22],[],[23],[]⟩,⟨[23],[],[24],[]⟩,⟨[20,24],[],[25],[]⟩,⟨[25],[],[26],[]⟩] rF rF dC,[(0,_),(1,_),(5,_),(26,_)],[],t4,trivial,?_⟩
   refine i2 rfl (fun he=>?_) (fun he=>?_)
   ·have he:=dnt he
    refine exr (aV L rfl (zn [(4,_)] [] t1 trivial (X1 ?_)))
    refine Q0 (.tmp rfl) ?_
    rw [decide_eq_false (fun h=>he (by rw [h]))]
   ·have he:=dnf he
    refine U1 (xq ?_)
    refine s3 (mV L rfl (sw (F3 L (w64 oM oM)) t2 t0 (aV L rfl (O1 ?_))))
    exact ⟨k+1,⟨by omega,B0c hw he⟩,by omega,j3 ⟨oR,rfl,rfl,trivial⟩ trivial⟩
  ·have hc:=df hc
   refine I2 (xq ?_)
   refine exr (aV L rfl (zn [(4,_)] [] t1 trivial (X1 ?_)))
   refine Q0 (.tmp rfl) ?_
   rw [decide_eq_true (v0y hl (fun i hi=>hw i oM))]
theorem Q0q (c d:Int)(u v:List (List RQ))(hu:MSm u)(hv:MSm v):l3 E 17 [pMR c u,pMR d v] (bZ (decide (c=d∧u=v))):=by
 refine D2 (xs:=[bZ (decide (c=d∧u=v))]) Tryz.func17 rfl Tryz.ntmps17 Tryz.results17 sM fun F hG hX0 hnt hdf P0=>?_
 obtain ⟨L,hX,hN⟩:=pro hnt hX0 hG
 refine exr (swb (U3 (k:=2) (n:=2) pa2 rfl rfl (P0 _ rfl) L) t1 t0 ⟨rfl,rfl⟩ (swb (U3 (k:=3) (n:=2) pa2 rfl rfl (P0 _ rfl) L) t1 t0 ⟨rfl,rfl⟩ (aV L rfl (zn [(2,_),(3,_)] [(2,_),(3,_)] t2 t2 ?_))))
 refine exm (sl:=[(4,vb (decide (c=d∧u=v)))]) (sl0:=[]) (hb:=[]) (hb0:=[]) t0 t0 ?_ ?_
 ·by_cases h:c=d
  ·refine sw (Z1 un24 rfl sz3 dC rX L) t1 t1 ?_
   refine sw (Y1 ag3 rF rF L) t1 t1 ?_
   refine sw (Z1 un24 rfl sz3 dC rX L) t1 t1 ?_
   refine sw (Y1 ag3 rF rF L) t1 t1 ?_
   refine sw (c_e L) t2 t0 (mV L rfl (swg (g:=10) rfl (by simp [h]) (Z1 un24 rfl sz22 dC rX L) rfl t1 t1 ?_))
   refine swg (g:=10) rfl (by simp [h]) (Y1 ag22 rF rF L) rfl t1 t1 ?_
   refine swg (g:=10) rfl (by simp [h]) (Z1 un24 rfl sz22 dC rX L) rfl t1 t1 ?_
   refine swg (g:=10) rfl (by simp [h]) (Y1 ag22 rF rF L) rfl t1 t1 ?_
   refine swg (g:=10) rfl (by simp [h]) (c_c hG hX cl19 rfl hN (y0d u v hu hv) L) rfl t2 t0 ?_
   refine sw (Y4 (by simp [h]) L) t2 t0 ?_
   refine aV L rfl ?_
   exact O1 ⟨⟨ob rfl (by simp only [h,true_and]),trivial⟩,trivial⟩
  ·refine sw (Z1 un24 rfl sz3 dC rX L) t1 t1 ?_
   refine sw (Y1 ag3 rF rF L) t1 t1 ?_
   refine sw (Z1 un24 rfl sz3 dC rX L) t1 t1 ?_
   refine sw (Y1 ag3 rF rF L) t1 t1 ?_
   refine sw (c_e L) t2 t0 (mV L rfl (swn (g:=10) rfl (by rw [decide_eq_false h] <;> rfl) L rfl ?_))
   refine swn (g:=10) rfl (by rw [decide_eq_false h] <;> rfl) L rfl ?_
   refine swn (g:=10) rfl (by rw [decide_eq_false h] <;> rfl) L rfl ?_
   refine swn (g:=10) rfl (by rw [decide_eq_false h] <;> rfl) L rfl ?_
   refine swn (g:=10) rfl (by rw [decide_eq_false h] <;> rfl) L rfl ?_
   refine sw (n4 (by rw [decide_eq_false h] <;> rfl) L) t2 t0 ?_
   refine aV L rfl ?_
   exact O1 ⟨⟨ob rfl (by simp only [h,false_and,decide_false]),trivial⟩,trivial⟩
 refine X1 ?_
 refine Q0 (.tmp rfl) ?_
 rfl
theorem p0s {α:Type}{p:α→Bool}{v:List α}{k:Nat}{d:α}(h:k<v.length)(h1:(v.take k).all p=true)(h2:p (v.getD k d)=true):(v.take (k+1)).all p=true:=by
 rw [I1,List.all_append,h1]
 simpa [f0,h] using h2
theorem P0h {α:Type}{p:α→Bool}{v:List α}{a:α}(h:a∈v)(h2:p a=false):v.all p=false:=by
 rw [Bool.eq_false_iff]; intro hh
 rw [s0] at hh
 rw [hh a h] at h2; cases h2
theorem m1f (v:List RQ)(hl:v.length<1000000000)(hs:∀ r∈v,r.sm):l3 E 27 [pVR v] (bZ (v.all RQ.is)):=by
 refine D2 (xs:=[bZ (v.all RQ.is)]) Tryz.func27 rfl Tryz.ntmps27 Tryz.results27 sM fun F hG hX0 hnt hdf P0=>?_
 obtain ⟨L,hX,hN⟩:=pro hnt hX0 hG
 refine exr (aV L rfl (zn [(0,_)] [] t1 trivial (R1 (exr (aV L rfl (zn [(0,_),(3,_)] [] t2 trivial (V1 ?_)))))))
 refine exl (α:=Nat) (fun k=>[(3,vi (k:Int))]) (fun k=>[]) (fun k=>k≤v.length∧(v.take k).all RQ.is=true) (fun k=>v.length - k) (0) (sl:=[(0,_)]) (hb:=[]) ?_ ⟨oR,rfl,trivial⟩ t0 ?_
 ·exact ⟨Nat.zero_le _,rfl⟩
 intro k hk
 obtain ⟨hk,hw⟩:=hk
 refine R1 (exr (mV L rfl (mV L rfl (sw (U2 un40 L) t1 t0 (sw (W3 L) t2 t0 (zn [(0,_),(3,_),(7,_)] [] t3 trivial ?_))))))
 refine i2 rfl (fun hc=>?_) (fun hc=>?_)
 ·have hc:=dt hc
  have hk2:k<v.length:=by omega
  have hr:=hs _ (gD hk2)
  refine U1 (xq ?_)
  refine R1 (V1 (exr (mV L rfl (mV L rfl (sw (y2 un40 sz47 oM oM sM dC L) t2 t0 ?_)))))
  refine sw (V6 ag47 sz47 (n1g hk2) rfl L) t1 t0 (cK hG hX cl36 hN (p1r hr.1 hr.2.1 hr.2.2) L t1 (sw (v4 L) t1 t0 (zn [(0,_),(3,_),(15,_)] [] t3 trivial ?_)))
  refine i2 rfl (fun he=>?_) (fun he=>?_)
  ·have he:(v.getD k default).is=false:=by simpa using he
   refine exr (aV L rfl (zn [(2,_)] [] t1 trivial (X1 ?_)))
   refine Q0 (.tmp rfl) ?_
   rw [P0h (gD hk2) he]
  ·have he:(v.getD k default).is=true:=by simpa using he
   refine U1 (xq ?_)
   refine s3 (mV L rfl (sw (F3 L (w64 oM oM)) t2 t0 (aV L rfl (O1 ?_))))
   exact ⟨k+1,⟨by omega,p0s hk2 hw he⟩,by omega,j3 ⟨oR,rfl,trivial⟩ trivial⟩
 ·have hc:=df hc
  refine I2 (xq ?_)
  refine exr (aV L rfl (zn [(2,_)] [] t1 trivial (X1 ?_)))
  refine Q0 (.tmp rfl) ?_
  rw [show k=v.length by omega,I0] at hw; rw [hw]
theorem K0k (c:Int)(m:List (List RQ))(hm:MSm m):l3 E 15 [pMR c m] (bZ (isM c m)):=by
 refine D2 (xs:=[bZ (isM c m)]) Tryz.func15 rfl Tryz.ntmps15 Tryz.results15 sM fun F hG hX0 hnt hdf P0=>?_
 obtain ⟨L,hX,hN⟩:=pro hnt hX0 hG
 have hl:=hm.1
 refine exr (swb (U3 (k:=1) (n:=2) pa2 rfl rfl (P0 _ rfl) L) t1 t0 ⟨rfl,rfl⟩ (aV L rfl (zn [(1,_)] [(1,_)] t1 t1 (R1 ?_))))
 refine exm (sl:=[(17,vb (!decide (m.length≤400∧0≤c∧c≤60)))]) (sl0:=[(1,_)]) (hb:=[]) (hb0:=[(1,_)]) t1 t1 ?_ ?_
 ·rcases (by omega:c<0∨0≤c∧60<c∨0≤c∧c≤60) with h | h | h
  ·refine sw (Z1 un24 rfl sz3 dC rX L) t1 t1 ?_
   refine sw (Y1 ag3 rF rF L) t1 t1 ?_
   refine sw (W3 L) t2 t0 (mV L rfl (swn (g:=7) rfl sO L rfl (swn (g:=7) rfl sO L rfl (swn (g:=7) rfl sO L rfl (sw (Y4 sO L) t2 t0 (mV L rfl (swn (g:=12) rfl rfl L rfl (swn (g:=12) rfl rfl L rfl (swn (g:=12) rfl rfl L rfl (swn (g:=12) rfl rfl L rfl (sw (Y4 rfl L) t2 t0 ?_)))))))))))
   exact O1 ⟨⟨ob rfl sO,rfl,trivial⟩,t1⟩
  ·refine sw (Z1 un24 rfl sz3 dC rX L) t1 t1 ?_
   refine sw (Y1 ag3 rF rF L) t1 t1 ?_
   refine sw (W3 L) t2 t0 (mV L rfl (swg (g:=7) rfl sO (Z1 un24 rfl sz3 dC rX L) rfl t1 t1 ?_))
   refine swg (g:=7) rfl sO (Y1 ag3 rF rF L) rfl t1 t1 ?_
   refine swg (g:=7) rfl sO (P6 L) rfl t2 t0 (sw (n4 sO L) t2 t0 (mV L rfl (swn (g:=12) rfl sO L rfl (swn (g:=12) rfl sO L rfl (swn (g:=12) rfl sO L rfl (swn (g:=12) rfl sO L rfl (sw (Y4 sO L) t2 t0 ?_)))))))
   exact O1 ⟨⟨ob rfl sO,rfl,trivial⟩,t1⟩
  ·refine sw (Z1 un24 rfl sz3 dC rX L) t1 t1 ?_
   refine sw (Y1 ag3 rF rF L) t1 t1 ?_
   refine sw (W3 L) t2 t0 (mV L rfl (swg (g:=7) rfl sO (Z1 un24 rfl sz3 dC rX L) rfl t1 t1 ?_))
   refine swg (g:=7) rfl sO (Y1 ag3 rF rF L) rfl t1 t1 ?_
   refine swg (g:=7) rfl sO (P6 L) rfl t2 t0 (sw (n4 sO L) t2 t0 (mV L rfl (swg (g:=12) rfl sO (Z1 un24 rfl sz22 dC rX L) rfl t1 t1 ?_)))
   refine swg (g:=12) rfl sO (Y1 ag22 rF rF L) rfl t1 t1 ?_
   refine swg (g:=12) rfl sO (U2 un22 L) rfl t1 t0 (swg (g:=12) rfl sO (P6 L) rfl t2 t0 (sw (n4 sO L) t2 t0 ?_))
   exact O1 ⟨⟨ob rfl (by rw [Bool.eq_iff_iff]; simp; omega),rfl,trivial⟩,t1⟩
 refine i2 rfl (fun hc=>?_) (fun hc=>?_)
 ·refine exr (aV L rfl (zn [(2,_)] [] t1 trivial (X1 ?_)))
  refine Q0 (.tmp rfl) ?_
  simp only [isM]; rw [show decide (m.length≤400∧0≤c∧c≤60)=false by simpa only [Bool.not_eq_true'] using hc]; rfl
 ·have hd:decide (m.length≤400∧0≤c∧c≤60)=true:=by simpa only [Bool.not_eq_false'] using hc
  refine U1 (xq ?_)
  refine R1 (exr (aV L rfl (zn [(1,_),(3,_)] [(1,_)] t2 t1 (V1 ?_))))
  refine exl (α:=Nat) (fun k=>[(3,vi (k:Int))]) (fun k=>[]) (fun k=>k≤m.length∧(m.take k).all (M9 c)=true) (fun k=>m.length - k) (0) (sl:=[(1,_)]) (hb:=[(1,_)]) ?_ ⟨oR,rfl,trivial⟩ t1 ?_
  ·exact ⟨Nat.zero_le _,rfl⟩
  intro k hk
  obtain ⟨hk,hw⟩:=hk
  refine R1 (exr (mV L rfl (sw (Z1 un24 rfl sz22 dC rX L) t1 t1 ?_)))
  refine sw (Y1 ag22 rF rF L) t1 t1 ?_
  refine sw (U2 un22 L) t1 t0 (sw (W3 L) t2 t0 (zn [(1,_),(3,_),(22,_)] [(1,_)] t3 t1 ?_))
  refine i2 rfl (fun hc=>?_) (fun hc=>?_)
  ·have hc:=dt hc
   have hk2:k<m.length:=by omega
   have hr:=hm.2 _ (gDL hk2)
   refine U1 (xq ?_)
   refine R1 (V1 ?_)
   refine V1z (sl:=[(42,vb (!M9 c (m.getD k [])))]) (sl0:=[(1,_),(3,_)]) (hb:=[]) (hb0:=[(1,_)]) rF t2 t1 ?_ ?_
   ·by_cases h:((m.getD k []).length:Int)=c
    ·refine sw (Z1 un24 rfl sz22 dC rX L) t1 t1 ?_
     refine sw (Y1 ag22 rF rF L) t1 t1 ?_
     refine mV L rfl (sw (ixJ un22 sz40 (j:=k) rO oM sM L) t2 t0 ?_)
     refine sw (d4 ag40 (g0w hk2) L) t1 t0 (sw (U2 un40 L) t1 t0 (sw (Z1 un24 rfl sz3 dC rX L) t1 t1 ?_))
     refine sw (Y1 ag3 rF rF L) t1 t1 ?_
     refine sw (c_n L) t2 t0 (mV L rfl (swg (g:=34) rfl (by rw [h]; simp) (Z1 un24 rfl sz22 dC rX L) rfl t1 t1 ?_))
     refine swg (g:=34) rfl (by rw [h]; simp) (Y1 ag22 rF rF L) rfl t1 t1 ?_
     refine gV (g:=34) rfl (by rw [h]; simp) L rfl rfl ?_
     refine swg (g:=34) rfl (by rw [h]; simp) (ixJ un22 sz40 (j:=k) rO oM sM L) rfl t2 t0 ?_
     refine swg (g:=34) rfl (by rw [h]; simp) (d4 ag40 (g0w hk2) L) rfl t1 t0 ?_
     refine swg (g:=34) rfl (by rw [h]; simp) (c_c hG hX cl27 rfl hN (m1f (m.getD k []) hr.1 hr.2) L) rfl t1 t0 ?_
     refine swg (g:=34) rfl (by rw [h]; simp) (v4 L) rfl t1 t0 ?_
     refine sw (n4 (by rw [h]; simp) L) t2 t0 ?_
     exact O1 ⟨Z4 [⟨[1],[1],[25],[]⟩,⟨[25],[1],[26],[]⟩,⟨[3],[],[27],[]⟩,⟨[26,27],[],[28],[]⟩,⟨[28],[],[29],[]⟩,⟨[29],[],[30],[]⟩,⟨[1],[1],[31],[]⟩,⟨[31],[1],[32],[]⟩,⟨[30,32],[],[33],[]⟩,⟨[33],[],[34],[]⟩,⟨[34,1],[1],[35],[]⟩,⟨[34,35],[1],[36],[]⟩,⟨[34,3],[],[37],[]⟩,⟨[34,36,37],[],[38],[]⟩,⟨[34,38],[],[39],[]⟩,⟨[34,39],[],[40],[]⟩,⟨[34,40],[],[41],[]⟩,⟨[34,41],[],[42],[]⟩] rF rF dC,⟨ob rfl (by rw [M9,h]; simp),rfl,rfl,trivial⟩,t1⟩
    ·refine sw (Z1 un24 rfl sz22 dC rX L) t1 t1 ?_
     refine sw (Y1 ag22 rF rF L) t1 t1 ?_
     refine mV L rfl (sw (ixJ un22 sz40 (j:=k) rO oM sM L) t2 t0 ?_)
     refine sw (d4 ag40 (g0w hk2) L) t1 t0 (sw (U2 un40 L) t1 t0 (sw (Z1 un24 rfl sz3 dC rX L) t1 t1 ?_))
     refine sw (Y1 ag3 rF rF L) t1 t1 ?_
     refine sw (c_n L) t2 t0 (mV L rfl (swn (g:=34) rfl (by rw [decide_eq_false h] <;> rfl) L rfl ?_))
     refine swn (g:=34) rfl (by rw [decide_eq_false h] <;> rfl) L rfl ?_
     refine swn (g:=34) rfl (by rw [decide_eq_false h] <;> rfl) L rfl ?_
     refine swn (g:=34) rfl (by rw [decide_eq_false h] <;> rfl) L rfl ?_
     refine swn (g:=34) rfl (by rw [decide_eq_false h] <;> rfl) L rfl ?_
     refine swn (g:=34) rfl (by rw [decide_eq_false h] <;> rfl) L rfl ?_
     refine swn (g:=34) rfl (by rw [decide_eq_false h] <;> rfl) L rfl ?_
     refine sw (Y4 (by rw [decide_eq_false h] <;> rfl) L) t2 t0 ?_
     exact O1 ⟨Z4 [⟨[1],[1],[25],[]⟩,⟨[25],[1],[26],[]⟩,⟨[3],[],[27],[]⟩,⟨[26,27],[],[28],[]⟩,⟨[28],[],[29],[]⟩,⟨[29],[],[30],[]⟩,⟨[1],[1],[31],[]⟩,⟨[31],[1],[32],[]⟩,⟨[30,32],[],[33],[]⟩,⟨[33],[],[34],[]⟩,⟨[34],[],[35],[]⟩,⟨[34],[],[36],[]⟩,⟨[34],[],[37],[]⟩,⟨[34],[],[38],[]⟩,⟨[34],[],[39],[]⟩,⟨[34],[],[40],[]⟩,⟨[34],[],[41],[]⟩,⟨[34],[],[42],[]⟩] rF rF dC,⟨ob rfl (by rw [M9,decide_eq_false h]; rfl),rfl,rfl,trivial⟩,t1⟩
   refine i2 rfl (fun he=>?_) (fun he=>?_)
   ·have he:M9 c (m.getD k [])=false:=by simpa using he
    refine exr (aV L rfl (zn [(2,_)] [] t1 trivial (X1 ?_)))
    refine Q0 (.tmp rfl) ?_
    rw [isM,hd,P0h (gDL hk2) he]; rfl
   ·have he:M9 c (m.getD k [])=true:=by simpa using he
    refine U1 (xq ?_)
    refine s3 (mV L rfl (sw (F3 L (w64 oM oM)) t2 t0 (aV L rfl (O1 ?_))))
    exact ⟨k+1,⟨by omega,p0s hk2 hw he⟩,by omega,j3 ⟨oR,rfl,trivial⟩ t1⟩
  ·have hc:=df hc
   refine I2 (xq ?_)
   refine exr (aV L rfl (zn [(2,_)] [] t1 trivial (X1 ?_)))
   refine Q0 (.tmp rfl) ?_
   rw [show k=m.length by omega,I0] at hw; rw [isM,hd,hw]; rfl
def dtF (u v:List Rat)(k:Nat):Rat:=v8 ((List.zipWith (· * ·) u v).take k)
theorem y1n {u v:List Rat}{k:Nat}(h:k<u.length)(hv:u.length=v.length):(List.zipWith (· * ·) u v).getD k 0=u.getD k 0*v.getD k 0:=by
 have h2:k<v.length:=by omega
 simp [f0,List.getElem?_zipWith,h,h2]
theorem W0p {u v:List Rat}{k:Nat}(h:k<u.length)(hv:u.length=v.length):dtF u v (k+1)=dtF u v k+u.getD k 0*v.getD k 0:=by
 rw [dtF,K0x sO,y1n h hv]; rfl
theorem J1h {B C:Nat}{u v:List Rat}(hB:∀ a∈u,qw a≤B)(hC:∀ a∈v,qw a≤C):∀ a∈List.zipWith (· * ·) u v,qw a≤B+C:=by
 intro a ha
 rw [← List.map_uncurry_zip_eq_zipWith] at ha
 obtain ⟨p,h1,rfl⟩:=G0.1 ha
 have h2:=List.of_mem_zip (a:=p.1) (b:=p.2) h1
 have:=M8 p.1 p.2
 have:=hB _ h2.1
 have:=hC _ h2.2
 simp only [Function.uncurry]; omega
def dtR (u v:List Rat):Rat:=v8 (List.zipWith (· * ·) u v)
theorem q0y (c:Rat):∀ v:List Rat,v.foldl (· + ·) c=c+v.foldl (· + ·) 0
 | []=>by simp [Rat.add_zero]
 | a :: v=>by
  rw [List.foldl_cons,List.foldl_cons,q0y (c+a),q0y (0+a),Rat.zero_add,Rat.add_assoc]
theorem M0w (a:Rat)(v:List Rat):v8 (a :: v)=a+v8 v:=by
 rw [v8,List.foldl_cons,q0y,Rat.zero_add]; rfl
theorem G0k:∀ u v:List Rat,B9 u v=dtR u v
 | [],_=>rfl
 | _ :: _,[]=>rfl
 | a :: u,b :: v=>by
  have ih:=G0k u v
  rw [dtR,List.zipWith_cons_cons,M0w,← dtR,← ih,B9,H0y,List.zip_cons_cons]
  by_cases h:a≠0∧b≠0
  ·rw [List.filter_cons_of_pos (by simpa using h),R0,M0w]; rfl
  ·rw [List.filter_cons_of_neg (by simpa using h)]
   have e:a*b=0:=by
    rcases Classical.em (a=0) with h1 | h1
    ·rw [h1,Rat.zero_mul]
    ·rcases Classical.em (b=0) with h2 | h2
     ·rw [h2,Rat.mul_zero]
     ·exact absurd ⟨h1,h2⟩ h
   rw [e,Rat.zero_add]; rfl
theorem Q1m {B C:Nat}{u v:List Rat}{k:Nat}(hv:u.length=v.length)(hB:∀ a∈u,qw a≤B)(hC:∀ a∈v,qw a≤C):qw (dtF u v k)≤u.length*(B+C+1)+1:=by
 have:=w0v (k:=k) (J1h hB hC)
 rwa [List.length_zipWith,hv,Nat.min_self,← hv] at this
theorem m1k (u v:List Rat)(B C:Nat)(huv:u.length=v.length)(hl:u.length<1000000000)(hB:∀ a∈u,qw a≤B)(hC:∀ a∈v,qw a≤C)(hBl:B<500000000)(hCl:C<500000000)(hb:u.length*(B+C+1)+1<900000000):l3 E 63 [pV u,pV v] (pQ (B9 u v)):=by
 refine D2 (xs:=[pQ (B9 u v)]) Tryz.func63 rfl Tryz.ntmps63 Tryz.results63 sM fun F hG hX0 hnt hdf P0=>?_
 obtain ⟨L,hX,hN⟩:=pro hnt hX0 hG
 refine exr (swb (O3 (k:=4) (n:=4) zv47 (.cons rfl (.cons rfl (.cons rfl (.cons rfl .nil)))) rfl (P0 _ rfl) L) t0 t0 ⟨rfl,rfl⟩ (zn [(0,_),(1,_),(4,_)] [(4,_)] t3 t1 (exr (cK hG hX cl60 hN (G0p) L t0 (swb (O3 (k:=5) (n:=4) zv47 (.cons rfl (.cons rfl (.cons rfl (.cons rfl .nil)))) rfl (P0 _ rfl) L) t0 t0 ⟨rfl,rfl⟩ (sb (Y2 sz47 rF pa4 rfl pu4) t2 t1 ?_))))))
 refine zn [(0,_),(1,_),(4,_),(5,_)] [(4,_),(5,_)] t4 t2 (R1 (exr (aV L rfl (zn [(0,_),(1,_),(4,_),(5,_),(6,_)] [(4,_),(5,_)] t5 t2 (V1 ?_)))))
 refine exl (α:=Nat) (fun k=>[(6,vi (k:Int))]) (fun k=>[(5,bQ (dtF u v k))]) (fun k=>k≤u.length) (fun k=>u.length - k) (0) (sl:=[(0,_),(1,_),(4,_),(5,_)]) (hb:=[(4,_)]) ?_ ⟨oR,rfl,rfl,rfl,rfl,trivial⟩ t2 ?_
 ·exact Nat.zero_le _
 intro k hk
 refine R1 (exr (mV L rfl (mV L rfl (sw (U2 un40 L) t1 t0 (sw (W3 L) t2 t0 (zn [(0,_),(1,_),(4,_),(5,_),(6,_),(12,_)] [(4,_),(5,_)] t6 t2 ?_))))))
 refine i2 rfl (fun hc=>?_) (fun hc=>?_)
 ·have hc:=dt hc
  have hk2:k<u.length:=by omega
  have hk3:k<v.length:=by omega
  have b1:qw (u.getD k 0)≤B:=hB _ (Y3 hk2)
  have b2:qw (v.getD k 0)≤C:=hC _ (Y3 hk3)
  have b3:=Q1m (k:=k) huv hB hC
  have b4:=M8 (u.getD k 0) (v.getD k 0)
  refine U1 (xq ?_)
  refine R1 (V1 (exd rF ?_))
  refine mV L rfl (mV L rfl (sw (y2 un40 sz47 oM oM sM dC L) t2 t0 ?_))
  refine sw (V6 ag47 sz47 (W6 hk2) rfl L) t1 t0 (mV L rfl (mV L rfl (sw (y2 un40 sz47 oM oM sM dC L) t2 t0 ?_)))
  refine sw (V6 ag47 sz47 (W6 hk3) rfl L) t1 t0 (cK hG hX cl37 hN (F0j (u.getD k 0) (v.getD k 0) oM oM) L t2 (swb (O3 (k:=7) (n:=4) zv47 (.cons rfl (.cons rfl (.cons rfl (.cons rfl .nil)))) rfl (P0 _ rfl) L) t0 t0 ⟨rfl,rfl⟩ (sb (Y2 sz47 rF pa4 rfl pu4) t2 t1 ?_)))
  refine O1 ⟨aok rfl rfl,[(0,_),(1,_),(4,_),(5,_),(6,_),(7,_)],[(4,_),(5,_),(7,_)],t6,t3,?_⟩
  refine s3 (lp4 ag47 sz47 L rfl rfl (lp4 ag47 sz47 L rfl rfl (cK hG hX cl76 hN (G0x (dtF u v k) (u.getD k 0*v.getD k 0) oM oM) L t2 (sb (Y2 sz47 rF pa4 rfl pu4) t2 t1 ?_))))
  refine O1 (s3 (mV L rfl (sw (F3 L (w64 oM oM)) t2 t0 (aV L rfl (O1 ?_)))))
  exact ⟨k+1,oM,by omega,j3 ⟨oR,rfl,rfl,rfl,rfl,trivial⟩ ⟨obl rfl (by rw [W0p hk2 huv]),rfl,trivial⟩⟩
 ·have hc:=df hc
  refine I2 (xq ?_)
  refine exr (lp4 ag47 sz47 L rfl rfl (sb (Y2 sz47 rF pa4 rfl pu4) t2 t1 ?_))
  refine zn [(4,_)] [(4,_)] t1 t1 (X1 ?_)
  refine Q0 (.agg rfl rfl rfl ag47 sz47 (.cons (.cons (.cons (.cons .nil))))) ?_
  rw [dtF,C0 sO,← dtR,← G0k]
def apQ (M:List (List Rat))(x:List Rat):List Rat:=M.map (B9 · x)
@[simp] theorem D0p (M:List (List Rat))(x:List Rat):(apQ M x).length=M.length:=by simp [apQ]
theorem B1g {M:List (List Rat)}{x:List Rat}{k:Nat}(h:k<M.length):apQ (M.take (k+1)) x=apQ (M.take k) x++[B9 (M.getD k []) x]:=by
 rw [I1,show M[k]?.toList=[M.getD k []] by simp [f0,h],apQ,List.map_append]; rfl
theorem Y0p (c B C:Nat)(M:List (List Rat))(x:List Rat)(hl:M.length<1000000000)(hr:∀ r∈M,r.length=c)(hx:x.length=c)(hc:c<1000000000)(hB:MB B M)(hC:∀ a∈x,qw a≤C)(hBl:B<500000000)(hCl:C<500000000)(hb:c*(B+C+1)+1<900000000):l3 E 21 [pMq c M,pV x] (pV (apQ M x)):=by
 refine D2 (xs:=[pV (apQ M x)]) Tryz.func21 rfl Tryz.ntmps21 Tryz.results21 sM fun F hG hX0 hnt hdf P0=>?_
 obtain ⟨L,hX,hN⟩:=pro hnt hX0 hG
 refine exr (swb (U3 (k:=2) (n:=2) pa2 rfl rfl (P0 _ rfl) L) t1 t0 ⟨rfl,rfl⟩ (aV L rfl (zn [(1,_),(2,_)] [(2,_)] t2 t1 (exr (sw (Z1 un24 rfl sz22 dC rX L) t1 t1 ?_)))))
 refine sw (Y1 ag22 rF rF L) t1 t1 ?_
 refine sw (U2 un22 L) t1 t0 (swb (D6 (sz:=4) (k:=10) un40 ti47 rfl rfl dC rfl rfl rfl (show (0:Int)=((0:Nat):Int) from rfl) rfl (Nat.zero_le _) (by simp [Tryz.t47]; omega) oM (P0 _ rfl) L) t2 t0 ⟨rfl,rfl⟩ ?_)
 refine aV L rfl ?_
 refine O1 ⟨[(1,_),(2,_),(5,.ref 10 0 0 0)],[(2,_),(10,i4 [])],t3,t2,?_⟩
 refine R1 (exr (aV L rfl (zn [(1,_),(2,_),(5,_),(6,_)] [(2,_),(10,_)] t4 t2 (V1 ?_))))
 refine exl (α:=Nat) (fun k=>[(6,vi (k:Int)),(5,.ref 10 0 k (k*4))]) (fun k=>[(10,i4 (apQ (M.take k) x))]) (fun k=>k≤M.length) (fun k=>M.length - k) (0) (sl:=[(1,_),(2,_)]) (hb:=[(2,_)]) ?_ ⟨oR,oR,rfl,rfl,trivial⟩ t2 ?_
 ·exact Nat.zero_le _
 intro k hk
 refine R1 (exr (mV L rfl (sw (Z1 un24 rfl sz22 dC rX L) t1 t1 ?_)))
 refine sw (Y1 ag22 rF rF L) t1 t1 ?_
 refine sw (U2 un22 L) t1 t0 (sw (W3 L) t2 t0 (zn [(1,_),(2,_),(5,_),(6,_),(15,_)] [(2,_),(10,_)] t5 t2 ?_))
 refine i2 rfl (fun he=>?_) (fun he=>?_)
 ·have he:=dt he
  have hk2:k<M.length:=by omega
  have hrl:=hr _ (gDL hk2)
  refine U1 (xq ?_)
  refine R1 (V1 (s3 (mV L rfl (sw (Z1 un24 rfl sz22 dC rX L) t1 t1 ?_))))
  refine sw (Y1 ag22 rF rF L) t1 t1 ?_
  refine mV L rfl (sw (ixJ un22 sz40 (j:=k) rO oM sM L) t2 t0 ?_)
  refine sw (d4 ag40 (v7 hk2) L) t1 t0 (mV L rfl (cK hG hX cl63 hN (m1k (M.getD k []) x B C oM oM (hB _ (gDL hk2)) hC hBl hCl (by rw [hrl]; exact hb)) L t2 ?_))
  refine sw (B4 (vs:=[_]) un40 ti47 rfl rfl dC dC rfl (M2 (.cons rfl (.cons rfl (.cons rfl (.cons rfl .nil)))) rfl) rfl (.cons rfl pa4 rfl pu4 .nil) (.cons (.cons (.cons (.cons .nil)))) L) t1 t0 (swb (apP (sz:=4) un40 un40 ti47 rfl rfl rfl dC (by exact (by first | (simp; done) | (simp; omega))) oF sM rfl rfl rfl (by first | (simp [Tryz.t47]; done) | (simp [Tryz.t47]; omega)) oM (P0 _ rfl) L) t2 t1 t0 ?_)
  refine aV L rfl (O1 (s3 (mV L rfl (sw (F3 L (w64 oM oM)) t2 t0 (aV L rfl (O1 ?_))))))
  exact ⟨k+1,oM,by omega,j3 ⟨oR,ov rfl sO,rfl,rfl,trivial⟩ ⟨obl rfl ((g0r _ _).trans (by rw [B1g hk2])),rfl,trivial⟩⟩
 ·have he:=df he
  have hkM:k=M.length:=by omega
  subst hkM
  rw [I0]
  refine I2 (xq ?_)
  refine O4 [10] (sl:=[(5,_)]) (hb:=[]) (L3 hX0) ⟨⟨_,rfl,(.ref rfl rfl (by exact (by first | (simp; done) | (simp; omega))) (by first | rfl | omega))⟩,trivial⟩ t0 ?_
  refine exr (mV L rfl (aV L rfl (zn [(4,_)] [] t1 trivial (X1 ?_))))
  refine Q0 (.tmp rfl) ?_
  simp
theorem d1d {c B:Nat}{M:List (List Rat)}(h:MOk c M)(hB:MB B M)(hb:B<1000000000):l3 E 15 [pMq c M] (bZ true):=by
 have:=K0k c _ (D1y h hB hb)
 rwa [q1w h,y1x] at this
@[simp] theorem J1w {u v:List Rat}{c:Rat}(h:v.length=u.length):(q6 u v c).length=u.length:=n6 h
theorem f1s {u v:List Rat}{c:Rat}{k:Nat}(h:k<u.length)(hv:v.length=u.length):(q6 u v c).take (k+1)=(q6 u v c).take k++[u.getD k 0 - c*v.getD k 0]:=by
 have h2:k<(q6 u v c).length:=by rw [n6 hv]; exact h
 rw [I1,show (q6 u v c)[k]?.toList=[(q6 u v c).getD k 0] by simp [f0,h2],K7 hv]
theorem m0x (u v:List Rat)(c:Rat)(B C D:Nat)(hv:v.length=u.length)(hl:u.length<1000000000)(hB:∀ a∈u,qw a≤B)(hC:∀ a∈v,qw a≤C)(hD:qw c≤D)(hb:B<400000000∧C<400000000∧D<400000000):l3 E 103 [pV u,pV v,pQ c] (pV (q6 u v c)):=by
 refine D2 (xs:=[pV (q6 u v c)]) Tryz.func103 rfl Tryz.ntmps103 Tryz.results103 sM fun F hG hX0 hnt hdf P0=>?_
 obtain ⟨L,hX,hN⟩:=pro hnt hX0 hG
 obtain ⟨hb1,hb2,hb3⟩:=hb
 refine exr (swb (U3 (k:=5) (n:=4) pa4 rfl rfl (P0 _ rfl) L) t1 t0 ⟨rfl,rfl⟩ (aV L rfl (zn [(0,_),(1,_),(5,_)] [(5,_)] t3 t1 (exr (mV L rfl (sw (U2 un40 L) t1 t0 (swb (D6 (sz:=4) (k:=12) un40 ti47 rfl rfl dC rfl rfl rfl (show (0:Int)=((0:Nat):Int) from rfl) rfl (Nat.zero_le _) (by simp [Tryz.t47]; omega) oM (P0 _ rfl) L) t2 t0 ⟨rfl,rfl⟩ ?_)))))))
 refine aV L rfl ?_
 refine O1 ⟨[(0,_),(1,_),(5,_),(7,.ref 12 0 0 0)],[(5,_),(12,i4 [])],t4,t2,?_⟩
 refine R1 (exr (aV L rfl (zn [(0,_),(1,_),(5,_),(7,_),(8,_)] [(5,_),(12,_)] t5 t2 (V1 ?_))))
 refine exl (α:=Nat) (fun k=>[(8,vi (k:Int)),(7,.ref 12 0 k (k*4))]) (fun k=>[(12,i4 ((q6 u v c).take k))]) (fun k=>k≤u.length) (fun k=>u.length - k) (0) (sl:=[(0,_),(1,_),(5,_)]) (hb:=[(5,_)]) ?_ ⟨oR,oR,rfl,rfl,rfl,trivial⟩ t2 ?_
 ·exact Nat.zero_le _
 intro k hk
 refine R1 (exr (mV L rfl (mV L rfl (sw (U2 un40 L) t1 t0 (sw (W3 L) t2 t0 (zn [(0,_),(1,_),(5,_),(7,_),(8,_),(16,_)] [(5,_),(12,_)] t6 t2 ?_))))))
 refine i2 rfl (fun he=>?_) (fun he=>?_)
 ·have he:=dt he
  have hk2:k<u.length:=by omega
  have hk3:k<v.length:=by omega
  have b1:qw (u.getD k 0)≤B:=hB _ (Y3 hk2)
  have b2:qw (v.getD k 0)≤C:=hC _ (Y3 hk3)
  have b3:=M8 c (v.getD k 0)
  refine U1 (xq ?_)
  refine R1 (V1 (exd rF ?_))
  refine lp4 ag47 sz47 L rfl rfl (mV L rfl (mV L rfl (sw (y2 un40 sz47 oM oM sM dC L) t2 t0 ?_)))
  refine sw (V6 ag47 sz47 (W6 hk3) rfl L) t1 t0 (cK hG hX cl37 hN (F0j c (v.getD k 0) oM oM) L t2 (swb (O3 (k:=9) (n:=4) zv47 (.cons rfl (.cons rfl (.cons rfl (.cons rfl .nil)))) rfl (P0 _ rfl) L) t0 t0 ⟨rfl,rfl⟩ (sb (Y2 sz47 rF pa4 rfl pu4) t2 t1 ?_)))
  refine O1 ⟨aok rfl rfl,[(0,_),(1,_),(5,_),(7,_),(8,_),(9,_)],[(5,_),(9,_),(12,_)],t6,t3,?_⟩
  refine d0g rF ?_
  refine mV L rfl (mV L rfl (mV L rfl (sw (y2 un40 sz47 oM oM sM dC L) t2 t0 ?_)))
  refine sw (V6 ag47 sz47 (W6 hk2) rfl L) t1 t0 (lp4 ag47 sz47 L rfl rfl (cK hG hX cl132 hN (b1v (u.getD k 0) (c*v.getD k 0) oM oM) L t2 (sw (B4 (vs:=[_]) un40 ti47 rfl rfl dC dC rfl (M2 (.cons rfl (.cons rfl (.cons rfl (.cons rfl .nil)))) rfl) rfl (.cons rfl pa4 rfl pu4 .nil) (.cons (.cons (.cons (.cons .nil)))) L) t1 t0 (swb (apP (sz:=4) un40 un40 ti47 rfl rfl rfl dC (by exact (by first | rw [R2,J0,n6 hv,G1 hk] | rw [R2,n6 hv])) oF sM rfl rfl rfl (by first | (simp [Tryz.t47]; done) | (simp [Tryz.t47]; omega)) oM (P0 _ rfl) L) t2 t1 t0 ?_))))
  refine aV L rfl ?_
  refine O1 ⟨Z4 [⟨[7],[],[25],[]⟩,⟨[0],[],[26],[]⟩,⟨[8],[],[27],[]⟩,⟨[26,27],[],[28],[]⟩,⟨[28],[],[29],[]⟩,⟨[9],[9],[30],[]⟩,⟨[29,30],[],[31],[]⟩,⟨[31],[],[32],[]⟩,⟨[25,32],[12],[33],[12]⟩,⟨[33],[],[7],[]⟩] rF rF dC,?_⟩
  refine s3 (mV L rfl (sw (F3 L (w64 oM oM)) t2 t0 (aV L rfl (O1 ?_))))
  exact ⟨k+1,oM,by omega,j3 ⟨oR,ov rfl sO,rfl,rfl,rfl,trivial⟩ ⟨obl rfl ((g0r _ _).trans (by rw [f1s hk2 hv])),rfl,trivial⟩⟩
 ·have he:=df he
  have hkM:k=u.length:=by omega
  rw [C0 (by rw [n6 hv]; omega),hkM]
  refine I2 (xq ?_)
  refine O4 [12] (sl:=[(7,_)]) (hb:=[]) (L3 hX0) ⟨⟨_,rfl,(.ref rfl rfl (by exact (by first | rw [R2,J0,n6 hv,G1 hk] | rw [R2,n6 hv])) (by first | rfl | omega))⟩,trivial⟩ t0 ?_
  refine exr (mV L rfl (aV L rfl (zn [(6,_)] [] t1 trivial (X1 ?_))))
  refine Q0 (.tmp rfl) ?_
  rw [pV,n6 hv]
theorem p1j {u:List Rat}{c:Rat}{k:Nat}(h:k<u.length):(u.map (· / c)).take (k+1)=(u.map (· / c)).take k++[u.getD k 0 / c]:=by
 rw [I1]; simp [f0,h]
theorem P0q (u:List Rat)(c:Rat)(B:Nat)(hl:u.length<1000000000)(hB:∀ a∈u,qw a≤B)(hD:qw c≤B)(hb:B<400000000)(h0:c≠0):l3 E 104 [pV u,pQ c] (pV (u.map (· / c))):=by
 refine D2 (xs:=[pV (u.map (· / c))]) Tryz.func104 rfl Tryz.ntmps104 Tryz.results104 sM fun F hG hX0 hnt hdf P0=>?_
 obtain ⟨L,hX,hN⟩:=pro hnt hX0 hG
 refine exr (swb (U3 (k:=3) (n:=4) pa4 rfl rfl (P0 _ rfl) L) t1 t0 ⟨rfl,rfl⟩ (aV L rfl (zn [(0,_),(3,_)] [(3,_)] t2 t1 (exr (mV L rfl (sw (U2 un40 L) t1 t0 (swb (D6 (sz:=4) (k:=11) un40 ti47 rfl rfl dC rfl rfl rfl (show (0:Int)=((0:Nat):Int) from rfl) rfl (Nat.zero_le _) (by simp [Tryz.t47]; omega) oM (P0 _ rfl) L) t2 t0 ⟨rfl,rfl⟩ ?_)))))))
 refine aV L rfl ?_
 refine O1 ⟨[(0,_),(3,_),(5,.ref 11 0 0 0)],[(3,_),(11,i4 [])],t3,t2,?_⟩
 refine R1 (exr (aV L rfl (zn [(0,_),(3,_),(5,_),(6,_)] [(3,_),(11,_)] t4 t2 (V1 ?_))))
 refine exl (α:=Nat) (fun k=>[(6,vi (k:Int)),(5,.ref 11 0 k (k*4))]) (fun k=>[(11,i4 ((u.map (· / c)).take k))]) (fun k=>k≤u.length) (fun k=>u.length - k) (0) (sl:=[(0,_),(3,_)]) (hb:=[(3,_)]) ?_ ⟨oR,oR,rfl,rfl,trivial⟩ t2 ?_
 ·exact Nat.zero_le _
 intro k hk
 refine R1 (exr (mV L rfl (mV L rfl (sw (U2 un40 L) t1 t0 (sw (W3 L) t2 t0 (zn [(0,_),(3,_),(5,_),(6,_),(15,_)] [(3,_),(11,_)] t5 t2 ?_))))))
 refine i2 rfl (fun he=>?_) (fun he=>?_)
 ·have he:=dt he
  have hk2:k<u.length:=by omega
  have b1:qw (u.getD k 0)≤B:=hB _ (Y3 hk2)
  refine U1 (xq ?_)
  refine R1 (V1 (exd rF ?_))
  refine mV L rfl (mV L rfl (sw (y2 un40 sz47 oM oM sM dC L) t2 t0 ?_))
  refine sw (V6 ag47 sz47 (W6 hk2) rfl L) t1 t0 (lp4 ag47 sz47 L rfl rfl (cK hG hX cl133 hN (f1c (u.getD k 0) c oM oM h0) L t2 (mV L rfl (sw (R3 rfl L) t1 t0 (sw (R3 rfl L) t1 t0 (swb (O3 (k:=7) (n:=4) zv47 (.cons rfl (.cons rfl (.cons rfl (.cons rfl .nil)))) rfl (P0 _ rfl) L) t0 t0 ⟨rfl,rfl⟩ (sb (Y2 sz47 rF pa4 rfl pu4) t2 t1 ?_)))))))
  refine aV L rfl ?_
  refine O1 ⟨aok rfl rfl,[(0,_),(3,_),(5,_),(6,_),(7,_)],[(3,_),(7,_),(11,_)],t5,t3,?_⟩
  refine s3 (mV L rfl (lp4 ag47 sz47 L rfl rfl (sw (B4 (vs:=[_]) un40 ti47 rfl rfl dC dC rfl (M2 (.cons rfl (.cons rfl (.cons rfl (.cons rfl .nil)))) rfl) rfl (.cons rfl pa4 rfl pu4 .nil) (.cons (.cons (.cons (.cons .nil)))) L) t1 t0 (swb (apP (sz:=4) un40 un40 ti47 rfl rfl rfl dC (by exact (by first | rw [R2,J0,O0,G1 hk] | rw [R2,O0])) oF sM rfl rfl rfl (by first | (simp [Tryz.t47]; done) | (simp [Tryz.t47]; omega)) oM (P0 _ rfl) L) t2 t1 t0 ?_))))
  refine aV L rfl (O1 (s3 (mV L rfl (sw (F3 L (w64 oM oM)) t2 t0 (aV L rfl (O1 ?_))))))
  exact ⟨k+1,oM,by omega,j3 ⟨oR,ov rfl sO,rfl,rfl,trivial⟩ ⟨obl rfl ((g0r _ _).trans (by rw [p1j hk2])),rfl,trivial⟩⟩
 ·have he:=df he
  have hkM:k=u.length:=by omega
  rw [C0 (by rw [O0]; omega),hkM]
  refine I2 (xq ?_)
  refine O4 [11] (sl:=[(5,_)]) (hb:=[]) (L3 hX0) ⟨⟨_,rfl,(.ref rfl rfl (by exact (by first | rw [R2,J0,O0,G1 hk] | rw [R2,O0])) (by first | rfl | omega))⟩,trivial⟩ t0 ?_
  refine exr (mV L rfl (aV L rfl (zn [(4,_)] [] t1 trivial (X1 ?_))))
  refine Q0 (.tmp rfl) ?_
  rw [pV,O0]
theorem q1f {v:List Rat}{k:Nat}(h:k≤D3 v)(hk:k<v.length):(v.getD k 0=0)↔k<D3 v:=by
 constructor
 ·intro h0
  rcases Nat.lt_or_ge k (D3 v) with h1 | h1
  ·exact h1
  ·have e:D3 v=k:=by omega
   exact absurd (by rw [e]; exact h0) (j0q (r:=v) oM)
 ·exact fun h1=>l9 h1
theorem g0p (v:List Rat)(hl:v.length<1000000000):l3 E 58 [pV v] (vZ (D3 v)):=by
 refine D2 (xs:=[vZ (D3 v)]) Tryz.func58 rfl Tryz.ntmps58 Tryz.results58 sM fun F hG hX0 hnt hdf P0=>?_
 obtain ⟨L,hX,hN⟩:=pro hnt hX0 hG
 have hle:=p0h v
 refine exr (aV L rfl (zn [(0,_)] [] t1 trivial (exr (aV L rfl (zn [(0,_),(3,_)] [] t2 trivial (R1 (V1 ?_)))))))
 refine exl (α:=Nat) (fun k=>[(3,vi (k:Int))]) (fun k=>[]) (fun k=>k≤D3 v) (fun k=>D3 v - k) (0) (sl:=[(0,_)]) (hb:=[]) ?_ ⟨oR,rfl,trivial⟩ t0 ?_
 ·exact Nat.zero_le _
 intro k hk
 refine R1 ?_
 refine exm (sl:=[(14,vb (decide (k<D3 v)))]) (sl0:=[(0,_),(3,_)]) (hb:=[]) (hb0:=[]) t2 t0 ?_ ?_
 ·by_cases h:k<v.length
  ·refine mV L rfl (mV L rfl (sw (U2 un40 L) t1 t0 (sw (W3 L) t2 t0 (mV L rfl (gV (g:=8) rfl (by simp [h]) L rfl rfl ?_)))))
   refine gV (g:=8) rfl (by simp [h]) L rfl rfl ?_
   refine swg (g:=8) rfl (by simp [h]) (y2 un40 sz47 oM oM sM dC L) rfl t2 t0 ?_
   refine swg (g:=8) rfl (by simp [h]) (V6 ag47 sz47 (W6 h) rfl L) rfl t1 t0 ?_
   refine swg (g:=8) rfl (by simp [h]) (c_c hG hX cl22 rfl hN (g1n (v.getD k 0)) L) rfl t1 t0 ?_
   refine sw (Y4 (by simp [h]) L) t2 t0 ?_
   exact O1 ⟨⟨ob rfl (by rw [decide_eq_decide.2 (q1f hk h)]),rfl,rfl,trivial⟩,trivial⟩
  ·refine mV L rfl (mV L rfl (sw (U2 un40 L) t1 t0 (sw (W3 L) t2 t0 (mV L rfl (swn (g:=8) rfl sO L rfl (swn (g:=8) rfl sO L rfl (swn (g:=8) rfl sO L rfl (swn (g:=8) rfl sO L rfl (swn (g:=8) rfl sO L rfl (sw (n4 sO L) t2 t0 ?_))))))))))
   exact O1 ⟨⟨ob rfl sO,rfl,rfl,trivial⟩,trivial⟩
 refine i2 rfl (fun hc=>?_) (fun hc=>?_)
 ·have hc:=dt hc
  refine U1 (xq ?_)
  refine V1 (s3 (mV L rfl (sw (F3 L (w64 oM oM)) t2 t0 (aV L rfl (O1 ?_)))))
  exact ⟨k+1,oM,by omega,j3 ⟨oR,rfl,trivial⟩ trivial⟩
 ·have hc:=df hc
  refine I2 (xq ?_)
  refine exr (mV L rfl (aV L rfl (zn [(2,_)] [] t1 trivial (X1 ?_))))
  refine Q0 (.tmp rfl) ?_
  rw [show k=D3 v by omega]
@[reducible] def pMr (m:List (List Rat)):K2:=.sl m.length (P5 m)
def y0w (row:List Rat)(p:Nat)(s:List (List Rat)×Bool)(q:List Rat):List (List Rat)×Bool :=
 if (!s.2 && decide (p<D3 q))=true then (s.1++[row]++[q6 q row (q.getD p 0)],true) else (s.1++[q6 q row (q.getD p 0)],s.2)
def v1h (row:List Rat)(s:List (List Rat)×Bool):List (List Rat):=if s.2=true then s.1 else s.1++[row]
theorem M0a {row:List Rat}{p:Nat}:∀ (l:List (List Rat)) (o:List (List Rat)),l.foldl (y0w row p) (o,true)=(o++l.map fun z=>q6 z row (z.getD p 0),true)
 | [],o=>by simp
 | q :: l,o=>by
  rw [List.foldl_cons,y0w,if_neg sM,M0a l]; simp
theorem G0h {row:List Rat}{p:Nat}:∀ (l:List (List Rat)) (o:List (List Rat)),v1h row (l.foldl (y0w row p) (o,false))=o++k0v row p l
 | [],o=>by simp [v1h,k0v]
 | q :: l,o=>by
  rw [List.foldl_cons,y0w,k0v]
  by_cases h:p<D3 q
  ·rw [if_pos (by simp [h]),if_pos h,M0a,v1h]; simp
  ·rw [if_neg (by simp [h]),if_neg h]; simp only; rw [G0h l]; simp
theorem n0k {α β:Type}{f:β→α→β}{b:β}{l:List α}{d:α}{k:Nat}(h:k<l.length):(l.take (k+1)).foldl f b=f ((l.take k).foldl f b) (l.getD k d):=by
 rw [I1,List.foldl_append]; simp [f0,h]
theorem Q0v {row:List Rat}{p:Nat}:∀ (l:List (List Rat)) (s:List (List Rat)×Bool),(l.foldl (y0w row p) s).1.length≤s.1.length+2*l.length
 | [],s=>by simp
 | q :: l,s=>by
  have:=Q0v (row:=row) (p:=p) l (y0w row p s q)
  rw [List.foldl_cons,D1]
  have h:(y0w row p s q).1.length≤s.1.length+2:=by
   unfold y0w; split <;> simp
  omega
theorem v0s {rows:List (List Rat)}{row:List Rat}{k:Nat}(h:k<rows.length):W7 (rows.take (k+1)) row=q6 (W7 (rows.take k) row) (rows.getD k []) ((W7 (rows.take k) row).getD (D3 (rows.getD k [])) 0):=by
 rw [W7,n0k (d:=[]) h]; rfl
theorem W0g {c:Nat}:∀ {rows:List (List Rat)} {row:List Rat},(∀ q∈rows,q.length=c)→row.length=c→(W7 rows row).length=c
 | [],_,_,h=>h
 | q :: l,row,hr,h=>by
  rw [W7,List.foldl_cons]
  have h2:(q6 row q (row.getD (D3 q) 0)).length=c:=by rw [n6 (by rw [hr q sM,h])]; exact h
  exact W0g (rows:=l) (fun q hq=>hr q (by simp [hq])) h2
theorem K0z {c:Nat}{rows:List (List Rat)}{row:List Rat}(h:∀ q∈rows,q.length=c)(hr:row.length=c)(k:Nat):(W7 (rows.take k) row).length=c:=W0g (fun q hq=>h q (List.mem_of_mem_take hq)) hr
@[reducible] def n1h (m:List (List Rat)):Blk:=⟨40,1,.pure (P5 m)⟩
theorem N0g (c B C:Nat)(rows:List (List Rat))(row:List Rat)(hl:rows.length<100000000)(hc:c<1000000000)(hq:∀ q∈rows,q.length=c)(hq2:∀ q∈rows,D3 q<c)(hr:row.length=c)(hB:MB B rows)(hC:∀ k,k≤rows.length→∀ a∈W7 (rows.take k) row,qw a≤C)(hb:B<200000000∧C<200000000):l3 E 57 [pMr rows,pV row] (pMr (k0y rows row)):=by
 refine D2 (xs:=[pMr (k0y rows row)]) Tryz.func57 rfl Tryz.ntmps57 Tryz.results57 sM fun F hG hX0 hnt hdf P0=>?_
 obtain ⟨L,hX,hN⟩:=pro hnt hX0 hG
 obtain ⟨hb1,hb2⟩:=hb
 have hlen:=K0z hq hr
 refine exr (aV L rfl (zn [(0,_),(1,_)] [] t2 trivial (R1 (exr (aV L rfl (zn [(0,_),(1,_),(5,_)] [] t3 trivial (V1 ?_)))))))
 refine exl (α:=Nat) (fun k=>[(5,vi (k:Int)),(1,.p (pV (W7 (rows.take k) row)))]) (fun k=>[]) (fun k=>k≤rows.length) (fun k=>rows.length - k) (0) (sl:=[(0,_)]) (hb:=[]) ?_ ⟨oR,oR,rfl,trivial⟩ t0 ?_
 ·exact Nat.zero_le _
 intro k hk
 have hlk:=hlen k
 refine R1 (exr (mV L rfl (mV L rfl (sw (U2 un22 L) t1 t0 (sw (W3 L) t2 t0 (zn [(0,_),(1,_),(5,_),(14,_)] [] t4 trivial ?_))))))
 refine i2 rfl (fun hc=>?_) (fun hc=>?_)
 ·have hc:=dt hc
  have hk2:k<rows.length:=by omega
  have hqk:=hq _ (gDL hk2)
  have hqk2:=hq2 _ (gDL hk2)
  have hq3:D3 (rows.getD k [])<(W7 (rows.take k) row).length:=by omega
  refine U1 (xq ?_)
  refine R1 (V1 (exr (mV L rfl (mV L rfl (sw (ixJ un22 sz40 (j:=k) rO oM sM L) t2 t0 ?_)))))
  refine sw (d4 ag40 (v7 hk2) L) t1 t0 (cK hG hX cl58 hN (g0p (rows.getD k []) oM) L t1 (aV L rfl (zn [(0,_),(1,_),(5,_),(6,_)] [] t4 trivial (d0g rF ?_))))
  refine mV L rfl (mV L rfl (mV L rfl (sw (ixJ un22 sz40 (j:=k) rO oM sM L) t2 t0 ?_)))
  refine sw (d4 ag40 (v7 hk2) L) t1 t0 (mV L rfl (mV L rfl (sw (y2 un40 sz47 oM oM sM dC L) t2 t0 ?_)))
  refine sw (V6 ag47 sz47 (W6 hq3) rfl L) t1 t0 (cK hG hX cl103 hN (m0x (W7 (rows.take k) row) (rows.getD k []) ((W7 (rows.take k) row).getD (D3 (rows.getD k [])) 0) C B C oM oM (hC k hk) (hB _ (gDL hk2)) (hC k hk _ (Y3 hq3)) ⟨by omega,by omega,by omega⟩) L t3 ?_)
  refine aV L rfl ?_
  refine O1 ⟨Z4 [⟨[1],[],[22],[]⟩,⟨[0],[],[23],[]⟩,⟨[5],[],[24],[]⟩,⟨[23,24],[],[25],[]⟩,⟨[25],[],[26],[]⟩,⟨[1],[],[27],[]⟩,⟨[6],[],[28],[]⟩,⟨[27,28],[],[29],[]⟩,⟨[29],[],[30],[]⟩,⟨[22,26,30],[],[31],[]⟩,⟨[31],[],[1],[]⟩] rF rF dC,?_⟩
  refine s3 (mV L rfl (sw (F3 L (w64 oM oM)) t2 t0 (aV L rfl (O1 ?_))))
  exact ⟨k+1,oM,by omega,j3 ⟨oR,ov rfl (by rw [v0s hk2]),rfl,trivial⟩ trivial⟩
 ·have hc:=df hc
  have hkM:k=rows.length:=by omega
  subst hkM
  rw [I0] at hlk ⊢
  have hCC:=hC rows.length (Nat.le_refl _)
  rw [I0] at hCC
  obtain ⟨r1,hr1⟩:∃ r1,r1=W7 rows row:=⟨_,rfl⟩
  rw [← hr1] at hlk hCC ⊢
  have hle:=p0h r1
  refine I2 (xq ?_)
  refine exr (mV L rfl (cK hG hX cl58 hN (g0p r1 oM) L t1 (aV L rfl (zn [(0,_),(1,_),(7,_)] [] t3 trivial (R1 (exr (mV L rfl (mV L rfl (sw (U2 un40 L) t1 t0 (sw (c_e L) t2 t0 (zn [(0,_),(1,_),(7,_),(37,_)] [] t4 trivial ?_)))))))))))
  refine i2 rfl (fun he=>?_) (fun he=>?_)
  ·have he:=dt he
   refine exr (mV L rfl (aV L rfl (zn [(4,_)] [] t1 trivial (X1 ?_))))
   refine Q0 (.tmp rfl) ?_
   rw [k0y,← hr1,if_pos oM]
  ·have he:=df he
   have hp:D3 r1<r1.length:=by omega
   have hne:=j0q hp
   refine U1 (xq ?_)
   refine exr (mV L rfl (mV L rfl (mV L rfl (sw (y2 un40 sz47 oM oM sM dC L) t2 t0 ?_))))
   refine sw (V6 ag47 sz47 (W6 hp) rfl L) t1 t0 (cK hG hX cl104 hN (P0q r1 (r1.getD (D3 r1) 0) C oM hCC (hCC _ (Y3 hp)) oM hne) L t2 (aV L rfl (zn [(0,_),(1,_),(7,_)] [] t3 trivial ?_)))
   obtain ⟨w,hw⟩:∃ w,w=r1.map (· / r1.getD (D3 r1) 0):=⟨_,rfl⟩
   obtain ⟨p,hp0⟩:∃ p,p=D3 r1:=⟨_,rfl⟩
   have hwl:w.length=c:=by rw [hw,O0]; exact hlk
   have hwB:∀ a∈w,qw a≤2*C:=by
    intro a ha
    rw [hw] at ha
    obtain ⟨z,hz,rfl⟩:=G0.1 ha
    have h1:=w1k (a:=z) hne
    have h2:=hCC _ hz
    have h3:=hCC _ (Y3 hp)
    omega
   have hfin:k0y rows row=k0v w p rows:=by rw [k0y,← hr1,if_neg oM,← hw,← hp0]
   rw [← hw,← hp0]
   refine exr (mV L rfl (sw (U2 un22 L) t1 t0 (sw (F3 L (w64 oM oM)) t2 t0 (swb (m0r (k:=48) un22 ti40 rfl rfl rfl rfl (show (0:Int)=((0:Nat):Int) from rfl) (show (rows.length:Int)+1=((rows.length+1:Nat):Int) from rfl) (Nat.zero_le _) (by simp [Tryz.t40]; omega) oM (P0 _ rfl) L) t2 t0 ⟨rfl,rfl⟩ ?_))))
   refine aV L rfl ?_
   refine O1 ⟨[(0,_),(1,_),(7,_),(8,.ref 48 0 0 0)],[(48,n1h [])],t4,t1,?_⟩
   refine exr (aV L rfl (zn [(0,_),(1,_),(7,_),(8,_),(9,_)] [(48,_)] t5 t1 (R1 (exr (aV L rfl (zn [(0,_),(1,_),(7,_),(8,_),(9,_),(10,_)] [(48,_)] t6 t1 (V1 ?_)))))))
   refine exl (α:=(Nat×List (List Rat)×Bool)) (fun x=>[(10,vi (x.1:Int)),(8,.ref 48 0 x.2.1.length x.2.1.length),(9,vb x.2.2)]) (fun x=>[(48,n1h x.2.1)]) (fun x=>x.1≤rows.length∧(rows.take x.1).foldl (y0w w p) ([],false)=x.2) (fun x=>rows.length - x.1) ((0,[],false)) (sl:=[(0,_),(1,_),(7,_)]) (hb:=[]) ?_ ⟨oR,oR,oR,rfl,rfl,rfl,trivial⟩ t1 ?_
   ·exact ⟨Nat.zero_le _,rfl⟩
   intro x hx
   obtain ⟨k,T,b⟩:=x
   obtain ⟨hk,hT⟩:=hx
   simp only at hk hT
   have hTl:T.length≤2*rows.length:=by
    have:=Q0v (row:=w) (p:=p) (rows.take k) ([],false)
    rw [hT,J0] at this
    simp only [List.length_nil] at this; omega
   dsimp only
   refine R1 (exr (mV L rfl (mV L rfl (sw (U2 un22 L) t1 t0 (sw (W3 L) t2 t0 (zn [(0,_),(1,_),(7,_),(8,_),(9,_),(10,_),(52,_)] [(48,_)] t7 t1 ?_))))))
   refine i2 rfl (fun hc2=>?_) (fun hc2=>?_)
   ·have hc2:=dt hc2
    have hk2:k<rows.length:=by omega
    have hqk:=hq _ (gDL hk2)
    have hpk:p<(rows.getD k []).length:=by omega
    have hst:=n0k (f:=y0w w p) (b:=([],false)) (d:=[]) hk2
    rw [hT] at hst
    refine U1 (xq ?_)
    refine R1 (V1 (R1 ?_))
    refine exm (sl:=[(65,vb (!b && decide (p<D3 (rows.getD k []))))]) (sl0:=[(0,_),(1,_),(7,_),(8,_),(9,_),(10,_)]) (hb:=[]) (hb0:=[(48,_)]) t6 t1 ?_ ?_
    ·by_cases h:b=true
     ·refine mV L rfl (sw (v4 L) t1 t0 (mV L rfl (swn (g:=57) rfl (by rw [h] <;> rfl) L rfl ?_)))
      refine swn (g:=57) rfl (by rw [h] <;> rfl) L rfl ?_
      refine swn (g:=57) rfl (by rw [h] <;> rfl) L rfl ?_
      refine swn (g:=57) rfl (by rw [h] <;> rfl) L rfl ?_
      refine swn (g:=57) rfl (by rw [h] <;> rfl) L rfl ?_
      refine swn (g:=57) rfl (by rw [h] <;> rfl) L rfl ?_
      refine swn (g:=57) rfl (by rw [h] <;> rfl) L rfl ?_
      refine sw (n4 (by rw [h] <;> rfl) L) t2 t0 ?_
      exact O1 ⟨⟨ob rfl (by rw [h] <;> rfl),rfl,rfl,rfl,rfl,rfl,rfl,trivial⟩,t1⟩
     ·refine mV L rfl (sw (v4 L) t1 t0 (mV L rfl (gV (g:=57) rfl (by simp [h]) L rfl rfl ?_)))
      refine gV (g:=57) rfl (by simp [h]) L rfl rfl ?_
      refine swg (g:=57) rfl (by simp [h]) (ixJ un22 sz40 (j:=k) rO oM sM L) rfl t2 t0 ?_
      refine swg (g:=57) rfl (by simp [h]) (d4 ag40 (v7 hk2) L) rfl t1 t0 ?_
      refine swg (g:=57) rfl (by simp [h]) (c_c hG hX cl58 rfl hN (g0p (rows.getD k []) oM) L) rfl t1 t0 ?_
      refine gV (g:=57) rfl (by simp [h]) L rfl rfl ?_
      refine swg (g:=57) rfl (by simp [h]) (P6 L) rfl t2 t0 ?_
      refine sw (Y4 (by simp [h]) L) t2 t0 ?_
      exact O1 ⟨⟨ob rfl (by simp [h]),rfl,rfl,rfl,rfl,rfl,rfl,trivial⟩,t1⟩
    refine i2 rfl (fun hz=>?_) (fun hz=>?_)
    ·rw [y0w,if_pos hz] at hst
     refine exr (mV L rfl (mV L rfl (sw (B4 (vs:=[_]) un22 ti40 rfl rfl dC dC rfl (M2 (.cons rfl .nil) rfl) rfl (.cons rfl .sl rfl pu1 .nil) (.cons .nil) L) t1 t0 (swb (apP (sz:=1) un22 un22 ti40 rfl rfl rfl dC (by exact (X5 _)) oF sM rfl rfl rfl (by first | (simp [Tryz.t40]; done) | (simp [Tryz.t40]; omega)) oM (P0 _ rfl) L) t2 t1 t0 ?_))))
     refine aV L rfl (zn [(0,_),(1,_),(7,_),(8,_),(10,_)] [(48,_)] t5 t1 (s3 (aV L rfl (O1 (d0g rF ?_)))))
     refine mV L rfl (mV L rfl (mV L rfl (sw (ixJ un22 sz40 (j:=k) rO oM sM L) t2 t0 ?_)))
     refine sw (d4 ag40 (v7 hk2) L) t1 t0 (mV L rfl (mV L rfl (mV L rfl (sw (ixJ un22 sz40 (j:=k) rO oM sM L) t2 t0 ?_))))
     refine sw (d4 ag40 (v7 hk2) L) t1 t0 (mV L rfl (sw (y2 un40 sz47 oM oM sM dC L) t2 t0 ?_))
     refine sw (V6 ag47 sz47 (W6 hpk) rfl L) t1 t0 (cK hG hX cl103 hN (m0x (rows.getD k []) w ((rows.getD k []).getD p 0) B (2*C) B oM oM (hB _ (gDL hk2)) hwB (hB _ (gDL hk2) _ (Y3 hpk)) ⟨by omega,by omega,by omega⟩) L t3 ?_)
     refine sw (B4 (vs:=[_]) un22 ti40 rfl rfl dC dC rfl (M2 (.cons rfl .nil) rfl) rfl (.cons rfl .sl rfl pu1 .nil) (.cons .nil) L) t1 t0 (swb (apP (sz:=1) un22 un22 ti40 rfl rfl rfl dC (by exact sM) oF sM rfl rfl rfl (by first | (simp [Tryz.t40]; done) | (simp [Tryz.t40]; omega)) oM (P0 _ rfl) L) t2 t1 t0 ?_)
     refine aV L rfl ?_
     refine O1 ⟨Z4 [⟨[8],[],[70],[]⟩,⟨[0],[],[71],[]⟩,⟨[10],[],[72],[]⟩,⟨[71,72],[],[73],[]⟩,⟨[73],[],[74],[]⟩,⟨[1],[],[75],[]⟩,⟨[0],[],[76],[]⟩,⟨[10],[],[77],[]⟩,⟨[76,77],[],[78],[]⟩,⟨[78],[],[79],[]⟩,⟨[7],[],[80],[]⟩,⟨[79,80],[],[81],[]⟩,⟨[81],[],[82],[]⟩,⟨[74,75,82],[],[83],[]⟩,⟨[83],[],[84],[]⟩,⟨[70,84],[48],[85],[48]⟩,⟨[85],[],[8],[]⟩] rF rF dC,?_⟩
     refine s3 (mV L rfl (sw (F3 L (w64 oM oM)) t2 t0 (aV L rfl (O1 ?_))))
     exact ⟨(k+1,T++[w]++[q6 (rows.getD k []) w ((rows.getD k []).getD p 0)],true),⟨by simp only; omega,hst⟩,(by simp only; omega),j3 ⟨oR,ov rfl sM,oR,rfl,rfl,rfl,trivial⟩ ⟨obl rfl (by simp only [n1h,h0r]; rfl),trivial⟩⟩
    ·rw [y0w,if_neg (by rw [hz]; decide)] at hst
     refine U1 (xq ?_)
     refine d0g rF ?_
     refine mV L rfl (mV L rfl (mV L rfl (sw (ixJ un22 sz40 (j:=k) rO oM sM L) t2 t0 ?_)))
     refine sw (d4 ag40 (v7 hk2) L) t1 t0 (mV L rfl (mV L rfl (mV L rfl (sw (ixJ un22 sz40 (j:=k) rO oM sM L) t2 t0 ?_))))
     refine sw (d4 ag40 (v7 hk2) L) t1 t0 (mV L rfl (sw (y2 un40 sz47 oM oM sM dC L) t2 t0 ?_))
     refine sw (V6 ag47 sz47 (W6 hpk) rfl L) t1 t0 (cK hG hX cl103 hN (m0x (rows.getD k []) w ((rows.getD k []).getD p 0) B (2*C) B oM oM (hB _ (gDL hk2)) hwB (hB _ (gDL hk2) _ (Y3 hpk)) ⟨by omega,by omega,by omega⟩) L t3 ?_)
     refine sw (B4 (vs:=[_]) un22 ti40 rfl rfl dC dC rfl (M2 (.cons rfl .nil) rfl) rfl (.cons rfl .sl rfl pu1 .nil) (.cons .nil) L) t1 t0 (swb (apP (sz:=1) un22 un22 ti40 rfl rfl rfl dC (by exact (X5 _)) oF sM rfl rfl rfl (by first | (simp [Tryz.t40]; done) | (simp [Tryz.t40]; omega)) oM (P0 _ rfl) L) t2 t1 t0 ?_)
     refine aV L rfl ?_
     refine O1 ⟨Z4 [⟨[8],[],[70],[]⟩,⟨[0],[],[71],[]⟩,⟨[10],[],[72],[]⟩,⟨[71,72],[],[73],[]⟩,⟨[73],[],[74],[]⟩,⟨[1],[],[75],[]⟩,⟨[0],[],[76],[]⟩,⟨[10],[],[77],[]⟩,⟨[76,77],[],[78],[]⟩,⟨[78],[],[79],[]⟩,⟨[7],[],[80],[]⟩,⟨[79,80],[],[81],[]⟩,⟨[81],[],[82],[]⟩,⟨[74,75,82],[],[83],[]⟩,⟨[83],[],[84],[]⟩,⟨[70,84],[48],[85],[48]⟩,⟨[85],[],[8],[]⟩] rF rF dC,?_⟩
     refine s3 (mV L rfl (sw (F3 L (w64 oM oM)) t2 t0 (aV L rfl (O1 ?_))))
     exact ⟨(k+1,T++[q6 (rows.getD k []) w ((rows.getD k []).getD p 0)],b),⟨by simp only; omega,hst⟩,(by simp only; omega),j3 ⟨oR,ov rfl sM,oR,rfl,rfl,rfl,trivial⟩ ⟨obl rfl (by simp only [n1h,h0r]; rfl),trivial⟩⟩
   ·have hc2:=df hc2
    have hkM:k=rows.length:=by omega
    subst hkM
    have hfin2:=G0h (row:=w) (p:=p) rows []
    rw [I0] at hT
    rw [hT,List.nil_append,← hfin] at hfin2
    refine I2 (xq ?_)
    refine R1 (exr (mV L rfl (sw (v4 L) t1 t0 (zn [(1,_),(8,_),(87,_)] [(48,_)] t3 t1 ?_))))
    refine i2 rfl (fun hn=>?_) (fun hn=>?_)
    ·have hn:b=false:=by simpa using hn
     subst hn
     refine s3 (mV L rfl (mV L rfl (sw (B4 (vs:=[_]) un22 ti40 rfl rfl dC dC rfl (M2 (.cons rfl .nil) rfl) rfl (.cons rfl .sl rfl pu1 .nil) (.cons .nil) L) t1 t0 (swb (apP (sz:=1) un22 un22 ti40 rfl rfl rfl dC (by exact (X5 _)) oF sM rfl rfl rfl (by first | (simp [Tryz.t40]; done) | (simp [Tryz.t40]; omega)) oM (P0 _ rfl) L) t2 t1 t0 ?_))))
     refine aV L rfl (O1 (O4 [48] (sl:=[(8,_)]) (hb:=[]) (L3 hX0) ⟨⟨_,rfl,(.ref rfl rfl (by exact sM) (by first | rfl | omega))⟩,trivial⟩ t0 ?_))
     refine exr (mV L rfl (aV L rfl (zn [(4,_)] [] t1 trivial (X1 ?_))))
     refine Q0 (.tmp rfl) ?_
     rw [← hfin2,v1h,if_neg Bool.false_ne_true]; simp [P5]
    ·have hn:b=true:=by simpa using hn
     subst hn
     refine U1 (xq ?_)
     refine O4 [48] (sl:=[(8,_)]) (hb:=[]) (L3 hX0) ⟨⟨_,rfl,(.ref rfl rfl (by exact (X5 _)) (by first | rfl | omega))⟩,trivial⟩ t0 ?_
     refine exr (mV L rfl (aV L rfl (zn [(4,_)] [] t1 trivial (X1 ?_))))
     refine Q0 (.tmp rfl) ?_
     rw [← hfin2,v1h,if_pos rfl]
theorem Y0k {row:List Rat}{p:Nat}:∀ l:List (List Rat),(k0v row p l).length=l.length+1
 | []=>rfl
 | q :: l=>by
  simp only [k0v]; split
  ·simp
  ·rw [D1,Y0k l,D1]
theorem v1s (rows:List (List Rat))(row:List Rat):(k0y rows row).length≤rows.length+1:=by
 unfold k0y; split
 ·omega
 ·rw [Y0k]; omega
theorem V0m:∀ (m rows:List (List Rat)),(m.foldl k0y rows).length≤rows.length+m.length
 | [],rows=>by simp
 | r :: m,rows=>by
  rw [List.foldl_cons,D1]
  have h1:=v1s rows r
  have h2:=V0m m (k0y rows r)
  omega
theorem f0x (m:List (List Rat)):(i5 m).length≤m.length:=by
 have:=V0m m []
 simpa [i5] using this
theorem Q0r {M:List (List Rat)}{k:Nat}(h:k<M.length):i5 (M.take (k+1))=k0y (i5 (M.take k)) (M.getD k []):=by
 rw [i5,n0k (d:=[]) h]; rfl
structure RE (c B C:Nat) (M:List (List Rat)):Prop where
 len:∀ r∈M,r.length=c
 rl:M.length<1000000
 cl:c<1000000
 bd:∀ i,i≤M.length→MB B (i5 (M.take i))
 rd:∀ i,i<M.length→∀ k,∀ a∈W7 ((i5 (M.take i)).take k) (M.getD i []),qw a≤C
 hb:B<200000000∧C<200000000
theorem RE.rows {c B C:Nat}{M:List (List Rat)}(h:RE c B C M)(k:Nat):(∀ q∈i5 (M.take k),q.length=c)∧∀ q∈i5 (M.take k),D3 q<c:=by
 have h1:=(h0h (c:=c) (m:=M.take k) fun r hr=>h.len r (List.mem_of_mem_take hr)).1
 exact ⟨fun q hq=>h1.len (D3 q,q) (s7.2 ⟨hq,rfl⟩),fun q hq=>h1.lt (D3 q,q) (s7.2 ⟨hq,rfl⟩)⟩
@[reducible] def g1y (l:List Nat):Blk:=⟨3,1,.pure (L6 l)⟩
theorem b2f (l:List Nat)(n:Nat):(⟨3,1,.pure (L6 l++[vZ n])⟩:Blk)=g1y (l++[n]):=by simp [g1y,L6]
theorem p1y {m:List (List Rat)}{k:Nat}(h:k<m.length):(m.map D3).take (k+1)=(m.map D3).take k++[D3 (m.getD k [])]:=by
 rw [I1]; simp [f0,h]
theorem m0c (c B C:Nat)(M:List (List Rat))(h:RE c B C M):l3 E 16 [pMq c M] (.tup [pMq c (i5 M),pIs ((i5 M).map D3)]):=by
 refine D2 (xs:=[pMq c (i5 M),pIs ((i5 M).map D3)]) Tryz.func16 rfl Tryz.ntmps16 Tryz.results16 sM fun F hG hX0 hnt hdf P0=>?_
 obtain ⟨L,hX,hN⟩:=pro hnt hX0 hG
 have hrl:=h.rl
 have hcl:=h.cl
 have hb:=h.hb
 refine exr (swb (U3 (k:=1) (n:=2) pa2 rfl rfl (P0 _ rfl) L) t1 t0 ⟨rfl,rfl⟩ (swb (O3 (k:=2) (n:=2) zv24 (.cons rfl (.cons rfl .nil)) rfl (P0 _ rfl) L) t0 t0 ⟨rfl,rfl⟩ (aV L rfl (zn [(1,_),(2,_)] [(1,_),(2,_)] t2 t2 (exr (sw (Z1 un24 rfl sz3 dC rX L) t1 t1 ?_))))))
 refine sw (Y1 ag3 rF rF L) t1 t1 ?_
 refine sw (D9 (E7 (vs:=[_]) un24 zv24 (.cons rfl (.cons rfl .nil)) ((J2.cons sz3 (J2.cons sz22 J2.nil))).to rfl (.cons rfl (.atom rfl) rfl pu1 .nil) (.cons (.cons .nil)) L) (.agg (.cons .same (.cons .nil .nil)))) t1 t0 (swb (O3 (k:=4) (n:=2) zv24 (.cons rfl (.cons rfl .nil)) rfl (P0 _ rfl) L) t0 t0 ⟨rfl,rfl⟩ (sb (Y2 sz24 rF pa2 rfl pu2) t2 t1 ?_))
 refine zn [(1,_),(2,_),(4,_)] [(1,_),(2,_),(4,_)] t3 t3 (R1 (exr (aV L rfl (zn [(1,_),(2,_),(4,_),(5,_)] [(1,_),(2,_),(4,_)] t4 t3 (V1 ?_)))))
 refine exl (α:=Nat) (fun k=>[(5,vi (k:Int))]) (fun k=>[(4,⟨24,2,.mix [.p (vZ c),.p (pMr (i5 (M.take k)))]⟩)]) (fun k=>k≤M.length) (fun k=>M.length - k) (0) (sl:=[(1,_),(2,_),(4,_)]) (hb:=[(1,_),(2,_)]) ?_ ⟨oR,rfl,rfl,rfl,trivial⟩ t3 ?_
 ·exact Nat.zero_le _
 intro k hk
 have hle:=f0x (M.take k)
 rw [J0] at hle
 refine R1 (exr (mV L rfl (sw (Z1 un24 rfl sz22 dC rX L) t1 t1 ?_)))
 refine sw (Y1 ag22 rF rF L) t1 t1 ?_
 refine sw (U2 un22 L) t1 t0 (sw (W3 L) t2 t0 (zn [(1,_),(2,_),(4,_),(5,_),(15,_)] [(1,_),(2,_),(4,_)] t5 t3 ?_))
 refine i2 rfl (fun hc=>?_) (fun hc=>?_)
 ·have hc:=dt hc
  have hk2:k<M.length:=by omega
  have hr:=h.rows k
  refine U1 (xq ?_)
  refine R1 (V1 (d0g rF ?_))
  refine sw (Z1 un24 rfl sz22 dC rX L) t1 t1 ?_
  refine sw (Y1 ag22 rF rF L) t1 t1 ?_
  refine sw (Z1 un24 rfl sz22 dC rX L) t1 t1 ?_
  refine sw (Y1 ag22 rF rF L) t1 t1 ?_
  refine mV L rfl (sw (ixJ un22 sz40 (j:=k) rO oM sM L) t2 t0 ?_)
  refine sw (d4 ag40 (v7 hk2) L) t1 t0 (cK hG hX cl57 hN (N0g c B C (i5 (M.take k)) (M.getD k []) oM oM hr.1 hr.2 (h.len _ (gDL hk2)) (h.bd k hk) (fun j _=>h.rd k hk2 j) hb) L t2 ?_)
  refine sw (Z1 un24 rfl sz22 dC rX L) t1 t1 ?_
  refine sb (Y2 sz22 rF .sl rfl (.skip pu1)) t2 t1 ?_
  refine O1 ⟨Z4 [⟨[4],[4],[18],[]⟩,⟨[18],[4],[19],[]⟩,⟨[1],[1],[20],[]⟩,⟨[20],[1],[21],[]⟩,⟨[5],[],[22],[]⟩,⟨[21,22],[],[23],[]⟩,⟨[23],[],[24],[]⟩,⟨[19,24],[],[25],[]⟩,⟨[4],[4],[26],[]⟩,⟨[26,25],[4],[],[4]⟩] rF rF dC,?_⟩
  refine s3 (mV L rfl (sw (F3 L (w64 oM oM)) t2 t0 (aV L rfl (O1 ?_))))
  exact ⟨k+1,oM,by omega,j3 ⟨oR,rfl,rfl,rfl,trivial⟩ ⟨obl rfl (by rw [Q0r hk2]),rfl,rfl,trivial⟩⟩
 ·have hc:=df hc
  have hkM:k=M.length:=by omega
  subst hkM
  rw [I0]
  have hr:=h.rows M.length
  rw [I0] at hr hle
  obtain ⟨m,hm⟩:∃ m,m=i5 M:=⟨_,rfl⟩
  rw [← hm] at hr hle ⊢
  refine I2 (xq ?_)
  refine exr (sw (Z1 un24 rfl sz22 dC rX L) t1 t1 ?_)
  refine sw (Y1 ag22 rF rF L) t1 t1 ?_
  refine sw (U2 un22 L) t1 t0 (swb (m0r (k:=30) un27 ti3 rfl rfl rfl rfl (show (0:Int)=((0:Nat):Int) from rfl) rfl (Nat.zero_le _) (by simp [Tryz.t3]; omega) oM (P0 _ rfl) L) t2 t0 ⟨rfl,rfl⟩ ?_)
  refine aV L rfl ?_
  refine O1 ⟨[(2,_),(4,_),(6,.ref 30 0 0 0)],[(2,_),(4,_),(30,g1y [])],t3,t3,?_⟩
  refine R1 (exr (aV L rfl (zn [(2,_),(4,_),(6,_),(7,_)] [(2,_),(4,_),(30,_)] t4 t3 (V1 ?_))))
  refine exl (α:=Nat) (fun k=>[(7,vi (k:Int)),(6,.ref 30 0 k k)]) (fun k=>[(30,g1y ((m.map D3).take k))]) (fun k=>k≤m.length) (fun k=>m.length - k) (0) (sl:=[(2,_),(4,_)]) (hb:=[(2,_),(4,_)]) ?_ ⟨oR,oR,rfl,rfl,trivial⟩ t3 ?_
  ·exact Nat.zero_le _
  intro k hk
  refine R1 (exr (mV L rfl (sw (Z1 un24 rfl sz22 dC rX L) t1 t1 ?_)))
  refine sw (Y1 ag22 rF rF L) t1 t1 ?_
  refine sw (U2 un22 L) t1 t0 (sw (W3 L) t2 t0 (zn [(2,_),(4,_),(6,_),(7,_),(35,_)] [(2,_),(4,_),(30,_)] t5 t3 ?_))
  refine i2 rfl (fun hc=>?_) (fun hc=>?_)
  ·have hc:=dt hc
   have hk2:k<m.length:=by omega
   have hq1:=hr.1 _ (gDL hk2)
   refine U1 (xq ?_)
   refine R1 (V1 (s3 (mV L rfl (sw (Z1 un24 rfl sz22 dC rX L) t1 t1 ?_))))
   refine sw (Y1 ag22 rF rF L) t1 t1 ?_
   refine mV L rfl (sw (ixJ un22 sz40 (j:=k) rO oM sM L) t2 t0 ?_)
   refine sw (d4 ag40 (v7 hk2) L) t1 t0 (cK hG hX cl58 hN (g0p (m.getD k []) oM) L t1 (sw (B4 (vs:=[_]) un27 ti3 rfl rfl dC dC rfl (M2 (.cons rfl .nil) rfl) rfl (.cons rfl (.atom rfl) rfl pu1 .nil) (.cons .nil) L) t1 t0 (swb (apP (sz:=1) un27 un27 ti3 rfl rfl rfl dC (by exact (by first | (simp; done) | (simp; omega))) oF sM rfl rfl rfl (by first | (simp [Tryz.t3]; done) | (simp [Tryz.t3]; omega)) oM (P0 _ rfl) L) t2 t1 t0 ?_)))
   refine aV L rfl (O1 (s3 (mV L rfl (sw (F3 L (w64 oM oM)) t2 t0 (aV L rfl (O1 ?_))))))
   exact ⟨k+1,oM,by omega,j3 ⟨oR,oR,rfl,rfl,trivial⟩ ⟨obl rfl ((b2f _ _).trans (by rw [p1y hk2])),rfl,rfl,trivial⟩⟩
  ·have hc:=df hc
   have hkm:k=m.length:=by omega
   rw [C0 sO,hkm]
   refine I2 (xq ?_)
   refine O4 [30] (sl:=[(2,_),(4,_),(6,_)]) (hb:=[(2,_),(4,_)]) (L3 hX0) ⟨⟨_,rfl,.same⟩,⟨_,rfl,.same⟩,⟨_,rfl,(.ref rfl rfl (by exact (by first | (simp; done) | (simp; omega))) (by first | rfl | omega))⟩,trivial⟩ ⟨⟨rfl,_,rfl,.same⟩,⟨rfl,_,rfl,.same⟩,trivial⟩ ?_
   refine exr (lp2 ag24 sz24 L rfl rfl (mV L rfl (sb (Y2 sz24 rF pa2 rfl pu2) t2 t1 ?_)))
   refine aV L rfl (zn [(2,_),(3,_)] [(2,_)] t2 t1 (X1 ?_))
   refine Y0 (.agg rfl rfl rfl ag24 sz24 (.cons (.cons .nil))) (.tmp rfl) ?_
   simp
theorem H0s {l:List Nat}{n k:Nat}(h:k<l.length):(l.take (k+1)).contains n=((l.take k).contains n || decide (l.getD k 0=n)):=by
 rw [I1,show l[k]?.toList=[l.getD k 0] by simp [f0,h],Bool.eq_iff_iff]
 simp only [List.contains_iff_mem,List.mem_append,List.mem_singleton,Bool.or_eq_true,decide_eq_true_eq]
 exact or_congr Iff.rfl eq_comm
theorem H0z {l:List Nat}{k:Nat}(h:k<l.length):(L6 l)[k]? = some (vZ (l.getD k 0)):=by simp [L6,f0,h]
theorem m1y (l:List Nat)(n:Nat)(hl:l.length<1000000000):l3 E 59 [pIs l,vZ n] (bZ (l.contains n)):=by
 refine D2 (xs:=[bZ (l.contains n)]) Tryz.func59 rfl Tryz.ntmps59 Tryz.results59 sM fun F hG hX0 hnt hdf P0=>?_
 obtain ⟨L,hX,hN⟩:=pro hnt hX0 hG
 refine exr (aV L rfl (zn [(0,_),(1,_)] [] t2 trivial (R1 (exr (aV L rfl (zn [(0,_),(1,_),(5,_)] [] t3 trivial (V1 ?_)))))))
 refine exl (α:=Nat) (fun k=>[(5,vi (k:Int))]) (fun k=>[]) (fun k=>k≤l.length∧(l.take k).contains n=false) (fun k=>l.length - k) (0) (sl:=[(0,_),(1,_)]) (hb:=[]) ?_ ⟨oR,rfl,rfl,trivial⟩ t0 ?_
 ·exact ⟨Nat.zero_le _,by simp⟩
 intro k hk
 obtain ⟨hk,hw⟩:=hk
 refine R1 (exr (mV L rfl (mV L rfl (sw (U2 un27 L) t1 t0 (sw (W3 L) t2 t0 (zn [(0,_),(1,_),(5,_),(9,_)] [] t4 trivial ?_))))))
 refine i2 rfl (fun hc=>?_) (fun hc=>?_)
 ·have hc:=dt hc
  have hk2:k<l.length:=by omega
  have hst:=H0s (n:=n) hk2
  rw [hw,Bool.false_or] at hst
  refine U1 (xq ?_)
  refine R1 (V1 (exr (mV L rfl (mV L rfl (sw (ixJ un27 sz3 (j:=k) rO oM sM L) t2 t0 ?_)))))
  refine sw (d4 ag3 (H0z hk2) L) t1 t0 (mV L rfl (sw (c_e L) t2 t0 (zn [(0,_),(1,_),(5,_),(17,_)] [] t4 trivial ?_)))
  refine i2 rfl (fun he=>?_) (fun he=>?_)
  ·have he:=dt he
   have he2:l.getD k 0=n:=by omega
   refine exr (aV L rfl (zn [(4,_)] [] t1 trivial (X1 ?_)))
   refine Q0 (.tmp rfl) ?_
   rw [List.contains_iff_mem.2 (by rw [← he2]; exact I6 hk2)]
  ·have he:=df he
   have he2:¬ l.getD k 0=n:=by omega
   rw [decide_eq_false he2] at hst
   refine U1 (xq ?_)
   refine s3 (mV L rfl (sw (F3 L (w64 oM oM)) t2 t0 (aV L rfl (O1 ?_))))
   exact ⟨k+1,⟨by omega,hst⟩,by omega,j3 ⟨oR,rfl,rfl,trivial⟩ trivial⟩
 ·have hc:=df hc
  rw [C0 oM] at hw
  refine I2 (xq ?_)
  refine exr (aV L rfl (zn [(4,_)] [] t1 trivial (X1 ?_)))
  refine Q0 (.tmp rfl) ?_
  rw [hw]
theorem b1r (f:Nat)(pv:List Nat):Y6 (f+1) pv=Y6 f pv++(if pv.contains f=true then [] else [f]):=by
 rw [Y6,List.range_succ,List.filter_append]
 congr 1
 by_cases h:pv.contains f=true
 ·rw [if_pos h,List.filter_cons_of_neg (by simpa using h)]; rfl
 ·rw [if_neg h,List.filter_cons_of_pos (by simpa using h)]; rfl
theorem B1p (f:Nat)(pv:List Nat):(Y6 f pv).length≤f:=by
 have:=List.length_filter_le (fun x=>!pv.contains x) (List.range f)
 simpa [Y6] using this
theorem Q0b (c B C:Nat)(M:List (List Rat))(h:RE c B C M):l3 E 20 [pMq c M] (pMr (w0b c ((i5 M).map D3) (i5 M))):=by
 refine D2 (xs:=[pMr (w0b c ((i5 M).map D3) (i5 M))]) Tryz.func20 rfl Tryz.ntmps20 Tryz.results20 sM fun F hG hX0 hnt hdf P0=>?_
 obtain ⟨L,hX,hN⟩:=pro hnt hX0 hG
 have hrl:=h.rl
 have hcl:=h.cl
 have hb:=h.hb
 have hr:=h.rows M.length
 have hBm:=h.bd M.length (Nat.le_refl _)
 have hle:=f0x M
 refine exr (swb (U3 (k:=1) (n:=2) pa2 rfl rfl (P0 _ rfl) L) t1 t0 ⟨rfl,rfl⟩ (aV L rfl (zn [(1,_)] [(1,_)] t1 t1 (exr (lp2 ag24 sz24 L rfl rfl (cK hG hX cl16 hN (m0c c B C M h) L t1 (mV L rfl (sw (R3 rfl L) t1 t0 (sw (R3 rfl L) t1 t0 (swb (O3 (k:=3) (n:=2) zv24 (.cons rfl (.cons rfl .nil)) rfl (P0 _ rfl) L) t0 t0 ⟨rfl,rfl⟩ (sb (Y2 sz24 rF pa2 rfl pu2) t2 t1 ?_)))))))))))
 refine aV L rfl (zn [(1,_),(3,_),(4,_)] [(1,_),(3,_)] t3 t2 ?_)
 rw [I0] at hr hBm
 obtain ⟨m,hm⟩:∃ m,m=i5 M:=⟨_,rfl⟩
 rw [← hm] at hr hBm hle ⊢
 obtain ⟨pv,hpv⟩:∃ pv,pv=m.map D3:=⟨_,rfl⟩
 have hpl:pv.length=m.length:=by rw [hpv,O0]
 have hpc:∀ i,i<pv.length→pv.getD i 0<c:=fun i hi=>by
  have h1:=I6 hi
  obtain ⟨q,hq,e⟩:=G0.1 (by rw [← hpv]; exact h1)
  have:=hr.2 q hq
  omega
 rw [← hpv]
 refine exr (sw (Z1 un24 rfl sz3 dC rX L) t1 t1 ?_)
 refine sw (Y1 ag3 rF rF L) t1 t1 ?_
 refine swb (m0r (k:=17) un22 ti40 rfl rfl rfl rfl (show (0:Int)=((0:Nat):Int) from rfl) rfl (Nat.zero_le _) (by simp [Tryz.t40]; omega) oM (P0 _ rfl) L) t2 t0 ⟨rfl,rfl⟩ ?_
 refine aV L rfl ?_
 refine O1 ⟨[(1,_),(3,_),(4,_),(5,.ref 17 0 0 0)],[(1,_),(3,_),(17,n1h [])],t4,t3,?_⟩
 refine R1 (exr (aV L rfl (zn [(1,_),(3,_),(4,_),(5,_),(6,_)] [(1,_),(3,_),(17,_)] t5 t3 (V1 ?_))))
 refine exl (α:=(Nat×List (List Rat))) (fun x=>[(6,vi (x.1:Int)),(5,.ref 17 0 x.2.length x.2.length)]) (fun x=>[(17,n1h x.2)]) (fun x=>x.1≤c∧(Y6 x.1 pv).map (q8 c pv m)=x.2) (fun x=>c - x.1) ((0,[])) (sl:=[(1,_),(3,_),(4,_)]) (hb:=[(1,_),(3,_)]) ?_ ⟨oR,oR,rfl,rfl,rfl,trivial⟩ t3 ?_
 ·exact ⟨Nat.zero_le _,rfl⟩
 intro x hx
 obtain ⟨f,T⟩:=x
 obtain ⟨hf,hT⟩:=hx
 simp only at hf hT
 have hTl:T.length≤f:=by rw [← hT,O0]; exact B1p _ _
 dsimp only
 refine R1 (exr (mV L rfl (sw (Z1 un24 rfl sz3 dC rX L) t1 t1 ?_)))
 refine sw (Y1 ag3 rF rF L) t1 t1 ?_
 refine sw (W3 L) t2 t0 (zn [(1,_),(3,_),(4,_),(5,_),(6,_),(21,_)] [(1,_),(3,_),(17,_)] t6 t3 ?_)
 refine i2 rfl (fun hc=>?_) (fun hc=>?_)
 ·have hc:=dt hc
  have hfc:f<c:=by omega
  have hst:=b1r f pv
  refine U1 (xq ?_)
  refine R1 (V1 (R1 (exr (mV L rfl (mV L rfl (cK hG hX cl59 hN (m1y pv f oM) L t2 (zn [(1,_),(3,_),(4,_),(5,_),(6,_),(26,_)] [(1,_),(3,_),(17,_)] t6 t3 ?_)))))))
  refine i2 rfl (fun hh=>?_) (fun hh=>?_)
  ·rw [if_pos hh,List.append_nil] at hst
   refine I2 (xq ?_)
   refine s3 (mV L rfl (sw (F3 L (w64 oM oM)) t2 t0 (aV L rfl (O1 ?_))))
   exact ⟨(f+1,T),⟨by simp only; omega,by rw [hst]; exact hT⟩,(by simp only; omega),j3 ⟨oR,oR,rfl,rfl,rfl,trivial⟩ t3⟩
  ·rw [if_neg (by rw [hh]; decide)] at hst
   refine U1 (xq ?_)
   refine exr (sw (Z1 un24 rfl sz3 dC rX L) t1 t1 ?_)
   refine sw (Y1 ag3 rF rF L) t1 t1 ?_
   refine swb (D6 (sz:=4) (k:=29) un40 ti47 rfl rfl dC rfl rfl rfl (show (0:Int)=((0:Nat):Int) from rfl) rfl (Nat.zero_le _) (by simp [Tryz.t47]; omega) oM (P0 _ rfl) L) t2 t0 ⟨rfl,rfl⟩ ?_
   refine aV L rfl ?_
   refine O1 ⟨[(1,_),(3,_),(4,_),(5,_),(6,_),(7,.ref 29 0 0 0)],[(1,_),(3,_),(17,_),(29,i4 [])],t6,t4,?_⟩
   refine R1 (exr (aV L rfl (zn [(1,_),(3,_),(4,_),(5,_),(6,_),(7,_),(8,_)] [(1,_),(3,_),(17,_),(29,_)] t7 t4 (V1 ?_))))
   refine exl (α:=Nat) (fun j=>[(8,vi (j:Int)),(7,.ref 29 0 j (j*4))]) (fun j=>[(29,i4 (zq j))]) (fun j=>j≤c) (fun j=>c - j) (0) (sl:=[(1,_),(3,_),(4,_),(5,_),(6,_)]) (hb:=[(1,_),(3,_),(17,_)]) ?_ ⟨oR,oR,rfl,rfl,rfl,rfl,rfl,trivial⟩ t4 ?_
   ·exact Nat.zero_le _
   intro j hj
   refine R1 (exr (mV L rfl (sw (Z1 un24 rfl sz3 dC rX L) t1 t1 ?_)))
   refine sw (Y1 ag3 rF rF L) t1 t1 ?_
   refine sw (W3 L) t2 t0 (zn [(1,_),(3,_),(4,_),(5,_),(6,_),(7,_),(8,_),(33,_)] [(1,_),(3,_),(17,_),(29,_)] t8 t4 ?_)
   refine i2 rfl (fun he=>?_) (fun he=>?_)
   ·have he:=dt he
    refine U1 (xq ?_)
    refine R1 (V1 (s3 (mV L rfl (cK hG hX cl60 hN (G0p) L t0 (sw (B4 (vs:=[_]) un40 ti47 rfl rfl dC dC rfl (M2 (.cons rfl (.cons rfl (.cons rfl (.cons rfl .nil)))) rfl) rfl (.cons rfl pa4 rfl pu4 .nil) (.cons (.cons (.cons (.cons .nil)))) L) t1 t0 (swb (apP (sz:=4) un40 un40 ti47 rfl rfl rfl dC (by exact sM) oF sM rfl rfl rfl (by first | (simp [Tryz.t47]; done) | (simp [Tryz.t47]; omega)) oM (P0 _ rfl) L) t2 t1 t0 ?_))))))
    refine aV L rfl (O1 (s3 (mV L rfl (sw (F3 L (w64 oM oM)) t2 t0 (aV L rfl (O1 ?_))))))
    exact ⟨j+1,oM,by omega,j3 ⟨oR,ov rfl sO,rfl,rfl,rfl,rfl,rfl,trivial⟩ ⟨obl rfl ((g0r _ _).trans (by rw [j1m])),rfl,rfl,rfl,trivial⟩⟩
   ·have he:=df he
    have hjc:j=c:=by omega
    subst hjc
    refine I2 (xq ?_)
    refine exr (mV L rfl (mV L rfl (cK hG hX cl61 hN (f1p) L t0 (sw (m0k (sz:=4) un40 sz47 (by exact sM) (j:=f) rO oM L) t2 t1 ?_))))
    refine sb (y0z (n:=4) sz47 (by exact sM) rfl oM) t2 t1 ?_
    refine O1 ⟨[(1,_),(3,_),(4,_),(5,_),(6,_),(7,_)],[(1,_),(3,_),(17,_),(29,i4 ((zq j).set f 1))],t6,⟨rfl,rfl,rfl,obl rfl (h0x 1 sO),trivial⟩,?_⟩
    refine R1 (exr (aV L rfl (zn [(1,_),(3,_),(4,_),(5,_),(6,_),(7,_),(9,_)] [(1,_),(3,_),(17,_),(29,_)] t7 t4 (V1 ?_))))
    refine exl (α:=Nat) (fun i=>[(9,vi (i:Int))]) (fun i=>[(29,i4 (h0k pv (fun i=>-(ent m i f)) ((zq j).set f 1) i))]) (fun i=>i≤pv.length) (fun i=>pv.length - i) (0) (sl:=[(1,_),(3,_),(4,_),(5,_),(6,_),(7,_)]) (hb:=[(1,_),(3,_),(17,_)]) ?_ ⟨oR,rfl,rfl,rfl,rfl,rfl,rfl,trivial⟩ t4 ?_
    ·exact Nat.zero_le _
    intro i hi
    refine R1 (exr (mV L rfl (mV L rfl (sw (U2 un27 L) t1 t0 (sw (W3 L) t2 t0 (zn [(1,_),(3,_),(4,_),(5,_),(6,_),(7,_),(9,_),(47,_)] [(1,_),(3,_),(17,_),(29,_)] t8 t4 ?_))))))
    refine i2 rfl (fun hq=>?_) (fun hq=>?_)
    ·have hq:=dt hq
     have hi2:i<pv.length:=by omega
     have hi3:i<m.length:=by omega
     have hml:=hr.1 _ (gDL hi3)
     have hfl:f<(m.getD i []).length:=by omega
     have hpi:=hpc i hi2
     have hqb:qw ((m.getD i []).getD f 0)≤B:=hBm _ (gDL hi3) _ (Y3 hfl)
     refine U1 (xq ?_)
     refine R1 (V1 (d0g rF ?_))
     refine mV L rfl (mV L rfl (mV L rfl (sw (ixJ un27 sz3 (j:=i) rO oM sM L) t2 t0 ?_)))
     refine sw (d4 ag3 (H0z hi2) L) t1 t0 (sw (Z1 un24 rfl sz22 dC rX L) t1 t1 ?_)
     refine sw (Y1 ag22 rF rF L) t1 t1 ?_
     refine mV L rfl (sw (ixJ un22 sz40 (j:=i) rO oM sM L) t2 t0 ?_)
     refine sw (d4 ag40 (v7 hi3) L) t1 t0 (mV L rfl (sw (y2 un40 sz47 oM oM sM dC L) t2 t0 ?_))
     refine sw (V6 ag47 sz47 (W6 hfl) rfl L) t1 t0 (cK hG hX cl62 hN (F0v ((m.getD i []).getD f 0) oM) L t1 (sw (m0k (sz:=4) un40 sz47 (by exact (by first | (simp; done) | rw [R2,f0c])) (j:=pv.getD i 0) rO oM L) t2 t1 ?_))
     refine sb (y0z (n:=4) sz47 (by exact (by first | (simp; done) | rw [R2,f0c])) rfl oM) t2 t1 ?_
     refine O1 ⟨Z4 [⟨[7],[],[50],[]⟩,⟨[4],[],[51],[]⟩,⟨[9],[],[52],[]⟩,⟨[51,52],[],[53],[]⟩,⟨[53],[],[54],[]⟩,⟨[3],[3],[55],[]⟩,⟨[55],[3],[56],[]⟩,⟨[9],[],[57],[]⟩,⟨[56,57],[],[58],[]⟩,⟨[58],[],[59],[]⟩,⟨[6],[],[60],[]⟩,⟨[59,60],[],[61],[]⟩,⟨[61],[],[62],[]⟩,⟨[62],[],[63],[]⟩,⟨[50,54],[29],[64],[]⟩,⟨[64,63],[29],[],[29]⟩] rF rF dC,?_⟩
     refine s3 (mV L rfl (sw (F3 L (w64 oM oM)) t2 t0 (aV L rfl (O1 ?_))))
     exact ⟨i+1,oM,by omega,j3 ⟨oR,rfl,rfl,rfl,rfl,rfl,rfl,trivial⟩ ⟨obl rfl ((h0x _ (by rw [b0k,List.length_set,d0k]; exact hpi)).trans (by rw [L7]; rfl)),rfl,rfl,rfl,trivial⟩⟩
    ·have hq:=df hq
     have hip:i=pv.length:=by omega
     subst hip
     have hkl:(q8 j pv m f).length=j:=f0c
     rw [show h0k pv (fun i=>-(ent m i f)) ((zq j).set f 1) pv.length=q8 j pv m f from rfl]
     refine I2 (xq ?_)
     refine O4 [29] (sl:=[(1,_),(3,_),(4,_),(5,_),(6,_),(7,_)]) (hb:=[(1,_),(3,_),(17,_)]) (L3 hX0) ⟨⟨_,rfl,.same⟩,⟨_,rfl,.same⟩,⟨_,rfl,.same⟩,⟨_,rfl,.same⟩,⟨_,rfl,.same⟩,⟨_,rfl,(.ref rfl rfl (by exact (by first | (simp; done) | rw [R2,f0c])) (by first | rfl | omega))⟩,trivial⟩ ⟨⟨rfl,_,rfl,.same⟩,⟨rfl,_,rfl,.same⟩,⟨rfl,_,rfl,.same⟩,trivial⟩ ?_
     refine s3 (mV L rfl (mV L rfl (sw (B4 (vs:=[_]) un22 ti40 rfl rfl dC dC rfl (M2 (.cons rfl .nil) rfl) rfl (.cons rfl .sl rfl pu1 .nil) (.cons .nil) L) t1 t0 (swb (apP (sz:=1) un22 un22 ti40 rfl rfl rfl dC (by exact (X5 _)) oF sM rfl rfl rfl (by first | (simp [Tryz.t40]; done) | (simp [Tryz.t40]; omega)) oM (P0 _ rfl) L) t2 t1 t0 ?_))))
     refine aV L rfl (O1 (s3 (mV L rfl (sw (F3 L (w64 oM oM)) t2 t0 (aV L rfl (O1 ?_))))))
     exact ⟨(f+1,T++[q8 j pv m f]),⟨by simp only; omega,by rw [hst,List.map_append,hT]; rfl⟩,(by simp only; omega),j3 ⟨oR,ov rfl sM,rfl,rfl,rfl,trivial⟩ ⟨obl rfl (v1c _ T _ hkl),rfl,rfl,trivial⟩⟩
 ·have hc:=df hc
  have hfc:f=c:=by omega
  subst hfc
  refine I2 (xq ?_)
  refine O4 [17] (sl:=[(5,_)]) (hb:=[]) (L3 hX0) ⟨⟨_,rfl,(.ref rfl rfl (by exact (X5 _)) (by first | rfl | omega))⟩,trivial⟩ t0 ?_
  refine exr (mV L rfl (aV L rfl (zn [(2,_)] [] t1 trivial (X1 ?_))))
  refine Q0 (.tmp rfl) ?_
  rw [w0b,hT]

theorem RQ.of_inj {a b:Rat}(h:RQ.of a=RQ.of b):a=b:=by
 have h1:=congrArg (fun r=>sg r.m (val r.ws)) h
 have h2:=congrArg (fun r=>sg r.n (val r.vs)) h
 simp only [RQ.of,M1a] at h1 h2
 exact Rat.ext h1 (by exact_mod_cast h2)
theorem RQ.of_iff {a b:Rat}:RQ.of a=RQ.of b↔a=b:=⟨RQ.of_inj,fun h=>by rw [h]⟩
theorem W0n (a b:Rat)(ha:qw a<1000000000)(hb:qw b<1000000000):l3 E 33 [pQ a,pQ b] (bZ (decide (a=b))):=by
 have:=y0h (RQ.of a) (RQ.of b) (RQ.sm_of ha) (RQ.sm_of hb)
 rwa [decide_eq_decide.2 RQ.of_iff] at this
theorem f1n {B:Nat}{v:List Rat}(h:∀ a∈v,qw a≤B)(hb:B<1000000000):∀ r∈v.map RQ.of,r.sm:=fun r hr=>by
 obtain ⟨a,ha,rfl⟩:=G0.1 hr
 exact RQ.sm_of (Nat.lt_of_le_of_lt (h a ha) hb)


theorem F1a:∀ {v:List RQ}{i:Nat}(j:Nat),i<v.length→j<4→(p0w v)[i*4+j]? = (cR (v.getD i default))[j]?
 | [],i,j,h,_=>by simp at h
 | a :: v,0,j,_,h2=>by
  rw [p0w,Nat.zero_mul,F1,X0 (by simp [cR]; omega)]; rfl
 | a :: v,i+1,j,h,h2=>by
  have:=F1a (v:=v) (i:=i) j (by simpa using h) h2
  rw [p0w,D0 (by simp [cR]; omega),show (i+1)*4+j - (cR a).length=i*4+j by simp [cR]; omega,this]
  simp
theorem V1g {v:List RQ}{i:Nat}(h:i<v.length):(p0w v)[i*4+0+1]? = some (.sl (v.getD i default).ws.length (D4 (v.getD i default).ws)):=F1a 1 h dC
theorem V1r {v:List RQ}{i:Nat}(h:i<v.length):(p0w v)[i*4+2+1]? = some (.sl (v.getD i default).vs.length (D4 (v.getD i default).vs)):=F1a 3 h dC
def iV (l:List Int):List Rat:=l.map fun z:Int=>(z:Rat)
@[simp] theorem k0p (l:List Int):(iV l).length=l.length:=by simp [iV]
@[reducible] def pJ (l:List Int):K2:=.sl l.length (l.map vZ)
theorem b2a {l:List Int}{k:Nat}(h:k<l.length):(l.map vZ)[k]? = some (vZ (l.getD k 0)):=by simp [f0,h]
theorem H1g {l:List Int}{k:Nat}(h:k<l.length):iV (l.take (k+1))=iV (l.take k)++[((l.getD k 0:Int):Rat)]:=by
 rw [I1,iV,List.map_append]; simp [iV,f0,h]
theorem G1k (l:List Int)(hl:l.length<1000)(hb:∀ z∈l,-1000≤z∧z<1000):l3 E 48 [pJ l] (pV (iV l)):=by
 refine D2 (xs:=[pV (iV l)]) Tryz.func48 rfl Tryz.ntmps48 Tryz.results48 sM fun F hG hX0 hnt hdf P0=>?_
 obtain ⟨L,hX,hN⟩:=pro hnt hX0 hG
 refine exr (aV L rfl (zn [(0,_)] [] t1 trivial (exr (swb (v0h (k:=5) (sz:=4) un40 ti47 (P0 _ rfl) L) t0 t0 ⟨rfl,rfl⟩ (aV L rfl ?_)))))
 refine O1 ⟨[(0,_),(3,.ref 5 0 0 0)],[(5,i4 [])],t2,t1,?_⟩
 refine R1 (exr (aV L rfl (zn [(0,_),(3,_),(4,_)] [(5,_)] t3 t1 (V1 ?_))))
 refine exl (α:=Nat) (fun k=>[(4,vi (k:Int)),(3,.ref 5 0 k (k*4))]) (fun k=>[(5,i4 (iV (l.take k)))]) (fun k=>k≤l.length) (fun k=>l.length - k) (0) (sl:=[(0,_)]) (hb:=[]) ?_ ⟨oR,oR,rfl,trivial⟩ t1 ?_
 ·exact Nat.zero_le _
 intro k hk
 refine R1 (exr (mV L rfl (mV L rfl (sw (U2 un27 L) t1 t0 (sw (W3 L) t2 t0 (zn [(0,_),(3,_),(4,_),(9,_)] [(5,_)] t4 t1 ?_))))))
 refine i2 rfl (fun hc=>?_) (fun hc=>?_)
 ·have hc:=dt hc
  have hk2:k<l.length:=by omega
  have hz:=hb (l.getD k 0) (by simp [f0,hk2])
  refine U1 (xq ?_)
  refine R1 (V1 (s3 (mV L rfl (mV L rfl (mV L rfl (sw (ixJ un27 sz3 (j:=k) rO oM sM L) t2 t0 ?_))))))
  refine sw (d4 ag3 (b2a hk2) L) t1 t0 (cK hG hX cl49 hN (b0y (l.getD k 0) oM oM) L t1 (sw (B4 (vs:=[_]) un40 ti47 rfl rfl dC dC rfl (M2 (.cons rfl (.cons rfl (.cons rfl (.cons rfl .nil)))) rfl) rfl (.cons rfl pa4 rfl pu4 .nil) (.cons (.cons (.cons (.cons .nil)))) L) t1 t0 (swb (apP (sz:=4) un40 un40 ti47 rfl rfl rfl dC (by exact (by first | (simp; omega) | (simp; done))) oF sM rfl rfl rfl (by first | (simp [Tryz.t47]; done) | (simp [Tryz.t47]; omega)) oM (P0 _ rfl) L) t2 t1 t0 ?_)))
  refine aV L rfl (O1 (s3 (mV L rfl (sw (F3 L (w64 oM oM)) t2 t0 (aV L rfl (O1 ?_))))))
  exact ⟨k+1,oM,by omega,j3 ⟨oR,ov rfl sO,rfl,trivial⟩ ⟨obl rfl ((g0r _ _).trans (by rw [H1g hk2])),trivial⟩⟩
 ·have hc:=df hc
  have hkl:k=l.length:=by omega
  rw [C0 oM]
  subst hkl
  refine I2 (xq ?_)
  refine O4 [5] (sl:=[(3,_)]) (hb:=[]) (L3 hX0) ⟨⟨_,rfl,(.ref rfl rfl (by exact (by first | (simp; omega) | (simp; done))) (by first | rfl | omega))⟩,trivial⟩ t0 ?_
  refine exr (mV L rfl (aV L rfl (zn [(2,_)] [] t1 trivial (X1 ?_))))
  refine Q0 (.tmp rfl) ?_
  simp
theorem B1w (c:Int)(M:List (List Rat)):l3 E 47 [vZ c,pMr M] (.agg [vZ c,pMr M]):=by
 refine D2 (xs:=[.agg [vZ c,pMr M]]) Tryz.func47 rfl Tryz.ntmps47 Tryz.results47 sM fun F hG hX0 hnt hdf P0=>?_
 obtain ⟨L,hX,hN⟩:=pro hnt hX0 hG
 refine exr (swb (O3 (k:=4) (n:=2) zv24 (.cons rfl (.cons rfl .nil)) rfl (P0 _ rfl) L) t0 t0 ⟨rfl,rfl⟩ (zn [(0,_),(1,_),(4,_)] [(4,_)] t3 t1 (exr (mV L rfl (mV L rfl (sw (E7 (vs:=[_,_]) un24 zv24 (.cons rfl (.cons rfl .nil)) ((J2.cons sz3 (J2.cons sz22 J2.nil))).to rfl (.cons rfl (.atom rfl) rfl pu1 (.cons rfl .sl rfl (.skip pu1) .nil)) (.cons (.cons .nil)) L) t2 t0 (sb (Y2 sz24 rF pa2 rfl pu2) t2 t1 ?_)))))))
 refine zn [(4,_)] [(4,_)] t1 t1 (X1 ?_)
 refine Q0 (.agg rfl rfl rfl ag24 sz24 (.cons (.cons .nil))) ?_
 rfl
def smW (k:Nat)(r:RQ):Bool:=decide (r.ws.length≤k∧r.vs.length≤k)
def smV (n:Nat)(v:List RQ):Bool:=decide (v.length≤n) && v.all (smW 6)
theorem or3 (p q:Prop):p∨(¬p∧q)∨(¬p∧¬q):=by
 rcases Classical.em p with h | h
 ·exact .inl h
 ·rcases Classical.em q with h2 | h2
  ·exact .inr (.inl ⟨h,h2⟩)
  ·exact .inr (.inr ⟨h,h2⟩)
theorem b1x (n:Nat)(v:List RQ)(hn:n<1000):l3 E 23 [pVR v,vZ n] (bZ (smV n v)):=by
 refine D2 (xs:=[bZ (smV n v)]) Tryz.func23 rfl Tryz.ntmps23 Tryz.results23 sM fun F hG hX0 hnt hdf P0=>?_
 obtain ⟨L,hX,hN⟩:=pro hnt hX0 hG
 refine exr (aV L rfl (zn [(0,_),(1,_)] [] t2 trivial (R1 (exr (mV L rfl (sw (U2 un40 L) t1 t0 (mV L rfl (sw (P6 L) t2 t0 (zn [(0,_),(9,_)] [] t2 trivial ?_)))))))))
 refine i2 rfl (fun hc=>?_) (fun hc=>?_)
 ·have hc:=dt hc
  refine exr (aV L rfl (zn [(4,_)] [] t1 trivial (X1 ?_)))
  refine Q0 (.tmp rfl) ?_
  rw [smV,decide_eq_false oM,Bool.false_and]
 ·have hc:=df hc
  have hl:v.length≤n:=by omega
  refine U1 (xq ?_)
  refine R1 (exr (aV L rfl (zn [(0,_),(5,_)] [] t2 trivial (V1 ?_))))
  refine exl (α:=Nat) (fun k=>[(5,vi (k:Int))]) (fun k=>[]) (fun k=>k≤v.length∧(v.take k).all (smW 6)=true) (fun k=>v.length - k) (0) (sl:=[(0,_)]) (hb:=[]) ?_ ⟨oR,rfl,trivial⟩ t0 ?_
  ·exact ⟨Nat.zero_le _,rfl⟩
  intro k hk
  obtain ⟨hk,hw⟩:=hk
  refine R1 (exr (mV L rfl (mV L rfl (sw (U2 un40 L) t1 t0 (sw (W3 L) t2 t0 (zn [(0,_),(5,_),(13,_)] [] t3 trivial ?_))))))
  refine i2 rfl (fun hc=>?_) (fun hc=>?_)
  ·have hc:=dt hc
   have hk2:k<v.length:=by omega
   have ha:=V1g hk2
   have hd:=V1r hk2
   obtain ⟨r,hr⟩:∃ r,r=v.getD k default:=⟨_,rfl⟩
   rw [← hr] at ha hd
   refine U1 (xq ?_)
   refine R1 (V1 ?_)
   refine exm (sl:=[(33,vb (!smW 6 r))]) (sl0:=[(0,_),(5,_)]) (hb:=[]) (hb0:=[]) t2 t0 ?_ ?_
   ·rcases or3 ((r.ws.length:Int) > 6) ((r.vs.length:Int) > 6) with h1 | ⟨h1,h2⟩ | ⟨h1,h2⟩
    ·refine mV L rfl (mV L rfl (sw (y2 un40 sz47 oM oM sM dC L) t2 t0 ?_))
     refine sw (H0d un47 rfl sz45 dC L) t1 t0 (sw (H0d un45 rfl sz43 dC L) t1 t0 (sw (d4 ag43 ha L) t1 t0 (sw (U2 un43 L) t1 t0 (sw (P6 L) t2 t0 (mV L rfl (swn (g:=24) rfl (decide_eq_true h1) L rfl (swn (g:=24) rfl (decide_eq_true h1) L rfl (swn (g:=24) rfl (decide_eq_true h1) L rfl (swn (g:=24) rfl (decide_eq_true h1) L rfl (swn (g:=24) rfl (decide_eq_true h1) L rfl (swn (g:=24) rfl (decide_eq_true h1) L rfl ?_)))))))))))
     refine swn (g:=24) rfl (decide_eq_true h1) L rfl (swn (g:=24) rfl (decide_eq_true h1) L rfl (sw (Y4 (decide_eq_true h1) L) t2 t0 ?_))
     exact O1 ⟨⟨ob rfl (by rw [smW,decide_eq_false oM] <;> rfl),rfl,rfl,trivial⟩,trivial⟩
    ·refine mV L rfl (mV L rfl (sw (y2 un40 sz47 oM oM sM dC L) t2 t0 ?_))
     refine sw (H0d un47 rfl sz45 dC L) t1 t0 (sw (H0d un45 rfl sz43 dC L) t1 t0 (sw (d4 ag43 ha L) t1 t0 (sw (U2 un43 L) t1 t0 (sw (P6 L) t2 t0 (mV L rfl (gV (g:=24) rfl (decide_eq_false h1) L rfl rfl (gV (g:=24) rfl (decide_eq_false h1) L rfl rfl (swg (g:=24) rfl (decide_eq_false h1) (y2 un40 sz47 oM oM sM dC L) rfl t2 t0 ?_))))))))
     refine swg (g:=24) rfl (decide_eq_false h1) (H0d un47 rfl sz45 dC L) rfl t1 t0 (swg (g:=24) rfl (decide_eq_false h1) (H0d un45 rfl sz43 dC L) rfl t1 t0 (swg (g:=24) rfl (decide_eq_false h1) (d4 ag43 hd L) rfl t1 t0 (swg (g:=24) rfl (decide_eq_false h1) (U2 un43 L) rfl t1 t0 (swg (g:=24) rfl (decide_eq_false h1) (P6 L) rfl t2 t0 (sw (n4 (decide_eq_false h1) L) t2 t0 ?_)))))
     exact O1 ⟨⟨ob rfl (by rw [smW,decide_eq_false (show ¬ (r.ws.length≤6∧r.vs.length≤6) by omega),decide_eq_true h2] <;> rfl),rfl,rfl,trivial⟩,trivial⟩
    ·refine mV L rfl (mV L rfl (sw (y2 un40 sz47 oM oM sM dC L) t2 t0 ?_))
     refine sw (H0d un47 rfl sz45 dC L) t1 t0 (sw (H0d un45 rfl sz43 dC L) t1 t0 (sw (d4 ag43 ha L) t1 t0 (sw (U2 un43 L) t1 t0 (sw (P6 L) t2 t0 (mV L rfl (gV (g:=24) rfl (decide_eq_false h1) L rfl rfl (gV (g:=24) rfl (decide_eq_false h1) L rfl rfl (swg (g:=24) rfl (decide_eq_false h1) (y2 un40 sz47 oM oM sM dC L) rfl t2 t0 ?_))))))))
     refine swg (g:=24) rfl (decide_eq_false h1) (H0d un47 rfl sz45 dC L) rfl t1 t0 (swg (g:=24) rfl (decide_eq_false h1) (H0d un45 rfl sz43 dC L) rfl t1 t0 (swg (g:=24) rfl (decide_eq_false h1) (d4 ag43 hd L) rfl t1 t0 (swg (g:=24) rfl (decide_eq_false h1) (U2 un43 L) rfl t1 t0 (swg (g:=24) rfl (decide_eq_false h1) (P6 L) rfl t2 t0 (sw (n4 (decide_eq_false h1) L) t2 t0 ?_)))))
     exact O1 ⟨⟨ob rfl (by rw [smW,decide_eq_true (show r.ws.length≤6∧r.vs.length≤6 by omega),decide_eq_false h2] <;> rfl),rfl,rfl,trivial⟩,trivial⟩
   refine i2 rfl (fun he=>?_) (fun he=>?_)
   ·have he:smW 6 r=false:=by simpa using he
    rw [hr] at he
    refine exr (aV L rfl (zn [(4,_)] [] t1 trivial (X1 ?_)))
    refine Q0 (.tmp rfl) ?_
    rw [smV,P0h (gD hk2) he,Bool.and_false]
   ·have he:smW 6 r=true:=by simpa using he
    rw [hr] at he
    refine U1 (xq ?_)
    refine s3 (mV L rfl (sw (F3 L (w64 oM oM)) t2 t0 (aV L rfl (O1 ?_))))
    exact ⟨k+1,⟨by omega,p0s hk2 hw he⟩,by omega,j3 ⟨oR,rfl,trivial⟩ trivial⟩
  ·have hc:=df hc
   refine I2 (xq ?_)
   refine exr (aV L rfl (zn [(4,_)] [] t1 trivial (X1 ?_)))
   refine Q0 (.tmp rfl) ?_
   rw [show k=v.length by omega,I0] at hw; rw [smV,hw,decide_eq_true hl]; rfl
def J8 (n:Nat)(c:Int)(m:List (List RQ)):Bool:=decide (m.length≤n∧(c≤n∨60<c)) && m.all (smV n)
theorem g1j (n:Nat)(c:Int)(m:List (List RQ))(hn:n<1000):l3 E 11 [pMR c m,vZ n] (bZ (J8 n c m)):=by
 refine D2 (xs:=[bZ (J8 n c m)]) Tryz.func11 rfl Tryz.ntmps11 Tryz.results11 sM fun F hG hX0 hnt hdf P0=>?_
 obtain ⟨L,hX,hN⟩:=pro hnt hX0 hG
 refine exr (swb (U3 (k:=2) (n:=2) pa2 rfl rfl (P0 _ rfl) L) t1 t0 ⟨rfl,rfl⟩ (aV L rfl (zn [(1,_),(2,_)] [(2,_)] t2 t1 (R1 ?_))))
 refine exm (sl:=[(21,vb (!decide (m.length≤n∧(c≤n∨60<c))))]) (sl0:=[(1,_),(2,_)]) (hb:=[]) (hb0:=[(2,_)]) t2 t1 ?_ ?_
 ·rcases (by omega:n<m.length∨(m.length≤n∧(n:Int)<c)∨(m.length≤n∧c≤n)) with h | h | h
  ·refine sw (Z1 un24 rfl sz22 dC rX L) t1 t1 ?_
   refine sw (Y1 ag22 rF rF L) t1 t1 ?_
   refine sw (U2 un22 L) t1 t0 (mV L rfl (sw (P6 L) t2 t0 (mV L rfl (swn (g:=11) rfl sO L rfl (swn (g:=11) rfl sO L rfl (swn (g:=11) rfl sO L rfl (swn (g:=11) rfl sO L rfl (swn (g:=11) rfl sO L rfl (swu (g:=16) rfl L rfl (swu (g:=16) rfl L rfl (swu (g:=16) rfl L rfl ?_)))))))))))
   refine swn (g:=11) rfl sO L rfl (sw (Y4 sO L) t2 t0 ?_)
   exact O1 ⟨⟨ob rfl (by rw [decide_eq_false (show ¬ (m.length≤n∧(c≤n∨60<c)) by omega)] <;> rfl),rfl,rfl,trivial⟩,t1⟩
  ·refine sw (Z1 un24 rfl sz22 dC rX L) t1 t1 ?_
   refine sw (Y1 ag22 rF rF L) t1 t1 ?_
   refine sw (U2 un22 L) t1 t0 (mV L rfl (sw (P6 L) t2 t0 (mV L rfl (swg (g:=11) rfl sO (Z1 un24 rfl sz3 dC rX L) rfl t1 t1 ?_))))
   refine swg (g:=11) rfl sO (Y1 ag3 rF rF L) rfl t1 t1 ?_
   refine gV (g:=11) rfl sO L rfl rfl (swg (g:=11) rfl sO (P6 L) rfl t2 t0 (gV (g:=11) rfl sO L rfl rfl (swg (g:=16) rfl sO (Z1 un24 rfl sz3 dC rX L) rfl t1 t1 ?_)))
   refine swg (g:=16) rfl sO (Y1 ag3 rF rF L) rfl t1 t1 ?_
   refine swg (g:=16) rfl sO (P1z L) rfl t2 t0 (swg (g:=11) rfl sO (Y4 sO L) rfl t2 t0 (sw (n4 sO L) t2 t0 ?_))
   exact O1 ⟨⟨ob rfl (by rw [Bool.eq_iff_iff]; simp; omega),rfl,rfl,trivial⟩,t1⟩
  ·refine sw (Z1 un24 rfl sz22 dC rX L) t1 t1 ?_
   refine sw (Y1 ag22 rF rF L) t1 t1 ?_
   refine sw (U2 un22 L) t1 t0 (mV L rfl (sw (P6 L) t2 t0 (mV L rfl (swg (g:=11) rfl sO (Z1 un24 rfl sz3 dC rX L) rfl t1 t1 ?_))))
   refine swg (g:=11) rfl sO (Y1 ag3 rF rF L) rfl t1 t1 ?_
   refine gV (g:=11) rfl sO L rfl rfl (swg (g:=11) rfl sO (P6 L) rfl t2 t0 (gV (g:=11) rfl sO L rfl rfl (swn (g:=16) rfl sO L rfl (swn (g:=16) rfl sO L rfl (swn (g:=16) rfl sO L rfl (swg (g:=11) rfl sO (n4 sO L) rfl t2 t0 (sw (n4 sO L) t2 t0 ?_)))))))
   exact O1 ⟨⟨ob rfl (by rw [decide_eq_true (show m.length≤n∧(c≤n∨60<c) by omega)] <;> rfl),rfl,rfl,trivial⟩,t1⟩
 refine i2 rfl (fun hc=>?_) (fun hc=>?_)
 ·have hc:decide (m.length≤n∧(c≤n∨60<c))=false:=by simpa only [Bool.not_eq_true'] using hc
  refine exr (aV L rfl (zn [(4,_)] [] t1 trivial (X1 ?_)))
  refine Q0 (.tmp rfl) ?_
  rw [J8,hc,Bool.false_and]
 ·have hd:decide (m.length≤n∧(c≤n∨60<c))=true:=by simpa only [Bool.not_eq_false'] using hc
  have hl:m.length≤n:=(of_decide_eq_true hd).1
  refine U1 (xq ?_)
  refine R1 (exr (aV L rfl (zn [(1,_),(2,_),(5,_)] [(2,_)] t3 t1 (V1 ?_))))
  refine exl (α:=Nat) (fun k=>[(5,vi (k:Int))]) (fun k=>[]) (fun k=>k≤m.length∧(m.take k).all (smV n)=true) (fun k=>m.length - k) (0) (sl:=[(1,_),(2,_)]) (hb:=[(2,_)]) ?_ ⟨oR,rfl,rfl,trivial⟩ t1 ?_
  ·exact ⟨Nat.zero_le _,rfl⟩
  intro k hk
  obtain ⟨hk,hw⟩:=hk
  refine R1 (exr (mV L rfl (sw (Z1 un24 rfl sz22 dC rX L) t1 t1 ?_)))
  refine sw (Y1 ag22 rF rF L) t1 t1 ?_
  refine sw (U2 un22 L) t1 t0 (sw (W3 L) t2 t0 (zn [(1,_),(2,_),(5,_),(26,_)] [(2,_)] t4 t1 ?_))
  refine i2 rfl (fun hc=>?_) (fun hc=>?_)
  ·have hc:=dt hc
   have hk2:k<m.length:=by omega
   refine U1 (xq ?_)
   refine R1 (V1 (exr (sw (Z1 un24 rfl sz22 dC rX L) t1 t1 ?_)))
   refine sw (Y1 ag22 rF rF L) t1 t1 ?_
   refine mV L rfl (sw (ixJ un22 sz40 (j:=k) rO oM sM L) t2 t0 ?_)
   refine sw (d4 ag40 (g0w hk2) L) t1 t0 (mV L rfl (cK hG hX cl23 hN (b1x n (m.getD k []) hn) L t2 (sw (v4 L) t1 t0 (zn [(1,_),(2,_),(5,_),(36,_)] [(2,_)] t4 t1 ?_))))
   refine i2 rfl (fun he=>?_) (fun he=>?_)
   ·have he:smV n (m.getD k [])=false:=by simpa using he
    refine exr (aV L rfl (zn [(4,_)] [] t1 trivial (X1 ?_)))
    refine Q0 (.tmp rfl) ?_
    rw [J8,P0h (gDL hk2) he,Bool.and_false]
   ·have he:smV n (m.getD k [])=true:=by simpa using he
    refine U1 (xq ?_)
    refine s3 (mV L rfl (sw (F3 L (w64 oM oM)) t2 t0 (aV L rfl (O1 ?_))))
    exact ⟨k+1,⟨by omega,p0s hk2 hw he⟩,by omega,j3 ⟨oR,rfl,rfl,trivial⟩ t1⟩
  ·have hc:=df hc
   refine I2 (xq ?_)
   refine exr (aV L rfl (zn [(4,_)] [] t1 trivial (X1 ?_)))
   refine Q0 (.tmp rfl) ?_
   rw [show k=m.length by omega,I0] at hw; rw [J8,hw,hd]; rfl
theorem K0q (X:Nat):(2:Nat) ^ X<4294967296 ^ (X / 32+1):=by
 rw [show (4294967296:Nat)=2 ^ 32 from rfl,← Nat.pow_mul]
 exact Nat.pow_lt_pow_right dC oM
theorem p32 (k:Nat):((4294967296 ^ k:Nat):Int)=(4294967296:Int) ^ k:=Int.natCast_pow _ _
theorem M1h {X:Nat}{a:Rat}(h:hsz X a):qw a≤X / 32+1:=by
 have key:∀ z:Int,z.natAbs≤2 ^ X→nw z≤X / 32+1:=fun z hz=>D0c (by
  rw [← p32 (X / 32+1)]
  exact Int.ofNat_lt.2 (Nat.lt_of_le_of_lt hz (K0q X)))
 exact Nat.max_le.2 ⟨key _ h.1,key _ (by simpa using h.2)⟩
theorem K1x {k:Nat}{a:Rat}(h:qw a≤k):hsz (32*k) a:=by
 have key:∀ z:Int,nw z≤k→z.natAbs≤2 ^ (32*k):=fun z hz=>by
  have h1:=J0s (a:=z)
  have h2:(4294967296:Nat) ^ nw z≤4294967296 ^ k:=Nat.pow_le_pow_right dC hz
  rw [show (4294967296:Nat) ^ k=2 ^ (32*k) by rw [Nat.pow_mul]] at h2
  rw [← p32 (nw z)] at h1
  exact Nat.le_of_lt (Nat.lt_of_lt_of_le (Int.ofNat_lt.1 h1) h2)
 exact ⟨key _ (Nat.le_trans (I4 a) h),by simpa using key _ (Nat.le_trans (j5 a) h)⟩
theorem K1n {X:Nat}{m b:List (List Rat)}(h:CDM X m b):MB (X / 32+1) m∧MB (X / 32+1) b:=by
 have key:∀ {m:List (List Rat)},(∀ i j,hsz X (ent m i j))→MB (X / 32+1) m:=fun {m} hm r hr a ha=>by
  obtain ⟨i,hi,rfl⟩:=List.getElem_of_mem hr
  obtain ⟨j,hj,rfl⟩:=List.getElem_of_mem ha
  have:=M1h (hm i j)
  rwa [ent,show m.getD i []=m[i] by simp [f0,hi],show (m[i]).getD j 0=m[i][j] by simp [f0,hj]] at this
 exact ⟨key fun i j=>h.m i j,key fun i j=>h.b i j⟩
theorem w1r {n cc d B:Nat}{m b:List (List Rat)}(h:RC n cc m)(hb:RC n d b)(hB:∀ c,c≤cc→∀ i j,qw (ent (ech m b c).m i j)≤B):∀ c,c≤cc→qw (ech m b c).det≤1+(ech m b c).pv.length*B
 | 0,_=>by show qw 1≤_; rw [G0c]; omega
 | c+1,hc=>by
  have ih:=w1r h hb hB c oM
  rcases w1f h hb (show c<cc by omega) with e | ⟨_,e2,i,_,e | e⟩
  ·have hpv:(ech m b c).pv.length≤(ech m b (c+1)).pv.length:=by
    rw [Z8]; unfold v9
    split
    ·split
     ·exact Nat.le_refl _
     ·rw [P0k,K1]; omega
    ·exact Nat.le_refl _
   have:=V0 B hpv
   rw [e]; omega
  ·have h1:=M8 (ech m b c).det (ent (ech m b c).m i c)
   have h2:=hB c oM i c
   rw [e,e2,Nat.add_mul]; omega
  ·have h1:=M8 (-(ech m b c).det) (ent (ech m b c).m i c)
   rw [q0s] at h1
   have h2:=hB c oM i c
   rw [e,e2,Nat.add_mul]; omega
@[reducible] def BB:Nat:=22000000
@[reducible] def DD:Nat:=310000000
theorem v1a {n c d X:Nat}{m b:List (List Rat)}(h:RC n c m)(hb:RC n d b)(hn:n≤14)(hc:c≤70)(hd:d≤70)(hC:CDM X m b)(hX:g0n X n≤700000000):EU n c d BB DD m b:=by
 have hB:∀ k,k≤c→CDM 700000000 (ech m b k).m (ech m b k).b:=fun k hk=>(j1y h hb hC hk (Nat.le_refl n)).mono hX
 have hM:=fun k hk=>K1n (hB k hk)
 refine ⟨h,hb,by omega,by omega,by omega,by decide,by decide,by decide,fun k hk r hr a ha=>Nat.le_trans ((hM k hk).1 r hr a ha) dC,fun k hk r hr a ha=>Nat.le_trans ((hM k hk).2 r hr a ha) dC,fun k hk=>?_⟩
 have h1:=w1r (B:=BB) h hb (fun k hk i j=>Nat.le_trans (M1h ((hB k hk).m i j)) dC) k hk
 have h2:(ech m b k).pv.length≤n:=(G6 h hb k hk).2.2.1.le
 have h3:(ech m b k).pv.length*BB≤14*BB:=V0 _ oM
 exact Nat.le_trans h1 (Nat.le_trans (Nat.add_le_add_left h3 1) dC)
theorem M1v {k n c:Nat}{m b:List (List Rat)}{l:List Rat}(h:RC n c m)(hm:MB k m)(hl:∀ a∈l,qw a≤k)(hb:∀ i j,ent b i j=0∨ent b i j=1∨ent b i j∈l):CDM (32*k*(n*c+l.length)) m b:=by
 have h1:=cdl (b:=32*k) (l:=m.flatten++l) fun a ha=>by
  rcases List.mem_append.1 ha with ha | ha
  ·obtain ⟨r,hr,ha⟩:=List.mem_flatten.1 ha
   exact K1x (hm r hr a ha)
  ·exact K1x (hl a ha)
 rw [K1,w1a h] at h1
 refine Q1g h1 (fun i j=>?_) fun i j=>?_
 ·rcases p0d (m:=m) (i:=i) (j:=j) with e | ⟨r,hr,ha⟩
  ·exact .inl e
  ·exact .inr (.inr (List.mem_append_left _ (List.mem_flatten.2 ⟨r,hr,ha⟩)))
 ·rcases hb i j with e | e | e
  ·exact .inl e
  ·exact .inr (.inl e)
  ·exact .inr (.inr (List.mem_append_right _ e))
theorem w0r (n c B DB:Nat)(M:List (List Rat))(h:MOk c M)(hB1:MB B M)(hn:M.length=n)(H:EU n c 0 B DB M (nob n)):l3 E 14 [pMq c M] (.tup [pMr (w0b c (ech M (nob n) c).pv ((ech M (nob n) c).m.take (ech M (nob n) c).pv.length)),vZ 0]):=n0w (P0g n c B DB M h hB1 hn H)
theorem h1w {n i j:Nat}:ent (nob n) i j=0:=by
 rcases p0d (m:=nob n) (i:=i) (j:=j) with e | ⟨r,hr,ha⟩
 ·exact e
 ·rw [m0y.2 r hr |> E0] at ha; cases ha
theorem H1k {b:List Rat}{i j:Nat}:ent (f5 b) i j=0∨ent (f5 b) i j=1∨ent (f5 b) i j∈b:=by
 rcases p0d (m:=f5 b) (i:=i) (j:=j) with e | ⟨r,hr,ha⟩
 ·exact .inl e
 ·simp only [f5,G0,List.mem_range] at hr
  obtain ⟨k,hk,rfl⟩:=hr
  rcases List.mem_or_eq_of_mem_set ha with h | h
  ·rcases List.mem_or_eq_of_mem_set h with h | h
   ·exact .inl (List.eq_of_mem_replicate h)
   ·exact .inr (.inr (h ▸ Y3 hk))
  ·exact .inr (.inl h)
theorem MOk.rc {c:Nat}{M:List (List Rat)}(h:MOk c M):RC M.length c M:=⟨rfl,h.len⟩
theorem P0j {n c k:Nat}{M:List (List Rat)}(h:RC n c M)(hB:MB k M)(hn:n≤14)(hc:c≤70)(hX:g0n (32*k*(n*c+0)) n≤700000000):EU n c 0 BB DD M (nob n) :=
 v1a h m0y hn hc dC (M1v (l:=[]) h hB sM fun _ _=>.inl h1w) hX
theorem d1c {n c k:Nat}{M:List (List Rat)}{b:List Rat}(h:RC n c M)(hB:MB k M)(hbn:b.length=n)(hb:∀ a∈b,qw a≤k)(hn:n≤14)(hc:c≤70)(hX:g0n (32*k*(n*c+n)) n≤700000000):EU n c (n+1) BB DD M (f5 b) :=
 v1a h (K1d hbn) hn hc oM (M1v (l:=b) h hB hb fun _ _=>H1k) (by rw [hbn]; exact hX)
theorem Q1h {c:Nat}{M:List (List Rat)}:RC c M.length (trM c M):=by
 refine ⟨by simp,fun r hr=>?_⟩
 simp only [trM,G0] at hr
 obtain ⟨j,_,rfl⟩:=hr
 simp
theorem P1v {c B:Nat}{M:List (List Rat)}(hl:∀ r∈M,r.length=c)(h:MB B M):MB B (trM c M):=by
 intro r hr a ha
 simp only [trM,G0,List.mem_range] at hr
 obtain ⟨j,hj,rfl⟩:=hr
 exact G1z h hj hl a ha
theorem MB.mono {B C:Nat}{M:List (List Rat)}(h:MB B M)(hBC:B≤C):MB C M:=fun r hr a ha=>Nat.le_trans (h r hr a ha) hBC
def mI (L:List (List Int)):List (List Rat):=L.map iV
def sI (l:List Int):Bool:=l.all fun z=>decide (-1000≤z∧z<1000)
theorem N1s {z:Int}(h : -1000≤z∧z<1000):qw (z:Rat)≤1:=by
 unfold qw
 rw [Rat.num_intCast,Rat.den_intCast]
 exact Nat.max_le.2 ⟨D0c oM,by rw [show ((1:Nat):Int)=1 from rfl,m0m]; exact Nat.le_refl _⟩
theorem m0g {l:List Int}(h:sI l=true):∀ a∈iV l,qw a≤1:=fun a ha=>by
 obtain ⟨z,hz,rfl⟩:=G0.1 ha
 exact N1s (by simpa using s0.1 h z hz)
theorem X8 {L:List (List Int)}(h:L.all sI=true):MB 1 (mI L):=fun r hr=>by
 obtain ⟨l,hl,rfl⟩:=G0.1 hr
 exact m0g (s0.1 h l hl)
theorem n0d {c:Nat}{L:List (List Int)}(h:(L.all fun l=>decide (l.length=c))=true):∀ r∈mI L,r.length=c:=fun r hr=>by
 obtain ⟨l,hl,rfl⟩:=G0.1 hr
 rw [k0p]; simpa using s0.1 h l hl
theorem w0x {c:Nat}{L:List (List Int)}(h1:L.length≤400)(hc:c≤60)(h:(L.all fun l=>decide (l.length=c))=true):MOk c (mI L):=⟨by simpa [mI] using h1,hc,n0d h⟩
theorem j1h {B:Nat}{M:List (List Rat)}(hl:M.length<1000000000)(hr:∀ r∈M,r.length<1000000000)(hB:MB B M)(hb:B<1000000000):MSm (M.map (List.map RQ.of)) :=
 ⟨by simpa using hl,fun r hr2=>by
  obtain ⟨v,hv,rfl⟩:=G0.1 hr2
  exact ⟨by simpa using hr v hv,f1n (hB v hv) hb⟩⟩
theorem G1f {B:Nat}{u:List Rat}(hl:u.length<1000000000)(hB:∀ a∈u,qw a≤B)(hb:B<1000000000):l3 E 29 [pV u,pV u] (bZ true):=by
 have:=y0c (u.map RQ.of) (u.map RQ.of) (by simpa using hl) (f1n hB hb) (f1n hB hb)
 rwa [decide_eq_true rfl,N0k] at this
theorem J0x {B:Nat}{M:List (List Rat)}(hl:M.length<1000000000)(hr:∀ r∈M,r.length<1000000000)(hB:MB B M)(hb:B<1000000000):l3 E 19 [pMr M,pMr M] (bZ true):=by
 have:=y0d _ _ (j1h hl hr hB hb) (j1h hl hr hB hb)
 rwa [decide_eq_true rfl,j0s,O0] at this
theorem W0j {B:Nat}{c:Int}{M:List (List Rat)}(hl:M.length<1000000000)(hr:∀ r∈M,r.length<1000000000)(hB:MB B M)(hb:B<1000000000):l3 E 17 [pMq c M,pMq c M] (bZ true):=by
 have:=Q0q c c _ _ (j1h hl hr hB hb) (j1h hl hr hB hb)
 rwa [decide_eq_true ⟨rfl,rfl⟩,pMR,j0s,O0] at this
theorem P1h:l3 E 13 [pMq 3 (mI [[0,2,4],[1,1,1],[1,2,3]])] (.tup [pMq 3 (mI [[1,0,-1],[0,1,2]]),pIs [0,1],vZ 0]):=by
 have h:=g0m 3 3 BB DD (mI [[0,2,4],[1,1,1],[1,2,3]]) (w0x dC dC dC) ((X8 dC).mono dC) rfl (P0j ⟨rfl,n0d dC⟩ (X8 dC) dC dC dC)
 have e1:(ech (mI [[0,2,4],[1,1,1],[1,2,3]]) (nob 3) 3).pv=[0,1]:=by decide +kernel
 have e2:(ech (mI [[0,2,4],[1,1,1],[1,2,3]]) (nob 3) 3).m.take 2=mI [[1,0,-1],[0,1,2]]:=by decide +kernel
 rw [e1,show [0,1].length=2 from rfl,e2] at h
 exact h
theorem P1x:l3 E 14 [pMq 3 (mI [[0,2,4],[1,1,1],[1,2,3]])] (.tup [pMr (mI [[1,-2,1]]),vZ 0]):=by
 have h:=w0r 3 3 BB DD (mI [[0,2,4],[1,1,1],[1,2,3]]) (w0x dC dC dC) ((X8 dC).mono dC) rfl (P0j ⟨rfl,n0d dC⟩ (X8 dC) dC dC dC)
 have e2:w0b 3 (ech (mI [[0,2,4],[1,1,1],[1,2,3]]) (nob 3) 3).pv ((ech (mI [[0,2,4],[1,1,1],[1,2,3]]) (nob 3) 3).m.take (ech (mI [[0,2,4],[1,1,1],[1,2,3]]) (nob 3) 3).pv.length)=mI [[1,-2,1]]:=by decide +kernel
 rw [e2] at h
 exact h
theorem N1j:l3 E 24 [pMq 2 (mI [[1,1],[1,-1]]),pV (iV [3,1])] (.tup [pV (iV [2,1]),pV [],vZ 0]):=by
 have h:=n0b 2 2 BB DD (mI [[1,1],[1,-1]]) (iV [3,1]) (w0x dC dC dC) ((X8 dC).mono dC) (fun a ha=>Nat.le_trans (m0g dC a ha) dC) rfl rfl (d1c ⟨rfl,n0d dC⟩ (X8 dC) rfl (m0g dC) dC dC dC)
 have e1:P0b 2 (ech (mI [[1,1],[1,-1]]) (f5 (iV [3,1])) 2) 2=iV [2,1]:=by decide +kernel
 have e2:W0q (ech (mI [[1,1],[1,-1]]) (f5 (iV [3,1])) 2) 2=[]:=by decide +kernel
 have e3:H0f (ech (mI [[1,1],[1,-1]]) (f5 (iV [3,1])) 2) 2=0:=by decide +kernel
 rw [e1,e2,e3] at h
 exact h
theorem Q1k:∃ x y,l3 E 24 [pMq 2 (mI [[1,1],[2,2]]),pV (iV [1,3])] (.tup [pV x,pV y,vZ 4]):=by
 have h:=n0b 2 2 BB DD (mI [[1,1],[2,2]]) (iV [1,3]) (w0x dC dC dC) ((X8 dC).mono dC) (fun a ha=>Nat.le_trans (m0g dC a ha) dC) rfl rfl (d1c ⟨rfl,n0d dC⟩ (X8 dC) rfl (m0g dC) dC dC dC)
 have e3:H0f (ech (mI [[1,1],[2,2]]) (f5 (iV [1,3])) 2) 2=4:=by decide +kernel
 rw [e3] at h
 exact ⟨_,_,h⟩
theorem F1b (l:List Int)(v:Bool)(hl:l.length=2)(hs:sI l=true)(h:v1r 2 (mI [[1,1],[2,2]]) (iV [1,3]) (iV l)=v):l3 E 25 [pMq 2 (mI [[1,1],[2,2]]),pV (iV [1,3]),pV (iV l)] (bZ v):=by
 have:=b1s 2 1 (mI [[1,1],[2,2]]) (iV [1,3]) (iV l) (w0x dC dC dC) (X8 dC) (m0g dC) (m0g hs) rfl (by rw [k0p,hl]; rfl) dC dC dC
 rwa [h] at this
theorem P1a:l3 E 41 [pMq 2 (mI [[1,2],[3,4]]),pMq 2 (mI [[0,1],[1,0]])] (.tup [pMq 2 (mI [[2,1],[4,3]]),vZ 0]):=by
 have h:=m1q 2 2 1 (mI [[1,2],[3,4]]) (mI [[0,1],[1,0]]) (w0x dC dC dC) (w0x dC dC dC) (X8 dC) (X8 dC) dC rfl
 have e:P0d 2 (mI [[1,2],[3,4]]) (mI [[0,1],[1,0]])=mI [[2,1],[4,3]]:=by decide +kernel
 rw [e] at h
 exact h
theorem N1k:l3 E 31 [pMq 2 (mI [[2,1],[4,3]])] (.tup [pQ ((2:Int):Rat),vZ 0]):=by
 have h:=F1s 2 BB DD (mI [[2,1],[4,3]]) (w0x dC dC dC) ((X8 dC).mono dC) rfl (P0j ⟨rfl,n0d dC⟩ (X8 dC) dC dC dC)
 have e:k1k 2 (mI [[2,1],[4,3]]) (nob 2)=((2:Int):Rat):=by decide +kernel
 rw [e] at h
 exact h
theorem P1p:∃ y,l3 E 30 [pMl (mI [[1,0,1],[2,0,2],[0,1,1]]),pV (iV [3,1,4])] (.tup [pV (iV [3,0,1]),pV y,vZ 0]):=by
 have hl:∀ r∈mI [[1,0,1],[2,0,2],[0,1,1]],r.length=3:=n0d dC
 have h:=P0f BB DD (mI [[1,0,1],[2,0,2],[0,1,1]]) (iV [3,1,4]) hl dC dC ((X8 dC).mono dC) (fun a ha=>Nat.le_trans (m0g dC a ha) dC) (d1c Q1h (P1v hl (X8 dC)) rfl (m0g dC) dC dC dC)
 have e1:P0b 3 (ech (trM 3 (mI [[1,0,1],[2,0,2],[0,1,1]])) (f5 (iV [3,1,4])) 3) 3=iV [3,0,1]:=by decide +kernel
 have e3:H0f (ech (trM 3 (mI [[1,0,1],[2,0,2],[0,1,1]])) (f5 (iV [3,1,4])) 3) 3=0:=by decide +kernel
 rw [show (mI [[1,0,1],[2,0,2],[0,1,1]]).length=3 from rfl,show (iV [3,1,4]).length=3 from rfl,e1,e3] at h
 exact ⟨_,h⟩
theorem vI (l:List Int)(h:sI l=true)(hl:l.length<1000):l3 E 48 [pJ l] (pV (iV l)):=G1k l hl fun z hz=>by simpa using s0.1 h z hz
theorem mtI (c:Int)(L:List (List Int)):l3 E 47 [vZ c,pMr (mI L)] (pMq c (mI L)):=B1w c (mI L)
theorem k1c (c:Int)(L:List (List Int))(h1:L.length<1000)(h:(L.all fun l=>decide (l.length<1000))=true)(hb:L.all sI=true):l3 E 17 [pMq c (mI L),pMq c (mI L)] (bZ true) :=
 W0j (B:=1) (by simp [mI]; omega) (fun r hr=>by
  obtain ⟨l,hl,rfl⟩:=G0.1 hr
  have:=s0.1 h l hl
  rw [k0p]; simp at this; omega) (X8 hb) dC
theorem J1g (L:List (List Int))(h1:L.length<1000)(h:(L.all fun l=>decide (l.length<1000))=true)(hb:L.all sI=true):l3 E 19 [pMr (mI L),pMr (mI L)] (bZ true) :=
 J0x (B:=1) (by simp [mI]; omega) (fun r hr=>by
  obtain ⟨l,hl,rfl⟩:=G0.1 hr
  have:=s0.1 h l hl
  rw [k0p]; simp at this; omega) (X8 hb) dC
theorem h1p (l:List Int)(h:sI l=true)(hl:l.length<1000):l3 E 29 [pV (iV l),pV (iV l)] (bZ true):=G1f (B:=1) sO (m0g h) dC
theorem q0z  : l3 E 12 [] (bZ true):=by
 refine D2 (xs:=[bZ true]) Tryz.func12 rfl Tryz.ntmps12 Tryz.results12 sM fun F hG hX0 hnt hdf P0=>?_
 obtain ⟨L,hX,hN⟩:=pro hnt hX0 hG
 obtain ⟨nx,ny,hnon⟩:=Q1k
 obtain ⟨cy,hcom⟩:=P1p
 have hc1:=F1b [-2,1] true rfl dC (by decide +kernel)
 have hc2:=F1b [2,-1] false rfl dC (by decide +kernel)
 refine exr (aV L rfl (zn [] [] trivial trivial (exr (sw (B4 (vs:=[_,_,_]) un27 ti3 rfl rfl dC dC rfl (M2 (.cons rfl .nil) rfl) rfl (.cons rfl (.atom rfl) rfl pu1 (.cons rfl (.atom rfl) rfl (.skip pu1) (.cons rfl (.atom rfl) rfl (.skip (.skip pu1)) .nil))) (.cons (.cons (.cons .nil))) L) t3 t0 (cK hG hX cl48 hN (vI [0,2,4] dC dC) L t1 (sw (B4 (vs:=[_,_,_]) un27 ti3 rfl rfl dC dC rfl (M2 (.cons rfl .nil) rfl) rfl (.cons rfl (.atom rfl) rfl pu1 (.cons rfl (.atom rfl) rfl (.skip pu1) (.cons rfl (.atom rfl) rfl (.skip (.skip pu1)) .nil))) (.cons (.cons (.cons .nil))) L) t3 t0 (cK hG hX cl48 hN (vI [1,1,1] dC dC) L t1 (sw (B4 (vs:=[_,_,_]) un27 ti3 rfl rfl dC dC rfl (M2 (.cons rfl .nil) rfl) rfl (.cons rfl (.atom rfl) rfl pu1 (.cons rfl (.atom rfl) rfl (.skip pu1) (.cons rfl (.atom rfl) rfl (.skip (.skip pu1)) .nil))) (.cons (.cons (.cons .nil))) L) t3 t0 (cK hG hX cl48 hN (vI [1,2,3] dC dC) L t1 (sw (B4 (vs:=[_,_,_]) un22 ti40 rfl rfl dC dC rfl (M2 (.cons rfl .nil) rfl) rfl (.cons rfl .sl rfl pu1 (.cons rfl .sl rfl (.skip pu1) (.cons rfl .sl rfl (.skip (.skip pu1)) .nil))) (.cons (.cons (.cons .nil))) L) t3 t0 (cK hG hX cl47 hN (mtI 3 [[0,2,4],[1,1,1],[1,2,3]]) L t2 ?_)))))))))))
 refine swb (O3 (k:=1) (n:=2) zv24 (.cons rfl (.cons rfl .nil)) rfl (P0 _ rfl) L) t0 t0 ⟨rfl,rfl⟩ (sb (Y2 sz24 rF pa2 rfl pu2) t2 t1 ?_)
 refine zn [(1,_)] [(1,_)] t1 t1 (exr (lp2 ag24 sz24 L rfl rfl (cK hG hX cl13 hN P1h L t1 (mV L rfl (sw (R3 rfl L) t1 t0 (sw (R3 rfl L) t1 t0 (sw (R3 rfl L) t1 t0 (swb (O3 (k:=2) (n:=2) zv24 (.cons rfl (.cons rfl .nil)) rfl (P0 _ rfl) L) t0 t0 ⟨rfl,rfl⟩ (sb (Y2 sz24 rF pa2 rfl pu2) t2 t1 ?_)))))))))
 refine aV L rfl (aV L rfl (zn [(1,_),(2,_),(3,_),(4,_)] [(1,_),(2,_)] t4 t2 (R1 (exd rF ?_))))
 refine mV L rfl (sw (c_n L) t2 t0 (mV L rfl (swg (g:=30) rfl rfl (y6 ag24 sz24 rF (by exact al2) rfl L) rfl t1 t1 ?_)))
 refine swg (g:=30) rfl rfl (B4 (vs:=[_,_,_]) un27 ti3 rfl rfl dC dC rfl (M2 (.cons rfl .nil) rfl) rfl (.cons rfl (.atom rfl) rfl pu1 (.cons rfl (.atom rfl) rfl (.skip pu1) (.cons rfl (.atom rfl) rfl (.skip (.skip pu1)) .nil))) (.cons (.cons (.cons .nil))) L) rfl t3 t0 (swg (g:=30) rfl rfl (c_c hG hX cl48 rfl hN (vI [1,0,-1] dC dC) L) rfl t1 t0 (swg (g:=30) rfl rfl (B4 (vs:=[_,_,_]) un27 ti3 rfl rfl dC dC rfl (M2 (.cons rfl .nil) rfl) rfl (.cons rfl (.atom rfl) rfl pu1 (.cons rfl (.atom rfl) rfl (.skip pu1) (.cons rfl (.atom rfl) rfl (.skip (.skip pu1)) .nil))) (.cons (.cons (.cons .nil))) L) rfl t3 t0 (swg (g:=30) rfl rfl (c_c hG hX cl48 rfl hN (vI [0,1,2] dC dC) L) rfl t1 t0 (swg (g:=30) rfl rfl (B4 (vs:=[_,_]) un22 ti40 rfl rfl dC dC rfl (M2 (.cons rfl .nil) rfl) rfl (.cons rfl .sl rfl pu1 (.cons rfl .sl rfl (.skip pu1) .nil)) (.cons (.cons .nil)) L) rfl t2 t0 (swg (g:=30) rfl rfl (c_c hG hX cl47 rfl hN (mtI 3 [[1,0,-1],[0,1,2]]) L) rfl t2 t0 (swg (g:=30) rfl rfl (c_c hG hX cl17 rfl hN (k1c 3 [[1,0,-1],[0,1,2]] dC dC dC) L) rfl t2 t0 (swg (g:=30) rfl rfl (v4 L) rfl t1 t0 (sw (n4 rfl L) t2 t0 (mV L rfl (gV (g:=41) rfl rfl L rfl rfl (swg (g:=41) rfl rfl (U2 un27 L) rfl t1 t0 ?_)))))))))))
 refine swg (g:=41) rfl rfl (c_n L) rfl t2 t0 (sw (n4 rfl L) t2 t0 (mV L rfl (gV (g:=46) rfl rfl L rfl rfl (swg (g:=46) rfl rfl (ixJ un27 sz3 (j:=0) rO dC sM L) rfl t2 t0 ?_))))
 refine swg (g:=46) rfl rfl (d4 ag3 (H0z (l:=[0,1]) (k:=0) dC) L) rfl t1 t0 (swg (g:=46) rfl rfl (c_n L) rfl t2 t0 (sw (n4 rfl L) t2 t0 (mV L rfl (gV (g:=52) rfl rfl L rfl rfl (swg (g:=52) rfl rfl (ixJ un27 sz3 (j:=1) rO dC sM L) rfl t2 t0 ?_)))))
 refine swg (g:=52) rfl rfl (d4 ag3 (H0z (l:=[0,1]) (k:=1) dC) L) rfl t1 t0 (swg (g:=52) rfl rfl (c_n L) rfl t2 t0 (sw (n4 rfl L) t2 t0 ?_))
 refine O1 ⟨Z4 [⟨[4],[],[28],[]⟩,⟨[28],[],[29],[]⟩,⟨[29],[],[30],[]⟩,⟨[30,2],[2],[31],[]⟩,⟨[30],[],[32],[]⟩,⟨[30,32],[],[33],[]⟩,⟨[30],[],[34],[]⟩,⟨[30,34],[],[35],[]⟩,⟨[30,33,35],[],[36],[]⟩,⟨[30,36],[],[37],[]⟩,⟨[30,31,37],[],[38],[]⟩,⟨[30,38],[],[39],[]⟩,⟨[30,39],[],[40],[]⟩,⟨[40],[],[41],[]⟩,⟨[41,3],[],[42],[]⟩,⟨[41,42],[],[43],[]⟩,⟨[41,43],[],[44],[]⟩,⟨[41,44],[],[45],[]⟩,⟨[45],[],[46],[]⟩,⟨[46,3],[],[47],[]⟩,⟨[46,47],[],[48],[]⟩,⟨[46,48],[],[49],[]⟩,⟨[46,49],[],[50],[]⟩,⟨[46,50],[],[51],[]⟩,⟨[51],[],[52],[]⟩,⟨[52,3],[],[53],[]⟩,⟨[52,53],[],[54],[]⟩,⟨[52,54],[],[55],[]⟩,⟨[52,55],[],[56],[]⟩,⟨[52,56],[],[57],[]⟩] rF rF dC,[(1,_),(57,_)],[(1,_)],t2,t1,?_⟩
 refine j4 rfl rfl ?_
 refine U1 (xq ?_)
 refine exr (lp2 ag24 sz24 L rfl rfl (cK hG hX cl14 hN P1x L t1 (mV L rfl (sw (R3 rfl L) t1 t0 (sw (R3 rfl L) t1 t0 (aV L rfl (aV L rfl (zn [(4,_),(5,_)] [] t2 trivial (R1 (exr (mV L rfl ?_)))))))))))
 refine sw (c_n L) t2 t0 (mV L rfl (gV (g:=65) rfl rfl L rfl rfl (swg (g:=65) rfl rfl (B4 (vs:=[_,_,_]) un27 ti3 rfl rfl dC dC rfl (M2 (.cons rfl .nil) rfl) rfl (.cons rfl (.atom rfl) rfl pu1 (.cons rfl (.atom rfl) rfl (.skip pu1) (.cons rfl (.atom rfl) rfl (.skip (.skip pu1)) .nil))) (.cons (.cons (.cons .nil))) L) rfl t3 t0 (swg (g:=65) rfl rfl (c_c hG hX cl48 rfl hN (vI [1,-2,1] dC dC) L) rfl t1 t0 (swg (g:=65) rfl rfl (B4 (vs:=[_]) un22 ti40 rfl rfl dC dC rfl (M2 (.cons rfl .nil) rfl) rfl (.cons rfl .sl rfl pu1 .nil) (.cons .nil) L) rfl t1 t0 (swg (g:=65) rfl rfl (c_c hG hX cl19 rfl hN (J1g [[1,-2,1]] dC dC dC) L) rfl t2 t0 (swg (g:=65) rfl rfl (v4 L) rfl t1 t0 (sw (n4 rfl L) t2 t0 (zn [(72,_)] [] t1 trivial (j4 rfl rfl ?_))))))))))
 refine U1 (xq ?_)
 refine exr (sw (B4 (vs:=[_,_]) un27 ti3 rfl rfl dC dC rfl (M2 (.cons rfl .nil) rfl) rfl (.cons rfl (.atom rfl) rfl pu1 (.cons rfl (.atom rfl) rfl (.skip pu1) .nil)) (.cons (.cons .nil)) L) t2 t0 (cK hG hX cl48 hN (vI [1,1] dC dC) L t1 (sw (B4 (vs:=[_,_]) un27 ti3 rfl rfl dC dC rfl (M2 (.cons rfl .nil) rfl) rfl (.cons rfl (.atom rfl) rfl pu1 (.cons rfl (.atom rfl) rfl (.skip pu1) .nil)) (.cons (.cons .nil)) L) t2 t0 (cK hG hX cl48 hN (vI [1,-1] dC dC) L t1 (sw (B4 (vs:=[_,_]) un22 ti40 rfl rfl dC dC rfl (M2 (.cons rfl .nil) rfl) rfl (.cons rfl .sl rfl pu1 (.cons rfl .sl rfl (.skip pu1) .nil)) (.cons (.cons .nil)) L) t2 t0 (cK hG hX cl47 hN (mtI 2 [[1,1],[1,-1]]) L t2 (sw (B4 (vs:=[_,_]) un27 ti3 rfl rfl dC dC rfl (M2 (.cons rfl .nil) rfl) rfl (.cons rfl (.atom rfl) rfl pu1 (.cons rfl (.atom rfl) rfl (.skip pu1) .nil)) (.cons (.cons .nil)) L) t2 t0 (cK hG hX cl48 hN (vI [3,1] dC dC) L t1 (cK hG hX cl24 hN N1j L t2 (mV L rfl (sw (R3 rfl L) t1 t0 ?_)))))))))))
 refine sw (R3 rfl L) t1 t0 (sw (R3 rfl L) t1 t0 (aV L rfl (aV L rfl (aV L rfl (zn [(4,_),(6,_)] [] t2 trivial (R1 (exr (mV L rfl (sw (c_n L) t2 t0 (mV L rfl (gV (g:=88) rfl rfl L rfl rfl ?_)))))))))))
 refine swg (g:=88) rfl rfl (B4 (vs:=[_,_]) un27 ti3 rfl rfl dC dC rfl (M2 (.cons rfl .nil) rfl) rfl (.cons rfl (.atom rfl) rfl pu1 (.cons rfl (.atom rfl) rfl (.skip pu1) .nil)) (.cons (.cons .nil)) L) rfl t2 t0 (swg (g:=88) rfl rfl (c_c hG hX cl48 rfl hN (vI [2,1] dC dC) L) rfl t1 t0 (swg (g:=88) rfl rfl (c_c hG hX cl29 rfl hN (h1p [2,1] dC dC) L) rfl t2 t0 (swg (g:=88) rfl rfl (v4 L) rfl t1 t0 (sw (n4 rfl L) t2 t0 (zn [(94,_)] [] t1 trivial (j4 rfl rfl ?_))))))
 refine U1 (xq ?_)
 refine exr (sw (B4 (vs:=[_,_]) un27 ti3 rfl rfl dC dC rfl (M2 (.cons rfl .nil) rfl) rfl (.cons rfl (.atom rfl) rfl pu1 (.cons rfl (.atom rfl) rfl (.skip pu1) .nil)) (.cons (.cons .nil)) L) t2 t0 (cK hG hX cl48 hN (vI [1,1] dC dC) L t1 (sw (B4 (vs:=[_,_]) un27 ti3 rfl rfl dC dC rfl (M2 (.cons rfl .nil) rfl) rfl (.cons rfl (.atom rfl) rfl pu1 (.cons rfl (.atom rfl) rfl (.skip pu1) .nil)) (.cons (.cons .nil)) L) t2 t0 (cK hG hX cl48 hN (vI [2,2] dC dC) L t1 (sw (B4 (vs:=[_,_]) un22 ti40 rfl rfl dC dC rfl (M2 (.cons rfl .nil) rfl) rfl (.cons rfl .sl rfl pu1 (.cons rfl .sl rfl (.skip pu1) .nil)) (.cons (.cons .nil)) L) t2 t0 (cK hG hX cl47 hN (mtI 2 [[1,1],[2,2]]) L t2 (swb (O3 (k:=8) (n:=2) zv24 (.cons rfl (.cons rfl .nil)) rfl (P0 _ rfl) L) t0 t0 ⟨rfl,rfl⟩ (sb (Y2 sz24 rF pa2 rfl pu2) t2 t1 ?_))))))))
 refine zn [(8,_)] [(8,_)] t1 t1 (exd rF ?_)
 refine lp2 ag24 sz24 L rfl rfl (sw (B4 (vs:=[_,_]) un27 ti3 rfl rfl dC dC rfl (M2 (.cons rfl .nil) rfl) rfl (.cons rfl (.atom rfl) rfl pu1 (.cons rfl (.atom rfl) rfl (.skip pu1) .nil)) (.cons (.cons .nil)) L) t2 t0 (cK hG hX cl48 hN (vI [1,3] dC dC) L t1 (cK hG hX cl24 hN hnon L t2 (mV L rfl (sw (R3 rfl L) t1 t0 (sw (R3 rfl L) t1 t0 (sw (R3 rfl L) t1 t0 (aV L rfl ?_))))))))
 refine O1 ⟨Z4 [⟨[8],[8],[102],[]⟩,⟨[],[],[103],[]⟩,⟨[103],[],[104],[]⟩,⟨[102,104],[],[105],[]⟩,⟨[105],[],[101],[]⟩,⟨[101],[],[106],[]⟩,⟨[101],[],[107],[]⟩,⟨[101],[],[108],[]⟩,⟨[108],[],[4],[]⟩] rF rF dC,[(4,_),(8,_)],[(8,_)],t2,t1,?_⟩
 refine R1 (exd rF ?_)
 refine mV L rfl (sw (c_n L) t2 t0 (mV L rfl (swg (g:=111) rfl rfl (y6 ag24 sz24 rF (by exact al2) rfl L) rfl t1 t1 ?_)))
 refine swg (g:=111) rfl rfl (B4 (vs:=[_,_]) un27 ti3 rfl rfl dC dC rfl (M2 (.cons rfl .nil) rfl) rfl (.cons rfl (.atom rfl) rfl pu1 (.cons rfl (.atom rfl) rfl (.skip pu1) .nil)) (.cons (.cons .nil)) L) rfl t2 t0 (swg (g:=111) rfl rfl (c_c hG hX cl48 rfl hN (vI [1,3] dC dC) L) rfl t1 t0 (swg (g:=111) rfl rfl (B4 (vs:=[_,_]) un27 ti3 rfl rfl dC dC rfl (M2 (.cons rfl .nil) rfl) rfl (.cons rfl (.atom rfl) rfl pu1 (.cons rfl (.atom rfl) rfl (.skip pu1) .nil)) (.cons (.cons .nil)) L) rfl t2 t0 (swg (g:=111) rfl rfl (c_c hG hX cl48 rfl hN (vI [-2,1] dC dC) L) rfl t1 t0 (swg (g:=111) rfl rfl (c_c hG hX cl25 rfl hN hc1 L) rfl t3 t0 (swg (g:=111) rfl rfl (v4 L) rfl t1 t0 (sw (n4 rfl L) t2 t0 (mV L rfl (swg (g:=120) rfl rfl (y6 ag24 sz24 rF (by exact al2) rfl L) rfl t1 t1 ?_))))))))
 refine swg (g:=120) rfl rfl (B4 (vs:=[_,_]) un27 ti3 rfl rfl dC dC rfl (M2 (.cons rfl .nil) rfl) rfl (.cons rfl (.atom rfl) rfl pu1 (.cons rfl (.atom rfl) rfl (.skip pu1) .nil)) (.cons (.cons .nil)) L) rfl t2 t0 (swg (g:=120) rfl rfl (c_c hG hX cl48 rfl hN (vI [1,3] dC dC) L) rfl t1 t0 (swg (g:=120) rfl rfl (B4 (vs:=[_,_]) un27 ti3 rfl rfl dC dC rfl (M2 (.cons rfl .nil) rfl) rfl (.cons rfl (.atom rfl) rfl pu1 (.cons rfl (.atom rfl) rfl (.skip pu1) .nil)) (.cons (.cons .nil)) L) rfl t2 t0 (swg (g:=120) rfl rfl (c_c hG hX cl48 rfl hN (vI [2,-1] dC dC) L) rfl t1 t0 (swg (g:=120) rfl rfl (c_c hG hX cl25 rfl hN hc2 L) rfl t3 t0 (sw (n4 rfl L) t2 t0 ?_)))))
 refine O1 ⟨Z4 [⟨[4],[],[109],[]⟩,⟨[109],[],[110],[]⟩,⟨[110],[],[111],[]⟩,⟨[111,8],[8],[112],[]⟩,⟨[111],[],[113],[]⟩,⟨[111,113],[],[114],[]⟩,⟨[111],[],[115],[]⟩,⟨[111,115],[],[116],[]⟩,⟨[111,112,114,116],[],[117],[]⟩,⟨[111,117],[],[118],[]⟩,⟨[111,118],[],[119],[]⟩,⟨[119],[],[120],[]⟩,⟨[120,8],[8],[121],[]⟩,⟨[120],[],[122],[]⟩,⟨[120,122],[],[123],[]⟩,⟨[120],[],[124],[]⟩,⟨[120,124],[],[125],[]⟩,⟨[120,121,123,125],[],[126],[]⟩,⟨[120,126],[],[127],[]⟩] rF rF dC,[(127,_)],[],t1,trivial,?_⟩
 refine j4 rfl rfl ?_
 refine U1 (xq ?_)
 refine exr (sw (B4 (vs:=[_,_]) un27 ti3 rfl rfl dC dC rfl (M2 (.cons rfl .nil) rfl) rfl (.cons rfl (.atom rfl) rfl pu1 (.cons rfl (.atom rfl) rfl (.skip pu1) .nil)) (.cons (.cons .nil)) L) t2 t0 (cK hG hX cl48 hN (vI [1,2] dC dC) L t1 (sw (B4 (vs:=[_,_]) un27 ti3 rfl rfl dC dC rfl (M2 (.cons rfl .nil) rfl) rfl (.cons rfl (.atom rfl) rfl pu1 (.cons rfl (.atom rfl) rfl (.skip pu1) .nil)) (.cons (.cons .nil)) L) t2 t0 (cK hG hX cl48 hN (vI [3,4] dC dC) L t1 (sw (B4 (vs:=[_,_]) un22 ti40 rfl rfl dC dC rfl (M2 (.cons rfl .nil) rfl) rfl (.cons rfl .sl rfl pu1 (.cons rfl .sl rfl (.skip pu1) .nil)) (.cons (.cons .nil)) L) t2 t0 (cK hG hX cl47 hN (mtI 2 [[1,2],[3,4]]) L t2 (sw (B4 (vs:=[_,_]) un27 ti3 rfl rfl dC dC rfl (M2 (.cons rfl .nil) rfl) rfl (.cons rfl (.atom rfl) rfl pu1 (.cons rfl (.atom rfl) rfl (.skip pu1) .nil)) (.cons (.cons .nil)) L) t2 t0 (cK hG hX cl48 hN (vI [0,1] dC dC) L t1 (sw (B4 (vs:=[_,_]) un27 ti3 rfl rfl dC dC rfl (M2 (.cons rfl .nil) rfl) rfl (.cons rfl (.atom rfl) rfl pu1 (.cons rfl (.atom rfl) rfl (.skip pu1) .nil)) (.cons (.cons .nil)) L) t2 t0 (cK hG hX cl48 hN (vI [1,0] dC dC) L t1 (sw (B4 (vs:=[_,_]) un22 ti40 rfl rfl dC dC rfl (M2 (.cons rfl .nil) rfl) rfl (.cons rfl .sl rfl pu1 (.cons rfl .sl rfl (.skip pu1) .nil)) (.cons (.cons .nil)) L) t2 t0 ?_)))))))))))
 refine cK hG hX cl47 hN (mtI 2 [[0,1],[1,0]]) L t2 (cK hG hX cl41 hN P1a L t2 (mV L rfl (sw (R3 rfl L) t1 t0 (sw (R3 rfl L) t1 t0 (swb (O3 (k:=9) (n:=2) zv24 (.cons rfl (.cons rfl .nil)) rfl (P0 _ rfl) L) t0 t0 ⟨rfl,rfl⟩ (sb (Y2 sz24 rF pa2 rfl pu2) t2 t1 ?_))))))
 refine aV L rfl (zn [(4,_),(9,_)] [(9,_)] t2 t1 (R1 (exd rF ?_)))
 refine mV L rfl (sw (c_n L) t2 t0 (mV L rfl (swg (g:=146) rfl rfl (y6 ag24 sz24 rF (by exact al2) rfl L) rfl t1 t1 ?_)))
 refine swg (g:=146) rfl rfl (B4 (vs:=[_,_]) un27 ti3 rfl rfl dC dC rfl (M2 (.cons rfl .nil) rfl) rfl (.cons rfl (.atom rfl) rfl pu1 (.cons rfl (.atom rfl) rfl (.skip pu1) .nil)) (.cons (.cons .nil)) L) rfl t2 t0 (swg (g:=146) rfl rfl (c_c hG hX cl48 rfl hN (vI [2,1] dC dC) L) rfl t1 t0 (swg (g:=146) rfl rfl (B4 (vs:=[_,_]) un27 ti3 rfl rfl dC dC rfl (M2 (.cons rfl .nil) rfl) rfl (.cons rfl (.atom rfl) rfl pu1 (.cons rfl (.atom rfl) rfl (.skip pu1) .nil)) (.cons (.cons .nil)) L) rfl t2 t0 (swg (g:=146) rfl rfl (c_c hG hX cl48 rfl hN (vI [4,3] dC dC) L) rfl t1 t0 (swg (g:=146) rfl rfl (B4 (vs:=[_,_]) un22 ti40 rfl rfl dC dC rfl (M2 (.cons rfl .nil) rfl) rfl (.cons rfl .sl rfl pu1 (.cons rfl .sl rfl (.skip pu1) .nil)) (.cons (.cons .nil)) L) rfl t2 t0 (swg (g:=146) rfl rfl (c_c hG hX cl47 rfl hN (mtI 2 [[2,1],[4,3]]) L) rfl t2 t0 (swg (g:=146) rfl rfl (c_c hG hX cl17 rfl hN (k1c 2 [[2,1],[4,3]] dC dC dC) L) rfl t2 t0 (swg (g:=146) rfl rfl (v4 L) rfl t1 t0 (sw (n4 rfl L) t2 t0 ?_))))))))
 refine O1 ⟨Z4 [⟨[4],[],[144],[]⟩,⟨[144],[],[145],[]⟩,⟨[145],[],[146],[]⟩,⟨[146,9],[9],[147],[]⟩,⟨[146],[],[148],[]⟩,⟨[146,148],[],[149],[]⟩,⟨[146],[],[150],[]⟩,⟨[146,150],[],[151],[]⟩,⟨[146,149,151],[],[152],[]⟩,⟨[146,152],[],[153],[]⟩,⟨[146,147,153],[],[154],[]⟩,⟨[146,154],[],[155],[]⟩,⟨[146,155],[],[156],[]⟩] rF rF dC,[(9,_),(156,_)],[(9,_)],t2,t1,?_⟩
 refine j4 rfl rfl ?_
 refine U1 (xq ?_)
 refine exr (lp2 ag24 sz24 L rfl rfl (cK hG hX cl31 hN N1k L t1 (mV L rfl (sw (R3 rfl L) t1 t0 (sw (R3 rfl L) t1 t0 (swb (O3 (k:=10) (n:=4) zv47 (.cons rfl (.cons rfl (.cons rfl (.cons rfl .nil)))) rfl (P0 _ rfl) L) t0 t0 ⟨rfl,rfl⟩ (sb (Y2 sz47 rF pa4 rfl pu4) t2 t1 ?_)))))))
 refine aV L rfl (zn [(4,_),(10,_)] [(10,_)] t2 t1 (exr (sw (B4 (vs:=[_,_,_]) un27 ti3 rfl rfl dC dC rfl (M2 (.cons rfl .nil) rfl) rfl (.cons rfl (.atom rfl) rfl pu1 (.cons rfl (.atom rfl) rfl (.skip pu1) (.cons rfl (.atom rfl) rfl (.skip (.skip pu1)) .nil))) (.cons (.cons (.cons .nil))) L) t3 t0 (cK hG hX cl48 hN (vI [1,0,1] dC dC) L t1 (sw (B4 (vs:=[_,_,_]) un27 ti3 rfl rfl dC dC rfl (M2 (.cons rfl .nil) rfl) rfl (.cons rfl (.atom rfl) rfl pu1 (.cons rfl (.atom rfl) rfl (.skip pu1) (.cons rfl (.atom rfl) rfl (.skip (.skip pu1)) .nil))) (.cons (.cons (.cons .nil))) L) t3 t0 (cK hG hX cl48 hN (vI [2,0,2] dC dC) L t1 (sw (B4 (vs:=[_,_,_]) un27 ti3 rfl rfl dC dC rfl (M2 (.cons rfl .nil) rfl) rfl (.cons rfl (.atom rfl) rfl pu1 (.cons rfl (.atom rfl) rfl (.skip pu1) (.cons rfl (.atom rfl) rfl (.skip (.skip pu1)) .nil))) (.cons (.cons (.cons .nil))) L) t3 t0 (cK hG hX cl48 hN (vI [0,1,1] dC dC) L t1 (sw (B4 (vs:=[_,_,_]) un22 ti40 rfl rfl dC dC rfl (M2 (.cons rfl .nil) rfl) rfl (.cons rfl .sl rfl pu1 (.cons rfl .sl rfl (.skip pu1) (.cons rfl .sl rfl (.skip (.skip pu1)) .nil))) (.cons (.cons (.cons .nil))) L) t3 t0 (sw (B4 (vs:=[_,_,_]) un27 ti3 rfl rfl dC dC rfl (M2 (.cons rfl .nil) rfl) rfl (.cons rfl (.atom rfl) rfl pu1 (.cons rfl (.atom rfl) rfl (.skip pu1) (.cons rfl (.atom rfl) rfl (.skip (.skip pu1)) .nil))) (.cons (.cons (.cons .nil))) L) t3 t0 (cK hG hX cl48 hN (vI [3,1,4] dC dC) L t1 ?_)))))))))))
 refine cK hG hX cl30 hN hcom L t2 (mV L rfl (sw (R3 rfl L) t1 t0 (sw (R3 rfl L) t1 t0 (sw (R3 rfl L) t1 t0 (aV L rfl (aV L rfl (aV L rfl (zn [(4,_),(10,_),(11,_),(13,_)] [(10,_)] t4 t1 (exd rF ?_)))))))))
 refine mV L rfl (sw (c_e L) t2 t0 (mV L rfl (gV (g:=178) rfl rfl L rfl rfl (swg (g:=178) rfl rfl (c_e L) rfl t2 t0 (sw (Y4 rfl L) t2 t0 (mV L rfl (swg (g:=182) rfl rfl (y6 ag47 sz47 rF (by exact al4) rfl L) rfl t1 t1 ?_)))))))
 refine swg (g:=182) rfl rfl (c_c hG hX cl49 rfl hN (b0y 2 dC dC) L) rfl t1 t0 (swg (g:=182) rfl rfl (c_c hG hX cl33 rfl hN (W0n ((2:Int):Rat) ((2:Int):Rat) (by decide +kernel) (by decide +kernel)) L) rfl t2 t0 ?_)
 refine sw (Y4 rfl L) t2 t0 (mV L rfl (gV (g:=187) rfl rfl L rfl rfl (swg (g:=187) rfl rfl (B4 (vs:=[_,_,_]) un27 ti3 rfl rfl dC dC rfl (M2 (.cons rfl .nil) rfl) rfl (.cons rfl (.atom rfl) rfl pu1 (.cons rfl (.atom rfl) rfl (.skip pu1) (.cons rfl (.atom rfl) rfl (.skip (.skip pu1)) .nil))) (.cons (.cons (.cons .nil))) L) rfl t3 t0 (swg (g:=187) rfl rfl (c_c hG hX cl48 rfl hN (vI [3,0,1] dC dC) L) rfl t1 t0 (swg (g:=187) rfl rfl (c_c hG hX cl29 rfl hN (h1p [3,0,1] dC dC) L) rfl t2 t0 (sw (Y4 rfl L) t2 t0 (aV L rfl ?_)))))))
 refine O1 ⟨Z4 [⟨[4],[],[176],[]⟩,⟨[176],[],[177],[]⟩,⟨[177],[],[178],[]⟩,⟨[178,13],[],[179],[]⟩,⟨[178,179],[],[180],[]⟩,⟨[178,180],[],[181],[]⟩,⟨[181],[],[182],[]⟩,⟨[182,10],[10],[183],[]⟩,⟨[182],[],[184],[]⟩,⟨[182,183,184],[],[185],[]⟩,⟨[182,185],[],[186],[]⟩,⟨[186],[],[187],[]⟩,⟨[187,11],[],[188],[]⟩,⟨[187],[],[189],[]⟩,⟨[187,189],[],[190],[]⟩,⟨[187,188,190],[],[191],[]⟩,⟨[187,191],[],[192],[]⟩,⟨[192],[],[0],[]⟩] rF rF dC,[(0,_)],[],t1,trivial,?_⟩
 refine X1 ?_
 refine Q0 (.tmp rfl) ?_
 rfl
def WdM (m:List (List RQ)):Prop:=∀ r∈m,∀ q∈r,q.wd
theorem M0q {n:Nat}{c:Int}{m:List (List RQ)}(hn:n<1000)(hw:WdM m)(h:J8 n c m=true):MSm m:=by
 rw [J8,j0,decide_eq_true_iff,s0] at h
 refine ⟨by omega,fun r hr=>?_⟩
 have h1:=h.2 r hr
 rw [smV,j0,decide_eq_true_iff,s0] at h1
 refine ⟨by omega,fun a ha=>?_⟩
 have h2:=h1.2 a ha
 rw [smW,decide_eq_true_iff] at h2
 exact ⟨hw r hr a ha,by omega,by omega⟩
theorem K1k {n:Nat}{c:Int}{M:List (List Rat)}(h:J8 n c (M.map (List.map RQ.of))=true):M.length≤n∧(∀ r∈M,r.length≤n)∧MB 6 M:=by
 rw [J8,j0,decide_eq_true_iff,s0,O0] at h
 have key:∀ r∈M,r.length≤n∧∀ a∈r,qw a≤6:=fun r hr=>by
  have h1:=h.2 _ (List.mem_map_of_mem hr)
  rw [smV,j0,decide_eq_true_iff,s0,O0] at h1
  refine ⟨h1.1,fun a ha=>?_⟩
  have h2:=h1.2 _ (List.mem_map_of_mem ha)
  rw [smW,decide_eq_true_iff] at h2
  exact Nat.max_le.2 h2
 exact ⟨h.1.1,fun r hr=>(key r hr).1,fun r hr=>(key r hr).2⟩
theorem d1r {n:Nat}{c:Nat}{m:List (List RQ)}(h:J8 n c m=true)(hc:c≤60):c≤n:=by
 rw [J8,j0,decide_eq_true_iff] at h
 omega
theorem G1a {n:Nat}{c:Int}{m:List (List RQ)}(hn:n<1000)(hw:WdM m)(h:J8 n c m=true)(hi:isM c m=true):∃ (k:Nat) (M:List (List Rat)),c=k∧m=M.map (List.map RQ.of)∧MOk k M∧k≤n∧M.length≤n∧MB 6 M:=by
 obtain ⟨k,M,rfl,rfl,hM⟩:=P1s (M0q hn hw h) hi
 have:=K1k h
 exact ⟨k,M,rfl,rfl,hM,d1r h hM.cols,this.1,this.2.2⟩
end Go.Proofs.YtjagfionflbjbaaGreat.N
namespace Go.Proofs.YtjagfionflbjbaaGreat.SH
open Go Go.RowKit Go.ChangeShapes Go.WideShapes Go.ChangeAt
variable {H:Type} {enc:TypeId×Value→H} {P:Program}
theorem m0a (hl:laidOutB P=true){W W':World}(hb:Below W.heap.size W W'):∀ {ts:List TypeId} {vs:List Value} {ds:List (DataW H)} {ps:List MemPlace},
  (ts.all fun t=>P.readableRec t && decide (t<P.types.size))=true→DataW.TrodAll enc P W 0 (fun _=>true) true ts vs ds ps→(∀ x∈ps,x.block<W.heap.size) →
  DataW.TrodAll enc P W' 0 (fun b=>decide (b<W.heap.size)) true ts vs ds ps
 | [],vs,ds,ps,_,h,_=>by
  obtain ⟨rfl,rfl,rfl⟩:=trodAll_nil h
  rfl
 | t :: ts,vs,ds,ps,hr,h,hlt=>by
  obtain ⟨v,vs',d,ds',p,q,rfl,rfl,rfl,h1,h2⟩:=trodAll_cons h
  simp only [List.all_cons,j0,decide_eq_true_eq] at hr
  exact trodAll_cons_mk (Below.trod hl hr.1.1 hr.1.2 h1 hb fun x hx=>hlt x (List.mem_append_left _ hx)) (m0a hl hb hr.2 h2 fun x hx=>hlt x (List.mem_append_right _ hx))
theorem F1z {fn:Func}{s:ChangeSpec}{w7 fresh handsOn:Bool}{W W':World}{args:Array Value}{ds gs:List (DataW H)}{before:List MemPlace}{tb:TypeId}(hl:laidOutB P=true)(hr:(fn.params.toList.all fun t=>P.readableRec t && decide (t<P.types.size))=true)(htb:P.underlying tb=some .bool)(hrt:fn.resultTypes = #[tb])(hv:s.vars=[])
  (hW:DataW.Whole enc P fn.params.toList s.vars w7 W args.toList ds gs before) (hb:Below W.heap.size W W') (hs:s.fn H (ds++gs)={ results:=[.lit (.bool true)],args:=ds }):s.post enc P fn w7 fresh handsOn false W args (.bool true) W':=by
 have hW':=hW
 obtain ⟨p,q,hA,hV,rfl,hfz,hnd⟩:=hW
 rw [hv] at hV
 obtain ⟨rfl,rfl⟩:=trodVars_none hV
 refine ⟨ds,[],p++[],[],p,[],hW',?_,?_,?_,hb.frame _,fun h=>by cases h⟩
 ·rw [hs,hrt]; exact trodAll_mk1 (shut_bool htb true)
 ·rw [hs]; exact m0a hl hb hr hA fun x hx=>hW'.lt x (List.mem_append_left _ hx)
 ·rw [hs,hv]; rfl
end Go.Proofs.YtjagfionflbjbaaGreat.SH
set_option maxRecDepth 100000
namespace Go.Proofs.YtjagfionflbjbaaGreat.N
open Go Go.Proofs.YtjagfionflbjbaaGreat.SH Go.Proofs.YtjagfionflbjbaaGreat.NumA Go.Proofs.YtjagfionflbjbaaGreat Go.RowKit Go.ChangeShapes Go.WideShapes Go.ChangeAt Go.Joins
theorem own:ownKnob Tryz.prog.godebug=none:=by kernel_rfl
theorem J1s:laidOutB Tryz.prog=true:=by kernel_rfl
theorem F0a:Tryz.prog.cellsOf 45=2:=by kernel_rfl
theorem W0h:Tryz.prog.cellsOf 47=4:=by kernel_rfl
theorem D1n:Tryz.prog.cellsOf 119=1:=by kernel_rfl
theorem n1w:Tryz.prog.cellsOf 43=1:=by kernel_rfl
theorem Q1c:Tryz.prog.cellsOf 4=1:=by kernel_rfl
theorem B1j:Tryz.prog.cellsOf 3=1:=by kernel_rfl
theorem G1y:Tryz.prog.cellsOf 22=1:=by kernel_rfl
theorem H1p:Tryz.prog.cellsOf 40=1:=by kernel_rfl
theorem H1n:Tryz.prog.cellsOf 24=2:=by kernel_rfl
theorem V0b {w:World}{a:Addr}{k:IntKind}{zs:List Int}{n:Nat}(hcell:∀ i,i<zs.length→w.cell? (a.add i)=some (.int k (zs.getD i 0)))(hn:n≤zs.length) :
  B7 (fun _=>True) (hp w) ((zs.take n).map fun z=>.a (.int k z)) (some a):=by
 by_cases h0:n=0
 ·subst h0; trivial
 ·obtain ⟨b,off,rfl,hc⟩:=ints_at hcell (by omega)
  refine B7.of trivial (T4.of fun i y hy=>?_)
  rw [List.getElem?_map,List.getElem?_take] at hy
  split at hy
  ·rename_i hi
   have hi':i<zs.length:=by omega
   rw [J1 hi'] at hy
   simp only [Option.map_some,U0] at hy
   subst hy
   refine ⟨.int k zs[i],?_,rfl,by simp [Rel]⟩
   rw [← B0a,hc i hi',f0,J1 hi']
   rfl
  ·cases hy
section
variable {H:Type} {enc:TypeId×Value→H} {W:World}
theorem J0z {n:Nat}{cs:List Value}{y:DataW H×List MemPlace}(h:DataW.trod enc Tryz.prog W 0 (fun _=>true) true n 45 cs=some y) :
  ∃ neg ws c0 c1,Wd ws∧cs=[c0,c1]∧Rel (fun _=>True) (hp W) (.a (.bool neg)) c0∧Rel (fun _=>True) (hp W) (.sl ws.length (D4 ws)) c1∧c0.oneCell'=true∧c1.oneCell'=true:=by
 obtain ⟨y0,y1,m,-,hl,h0,h1⟩:=trod_struct2 Tryz.underlying45 h
 rw [F0a] at hl
 match cs,hl with
 | [c0,c1],_ =>
  have h0':DataW.trod enc Tryz.prog W 0 (fun _=>true) true m 4 [c0]=some y0:=by simpa [Q1c] using h0
  have h1':DataW.trod enc Tryz.prog W 0 (fun _=>true) true m 43 [c1]=some y1:=by simpa [n1w] using h1
  obtain ⟨b,hb,-⟩:=DataW.trod_bool Tryz.underlying4 h0'
  obtain rfl:c0 = .bool b:=by simpa using hb
  rcases open_ints Tryz.underlying43 Tryz.underlying119 D1n h1' with ⟨hcs,hx⟩ | ⟨a,len,cap,zs,hcs,_,hl,hm,hz,hx,hcell,hwz⟩
  ·obtain rfl:c1 = .slice none 0 0:=by simpa using hcs
   exact ⟨b,[],_,_,Wd.nil,rfl,by simp [Rel],⟨none,0,rfl,Nat.le_refl _,trivial⟩,rfl,rfl⟩
  ·obtain rfl:c1 = .slice (some a) len cap:=by simpa using hcs
   simp only [if_true] at hz
   have hlen:(zs.take len).length=len:=by rw [J0]; omega
   refine ⟨b,zs.take len,_,_,fun w hw=>?_,rfl,by simp [Rel],⟨some a,cap,by rw [hlen],by rw [hlen]; exact hl,V0b hcell (by omega)⟩,rfl,rfl⟩
   have:=hwz w (List.mem_of_mem_take hw)
   simp only [Lit.wf,j0,decide_eq_true_eq] at this
   exact ⟨this.1,Int.lt_of_le_of_lt this.2 (by decide)⟩
theorem m1a {n:Nat}{cs:List Value}{y:DataW H×List MemPlace}(h:DataW.trod enc Tryz.prog W 0 (fun _=>true) true n 47 cs=some y) :
  ∃ r:RQ,r.wd∧E5 (fun _=>True) (hp W) (cR r) cs∧∀ c∈cs,c.oneCell'=true:=by
 obtain ⟨y0,y1,m,-,hl,h0,h1⟩:=trod_struct2 Tryz.underlying47 h
 rw [W0h] at hl
 match cs,hl with
 | [c0,c1,c2,c3],_ =>
  have h0':DataW.trod enc Tryz.prog W 0 (fun _=>true) true m 45 [c0,c1]=some y0:=by simpa [F0a] using h0
  have h1':DataW.trod enc Tryz.prog W 0 (fun _=>true) true m 45 [c2,c3]=some y1:=by simpa [F0a] using h1
  obtain ⟨b,ws,d0,d1,w1,e1,a1,a2,o1,o2⟩:=J0z h0'
  obtain ⟨b',vs,d2,d3,w2,e2,a3,a4,o3,o4⟩:=J0z h1'
  simp only [List.cons.injEq,and_true] at e1 e2
  obtain ⟨rfl,rfl⟩:=e1
  obtain ⟨rfl,rfl⟩:=e2
  refine ⟨⟨b,ws,b',vs⟩,⟨w1,w2⟩,⟨_,_,rfl,a1,_,_,rfl,a2,_,_,rfl,a3,_,_,rfl,a4,rfl⟩,fun c hc=>?_⟩
  simp only [List.mem_cons,List.not_mem_nil,or_false] at hc
  rcases hc with rfl | rfl | rfl | rfl <;> assumption
theorem m1j {n:Nat}{v:Value}{y:DataW H×List MemPlace}(h:DataW.trod enc Tryz.prog W 0 (fun _=>true) true n 40 [v]=some y) :
  ∃ l:List RQ,(∀ r∈l,r.wd)∧Rel (fun _=>True) (hp W) (pVR l) v∧v.oneCell'=true:=by
 rcases DataW.trod_slice Tryz.underlying40 h with ⟨hcs,hx⟩ | ⟨a,len,cap,elems,rest,m,_,hcs,hx,_,hl,_,hlen,hel,_,_⟩
 ·obtain rfl:v = .slice none 0 0:=by simpa using hcs
  exact ⟨[],by simp,⟨none,0,rfl,Nat.le_refl _,trivial⟩,rfl⟩
 ·obtain rfl:v = .slice (some a) len cap:=by simpa using hcs
  have each:∀ i,i<len→∃ r:RQ,r.wd∧∀ j x,(cR r)[j]? = some x→∃ u,W.cell? ((a.add (i*4)).add j)=some u∧u.oneCell'=true∧Rel (fun _=>True) (hp W) x u:=fun i hi=>by
   have h1:=hel i hi
   rw [W0h,J1 (by omega),Option.bind_eq_some_iff] at h1
   obtain ⟨cs,h2,h3⟩:=h1
   obtain ⟨-,h4,h5⟩:=World.cells?_some h2
   obtain ⟨r,hw,hr,ho⟩:=m1a h3
   refine ⟨r,hw,fun j x hx=>?_⟩
   obtain ⟨u,hu,hru⟩:=hr.get hx
   have hj:j<4:=by have:=(i1.1 hu).1; omega
   refine ⟨u,?_,ho u (M1 hu),hru⟩
   rw [← hu,← h5 j hj]
  have build:∀ k,k≤len→∃ l:List RQ,l.length=k∧(∀ r∈l,r.wd)∧∀ i,i<k→∀ j x,(cR (l.getD i default))[j]? = some x→∃ u,W.cell? ((a.add (i*4)).add j)=some u∧u.oneCell'=true∧Rel (fun _=>True) (hp W) x u:=fun k=>by
   induction k with
   | zero=>exact fun _=>⟨[],rfl,by simp,fun i hi=>absurd hi (Nat.not_lt_zero _)⟩
   | succ k ih =>
    intro hk
    obtain ⟨l,h1,h2,h3⟩:=ih (by omega)
    obtain ⟨r,hw,hr⟩:=each k (by omega)
    refine ⟨l++[r],by simp [h1],fun q hq=>?_,fun i hi j x hx=>?_⟩
    ·rcases List.mem_append.1 hq with hq | hq
     ·exact h2 q hq
     ·rw [List.mem_singleton.1 hq]; exact hw
    ·by_cases e:i<k
     ·refine h3 i e j x ?_
      rw [f0,X0 (by omega),← f0] at hx
      exact hx
     ·obtain rfl:i=k:=by omega
      refine hr j x ?_
      rw [f0,D0 (by omega),h1,Nat.sub_self] at hx
      exact hx
  obtain ⟨l,h1,h2,h3⟩:=build len (Nat.le_refl _)
  refine ⟨l,h2,⟨some a,cap,by rw [h1],by rw [h1]; exact hl,?_⟩,rfl⟩
  by_cases h0:l.length=0
  ·rw [E0 h0]; trivial
  ·obtain ⟨u0,hu0,-⟩:=h3 0 (by omega) 0 _ rfl
   obtain ⟨b,off,spot⟩:=a
   have hspot:spot=none:=by simpa [Addr.add] using World.cell?_spot hu0
   subst hspot
   refine B7.of trivial (T4.of fun i x hx=>?_)
   have hi:i<l.length*4:=by
    have:=(i1.1 hx).1
    rwa [y0f] at this
   have hg:=n1g (v:=l) (i:=i / 4) (by omega)
   have hx':(cR (l.getD (i / 4) default))[i % 4]? = some x:=by
    rw [← hg,List.getElem?_take,if_pos (by omega),List.getElem?_drop,show i / 4*4+i % 4=i by omega]
    exact hx
   obtain ⟨u,hu,ho,hru⟩:=h3 (i / 4) (by omega) (i % 4) x hx'
   refine ⟨u,?_,ho,hru⟩
   rw [Go.WideShapes.add_plain,Go.WideShapes.add_plain,Nat.add_assoc,show i / 4*4+i % 4=i by omega] at hu
   rw [← B0a]; exact hu
theorem q1h {n:Nat}{v:Value}{y:DataW H×List MemPlace}(h:DataW.trod enc Tryz.prog W 0 (fun _=>true) true n 22 [v]=some y) :
  ∃ m:List (List RQ),WdM m∧Rel (fun _=>True) (hp W) (.sl m.length (f0k m)) v∧v.oneCell'=true:=by
 rcases DataW.trod_slice Tryz.underlying22 h with ⟨hcs,hx⟩ | ⟨a,len,cap,elems,rest,m,_,hcs,hx,_,hl,_,hlen,hel,_,_⟩
 ·obtain rfl:v = .slice none 0 0:=by simpa using hcs
  exact ⟨[],by simp [WdM],⟨none,0,rfl,Nat.le_refl _,trivial⟩,rfl⟩
 ·obtain rfl:v = .slice (some a) len cap:=by simpa using hcs
  have each:∀ i,i<len→∃ (l:List RQ) (u:Value),(∀ r∈l,r.wd)∧W.cell? (a.add i)=some u∧u.oneCell'=true∧Rel (fun _=>True) (hp W) (pVR l) u:=fun i hi=>by
   have h1:=hel i hi
   rw [H1p,J1 (by omega),Option.bind_eq_some_iff] at h1
   obtain ⟨cs,h2,h3⟩:=h1
   obtain ⟨-,h4,h5⟩:=World.cells?_some h2
   match cs,h4 with
   | [u],_ =>
    obtain ⟨l,hw,hr,ho⟩:=m1j h3
    refine ⟨l,u,hw,?_,ho,hr⟩
    have:=h5 0 (by decide)
    rw [Nat.mul_one] at this
    simpa [Addr.add] using this
  have build:∀ k,k≤len→∃ l:List (List RQ),l.length=k∧WdM l∧∀ i,i<k→∃ u,W.cell? (a.add i)=some u∧u.oneCell'=true∧Rel (fun _=>True) (hp W) (pVR (l.getD i [])) u:=fun k=>by
   induction k with
   | zero=>exact fun _=>⟨[],rfl,by simp [WdM],fun i hi=>absurd hi (Nat.not_lt_zero _)⟩
   | succ k ih =>
    intro hk
    obtain ⟨l,h1,h2,h3⟩:=ih (by omega)
    obtain ⟨r,u,hw,hc,ho,hr⟩:=each k (by omega)
    refine ⟨l++[r],by simp [h1],fun q hq=>?_,fun i hi=>?_⟩
    ·rcases List.mem_append.1 hq with hq | hq
     ·exact h2 q hq
     ·rw [List.mem_singleton.1 hq]; exact hw
    ·by_cases e:i<k
     ·obtain ⟨u,g1,g2,g3⟩:=h3 i e
      refine ⟨u,g1,g2,?_⟩
      rwa [f0,X0 (by omega),← f0]
     ·obtain rfl:i=k:=by omega
      refine ⟨u,hc,ho,?_⟩
      rwa [f0,D0 (by omega),h1,Nat.sub_self]
  obtain ⟨l,h1,h2,h3⟩:=build len (Nat.le_refl _)
  refine ⟨l,h2,⟨some a,cap,by rw [h1],by rw [h1]; exact hl,?_⟩,rfl⟩
  by_cases h0:l.length=0
  ·rw [E0 h0]; trivial
  ·obtain ⟨u0,hu0,-⟩:=h3 0 (by omega)
   obtain ⟨b,off,spot⟩:=a
   have hspot:spot=none:=by simpa [Addr.add] using World.cell?_spot hu0
   subst hspot
   refine B7.of trivial (T4.of fun i x hx=>?_)
   have hi:i<l.length:=by
    have:=(i1.1 hx).1
    rwa [P0n] at this
   rw [g0w hi] at hx
   obtain rfl:=Option.some.inj hx
   obtain ⟨u,hu,ho,hru⟩:=h3 i (by omega)
   refine ⟨u,?_,ho,hru⟩
   rw [Go.WideShapes.add_plain] at hu
   rw [← B0a]; exact hu
theorem G1x {r:Reach}{b0:Nat}{v:Value}{d:DataW H}{p:List MemPlace}(hv:Value.okWide Tryz.prog W r b0 24 v)(h:DataW.Trod enc Tryz.prog W 0 (fun _=>true) true 24 v d p) :
  ∃ (c:Int) (m:List (List RQ)),WdM m∧(-9223372036854775808≤c∧c<9223372036854775808)∧Rel (fun _=>True) (hp W) (pMR c m) v:=by
 obtain ⟨cs,rfl,-⟩:=okWide_struct Tryz.underlying24 hv
 obtain ⟨n,h⟩:=h
 obtain ⟨y0,y1,m,-,hl,h0,h1⟩:=trod_struct2 Tryz.underlying24 h
 rw [H1n] at hl
 match hcs:(Value.agg cs).cells.toList,hl with
 | [c0,c1],_ =>
  rw [hcs] at h0 h1
  have h0':DataW.trod enc Tryz.prog W 0 (fun _=>true) true m 3 [c0]=some y0:=by simpa [B1j] using h0
  have h1':DataW.trod enc Tryz.prog W 0 (fun _=>true) true m 22 [c1]=some y1:=by simpa [B1j,G1y] using h1
  obtain ⟨k,hk,-,hwf⟩:=DataW.trod_int Tryz.underlying3 h0'
  obtain rfl:c0 = .int .i64 k:=by simpa using hk
  obtain ⟨l,hw,hr,ho⟩:=q1h h1'
  have e':cs.toList=[.int .i64 k,c1]:=by simpa [Value.cells] using hcs
  simp only [Lit.wf,j0,decide_eq_true_eq] at hwf
  refine ⟨k,l,hw,⟨hwf.1,Int.lt_of_le_of_lt hwf.2 (by decide)⟩,cs.toList,by simp,by rw [e']; exact ⟨_,_,rfl,by simp [Rel],_,_,rfl,hr,rfl⟩,?_⟩
  rw [e']
  intro c hc
  simp only [List.mem_cons,List.not_mem_nil,or_false] at hc
  rcases hc with rfl | rfl
  ·rfl
  ·exact ho
end
end Go.Proofs.YtjagfionflbjbaaGreat.N
set_option maxRecDepth 100000
set_option maxHeartbeats 4000000
namespace Go.Proofs.YtjagfionflbjbaaGreat.N
open Go Go.Proofs.YtjagfionflbjbaaGreat.SH Go.Proofs.YtjagfionflbjbaaGreat.NumA
open Go.Proofs.Tryz renaming call11→cl11,call12→cl12,call15→cl15,call31→cl31,call32→cl32,call33→cl33,call34→cl34,call35→cl35,call36→cl36,call37→cl37,isAgg24→ag24,isAgg3→ag3,isAgg47→ag47,sizeOf24→sz24,sizeOf3→sz3,sizeOf47→sz47,underlying24→un24,zeroValue24→zv24,zeroValue47→zv47
theorem P1n {X Y n N:Nat}(h:X≤Y)(hn:n≤N)(hY:g0n Y N≤700000000):g0n X n≤700000000:=by
 refine Nat.le_trans (v0p hn) (Nat.le_trans ?_ hY)
 unfold g0n
 have:=Nat.mul_le_mul_left (2 ^ N) (show X+1≤Y+1 by omega)
 omega
theorem D1h {n c:Nat}{M:List (List Rat)}(h:MOk c M)(hB:MB 6 M)(hn:M.length=n)(hn2:n≤14)(hc:c≤14):EU n c 0 BB DD M (nob n):=by
 subst hn
 have h1:M.length*c≤14*14:=Nat.mul_le_mul hn2 hc
 exact P0j h.rc hB hn2 oM (P1n (Y:=192*210) (N:=14) oM hn2 (by decide +kernel))
theorem D1p {u v:List Rat}(huv:u.length=v.length):∀ k,k≤u.length→dtF u v k=sN k fun t=>u.getD t 0*v.getD t 0
 | 0,_=>rfl
 | k+1,h=>by rw [W0p oM huv,D1p huv k oM]; rfl
theorem J1m {u v:List Rat}(huv:u.length=v.length):B9 u v=sN u.length fun t=>u.getD t 0*v.getD t 0:=by
 rw [← D1p huv _ (Nat.le_refl _),G0k,dtR,dtF,C0 sO]
end Go.Proofs.YtjagfionflbjbaaGreat.N
