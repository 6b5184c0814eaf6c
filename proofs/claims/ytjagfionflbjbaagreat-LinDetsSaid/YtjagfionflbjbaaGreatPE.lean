/- Part E of the proof: lemmas for the walks of the given functions. No statement of its own. -/
import Derived.ChangeSame
import Derived.ChangeVars
import Derived.JoinedOf
import Derived.RowKit
import Derived.RowKitTokens
import Derived.LaidLaws
import Derived.LaidHandle
import Derived.Carry
import Derived.OpenShut
import Derived.Lib.SmallJoins
import Derived.Lib.LaidTab
import Derived.Lay
import Derived.LaidMore
import Derived.MakeChecks
import Derived.Stop.LaidErr
import Derived.ProofKit
import Derived.Test.YtjagfionflbjbaaGreatRows
import Derived.Test.YtjagfionflbjbaaGreatPD
set_option linter.unusedVariables false
set_option linter.unusedSimpArgs false
set_option linter.deprecated false
set_option maxRecDepth 100000
set_option maxHeartbeats 4000000
namespace Go.Proofs.YtjagfionflbjbaaGreat.N
open Go Go.Proofs.YtjagfionflbjbaaGreat.SH Go.Proofs.YtjagfionflbjbaaGreat.NumA
open Go.Proofs.Tryz renaming call55→cl55,isAgg3→ag3,isAgg47→ag47,isAgg73→ag73,isAgg77→ag77,sizeOf3→sz3,sizeOf47→sz47,sizeOf77→sz77,underlying27→un27,underlying77→un77,underlying79→un79,zeroValue3→zv3,zeroValue47→zv47
@[simp] theorem M1a {k q:Nat}{cs:List PV}(h:k≠q):(rvV k cs).free q=true:=g0z h
theorem f1y {sl:List (Nat×PV)}{pre pre' T:List (Nat×Blk)}(hT:G5 T)(hp:W5 pre=true)(hb:J5 ⟨[],pre⟩ pre'):h0v ⟨sl,pre++T⟩ [] (pre'++T):=by
 refine m0v fun p hp2=>⟨rfl,?_⟩
 show (pre++T).lookup p.1=_
 rcases List.mem_append.1 hp2 with h | h
 ·rw [R1,m0x hb h]; rfl
 ·have h1:=K5 (j:=p.1) (B:=p.2) hT.nd h
  have h2:pre.lookup p.1=none:=by
   cases e:pre.lookup p.1 with
   | none=>rfl
   | some C =>
    have:=d0q hp e
    rw [hT.low _ (by simpa [Nat.blt_eq] using this)] at h1; cases h1
  rw [R1,h2,l0,h1]
theorem g1v (s:Bool)(n cols:Nat)(b:List (List Rat)):C4 E d8 51 [.at_ 999 0 3] ([wU cols [] (bv s n)]++bsT s b) ([wU cols [] (bv s n)]++bsT s b) (.p (.tup [.sl 0 [],pQ 1])):=by
 refine Z3 (xs:=[.sl 0 [],pQ 1]) Tryz.func51 rfl Tryz.ntmps51 Tryz.results51 sM fun F G=>?_
 have L:=@lti _ _ G.nt
 have hG:=G.g
 have hX:=G.x
 have hN:=M5 hG
 have P0:=fun k (hk:(Nat.blt k 1000 && (List.lookup k _).isNone)=true)=>G.p0 k (p0T (n5 s b) hk)
 refine exr (swb (f0h (k:=1) rX rfl (P0 _ rfl) L) t1 t1 (frT [_] (n5 s b) rfl rfl (by simp [E3,U2,Cells.free,PV.freeL,PV.free,P3,Y2])) ?_)
 refine aV L rfl (swb (L3 (k:=3) (n:=4) zv47 (.cons rfl (.cons rfl (.cons rfl (.cons rfl .nil)))) rfl (P0 _ rfl) L) t0 t0 (frT [_,_] (n5 s b) rfl rfl (by simp [E3,U2,Cells.free,PV.freeL,PV.free,P3,Y2])) ?_)
 refine O1 ⟨[(1,_),(2,_),(3,_)],(1,_) :: (3,_) :: (999,_) :: ((bsT s b)),t3,⟨rfl,rfl,rfl,(hbT [_,_,_] (n5 s b) rfl)⟩,?_⟩
 refine exr (cK hG hX cl55 hN (O6 1 dC dC) L t1 (sb (R2 sz47 rF pa4 rfl pu4) t2 t1 ?_))
 refine O1 ⟨[(1,_),(2,_),(3,_)],(1,_) :: (3,_) :: (999,_) :: ((bsT s b)),t3,⟨rfl,rfl,rfl,(hbT [_,_,_,_] (n5 s b) rfl)⟩,?_⟩
 refine T1 (exr (swb (L3 (k:=4) (n:=1) zv3 (.cons rfl .nil) rfl (P0 _ rfl) L) t0 t0 (frT [_,_,_] (n5 s b) rfl rfl (by simp [E3,U2,Cells.free,PV.freeL,PV.free,P3,Y2])) ?_))
 refine sb (R2 sz3 rF (.atom rfl) rfl pu1) t2 t1 ?_
 refine O1 ⟨[(1,_),(2,_),(3,_),(4,_)],(1,_) :: (3,_) :: (4,_) :: (999,_) :: ((bsT s b)),t4,⟨rfl,rfl,rfl,rfl,(hbT [_,_,_,_,_] (n5 s b) rfl)⟩,?_⟩
 refine X1 ?_
 refine F0h (α:=Nat) (fun x=>[]) (fun x=>[(4,⟨3,1,.mix [.p (vZ (x:Int))]⟩)]) (fun x=>(bsT s b)) (fun x=>x=0) (fun x=>x) (0) (sl:=[(1,_),(2,_),(3,_),(4,_)]) (hb:=[(1,_),(3,_),(999,_)]) ?_ t4 ⟨rfl,rfl,rfl,rfl,(hbT [_,_,_,_] (n5 s b) rfl)⟩ ?_
 ·rfl
 intro x hx
 subst hx
 by_cases hcc:0<cols
 ·refine T1 (exd rF ?_)
  refine sw (Y1 ag3 rF rF L) t1 t1 ?_
  refine sw (Y1 ag73 rF rF L) t1 t1 ?_
  refine sw (X2 rX L) t1 t1 ?_
  refine sw (Z1 un79 rfl sz3 dC rX L) t1 t1 ?_
  refine sw (Y1 ag3 rF rF L) t1 t1 ?_
  refine sw (Y3 L) t2 t0 (mV L rfl (gV (g:=19) rfl sO L rfl rfl (swg (g:=19) rfl sO (q0c un27 L) rfl t1 t0 (swg (g:=19) rfl sO (Y1 ag73 rF rF L) rfl t1 t1 ?_))))
  refine swg (g:=19) rfl sO (X2 rX L) rfl t1 t1 ?_
  refine swg (g:=19) rfl sO (Z1 un79 rfl sz77 dC rX L) rfl t1 t1 ?_
  refine swg (g:=19) rfl sO (Y1 ag77 rF rF L) rfl t1 t1 ?_
  refine swg (g:=19) rfl sO (q0c un77 L) rfl t1 t0 (swg (g:=19) rfl sO (Y3 L) rfl t2 t0 (sw (T4 sO L) t2 t0 ?_))
  refine O1 ⟨g0h [⟨[4],[4],[13],[]⟩,⟨[1],[1],[14],[]⟩,⟨[14],[999],[15],[]⟩,⟨[15],[999],[16],[]⟩,⟨[16],[999],[17],[]⟩,⟨[13,17],[],[18],[]⟩,⟨[18],[],[19],[]⟩,⟨[19,2],[],[20],[]⟩,⟨[19,20],[],[21],[]⟩,⟨[19,1],[1],[22],[]⟩,⟨[19,22],[999],[23],[]⟩,⟨[19,23],[999],[24],[]⟩,⟨[19,24],[999],[25],[]⟩,⟨[19,25],[],[26],[]⟩,⟨[19,21,26],[],[27],[]⟩,⟨[19,27],[],[28],[]⟩] (.cons (cf0 rfl) (.cons (cf0 rfl) (.cons (cf0 rfl) (.cons (cf0 rfl) (.cons (cf0 rfl) (.cons (cf0 rfl) (.cons (cf0 rfl) (.cons (cf0 rfl) (.cons (cf0 rfl) (.cons (cf0 rfl) (.cons (cf0 rfl) (.cons (cf0 rfl) (.cons (cf0 rfl) (.cons (cf0 rfl) (.cons (cf0 rfl) (.cons (cf0 rfl)  .nil)))))))))))))))) rfl (frS [] [_,_,_,_] (n5 s b) rfl (by simp [E3,U2,Cells.free,PV.freeL,PV.free,P3,Y2])) dC,[(1,_),(2,_),(3,_),(4,_),(28,_)],(1,_) :: (3,_) :: (4,_) :: (999,_) :: ((bsT s b)),t5,⟨rfl,rfl,rfl,rfl,(hbT [_,_,_,_] (n5 s b) rfl)⟩,?_⟩
  refine U3 rfl rfl ?_
  refine O2 (xq ?_)
  refine exd rF ?_
  refine mV L rfl (lp4 ag47 sz47 L rfl rfl (aV L rfl (sb (R2 sz47 rF pa4 rfl pu4) t2 t1 ?_)))
  refine O1 ⟨g0h [⟨[2],[],[84],[]⟩,⟨[3],[3],[85],[]⟩,⟨[84],[],[2],[]⟩,⟨[3,85],[3],[],[3]⟩] (.cons (cf0 rfl) (.cons (cf0 rfl) (.cons (cf0 rfl) (.cons (cf0 rfl)  .nil)))) rfl (frS [] [_,_,_,_] (n5 s b) rfl (by simp [E3,U2,Cells.free,PV.freeL,PV.free,P3,Y2])) dC,[(2,_),(3,_)],(3,_) :: (999,_) :: ((bsT s b)),t2,⟨rfl,rfl,(hbT [_,_,_,_,_] (n5 s b) rfl)⟩,?_⟩
  refine f5 [] (sl:=[(2,.p (.sl 0 [])),(3,.at_ 3 0 4)]) (hb:=[(3,bQ 1),wU cols [] (bv s n)]++bsT s b) (f0c rfl) ⟨⟨_,rfl,.p .nil⟩,⟨_,rfl,.same⟩,trivial⟩ (f1y (pre:=[_,_]) (n5 s b) rfl t2) (V1 ?_)
  exact ⟨.inr rfl,.cons (.tmp rfl) (.cons (.agg rfl rfl rfl ag47 sz47 (.cons (.cons (.cons (.cons .nil))))) .nil),rfl,hbT [_,_] (n5 s b) rfl⟩
 ·refine T1 (exd rF ?_)
  refine sw (Y1 ag3 rF rF L) t1 t1 ?_
  refine sw (Y1 ag73 rF rF L) t1 t1 ?_
  refine sw (X2 rX L) t1 t1 ?_
  refine sw (Z1 un79 rfl sz3 dC rX L) t1 t1 ?_
  refine sw (Y1 ag3 rF rF L) t1 t1 ?_
  refine sw (Y3 L) t2 t0 (mV L rfl (swn (g:=19) rfl sO L rfl (swn (g:=19) rfl sO L rfl (swn (g:=19) rfl sO L rfl (swn (g:=19) rfl sO L rfl (swn (g:=19) rfl sO L rfl (swn (g:=19) rfl sO L rfl (swn (g:=19) rfl sO L rfl (swn (g:=19) rfl sO L rfl (sw (l4 sO L) t2 t0 ?_))))))))))
  refine O1 ⟨g0h [⟨[4],[4],[13],[]⟩,⟨[1],[1],[14],[]⟩,⟨[14],[999],[15],[]⟩,⟨[15],[999],[16],[]⟩,⟨[16],[999],[17],[]⟩,⟨[13,17],[],[18],[]⟩,⟨[18],[],[19],[]⟩,⟨[19],[],[20],[]⟩,⟨[19],[],[21],[]⟩,⟨[19],[],[22],[]⟩,⟨[19],[],[23],[]⟩,⟨[19],[],[24],[]⟩,⟨[19],[],[25],[]⟩,⟨[19],[],[26],[]⟩,⟨[19],[],[27],[]⟩,⟨[19],[],[28],[]⟩] (.cons (cf0 rfl) (.cons (cf0 rfl) (.cons (cf0 rfl) (.cons (cf0 rfl) (.cons (cf0 rfl) (.cons (cf0 rfl) (.cons (cf0 rfl) (.cons (cf0 rfl) (.cons (cf0 rfl) (.cons (cf0 rfl) (.cons (cf0 rfl) (.cons (cf0 rfl) (.cons (cf0 rfl) (.cons (cf0 rfl) (.cons (cf0 rfl) (.cons (cf0 rfl)  .nil)))))))))))))))) rfl (frS [] [_,_,_,_] (n5 s b) rfl (by simp [E3,U2,Cells.free,PV.freeL,PV.free,P3,Y2])) dC,[(1,_),(2,_),(3,_),(4,_),(28,_)],(1,_) :: (3,_) :: (4,_) :: (999,_) :: ((bsT s b)),t5,⟨rfl,rfl,rfl,rfl,(hbT [_,_,_,_] (n5 s b) rfl)⟩,?_⟩
  refine U3 rfl rfl ?_
  refine O2 (xq ?_)
  refine exd rF ?_
  refine mV L rfl (lp4 ag47 sz47 L rfl rfl (aV L rfl (sb (R2 sz47 rF pa4 rfl pu4) t2 t1 ?_)))
  refine O1 ⟨g0h [⟨[2],[],[84],[]⟩,⟨[3],[3],[85],[]⟩,⟨[84],[],[2],[]⟩,⟨[3,85],[3],[],[3]⟩] (.cons (cf0 rfl) (.cons (cf0 rfl) (.cons (cf0 rfl) (.cons (cf0 rfl)  .nil)))) rfl (frS [] [_,_,_,_] (n5 s b) rfl (by simp [E3,U2,Cells.free,PV.freeL,PV.free,P3,Y2])) dC,[(2,_),(3,_)],(3,_) :: (999,_) :: ((bsT s b)),t2,⟨rfl,rfl,(hbT [_,_,_,_,_] (n5 s b) rfl)⟩,?_⟩
  refine f5 [] (sl:=[(2,.p (.sl 0 [])),(3,.at_ 3 0 4)]) (hb:=[(3,bQ 1),wU cols [] (bv s n)]++bsT s b) (f0c rfl) ⟨⟨_,rfl,.p .nil⟩,⟨_,rfl,.same⟩,trivial⟩ (f1y (pre:=[_,_]) (n5 s b) rfl t2) (V1 ?_)
  exact ⟨.inr rfl,.cons (.tmp rfl) (.cons (.agg rfl rfl rfl ag47 sz47 (.cons (.cons (.cons (.cons .nil))))) .nil),rfl,hbT [_,_] (n5 s b) rfl⟩
theorem f1p {b:List (List Rat)}:∀ c,ech [] b c=⟨[],b,[],1⟩
 | 0=>rfl
 | c+1=>by rw [m8,f1p c]; rfl
structure EU (n cols d B DB:Nat) (m b:List (List Rat)):Prop where
 rc:RC n cols m
 rb:RC n d b
 nl:n<1000
 cl:cols<1000
 dl:d<1000
 b0:0<B
 bl:B<100000000
 dbl:DB+B<1000000000
 me:∀ c,c≤cols→MB B (ech m b c).m
 be:∀ c,c≤cols→MB B (ech m b c).b
 de:∀ c,c≤cols→qw (ech m b c).det≤DB
theorem q0s (s:Bool)(n cols d B DB:Nat)(m b:List (List Rat))(H:EU n cols d B DB m b):C4 E d8 51 [.at_ 999 0 3] ([wU cols m (bv s n)]++i5 s m b) ([wU cols (ech m b cols).m (bv s n)]++i5 s (ech m b cols).m (ech m b cols).b) (.p (.tup [.sl (ech m b cols).pv.length (J6 (ech m b cols).pv),pQ (ech m b cols).det])):=by
 cases m with
 | nil =>
  rw [f1p]
  exact g1v s n cols b
 | cons r m =>
  have h0:0<n:=by have:=H.rc.1; simp at this; omega
  have hm:0<(r :: m).length:=by simp
  have hrc:=V6 H.rc H.rb cols (Nat.le_refl _)
  have hm':0<(ech (r :: m) b cols).m.length:=by rw [hrc.1.1]; exact h0
  have hn:=H.rc.1
  have:=v1z s n cols d B DB (r :: m) b ⟨H.rc,H.rb,h0,H.nl,H.cl,H.dl,H.b0,H.bl,H.dbl,H.me,H.be,H.de⟩
  rw [K0y hm,K0y hm',M1y hm,M1y hm',hrc.1.1,hn]; exact this
end Go.Proofs.YtjagfionflbjbaaGreat.N
namespace Go.Proofs.YtjagfionflbjbaaGreat.SH
open Go Go.RowKit
section
variable {P:Program} {F:Fr} {d:Nat} {T:TypeId} {pos:String} {aft:Array Edge} {g:Option (Nat×Bool)} {t:TypeId}
theorem Q1x {x hi mx:Operand}{n h:Nat}{i:Int}{xs ys:List J2}{e:TypeId}{sz:Nat}{kh km:IntKind}(hu:P.underlying t=some (.slice e))(hsz:∀ w,(sizeOf e).run P w = .ok sz w)(hi':i=(h:Int))(h2:h≤n)(hy:xs.take (h*sz)=ys)(hlt:d<F.nt) :
  L2 P F ⟨some d,.slice t x none (some hi) (some mx),T,pos,aft,g⟩ { rs:=[(x,.p (.sl n xs)),(hi,.p (.a (.int kh i))),(mx,.p (.a (.int km i)))],ws:=[(d,.p (.sl h ys))] }:=by
 subst hi'
 exact i4 rfl hlt rfl rfl fun ρ S a w hS hA=>by
  have hx:=M4 hS (v:=.p (.sl n xs)) (hA.rs (x,_) (by simp))
  simp only [K2,Rel] at hx
  obtain ⟨ad,cap,he,hc,hr⟩:=hx
  have e1:a.eval hi = .int kh h:=y4 hS (hA.rs (hi,_) (by simp))
  have e2:a.eval mx = .int km h:=y4 hS (hA.rs (mx,_) (by simp))
  have b1:(h:Int)≤cap:=by omega
  have hb:(Instr.sliceBounds true n cap none (some (a.eval hi)) (some (a.eval mx))).run P w = .ok (0,h,h) w:=by
   simp_all [Instr.sliceBounds,Instr.sliceBound,asIntOf]
  refine ⟨.slice (if h=0 then ad else ad.map (·.add (0*sz))) h h,?_,?_⟩
  ·simp [execOp,Instr.sliceAt,Instr.slice,run_underlying hu,he,hb,hsz]
  ·simp only [K2,Rel]
   refine ⟨_,_,rfl,Nat.le_refl _,?_⟩
   by_cases hyn:ys=[]
   ·subst hyn; simp [j7]
   ·have hxn:xs≠[]:=fun e=>by subst e; simp at hy; exact hyn (by first | exact hy | exact hy.symm)
    obtain ⟨b,o,rfl,hok,hra⟩:=hr.at hxn
    have h0:0<h:=by
     rcases Nat.eq_zero_or_pos h with e | e
     ·subst e; simp at hy; exact absurd (by first | exact hy | exact hy.symm) hyn
     ·exact e
    rw [if_neg (by omega)]
    have e:(⟨b,o,none⟩:Addr).add (0*sz)=⟨b,o,none⟩:=by unfold Addr.add; split <;> simp_all
    simp only [Option.map_some,e]
    rw [← hy]
    exact j7.of hok (hra.take _)
end
theorem P0b {P:Program}{F:Fr}{ops:Array Oper}{o:Oper}{S S1 S2:St}(h:D0z P F ops o S S1)(hs:∀ t,S2.slot t=S1.slot t)(hb:∀ k,S2.blk k=S1.blk k):D0z P F ops o S S2:=by
 intro a w hS Q K hK
 exact h a w hS Q K fun a' w' h'=>hK a' w' (h'.congr hs hb)
def M0h (l:List (Nat×Blk)):Bool:=l.all fun p=>Nat.blt p.1 900
theorem d0r {l:List (Nat×Blk)}(h:M0h l=true){k:Nat}(hk:900≤k):l.lookup k=none:=by
 cases e:l.lookup k with
 | none=>rfl
 | some B =>
  unfold M0h at h
  rw [s0] at h
  have:=h _ (J3 e)
  simp only [Nat.blt_eq] at this
  omega
theorem D0b {sl:List (Nat×PV)}{pre H:List (Nat×Blk)}:∀ {l:List (Nat×Blk)},J5 ⟨[],pre⟩ l→J5 ⟨sl,pre++H⟩ l
 | [],_=>trivial
 | (k, B) :: l, h => ⟨by
   show (pre++H).lookup k=some B
   rw [R1,show pre.lookup k=some B from h.1]; rfl,D0b h.2⟩
theorem n1m {P:Program}{F:Fr}{ops:Array Oper}{o:Oper}{S S1 S2:St}(h:D0z P F ops o S S1)(hl:St.le S2 S1):D0z P F ops o S S2:=by
 intro a w hS Q K hK
 exact h a w hS Q K fun a' w' ⟨ρ,h'⟩=>hK a' w' ⟨ρ,h'.weakR hl⟩
theorem nsU {E:Env}{st st0:Nat→Bool}{F:Fr}{nt:Nat}(G:GFr E st0 [] nt F)(hng:E.ng≤F.w0.heap.size){ops:Array Oper}{d:Nat}{f:FuncId}{op:Op}{T:TypeId}{pos:String}{aft:Array Edge}{xs:List PV}{sl:List (Nat×PV)}{pre H H':List (Nat×Blk)}{r:PV}{rs:List (Operand×PV)}{os:List Oper}{K:St→Prop}(ks:List Nat)(slR:List (Nat×PV))(hbR:List (Nat×Blk))(hs:C4 E st f xs H H' r)(hlt:d<F.nt)
  (hargs:∀ ρ S a w,P4 F ρ S a w→(∀ p∈rs,S.opd p.1=some p.2)→∃ vals:List Value,(execOp a.eval ⟨some d,op,T,pos,aft,none⟩).run E.P w = .ok (.enter f vals.toArray) w∧s3 S.blk ρ (okI F S.blk ρ) (hp w) xs vals)
  (hr:Z7 ⟨sl,pre++H⟩ rs) (hh:∀ k B,H.lookup k=some B→900≤k) (hh':∀ k B,H'.lookup k=some B→900≤k) (nd:(H.map (·.1)).Nodup) (nd':(H'.map (·.1)).Nodup) (hw:Whole H') (hres:∀ q,r.free q=false→H'.lookup q≠none) (h9:ks.contains 999=true→∃ B0 B1,st 999=true∧H.lookup 999=some B0∧H'.lookup 999=some B1∧B1.sz=B0.sz∧B1.cs.len=B0.cs.len)
  (hp:M0h pre=true) (hR:J5 ⟨[],pre⟩ hbR) (hR9:M0h hbR=true) (hsl:M6 ⟨sl,pre++H⟩ slR) (hd:slR.lookup d=none) (ho:(slR.all fun p=>p.2.only ks)=true) (hbo:(hbR.all fun p=>p.2.cs.only ks)=true) (hks:(ks.all fun k=>(hbR.lookup k).isSome || k == 999)=true)
  (hn:f0j E.P F ops os ⟨(d,r) :: slR,hbR++H'⟩ K):f0j E.P F ops (⟨some d,op,T,pos,aft,none⟩ :: os) ⟨sl,pre++H⟩ K:=by
 have hHno:∀ k,k<900→H.lookup k=none:=fun k hk=>by
  cases e:H.lookup k with
  | none=>rfl
  | some B=>have:=hh k B e; omega
 have hHno':∀ k,k<900→H'.lookup k=none:=fun k hk=>by
  cases e:H'.lookup k with
  | none=>rfl
  | some B=>have:=hh' k B e; omega
 have hlt9:∀ k,hbR.lookup k≠none→k<900:=fun k hk=>by
  apply Classical.byContradiction
  intro h
  exact hk (d0r hR9 (by omega))
 refine .cons (P0b (S2:=⟨(d,r) :: slR,hbR++H'⟩) (G1h (H:=H) (H':=H') G.g G.x hng ks slR hbR hs hlt hargs hr (m5 nd fun k B hk=>?_) hsl (D0b hR) hd nd nd' (fun k hk=>⟨hHno k (hlt9 k hk),hHno' k (hlt9 k hk)⟩) hw hres ho (fun k B hk=>by rw [s0] at hbo; exact hbo _ (J3 hk)) (fun k hk=>by
  rw [s0] at hks
  have:=hks k hk
  rw [Bool.or_eq_true,beq_iff_eq] at this
  rcases this with h | h
  ·exact .inl fun e=>by rw [e] at h; cases h
  ·subst h; exact .inr (h9 (by rw [List.contains_iff_mem]; exact hk))) (fun i j hi _ _ hlo=>by rw [G.lo] at hlo; cases hlo) (fun j _ hj=>absurd (G.p0 j rfl) hj)) (fun t=>rfl) (fun k=>?_)) hn
 ·show (pre++H).lookup k=some B
  rw [R1,d0r hp (hh k B hk),l0,hk]
 ·show (hbR++H').lookup k=(H'++hbR).lookup k
  rw [R1,R1]
  cases e:hbR.lookup k with
  | none=>simp
  | some B=>rw [hHno' k (hlt9 k (by rw [e]; simp))]; rfl
theorem Q1y {E:Env}{st st0:Nat→Bool}{F:Fr}{nt:Nat}(G:GFr E st0 [] nt F)(hng:E.ng≤F.w0.heap.size){ops:Array Oper}{d:Nat}{f:FuncId}{op:Op}{T:TypeId}{pos:String}{aft:Array Edge}{xs:List PV}{sl:List (Nat×PV)}{pre H H':List (Nat×Blk)}{r:PV}{rs:List (Operand×PV)}{os:List Oper}{K:St→Prop}(ks:List Nat)(slR:List (Nat×PV))(hbR:List (Nat×Blk))(hs:C4 E st f xs H H' r)(hlt:d<F.nt)
  (hargs:∀ ρ S a w,P4 F ρ S a w→(∀ p∈rs,S.opd p.1=some p.2)→∃ vals:List Value,(execOp a.eval ⟨some d,op,T,pos,aft,none⟩).run E.P w = .ok (.enter f vals.toArray) w∧s3 S.blk ρ (okI F S.blk ρ) (hp w) xs vals)
  (hr:Z7 ⟨sl,pre++H⟩ rs) (hh:∀ k B,H.lookup k=some B→900≤k) (hh':∀ k B,H'.lookup k=some B→900≤k) (nd:(H.map (·.1)).Nodup) (nd':(H'.map (·.1)).Nodup) (hw:Whole H') (hres:∀ q,r.free q=false→H'.lookup q≠none) (h9:ks.contains 999=true→∃ B0 B1,st 999=true∧H.lookup 999=some B0∧H'.lookup 999=some B1∧B1.sz=B0.sz∧B1.cs.len=B0.cs.len)
  (hp:M0h pre=true) (hR:J5 ⟨[],pre⟩ hbR) (hR9:M0h hbR=true) (hsl:M6 ⟨sl,pre++H⟩ slR) (hd:slR.lookup d=none) (ho:(slR.all fun p=>p.2.only ks)=true) (hbo:(hbR.all fun p=>p.2.cs.only ks)=true) (hks:(ks.all fun k=>(hbR.lookup k).isSome || k == 999)=true)
  (hn:f0j E.P F ops os ⟨(d,r) :: slR,hbR⟩ K):f0j E.P F ops (⟨some d,op,T,pos,aft,none⟩ :: os) ⟨sl,pre++H⟩ K:=by
 have hlt9:∀ k,hbR.lookup k≠none→k<900:=fun k hk=>by
  apply Classical.byContradiction
  intro h
  exact hk (d0r hR9 (by omega))
 have hHno:∀ k,k<900→H.lookup k=none:=fun k hk=>by
  cases e:H.lookup k with
  | none=>rfl
  | some B=>have:=hh k B e; omega
 have hHno':∀ k,k<900→H'.lookup k=none:=fun k hk=>by
  cases e:H'.lookup k with
  | none=>rfl
  | some B=>have:=hh' k B e; omega
 refine .cons (n1m (S1:=⟨(d,r) :: slR,H'++hbR⟩) (S2:=⟨(d,r) :: slR,hbR⟩) (G1h (H:=H) (H':=H') G.g G.x hng ks slR hbR hs hlt hargs hr (m5 nd fun k B hk=>?_) hsl (D0b hR) hd nd nd' (fun k hk=>⟨hHno k (hlt9 k hk),hHno' k (hlt9 k hk)⟩) hw hres ho (fun k B hk=>by rw [s0] at hbo; exact hbo _ (J3 hk)) (fun k hk=>by
  rw [s0] at hks
  have:=hks k hk
  rw [Bool.or_eq_true,beq_iff_eq] at this
  rcases this with h | h
  ·exact .inl fun e=>by rw [e] at h; cases h
  ·subst h; exact .inr (h9 (by rw [List.contains_iff_mem]; exact hk))) (fun i j hi _ _ hlo=>by rw [G.lo] at hlo; cases hlo) (fun j _ hj=>absurd (G.p0 j rfl) hj)) ⟨fun t v h=>h,fun k B h=>?_⟩) hn
 ·show (pre++H).lookup k=some B
  rw [R1,d0r hp (hh k B hk),l0,hk]
 ·show (H'++hbR).lookup k=some B
  rw [R1,hHno' k (hlt9 k (by rw [show hbR.lookup k=some B from h]; simp)),l0]; exact h
end Go.Proofs.YtjagfionflbjbaaGreat.SH
set_option maxRecDepth 100000
set_option maxHeartbeats 4000000
namespace Go.Proofs.YtjagfionflbjbaaGreat.N
open Go Go.Proofs.YtjagfionflbjbaaGreat.SH Go.Proofs.YtjagfionflbjbaaGreat.NumA
open Go.Proofs.Tryz renaming call13→cl13,call40→cl40,call50→cl50,call51→cl51,call52→cl52,call53→cl53,call54→cl54,call55→cl55,call56→cl56,isAgg22→ag22,isAgg24→ag24,isAgg27→ag27,isAgg3→ag3,isAgg40→ag40,isAgg47→ag47,isAgg77→ag77,sizeOf22→sz22,sizeOf24→sz24,sizeOf27→sz27,sizeOf3→sz3,sizeOf40→sz40,sizeOf45→sz45,sizeOf47→sz47,sizeOf77→sz77,typeInfo40→ti40,underlying22→un22,underlying24→un24,underlying27→un27,underlying40→un40,underlying47→un47,underlying77→un77,underlying79→un79,zeroValue24→zv24,zeroValue27→zv27,zeroValue3→zv3,zeroValue47→zv47
theorem D1r {s:Bool}{m b:List (List Rat)}:∀ k B,(i5 s m b).lookup k=some B→900≤k:=fun k B h=>by
 have:=b0s (o6 s m b) _ (J3 h)
 simp only at this; omega
theorem Y0b {s:Bool}{b:List (List Rat)}:∀ k B,(bsT s b).lookup k=some B→900≤k:=fun k B h=>by
 have:=b0s (n5 s b) _ (J3 h)
 simp only at this; omega
theorem m0w {s:Bool}{c:Nat}{m b:List (List Rat)}{v:PV}:∀ k B,([wU c m v]++i5 s m b).lookup k=some B→900≤k:=fun k B h=>by
 rw [List.singleton_append,i0] at h
 by_cases e:k=999
 ·omega
 ·rw [show (k == 999)=false by simpa using e] at h; exact D1r k B h
theorem p0a {s:Bool}{c:Nat}{m b:List (List Rat)}{v:PV}:(([wU c m v]++i5 s m b).map (·.1)).Nodup:=by
 rw [List.singleton_append,R0,List.nodup_cons]
 refine ⟨fun hm=>?_,(o6 s m b).nd⟩
 obtain ⟨⟨q,B⟩,hp,e⟩:=G0.1 hm
 have:=b0s (o6 s m b) _ hp
 simp only at this e; omega
theorem w1k {b:List (List Rat)}:(bsT true b).lookup 1002=some (hdB 1 b):=hdL
theorem k1m {s:Bool}{c n:Nat}{m b:List (List Rat)}:Whole ([wU c m (bv s n)]++i5 s m b):=by
 intro j B hj i x hx q hq
 rw [R1] at hj
 cases e:([wU c m (bv s n)]:List (Nat×Blk)).lookup j with
 | none =>
  rw [e,l0] at hj
  exact q8 ((o6 s m b).whole j B hj i x hx q hq)
 | some C =>
  rw [e,K0] at hj
  injection hj with hj
  subst hj
  obtain rfl:C=(wU c m (bv s n)).2:=by
   simp only [i0,List.lookup_nil] at e
   split at e
   ·injection e with e; exact e.symm
   ·cases e
  have hx:[rvV 1001 (J4 0 0 m),PV.p (vZ c),bv s n][i]? = some x:=hx
  have hm:=M1 hx
  simp only [List.mem_cons,List.not_mem_nil,or_false] at hm
  rcases hm with rfl | rfl | rfl
  ·cases m with
   | nil=>cases hq
   | cons r m =>
    rw [G0c hq]
    refine q8 ?_
    rw [K0y sM,d1a]; simp
  ·cases hq
  ·cases s
   ·cases hq
   ·obtain rfl:1002=q:=by simpa [bv,PV.free] using hq
    refine q8 ?_
    rw [i5,R1,w1k]
    cases (w0j 0 m).lookup 1002 <;> simp
theorem V0y {s:Bool}{c:Nat}{m b:List (List Rat)}{v:PV}:∀ q,(PV.at_ 999 0 3).free q=false→([wU c m v]++i5 s m b).lookup q≠none:=fun q h=>by
 obtain rfl:999=q:=by simpa [PV.free] using h
 simp [i0]
theorem M1k {s:Bool}{c:Nat}{m m' b b':List (List Rat)}{v v':PV}{p:Prop}:p→∃ B0 B1,d8 999=true∧([wU c m v]++i5 s m b).lookup 999=some B0∧([wU c m' v']++i5 s m' b').lookup 999=some B1∧B1.sz=B0.sz∧B1.cs.len=B0.cs.len:=fun _=>⟨_,_,rfl,rfl,rfl,rfl,rfl⟩
def nob (n:Nat):List (List Rat):=List.replicate n []
theorem W0p {n:Nat}:RC n 0 (nob n):=⟨by simp [nob],fun r hr=>by obtain ⟨_,rfl⟩:=List.mem_replicate.1 hr; rfl⟩
theorem j1a (n B DB:Nat)(M:List (List Rat))(h:MOk n M)(hB1:MB B M)(hn:M.length=n)(H:EU n n 0 B DB M (nob n)):C4 E (fun _=>true) 31 [.p (pMq n M)] ([]) ([]) (.p (.tup [pQ (B0n n M (nob n)),vZ 0])):=by
 refine Z3 (xs:=[pQ (B0n n M (nob n)),vZ 0]) Tryz.func31 rfl Tryz.ntmps31 Tryz.results31 sM fun F G=>?_
 have L:=@lti _ _ G.nt
 have hG:=G.g
 have hX:=G.x
 have hN:=M5 hG
 have P0:=G.p0
 have hb:=H.bl
 subst hn
 refine exr (swb (T3 (k:=1) (n:=2) pa2 rfl rfl (P0 _ rfl) L) t1 t0 ⟨rfl,rfl⟩ (swb (L3 (k:=2) (n:=4) zv47 (.cons rfl (.cons rfl (.cons rfl (.cons rfl .nil)))) rfl (P0 _ rfl) L) t0 t0 ⟨rfl,rfl⟩ (aV L rfl (zn [(1,_),(2,_)] [(1,_),(2,_)] t2 t2 (T1 (exr (lp2 ag24 sz24 L rfl rfl (cK hG hX cl40 hN (H8 h hB1 oM) L t1 (sw (q4 L) t1 t0 (zn [(1,_),(2,_),(8,_)] [(1,_),(2,_)] t3 t2 (U3 rfl rfl ?_)))))))))))
 refine U1 (xq ?_)
 refine T1 (exr (sw (Z1 un24 rfl sz22 dC rX L) t1 t1 ?_))
 refine sw (Y1 ag22 rF rF L) t1 t1 ?_
 refine sw (Z2 un22 L) t1 t0 (sw (Z1 un24 rfl sz3 dC rX L) t1 t1 ?_)
 refine sw (Y1 ag3 rF rF L) t1 t1 ?_
 refine sw (c_n L) t2 t0 (zn [(1,_),(2,_),(15,_)] [(1,_),(2,_)] t3 t2 (U3 rfl sM ?_))
 refine U1 (xq ?_)
 refine n0g (nsw (q6 ag24 sz24 rF (by exact al2) rfl L) t1 t1 ?_)
 refine nsU (pre:=[_,_]) (H:=bsT false (nob M.length)) G hN [1,2] [(1,.at_ 1 0 2),(2,.at_ 2 0 4)] [(1,_),(2,_)] (k0z false M.length M.length M (nob M.length) H.rc H.nl H.cl) L (R4 (ys:=[_,_]) cl50 rfl rfl) t2 Y0b m0w (n5 _ _).nd p0a k1m V0y (fun h=>by cases h) rfl t2 rfl t2 rfl rfl rfl rfl ?_
 refine Q1y (pre:=[_,_]) (H:=[wU M.length M (bv false M.length)]++i5 false M (nob M.length)) G hN [1,2] [(1,.at_ 1 0 2),(2,.at_ 2 0 4)] [(1,_),(2,_)] (q0s false M.length M.length 0 B DB M (nob M.length) H) L (R4 (ys:=[_]) cl51 rfl rfl) t1 m0w m0w p0a p0a k1m (fun q h=>by cases h) (fun h=>by cases h) rfl t2 rfl t2 rfl rfl rfl rfl ?_
 refine nsw (c_m L) t1 t0 (nsw (V3 rfl L) t1 t0 (nsw (V3 rfl L) t1 t0 (H1k (L3 (k:=5) (n:=4) zv47 (.cons rfl (.cons rfl (.cons rfl (.cons rfl .nil)))) rfl (P0 _ rfl) L) t0 t0 ⟨rfl,rfl⟩ (nsw (c_a L) t1 t0 (nsb (R2 sz47 rF pa4 rfl pu4) t2 t1 ?_)))))
 refine .nil ⟨[(1,_),(2,_),(4,_),(5,_)],(1,_) :: (2,_) :: (5,_) :: [],t4,t3,?_⟩
 refine T1 (exr (mV L rfl (sw (Z2 un27 L) t1 t0 (sw (Z1 un24 rfl sz3 dC rX L) t1 t1 ?_))))
 refine sw (Y1 ag3 rF rF L) t1 t1 ?_
 refine sw (Y3 L) t2 t0 (zn [(2,_),(5,_),(27,_)] [(2,_),(5,_)] t3 t2 ?_)
 refine j2 rfl (fun hc=>?_) (fun hc=>?_)
 ·have hc2:=dt hc
  refine exr (cK hG hX cl55 hN (O6 0 dC dC) L t1 (sb (R2 sz47 rF pa4 rfl pu4) t2 t1 ?_))
  refine aV L rfl (zn [(2,_),(3,_)] [(2,_)] t2 t1 (V1 ?_))
  refine ⟨.inr rfl,K4.cast (.cons (.agg rfl rfl rfl ag47 sz47 (.cons (.cons (.cons (.cons .nil))))) (.cons (.tmp rfl) .nil)) ?_,trivial⟩
  rw [B0n,if_pos oM]; rfl
 ·have hc2:=df hc
  refine U1 (xq ?_)
  refine exr (lp4 ag47 sz47 L rfl rfl (sb (R2 sz47 rF pa4 rfl pu4) t2 t1 ?_))
  refine aV L rfl (zn [(2,_),(3,_)] [(2,_)] t2 t1 (V1 ?_))
  refine ⟨.inr rfl,K4.cast (.cons (.agg rfl rfl rfl ag47 sz47 (.cons (.cons (.cons (.cons .nil))))) (.cons (.tmp rfl) .nil)) ?_,trivial⟩
  rw [B0n,if_neg oM]
theorem P0c (n B DB:Nat)(M:List (List Rat))(h:MOk n M)(hB1:MB B M)(hn:M.length=n)(H:EU n n 0 B DB M (nob n)):j3 E 31 [pMq n M] (.tup [pQ (B0n n M (nob n)),vZ 0]):=m0n (j1a n B DB M h hB1 hn H)
@[reducible] def pR0:J2:=.agg [.a (.bool false),.sl 0 [],.a (.bool false),.sl 0 []]
theorem J1n (c:Int)(m:List (List RQ))(hm:MSm m)(h:isM c m=false):j3 E 31 [pMR c m] (.tup [pR0,vZ 3]):=by
 refine D2 (xs:=[pR0,vZ 3]) Tryz.func31 rfl Tryz.ntmps31 Tryz.results31 sM fun F hG hX0 hnt hdf P0=>?_
 obtain ⟨L,hX,hN⟩:=pro hnt hX0 hG
 refine exr (swb (T3 (k:=1) (n:=2) pa2 rfl rfl (P0 _ rfl) L) t1 t0 ⟨rfl,rfl⟩ (swb (L3 (k:=2) (n:=4) zv47 (.cons rfl (.cons rfl (.cons rfl (.cons rfl .nil)))) rfl (P0 _ rfl) L) t0 t0 ⟨rfl,rfl⟩ (aV L rfl (zn [(1,_),(2,_)] [(1,_),(2,_)] t2 t2 (T1 (exr (lp2 ag24 sz24 L rfl rfl (cK hG hX cl40 hN (N0j c m hm) L t1 (sw (q4 L) t1 t0 (zn [(1,_),(2,_),(8,_)] [(1,_),(2,_)] t3 t2 (M8 rfl (by rw [h]; rfl) ?_)))))))))))
 refine exr (sw (B9 (e7 (vs:=[]) un47 zv47 (.cons rfl (.cons rfl (.cons rfl (.cons rfl .nil)))) ((G2.cons sz45 (G2.cons sz45 G2.nil))).to rfl .nil (.cons (.cons (.cons (.cons .nil)))) L) (.agg (.cons .same (.cons .nil (.cons .same (.cons .nil .nil)))))) t0 t0 (sb (R2 sz47 rF pa4 rfl pu4) t2 t1 ?_))
 refine aV L rfl (zn [(2,_),(3,_)] [(2,_)] t2 t1 (V1 ?_))
 refine Y0 (.agg rfl rfl rfl ag47 sz47 (.cons (.cons (.cons (.cons .nil))))) (.tmp rfl) ?_
 rfl
theorem D1p (c B:Nat)(M:List (List Rat))(h:MOk c M)(hB:MB B M)(hb:B<1000000000)(hn:M.length≠c):j3 E 31 [pMq c M] (.tup [pR0,vZ 1]):=by
 refine D2 (xs:=[pR0,vZ 1]) Tryz.func31 rfl Tryz.ntmps31 Tryz.results31 sM fun F hG hX0 hnt hdf P0=>?_
 obtain ⟨L,hX,hN⟩:=pro hnt hX0 hG
 refine exr (swb (T3 (k:=1) (n:=2) pa2 rfl rfl (P0 _ rfl) L) t1 t0 ⟨rfl,rfl⟩ (swb (L3 (k:=2) (n:=4) zv47 (.cons rfl (.cons rfl (.cons rfl (.cons rfl .nil)))) rfl (P0 _ rfl) L) t0 t0 ⟨rfl,rfl⟩ (aV L rfl (zn [(1,_),(2,_)] [(1,_),(2,_)] t2 t2 (T1 (exr (lp2 ag24 sz24 L rfl rfl (cK hG hX cl40 hN (H8 h hB hb) L t1 (sw (q4 L) t1 t0 (zn [(1,_),(2,_),(8,_)] [(1,_),(2,_)] t3 t2 (U3 rfl rfl ?_)))))))))))
 refine U1 (xq ?_)
 refine T1 (exr (sw (Z1 un24 rfl sz22 dC rX L) t1 t1 ?_))
 refine sw (Y1 ag22 rF rF L) t1 t1 ?_
 refine sw (Z2 un22 L) t1 t0 (sw (Z1 un24 rfl sz3 dC rX L) t1 t1 ?_)
 refine sw (Y1 ag3 rF rF L) t1 t1 ?_
 refine sw (c_n L) t2 t0 (zn [(1,_),(2,_),(15,_)] [(1,_),(2,_)] t3 t2 (M8 rfl sO (exr (sw (B9 (e7 (vs:=[]) un47 zv47 (.cons rfl (.cons rfl (.cons rfl (.cons rfl .nil)))) ((G2.cons sz45 (G2.cons sz45 G2.nil))).to rfl .nil (.cons (.cons (.cons (.cons .nil)))) L) (.agg (.cons .same (.cons .nil (.cons .same (.cons .nil .nil)))))) t0 t0 (sb (R2 sz47 rF pa4 rfl pu4) t2 t1 ?_)))))
 refine aV L rfl (zn [(2,_),(3,_)] [(2,_)] t2 t1 (V1 ?_))
 refine Y0 (.agg rfl rfl rfl ag47 sz47 (.cons (.cons (.cons (.cons .nil))))) (.tmp rfl) ?_
 rfl
theorem D0a {β:Nat→Option Blk}{z:List Nat}{s:Nat}:∀ {i:Nat} {m:List (List Rat)},(∀ j,j<m.length→z.contains (C3 s (i+j))=true∧β (C3 s (i+j))=some (G4 (m.getD j [])))→CvP β z (J4 s i m) (P5 m)
 | _,[],_=>.nil
 | i,v :: m,h=>by
  have h0:=h 0 sM
  refine .cons (.ref h0.1 h0.2 (y3 v) rfl) (D0a fun j hj=>?_)
  have:=h (j+1) (by simpa using hj)
  rw [show i+1+j=i+(j+1) by omega]
  exact this
def bw (s:Bool)(b:List (List Rat)):PV:=if s then .p (.sl b.length (P5 b)) else .p (.a (.slice none 0 0))
@[reducible] def wD (s:Bool)(c:Nat)(m b:List (List Rat)):Nat×Blk:=(999,⟨79,3,.mix [.p (.sl m.length (P5 m)),.p (vZ c),bw s b]⟩)
theorem d1h {sl:List (Nat×PV)}{pre T:List (Nat×Blk)}{k:Nat}(hp:M0h pre=true)(hk:900≤k):St.blk ⟨sl,pre++T⟩ k=T.lookup k:=by
 show (pre++T).lookup k=_
 rw [R1,d0r hp hk,l0]
theorem v1j {s:Bool}{m b:List (List Rat)}{j:Nat}(h:j<m.length):(i5 s m b).lookup (C3 0 j)=some (G4 (m.getD j [])):=by
 rw [i5,p0n oM,R1,rwL dC h]; rfl
theorem B1v {s:Bool}{m b:List (List Rat)}(h:0<m.length):(i5 s m b).lookup 1001=some (hdB 0 m):=by
 rw [i5,p0n h,R1,show (1001:Nat)=0+1001 from rfl,hdL]; rfl
theorem d1j {m:List (List Rat)}{k:Nat}(h1:k≠1001)(h2:∀ q,k≠C3 0 q):(w0j 0 m).lookup k=none:=by
 cases e:(w0j 0 m).lookup k with
 | none=>rfl
 | some B =>
  rcases G0j dC (show (w0j 0 m).lookup k≠none by rw [e]; simp) with h | ⟨q,_,h⟩
  ·exact absurd h h1
  ·exact absurd h (h2 q)
theorem m1v {m b:List (List Rat)}:(i5 true m b).lookup 1002=some (hdB 1 b):=by
 rw [i5,R1,d1j dC (fun q=>by unfold C3; omega),l0]; exact w1k
theorem g1h {m b:List (List Rat)}{j:Nat}(h:j<b.length):(i5 true m b).lookup (C3 1 j)=some (G4 (b.getD j [])):=by
 rw [i5,R1,d1j (by unfold C3; omega) (fun q=>Ne.symm (V0g q j)),l0]; exact rwL dC h
theorem d1g {T:List (Nat×Blk)}{k:Nat}{B:Blk}(h:T.lookup k=some B):(T.map (·.1)).contains k=true:=by
 rw [List.contains_iff_mem]; exact G0.2 ⟨_,J3 h,rfl⟩
theorem N1a {T:List (Nat×Blk)}{k:Nat}(h:G5 T)(hk:k<1000):(T.map (·.1)).contains k=false:=by
 cases e:(T.map (·.1)).contains k with
 | false=>rfl
 | true =>
  rw [List.contains_iff_mem] at e
  obtain ⟨p,hp,rfl⟩:=G0.1 e
  have:=b0s h p hp; omega
theorem v1q {P:Program}{F:Fr}{c:Code}{Q:Exit→St→Prop}{s:Bool}{cols n:Nat}{m b:List (List Rat)}{sl:List (Nat×PV)}{pre:List (Nat×Blk)}(hlo:∀ k,F.lo k=true)(hp:M0h pre=true)(hpn:(pre.map (·.1)).Nodup)(hb:s=true→b.length=n)
  (hsl:H0c ⟨sl,pre++([wU cols m (bv s n)]++i5 s m b)⟩ ((i5 s m b).map (·.1)) sl) (hn:X3 P F c ⟨sl,pre++[wD s cols m b]⟩ Q):X3 P F c ⟨sl,pre++([wU cols m (bv s n)]++i5 s m b)⟩ Q:=by
 have hT:=o6 s m b
 refine f5 ((i5 s m b).map (·.1)) (f0c (by rw [s0]; exact fun k _=>hlo k)) hsl ?_ hn
 have hbig:∀ k B,1000≤k→(i5 s m b).lookup k=some B→St.blk ⟨sl,pre++([wU cols m (bv s n)]++i5 s m b)⟩ k=some B:=fun k B hk h=>by
  rw [d1h hp oM,List.singleton_append,w8 oM,h]
 have key:∀ (l:List (Nat×Blk)),(∀ p∈l,p.1<900∧pre.lookup p.1=some p.2)→∀ r,h0v ⟨sl,pre++([wU cols m (bv s n)]++i5 s m b)⟩ ((i5 s m b).map (·.1)) r→h0v ⟨sl,pre++([wU cols m (bv s n)]++i5 s m b)⟩ ((i5 s m b).map (·.1)) (l++r):=by
  intro l
  induction l with
  | nil=>intro _ r h; exact h
  | cons p l ih =>
   intro h r hr
   obtain ⟨h1,h2⟩:=h p sM
   refine ⟨⟨N1a hT oM,p.2,?_,.same⟩,ih (fun q hq=>h q (by simp [hq])) r hr⟩
   show (pre++_).lookup p.1=_
   rw [R1,h2]; rfl
 refine key pre (fun p hm=>⟨?_,K5 hpn hm⟩) _ ⟨⟨N1a hT dC,⟨79,3,.mix [rvV 1001 (J4 0 0 m),.p (vZ cols),bv s n]⟩,?_,.mix (.cons ?_ (.cons .same (.cons ?_ .nil)))⟩,trivial⟩
 ·unfold M0h at hp
  rw [s0] at hp
  simpa [Nat.blt_eq] using hp p hm
 ·rw [d1h hp dC]; rfl
 ·cases m with
  | nil=>exact .p .nil
  | cons r m =>
   have h1:=B1v (s:=s) (m:=r :: m) (b:=b) sM
   have:=Cv.refm (n:=(r :: m).length) (d1g h1) (hbig _ _ dC h1) (y2 0 0 _) (Nat.mul_one _) (D0a fun j hj=>by
    rw [F1]
    have h2:=v1j (s:=s) (b:=b) hj
    exact ⟨d1g h2,hbig _ _ (by unfold C3; omega) h2⟩)
   simpa [rvV,J4] using this
 ·cases s with
  | false=>exact .same
  | true =>
   have hb':=hb rfl
   subst hb'
   have h1:=m1v (m:=m) (b:=b)
   have:=Cv.refm (n:=b.length) (d1g h1) (hbig _ _ dC h1) (y2 1 0 _) (Nat.mul_one _) (D0a fun j hj=>by
    rw [F1]
    have h2:=g1h (m:=m) hj
    exact ⟨d1g h2,hbig _ _ (by unfold C3; omega) h2⟩)
   exact this
@[reducible] def pIs (l:List Nat):J2:=.sl l.length (J6 l)
theorem h1n {m:List (List Rat)}{k:Nat}:(P5 m).take k=P5 (m.take k):=by simp [P5,List.map_take]
theorem F0q (n c B DB:Nat)(M:List (List Rat))(h:MOk c M)(hB1:MB B M)(hn:M.length=n)(H:EU n c 0 B DB M (nob n)):C4 E (fun _=>true) 13 [.p (pMq c M)] ([]) ([]) (.p (.tup [pMq c ((ech M (nob n) c).m.take (ech M (nob n) c).pv.length),pIs (ech M (nob n) c).pv,vZ 0])):=by
 refine Z3 (xs:=[pMq c ((ech M (nob n) c).m.take (ech M (nob n) c).pv.length),pIs (ech M (nob n) c).pv,vZ 0]) Tryz.func13 rfl Tryz.ntmps13 Tryz.results13 sM fun F G=>?_
 have L:=@lti _ _ G.nt
 have hG:=G.g
 have hX:=G.x
 have hN:=M5 hG
 have P0:=G.p0
 have hb:=H.bl
 subst hn
 have hsp:=V6 H.rc H.rb c (Nat.le_refl _)
 refine exr (swb (T3 (k:=1) (n:=2) pa2 rfl rfl (P0 _ rfl) L) t1 t0 ⟨rfl,rfl⟩ (swb (L3 (k:=2) (n:=2) zv24 (.cons rfl (.cons rfl .nil)) rfl (P0 _ rfl) L) t0 t0 ⟨rfl,rfl⟩ (aV L rfl (aV L rfl (zn [(1,_),(2,_)] [(1,_),(2,_)] t2 t2 (T1 (exr (lp2 ag24 sz24 L rfl rfl (cK hG hX cl40 hN (H8 h hB1 oM) L t1 (sw (q4 L) t1 t0 (zn [(1,_),(2,_),(10,_)] [(1,_),(2,_)] t3 t2 ?_)))))))))))
 refine U3 rfl rfl ?_
 refine U1 (xq ?_)
 refine n0g (nsw (q6 ag24 sz24 rF (by exact al2) rfl L) t1 t1 ?_)
 refine nsU (pre:=[_,_]) (H:=bsT false (nob M.length)) G hN [1,2] [(1,.at_ 1 0 2),(2,.at_ 2 0 2)] [(1,_),(2,_)] (k0z false M.length c M (nob M.length) H.rc H.nl H.cl) L (R4 (ys:=[_,_]) cl50 rfl rfl) t2 Y0b m0w (n5 _ _).nd p0a k1m V0y (fun h=>by cases h) rfl t2 rfl t2 rfl rfl rfl rfl ?_
 refine nsw (c_a L) t1 t0 ?_
 refine .nil ⟨[(1,_),(2,_),(5,_)],(1,_) :: (2,_) :: (999,_) :: (i5 false M (nob M.length)),t3,⟨rfl,rfl,rfl,(hbT [_,_,_] (o6 false M (nob M.length)) rfl)⟩,?_⟩
 refine n0g (nsw (c_m L) t1 t0 (nsU (pre:=[_,_]) (H:=[wU c M (bv false M.length)]++i5 false M (nob M.length)) G hN [1,2,999] [(1,.at_ 1 0 2),(2,.at_ 2 0 2),(5,.at_ 999 0 3)] [(1,_),(2,_)] (q0s false M.length c 0 B DB M (nob M.length) H) L (R4 (ys:=[_]) cl51 rfl rfl) t1 m0w m0w p0a p0a k1m (fun q h=>by cases h) M1k rfl t2 rfl t3 rfl rfl rfl rfl ?_))
 refine nsw (c_m L) t1 t0 (nsw (V3 rfl L) t1 t0 (nsw (V3 rfl L) t1 t0 (H1k (L3 (k:=7) (n:=4) zv47 (.cons rfl (.cons rfl (.cons rfl (.cons rfl .nil)))) rfl (P0 _ rfl) L) t0 t0 (frT [_,_,_] (o6 false (ech M (nob M.length) c).m (ech M (nob M.length) c).b) rfl rfl (by simp [E3,U2,Cells.free,PV.freeL,PV.free,P3,Y2])) ?_)))
 refine nsw (c_a L) t1 t0 (nsb (R2 sz47 rF pa4 rfl pu4) t2 t1 ?_)
 refine .nil ⟨[(1,_),(2,_),(5,_),(6,_)],(1,_) :: (2,_) :: (999,_) :: (i5 false (ech M (nob M.length) c).m (ech M (nob M.length) c).b),t4,⟨rfl,rfl,rfl,(hbT [_,_,_,_,_] (o6 false (ech M (nob M.length) c).m (ech M (nob M.length) c).b) rfl)⟩,?_⟩
 refine v1q (pre:=[_,_]) (fun k=>by rw [G.lo]; rfl) rfl sM (fun h=>by cases h) ⟨⟨_,rfl,.same⟩,⟨_,rfl,.same⟩,⟨_,rfl,.same⟩,⟨_,rfl,.same⟩,trivial⟩ ?_
 have hle:=hsp.2.2.1.le
 have hml:=hsp.1.1
 refine exd rF ?_
 refine sw (Z1 un24 rfl sz3 dC rX L) t1 t1 ?_
 refine sw (Y1 ag3 rF rF L) t1 t1 ?_
 refine mV L rfl (sw (X2 rX L) t1 t1 ?_)
 refine sw (Z1 un79 rfl sz77 dC rX L) t1 t1 ?_
 refine sw (Y1 ag77 rF rF L) t1 t1 ?_
 refine mV L rfl (sw (Z2 un27 L) t1 t0 (mV L rfl (sw (Z2 un27 L) t1 t0 (sw (Q1x un77 sz40 (h:=(ech M (nob M.length) c).pv.length) rO oM (by rw [Nat.mul_one,h1n]) L) t3 t0 ?_))))
 refine sw (e7 (vs:=[_,_]) un24 zv24 (.cons rfl (.cons rfl .nil)) ((G2.cons sz3 (G2.cons sz22 G2.nil))).to rfl (.cons rfl (.atom rfl) rfl pu1 (.cons rfl .sl rfl (.skip pu1) .nil)) (.cons (.cons .nil)) L) t2 t0 (mV L rfl (sb (R2 sz24 rF pa2 rfl pu2) t2 t1 ?_))
 refine aV L rfl (aV L rfl ?_)
 refine O1 ⟨q5 [⟨[1],[1],[19],[]⟩,⟨[19],[1],[20],[]⟩,⟨[5],[],[21],[]⟩,⟨[21],[999],[22],[]⟩,⟨[22],[999],[23],[]⟩,⟨[23],[999],[24],[]⟩,⟨[6],[],[25],[]⟩,⟨[25],[],[26],[]⟩,⟨[6],[],[27],[]⟩,⟨[27],[],[28],[]⟩,⟨[24,26,28],[],[29],[]⟩,⟨[20,29],[],[30],[]⟩,⟨[6],[],[31],[]⟩,⟨[2,30],[2],[],[2]⟩,⟨[31],[],[3],[]⟩,⟨[],[],[4],[]⟩] rF rF dC,[(2,_),(3,_),(4,_)],[(2,_)],t3,t1,?_⟩
 refine V1 ?_
 refine ⟨.inr rfl,K4.cast (.cons (.agg rfl rfl rfl ag24 sz24 (.cons (.cons .nil))) (.cons (.tmp rfl) (.cons (.tmp rfl) .nil))) ?_,trivial⟩
 rw [pMq,J0,G1 oM]
theorem m1s {pv:List Nat}{i:Nat}(h:i<pv.length):(J6 pv)[i]? = some (vZ (pv.getD i 0:Nat)):=by
 simp [J6,h,f0]
@[reducible] def bK (pv:List Nat)(c:Nat):List (Nat×Blk):=[(5,⟨27,1,.mix [.p (pIs pv)]⟩),(8,⟨3,1,.mix [.p (vZ c)]⟩)]
theorem k1b (pv:List Nat)(c i:Nat)(hi:i<pv.length)(hl:pv.length<1000):C4 E (fun _=>true) 53 [.p (vZ i),.at_ 5 0 1,.at_ 8 0 1] (bK pv c) (bK pv c) (.p (bZ (decide (pv.getD i 0=c)))):=by
 refine Z3 (xs:=[bZ (decide (pv.getD i 0=c))]) Tryz.func53 rfl Tryz.ntmps53 Tryz.results53 sM fun F G=>?_
 have L:=@lti _ _ G.nt
 have hG:=G.g
 have hX:=G.x
 have hN:=M5 hG
 have P0:=G.p0
 refine exr (aV L rfl (zn [(0,_),(1,_),(2,_)] [(5,_),(8,_)] t3 t2 (exd rF ?_)))
 refine sw (Y1 ag27 rF rF L) t1 t1 ?_
 refine mV L rfl (sw (ixJ un27 sz3 (j:=i) rO oM sM L) t2 t0 ?_)
 refine sw (n4 ag3 (m1s hi) L) t1 t0 (sw (Y1 ag3 rF rF L) t1 t1 ?_)
 refine sw (c_e L) t2 t0 (aV L rfl ?_)
 refine O1 ⟨q5 [⟨[1],[5],[5],[]⟩,⟨[0],[],[6],[]⟩,⟨[5,6],[],[7],[]⟩,⟨[7],[],[8],[]⟩,⟨[2],[8],[9],[]⟩,⟨[8,9],[],[10],[]⟩,⟨[10],[],[4],[]⟩] rF rF dC,[(4,_)],[(5,_),(8,_)],t1,t2,?_⟩
 refine V1 ?_
 refine ⟨.inr rfl,K4.cast (.cons (.tmp rfl) .nil) ?_,t2⟩
 rw [show decide ((pv.getD i 0:Int)=c)=decide (pv.getD i 0=c) from decide_eq_decide.2 oM]
theorem G0b {pv:List Nat}{c:Nat}:0≤B4 (fun i=>decide (pv.getD i 0=c)) 0 (pv.length - 0)↔c∈pv:=by
 constructor
 ·intro h
  obtain ⟨h1,h2,h3,h4⟩:=f0v (show ¬ B4 (fun i=>decide (pv.getD i 0=c)) 0 (pv.length - 0)<0 by omega)
  have h3:pv.getD (B4 (fun i=>decide (pv.getD i 0=c)) 0 (pv.length - 0)).toNat 0=c:=by simpa using h3
  rw [← h3]; exact s8 oM
 ·intro h
  apply Classical.byContradiction
  intro hn
  obtain ⟨i,hi,e⟩:=J1s h
  have:=b0r (show B4 (fun i=>decide (pv.getD i 0=c)) 0 (pv.length - 0)<0 by omega) i (Nat.zero_le _) oM
  simp only [decide_eq_false_iff_not] at this
  exact this e
theorem N1y {sl:List (Nat×PV)}{pre:List (Nat×Blk)}{xs:List J2}{e:TypeId}(hp:W5 pre=true)(hf:xs=[]→(E3 1003 sl && U2 1003 pre)=true):f0b ⟨sl,pre++pvB 1003 e xs⟩ (pvF 1003 xs):=by
 cases xs with
 | cons a l=>trivial
 | nil =>
  have h:=hf rfl
  simp only [j0] at h
  refine ⟨?_,?_⟩
  ·show (pre++_).lookup 1003=none
   rw [R1,l5 hp dC,l0]; rfl
  ·show (E3 1003 sl && U2 1003 (pre++_))=true
   rw [D4,h.1,h.2]; rfl
theorem P1g {sl:List (Nat×PV)}{r:List (Nat×Blk)}{xs:List J2}{y:J2}{e:TypeId}:J5 ⟨sl,pvB 1003 e (xs++[y])++r⟩ (pvB 1003 e (xs++[y])):=by
 obtain ⟨C,hC⟩:=D0d (xs:=xs) (y:=y) (k:=1003) (e:=e)
 rw [hC]
 exact ⟨by show List.lookup 1003 _=_; simp,trivial⟩
theorem N1q {sl:List (Nat×PV)}{pre:List (Nat×Blk)}{xs:List J2}{e:TypeId}(hp:W5 pre=true):Cv (St.blk ⟨sl,pre++pvB 1003 e xs⟩) [1003] (pvV 1003 xs) (.p (.sl xs.length xs)):=by
 cases xs with
 | nil=>exact .p .nil
 | cons a l =>
  have hB:St.blk ⟨sl,pre++pvB 1003 e (a :: l)⟩ 1003=some ⟨e,1,.pure (a :: l)⟩:=by
   show (pre++_).lookup 1003=_
   rw [R1,l5 hp dC]; rfl
  exact Cv.ref (n:=(a :: l).length) (z:=[1003]) rfl hB rfl (Nat.mul_one _)
theorem n6:G5 []:=⟨fun _ _=>rfl,List.nodup_nil,fun _ _=>rfl,fun j B hj=>by cases hj⟩
theorem m1f {f:Nat}{pv:List Nat}{c:Nat}{m:List (List Rat)}:(C7 (f+1) pv).map (b0z c pv m)=(C7 f pv).map (b0z c pv m)++if f∈pv then [] else [b0z c pv m f]:=by
 rw [C7,List.range_succ,List.filter_append,List.map_append,← C7]
 congr 1
 by_cases h:f∈pv
 ·rw [if_pos h,List.filter_cons_of_neg (by simpa using h)]; rfl
 ·rw [if_neg h,List.filter_cons_of_pos (by simpa using h)]; rfl
theorem n0j (n c B DB:Nat)(M:List (List Rat))(h:MOk c M)(hB1:MB B M)(hn:M.length=n)(H:EU n c 0 B DB M (nob n)):j3 E 13 [pMq c M] (.tup [pMq c ((ech M (nob n) c).m.take (ech M (nob n) c).pv.length),pIs (ech M (nob n) c).pv,vZ 0]):=m0n (F0q n c B DB M h hB1 hn H)
theorem n1d {c f:Nat}{pv:List Nat}{m:List (List Rat)}:(b0z c pv m f).length=c:=by simp [b0z]
theorem p1w {c f:Nat}{pv:List Nat}{m:List (List Rat)}(hf:f<1000):((C7 f pv).map (b0z c pv m)).length<1000:=by
 rw [O0,C7]
 have:=List.length_filter_le (fun g=>!pv.contains g) (List.range f)
 rw [List.length_range] at this; omega
theorem J1v {β:Nat→Option Blk}{z:List Nat}{k n:Nat}{v:List Rat}(hz:z.contains k=true)(hb:β k=some (G4 v))(hv:v.length=n):Cv β z (.ref k 0 n (n*4)) (.p (pV v)):=by
 subst hv
 exact .ref hz hb (y3 v) rfl
theorem B1a {sl:List (Nat×PV)}{pre pre' T:List (Nat×Blk)}{z:List Nat}(hT:G5 T)(hp:W5 pre=true)(hb:J5 ⟨[],pre⟩ pre')(hz:(z.all fun k=>Nat.blt k 1000)=true)(hz':(pre'.all fun p=>!z.contains p.1)=true):h0v ⟨sl,pre++T⟩ z (pre'++T):=by
 refine m0v fun p hp2=>?_
 rcases List.mem_append.1 hp2 with h | h
 ·rw [s0] at hz'
  refine ⟨by simpa using hz' p h,?_⟩
  show (pre++T).lookup p.1=_
  rw [R1,m0x hb h]; rfl
 ·have h1:=K5 (j:=p.1) (B:=p.2) hT.nd h
  have h3:=b0s hT p h
  refine ⟨?_,?_⟩
  ·cases e:z.contains p.1 with
   | false=>rfl
   | true =>
    rw [List.contains_iff_mem] at e
    rw [s0] at hz
    have:=hz _ e
    simp only [Nat.blt_eq] at this; omega
  ·show (pre++T).lookup p.1=_
   rw [R1,l5 hp h3,l0,h1]
theorem tPv {L:List (List Rat)}:G5 (pvB 1003 40 (P5 L)):=n1q dC _
theorem M1w {sl:List (Nat×PV)}{pre:List (Nat×Blk)}{e:TypeId}{xs:List J2}(hp:W5 pre=true):s6 ⟨sl,pre++pvB 1003 e xs⟩ (pvB 1003 e xs):=by
 have:=F1j (sl:=sl) (R:=[]) (k:=1003) (e:=e) (xs:=xs) pre hp dC
 rwa [List.append_nil] at this
theorem j1s {c f k:Nat}{pv:List Nat}{g:Nat→Rat}(hk:k<pv.length):(F0w pv g ((zsQ c).set f 1) k).set (pv.getD k 0) (g k)=F0w pv g ((zsQ c).set f 1) (k+1):=p0k.symm
theorem K0d (n c B DB:Nat)(M:List (List Rat))(h:MOk c M)(hB1:MB B M)(hn:M.length=n)(H:EU n c 0 B DB M (nob n)):C4 E (fun _=>true) 14 [.p (pMq c M)] ([]) ([]) (.p (.tup [.sl (W0v c (ech M (nob n) c).pv ((ech M (nob n) c).m.take (ech M (nob n) c).pv.length)).length (P5 (W0v c (ech M (nob n) c).pv ((ech M (nob n) c).m.take (ech M (nob n) c).pv.length))),vZ 0])):=by
 refine Z3 (xs:=[.sl (W0v c (ech M (nob n) c).pv ((ech M (nob n) c).m.take (ech M (nob n) c).pv.length)).length (P5 (W0v c (ech M (nob n) c).pv ((ech M (nob n) c).m.take (ech M (nob n) c).pv.length))),vZ 0]) Tryz.func14 rfl Tryz.ntmps14 Tryz.results14 sM fun F G=>?_
 have L:=@lti _ _ G.nt
 have hG:=G.g
 have hX:=G.x
 have hN:=M5 hG
 have P0:∀ k,Nat.blt k 1000=true→F.pin k=none:=fun k hk=>G.p0 k (n6.low k hk)
 have hb:=H.bl
 have hcl:=H.cl
 have hsp:=V6 H.rc H.rb c (Nat.le_refl _)
 have hme:=H.me c (Nat.le_refl _)
 have hecho:=n0j n c B DB M h hB1 hn H
 obtain ⟨E',hE⟩:∃ E',E'=(ech M (nob n) c).m.take (ech M (nob n) c).pv.length:=⟨_,rfl⟩
 obtain ⟨pv,hpv⟩:∃ pv,pv=(ech M (nob n) c).pv:=⟨_,rfl⟩
 have hrc:=hsp.1
 have hR:=hsp.2.2.1
 have hEl:E'.length=pv.length:=by rw [hE,hpv,J0,hrc.1]; exact G1 hR.le
 have hEr:∀ i,i<pv.length→(E'.getD i []).length=c:=fun i hi=>by
  have hm:E'.getD i []∈E':=j0d oM
  rw [hE] at hm
  exact hrc.2 _ (by rw [hE]; exact List.mem_of_mem_take hm)
 have hEB:MB B E':=fun r hr a ha=>hme r (List.mem_of_mem_take (by rw [hE] at hr; exact hr)) a ha
 have hpl:pv.length<1000:=by have:=hR.le; have:=H.nl; rw [← hpv] at *; omega
 have hplt:∀ p∈pv,p<c:=by rw [hpv]; exact hR.lt
 rw [← hE,← hpv] at hecho ⊢
 have hlo:F.lo 1003=true:=by rw [G.lo]; rfl
 have hpin3:F.pin 1003=none:=G.p0 _ rfl
 refine exr (swb (T3 (k:=1) (n:=2) pa2 rfl rfl (P0 _ rfl) L) t1 t0 (frT [] n6 rfl rfl rfl) (aV L rfl (aV L rfl ?_)))
 refine O1 ⟨[(1,_)],(1,_) :: (([]:List (Nat×Blk))),t1,⟨rfl,(hbT [_] n6 rfl)⟩,?_⟩
 refine exr (lp2 ag24 sz24 L rfl rfl (cK hG hX cl13 hN hecho L t1 (mV L rfl (sw (V3 rfl L) t1 t0 (sw (V3 rfl L) t1 t0 (sw (V3 rfl L) t1 t0 (swb (L3 (k:=4) (n:=2) zv24 (.cons rfl (.cons rfl .nil)) rfl (P0 _ rfl) L) t0 t0 (frT [_] n6 rfl rfl rfl) (swb (L3 (k:=5) (n:=1) zv27 (.cons rfl .nil) rfl (P0 _ rfl) L) t0 t0 (frT [_,_] n6 rfl rfl rfl) (sb (R2 sz24 rF pa2 rfl pu2) t2 t1 ?_)))))))))
 refine sb (R2 sz27 rF .sl rfl pu1) t2 t1 ?_
 refine aV L rfl ?_
 refine O1 ⟨[(1,_),(4,_),(5,_),(6,_)],(1,_) :: (4,_) :: (5,_) :: (([]:List (Nat×Blk))),t4,⟨rfl,rfl,rfl,(hbT [_,_,_,_,_] n6 rfl)⟩,?_⟩
 refine T1 (exr (mV L rfl (sw (c_n L) t2 t0 ?_)))
 refine O1 ⟨[(1,_),(4,_),(5,_),(6,_),(19,_)],(1,_) :: (4,_) :: (5,_) :: (([]:List (Nat×Blk))),t5,⟨rfl,rfl,rfl,(hbT [_,_,_] n6 rfl)⟩,?_⟩
 refine U3 rfl rfl ?_
 refine U1 (xq ?_)
 refine exr (aV L rfl ?_)
 refine O1 ⟨[(1,_),(4,_),(5,_),(7,pvV 1003 (P5 []))],(1,_) :: (4,_) :: (5,_) :: ((pvB 1003 40 (P5 []))),t4,⟨rfl,rfl,rfl,(hbT [_,_,_] n6 rfl)⟩,?_⟩
 refine T1 (exr (sw (Z1 un24 rfl sz3 dC rX L) t1 t1 ?_))
 refine sw (Y1 ag3 rF rF L) t1 t1 ?_
 refine mV L rfl ?_
 refine O1 ⟨[(1,_),(4,_),(5,_),(7,_),(22,_),(23,_)],(1,_) :: (4,_) :: (5,_) :: ((pvB 1003 40 (P5 []))),t6,⟨rfl,rfl,rfl,(hbT [_,_,_] (tPv (L:=[])) rfl)⟩,?_⟩
 refine X1 ?_
 refine F0h (α:=Nat) (fun f=>[(23,vi (f:Int)),(7,pvV 1003 (P5 ((C7 f pv).map (b0z c pv E'))))]) (fun f=>[]) (fun f=>(pvB 1003 40 (P5 ((C7 f pv).map (b0z c pv E'))))) (fun f=>f≤c) (fun f=>c - f) (0) (sl:=[(1,_),(4,_),(5,_),(22,_)]) (hb:=[(1,_),(4,_),(5,_)]) ?_ ⟨oR,oR,rfl,rfl,rfl,rfl,trivial⟩ ⟨rfl,rfl,rfl,(hbT [_,_,_] (tPv (L:=[])) rfl)⟩ ?_
 ·exact Nat.zero_le _
 intro f hf
 refine exr (sw (Y3 L) t2 t0 ?_)
 refine O1 ⟨[(1,_),(4,_),(5,_),(7,_),(22,_),(23,_),(24,_)],(1,_) :: (4,_) :: (5,_) :: ((pvB 1003 40 (P5 ((C7 f pv).map (b0z c pv E'))))),t7,⟨rfl,rfl,rfl,(hbT [_,_,_] (tPv (L:=(C7 f pv).map (b0z c pv E'))) rfl)⟩,?_⟩
 refine T1 ?_
 refine j2 rfl (fun hc=>?_) (fun hc=>?_)
 ·have hc:=dt hc
  have hfc:f<c:=by omega
  have hstep:=m1f (f:=f) (pv:=pv) (c:=c) (m:=E')
  have hlen:=p1w (c:=c) (f:=f) (pv:=pv) (m:=E') oM
  refine U1 (xq ?_)
  refine T1 (X1 (exr (mV L rfl (swb (L3 (k:=8) (n:=1) zv3 (.cons rfl .nil) rfl (P0 _ rfl) L) t0 t0 (frT [_,_,_] (tPv (L:=(C7 f pv).map (b0z c pv E'))) rfl rfl (by simp [E3,U2,Cells.free,PV.freeL,PV.free,P3,Y2])) ?_))))
  refine sb (R2 sz3 rF (.atom rfl) rfl pu1) t2 t1 ?_
  refine O1 ⟨[(1,_),(4,_),(5,_),(7,_),(8,_),(22,_),(23,_)],(1,_) :: (4,_) :: (5,_) :: (8,_) :: ((pvB 1003 40 (P5 ((C7 f pv).map (b0z c pv E'))))),t7,⟨rfl,rfl,rfl,rfl,(hbT [_,_,_,_,_] (tPv (L:=(C7 f pv).map (b0z c pv E'))) rfl)⟩,?_⟩
  have f1:=B8 53 [.at_ 5 0 1,.at_ 8 0 1] (bK pv f) sM (K7 rfl) cl53 (fun i=>decide (pv.getD i 0=f)) 0 pv.length oM (fun i _ hi=>k1b pv f i hi hpl)
  refine T1 (exr (sw (Y1 ag27 rF rF L) t1 t1 ?_))
  refine sw (Z2 un27 L) t1 t0 (sw (q0b (vs:=[]) (us:=[_,_]) rfl rfl L) t2 t0 (sw (Z5 hG hX hN f1 rfl L (R4 (ys:=[_,_,_]) cl52 rfl rfl) sM (K7 rfl) (fun q h=>by cases h)) t3 t2 ?_))
  refine sw (g0g L) t2 t0 ?_
  refine O1 ⟨[(1,_),(4,_),(5,_),(7,_),(8,_),(22,_),(23,_),(30,_)],(1,_) :: (4,_) :: (5,_) :: (8,_) :: ((pvB 1003 40 (P5 ((C7 f pv).map (b0z c pv E'))))),t8,⟨rfl,rfl,rfl,rfl,(hbT [_,_,_,_] (tPv (L:=(C7 f pv).map (b0z c pv E'))) rfl)⟩,?_⟩
  refine j2 rfl (fun hg=>?_) (fun hg=>?_)
  ·have hg:f∈pv:=G0b.1 (dt hg)
   rw [if_pos hg,List.append_nil] at hstep
   refine O2 (xq ?_)
   refine F3 (sw (G3 L (w64 oM oM)) t2 t0 (mV L rfl (O1 ?_)))
   exact ⟨f+1,oM,by omega,D3 ⟨oR,(by rw [hstep]; rfl),rfl,rfl,rfl,rfl,trivial⟩ ⟨rfl,rfl,rfl,(by rw [hstep]; exact hbT [_,_,_,_] tPv rfl)⟩⟩
  ·have hg:f ∉ pv:=fun h=>(df hg) (G0b.2 h)
   rw [if_neg hg] at hstep
   obtain ⟨L0,hL0⟩:∃ L0,L0=(C7 f pv).map (b0z c pv E'):=⟨_,rfl⟩
   rw [← hL0] at hstep hlen ⊢
   refine U1 (xq ?_)
   refine exr (sw (Z1 un24 rfl sz3 dC rX L) t1 t1 ?_)
   refine sw (Y1 ag3 rF rF L) t1 t1 ?_
   refine swb (V0x (k:=33) hG hX cl54 rfl hN (k0q c oM) (P0 _ rfl) L) t1 t0 (frT [_,_,_,_] (tPv (L:=L0)) rfl rfl (by simp [E3,U2,Cells.free,PV.freeL,PV.free,P3,Y2])) ?_
   refine aV L rfl ?_
   refine O1 ⟨[(1,_),(4,_),(5,_),(7,_),(8,_),(9,_),(22,_),(23,_)],(1,_) :: (4,_) :: (5,_) :: (8,_) :: (33,_) :: ((pvB 1003 40 (P5 L0))),t8,⟨rfl,rfl,rfl,rfl,rfl,(hbT [_,_,_,_,_] (tPv (L:=L0)) rfl)⟩,?_⟩
   refine exd rF ?_
   refine mV L rfl (sw (Y1 ag3 rF rF L) t1 t1 ?_)
   refine cK hG hX cl55 hN (O6 1 dC dC) L t1 (sw (q0h (sz:=4) un40 sz47 (by exact sM) (j:=f) rO oM L) t2 t1 ?_)
   refine sb (F0y (n:=4) sz47 (by exact sM) rfl oM) t2 t1 ?_
   refine O1 ⟨g0h [⟨[9],[],[34],[]⟩,⟨[8],[8],[35],[]⟩,⟨[],[],[36],[]⟩,⟨[34,35],[33],[37],[]⟩,⟨[37,36],[33],[],[33]⟩] (.cons (cf0 rfl) (.cons (cf0 rfl) (.cons (cf0 rfl) (.cons (cf0 rfl) (.cons (cf0 rfl)  .nil))))) rfl (frS [] [_,_,_,_,_] (tPv (L:=L0)) rfl (by simp [E3,U2,Cells.free,PV.freeL,PV.free,P3,Y2])) dC,[(1,_),(4,_),(5,_),(7,_),(8,_),(9,_),(22,_),(23,_)],(1,_) :: (4,_) :: (5,_) :: (8,_) :: (33,_) :: ((pvB 1003 40 (P5 L0))),t8,⟨rfl,rfl,rfl,rfl,rfl,(hbT [_,_,_,_,_,_] (tPv (L:=L0)) rfl)⟩,?_⟩
   refine T1 (exr (sw (Y1 ag27 rF rF L) t1 t1 ?_))
   refine sw (Z2 un27 L) t1 t0 (mV L rfl ?_)
   refine O1 ⟨[(1,_),(4,_),(5,_),(7,_),(8,_),(9,_),(22,_),(23,_),(38,_),(39,_),(40,_)],(1,_) :: (4,_) :: (5,_) :: (8,_) :: (33,_) :: ((pvB 1003 40 (P5 L0))),t11,⟨rfl,rfl,rfl,rfl,rfl,(hbT [_,_,_,_,_] (tPv (L:=L0)) rfl)⟩,?_⟩
   refine X1 ?_
   refine F0h (α:=Nat) (fun k=>[(40,vi (k:Int))]) (fun k=>[(33,G4 (F0w pv (fun i=>-(ent E' i f)) ((zsQ c).set f 1) k))]) (fun k=>(pvB 1003 40 (P5 L0))) (fun k=>k≤pv.length) (fun k=>pv.length - k) (0) (sl:=[(1,_),(4,_),(5,_),(7,_),(8,_),(9,_),(22,_),(23,_),(38,_),(39,_)]) (hb:=[(1,_),(4,_),(5,_),(8,_)]) ?_ ⟨oR,rfl,rfl,rfl,rfl,rfl,rfl,rfl,rfl,rfl,rfl,trivial⟩ ⟨obl rfl (q0m 1 sO),rfl,rfl,rfl,rfl,(hbT [_,_,_,_,_] (tPv (L:=L0)) rfl)⟩ ?_
   ·exact Nat.zero_le _
   intro k hk
   refine exr (sw (Y3 L) t2 t0 ?_)
   refine O1 ⟨[(1,_),(4,_),(5,_),(7,_),(8,_),(9,_),(22,_),(23,_),(38,_),(39,_),(40,_),(41,_)],(1,_) :: (4,_) :: (5,_) :: (8,_) :: (33,_) :: ((pvB 1003 40 (P5 L0))),t12,⟨rfl,rfl,rfl,rfl,rfl,(hbT [_,_,_,_,_] (tPv (L:=L0)) rfl)⟩,?_⟩
   refine T1 ?_
   refine j2 rfl (fun he=>?_) (fun he=>?_)
   ·have he:=dt he
    have hk2:k<pv.length:=by omega
    have hpk:=hplt _ (s8 hk2)
    have hq:=f0s (i:=k) (j:=f) hEB H.b0
    refine U1 (xq ?_)
    refine T1 (X1 (exr (mV L rfl (sw (ixJ un27 sz3 (j:=k) rO oM sM L) t2 t0 ?_))))
    refine sw (n4 ag3 (m1s hk2) L) t1 t0 (aV L rfl (aV L rfl ?_))
    refine O1 ⟨[(1,_),(4,_),(5,_),(7,_),(8,_),(9,_),(10,_),(11,_),(22,_),(23,_),(38,_),(39,_),(40,_)],(1,_) :: (4,_) :: (5,_) :: (8,_) :: (33,_) :: ((pvB 1003 40 (P5 L0))),t13,⟨rfl,rfl,rfl,rfl,rfl,(hbT [_,_,_,_,_] (tPv (L:=L0)) rfl)⟩,?_⟩
    refine h0k rF ?_
    refine mV L rfl (mV L rfl (sw (Z1 un24 rfl sz22 dC rX L) t1 t1 ?_))
    refine sw (Y1 ag22 rF rF L) t1 t1 ?_
    refine mV L rfl (sw (ixJ un22 sz40 (j:=k) rO oM sM L) t2 t0 ?_)
    refine sw (n4 ag40 (Y8 oM) L) t1 t0 (sw (Y1 ag3 rF rF L) t1 t1 ?_)
    refine sw (I2 un40 sz47 oM (by rw [hEr k hk2]; omega) sM dC L) t2 t0 ?_
    refine sw (P7 ag47 sz47 (R7 (by rw [hEr k hk2]; exact hfc)) rfl L) t1 t0 ?_
    refine cK hG hX cl56 hN (p0x (ent E' k f) oM) L t1 (sw (q0h (sz:=4) un40 sz47 (by exact sM) (j:=pv.getD k 0) rO (by simpa using hpk) L) t2 t1 ?_)
    refine sb (F0y (n:=4) sz47 (by exact sM) rfl oM) t2 t1 ?_
    refine O1 ⟨g0h [⟨[9],[],[45],[]⟩,⟨[11],[],[46],[]⟩,⟨[4],[4],[47],[]⟩,⟨[47],[4],[48],[]⟩,⟨[10],[],[49],[]⟩,⟨[48,49],[],[50],[]⟩,⟨[50],[],[51],[]⟩,⟨[8],[8],[52],[]⟩,⟨[51,52],[],[53],[]⟩,⟨[53],[],[54],[]⟩,⟨[54],[],[55],[]⟩,⟨[45,46],[33],[56],[]⟩,⟨[56,55],[33],[],[33]⟩] (.cons (cf0 rfl) (.cons (cf0 rfl) (.cons (cf0 rfl) (.cons (cf0 rfl) (.cons (cf0 rfl) (.cons (cf0 rfl) (.cons (cf0 rfl) (.cons (cf0 rfl) (.cons (cf0 rfl) (.cons (cf0 rfl) (.cons (cf0 rfl) (.cons (cf0 rfl) (.cons (cf0 rfl)  .nil))))))))))))) rfl (frS [] [_,_,_,_,_] (tPv (L:=L0)) rfl (by simp [E3,U2,Cells.free,PV.freeL,PV.free,P3,Y2])) dC,(show X3 _ _ _ _ _ from exw (sl:=[(1,_),(4,_),(5,_),(7,_),(8,_),(9,_),(22,_),(23,_),(38,_),(39,_),(40,_)]) (hb:=(1,_) :: (4,_) :: (5,_) :: (8,_) :: (33,_) :: ((pvB 1003 40 (P5 L0)))) t11 ⟨rfl,rfl,rfl,rfl,rfl,(hbT [_,_,_,_,_,_] (tPv (L:=L0)) rfl)⟩ ?_)⟩
    refine F3 (sw (G3 L (w64 oM oM)) t2 t0 (mV L rfl (O1 ?_)))
    exact ⟨k+1,oM,by omega,D3 ⟨oR,rfl,rfl,rfl,rfl,rfl,rfl,rfl,rfl,rfl,rfl,trivial⟩ ⟨obl rfl ((q0m _ (by simpa using hpk)).trans (by rw [j1s hk2])),rfl,rfl,rfl,rfl,(hbT [_,_,_,_,_] (tPv (L:=L0)) rfl)⟩⟩
   ·have he:=df he
    have hkp:k=pv.length:=by omega
    subst hkp
    refine O2 (xq ?_)
    refine f5 [33] (sl:=[(1,_),(4,_),(5,_),(7,_),(9,.p (pV (b0z c pv E' f))),(22,_),(23,_)]) (hb:=[(1,_),(4,_),(5,_)]++pvB 1003 40 (P5 L0)) (f0c (by simp [G.lo])) ⟨⟨_,rfl,.same⟩,⟨_,rfl,.same⟩,⟨_,rfl,.same⟩,⟨_,rfl,.same⟩,⟨_,rfl,?_⟩,⟨_,rfl,.same⟩,⟨_,rfl,.same⟩,trivial⟩ (B1a (pre:=[_,_,_,_,_]) tPv rfl t3 rfl rfl) ?_
    ·exact (J1v rF rF n1d)
    refine F3 (mV L rfl (mV L rfl (sw (I4 (vs:=[_]) un22 ti40 rfl rfl dC dC rfl (P2 (.cons rfl .nil) rfl) rfl (.cons rfl .sl rfl pu1 .nil) (.cons .nil) L) t1 t0 (swA (H0g (k:=1003) un22 un22 ti40 rfl rfl rfl (by first | (simp [Tryz.t40]; done) | (simp [Tryz.t40]; omega)) sO hpin3 L) t2 ((M1w (pre:=[_,_,_]) rfl)) (N1y (pre:=[_,_,_]) rfl (fun e=>by rw [e]; rfl)) ?_))))
    refine aV L rfl ?_
    refine O1 (show X3 _ _ _ _ _ from exw (sl:=[(1,_),(4,_),(5,_),(7,pvV 1003 (P5 (L0++[b0z c pv E' f]))),(22,_),(23,_)]) (hb:=(1,_) :: (4,_) :: (5,_) :: ((pvB 1003 40 (P5 (L0++[b0z c pv E' f]))))) ⟨rfl,rfl,rfl,(by rw [D0j]; rfl),rfl,rfl,trivial⟩ ⟨(W0s (pre:=[_,_,_]) dC rfl),(W0s (pre:=[_,_,_]) dC rfl),(W0s (pre:=[_,_,_]) dC rfl),(by rw [D0j]; exact P1g)⟩ ?_)
    refine F3 (sw (G3 L (w64 oM oM)) t2 t0 (mV L rfl (O1 ?_)))
    exact ⟨f+1,oM,by omega,D3 ⟨oR,(by rw [hstep]; rfl),rfl,rfl,rfl,rfl,trivial⟩ ⟨rfl,rfl,rfl,(by rw [hstep]; exact hbT [_,_,_] tPv rfl)⟩⟩
 ·have hc:=df hc
  have hfc:f=c:=by omega
  subst hfc
  obtain ⟨L0,hL0⟩:∃ L0,L0=(C7 f pv).map (b0z f pv E'):=⟨_,rfl⟩
  have hk:W0v f pv E'=L0:=by rw [hL0]; rfl
  rw [← hL0,hk]
  refine O2 (xq ?_)
  refine exr (mV L rfl (aV L rfl (aV L rfl ?_)))
  refine O1 ⟨[(2,_),(3,_)],((pvB 1003 40 (P5 L0))),t2,(hbT [_,_,_] (tPv (L:=L0)) rfl),?_⟩
  refine f5 [1003] (sl:=[(2,.p (.sl (P5 L0).length (P5 L0))),(3,_)]) (hb:=[]) (f0c (by simp [G.lo])) ⟨⟨_,rfl,N1q (pre:=[]) rfl⟩,⟨_,rfl,.same⟩,trivial⟩ t0 ?_
  refine V1 ?_
  exact ⟨.inr rfl,.cons (.tmp (by rw [← n7 L0]; rfl)) (.cons (.tmp rfl) .nil),trivial⟩
end Go.Proofs.YtjagfionflbjbaaGreat.N
namespace Go.Proofs.YtjagfionflbjbaaGreat.SH
open Go Go.RowKit
def swN (a b k:Nat):Nat:=if k=a then b else if k=b then a else k
theorem y0b (a b k:Nat):swN a b (swN a b k)=k:=by
 unfold swN
 by_cases h1:k=a
 ·rw [if_pos h1]
  by_cases h2:b=a
  ·rw [if_pos h2,h1,h2]
  ·rw [if_neg h2,if_pos rfl,h1]
 ·rw [if_neg h1]
  by_cases h2:k=b
  ·rw [if_pos h2,if_pos rfl,h2]
  ·rw [if_neg h2,if_neg h1,if_neg h2]
theorem p1g {P:Program}{F:Fr}{c:Code}{Q:Exit→St→Prop}{S S':St}(a b:Nat)(hpa:F.pin a=none)(hpb:F.pin b=none)(hlo:F.lo a=F.lo b)
  (hs:∀ t v',S'.slot t=some v'→∃ v,S.slot t=some v∧v'=v.ren (swN a b)) (hb:∀ k B',S'.blk k=some B'→∃ B,S.blk (swN a b k)=some B∧B'=B.ren (swN a b)) (hn:X3 P F c S' Q):X3 P F c S Q:=by
 refine ⟨fun n a' w hS=>hn.run n a' w ?_⟩
 obtain ⟨ρ,h⟩:=hS
 have hne:∀ k,S'.blk k≠none→S.blk (swN a b k)≠none:=fun k hk=>by
  obtain ⟨B',hB'⟩:=j1.1 hk
  obtain ⟨B,h1,_⟩:=hb k B' hB'
  rw [h1]; simp
 have hcar:Carry (okI F S.blk ρ) (okI F S'.blk fun k=>ρ (swN a b k)) (hp w) (hp w):=fun x hx _=>⟨⟨hx.1,fun k hk e=>hx.2 _ (hne k hk) e⟩,rfl⟩
 have hre:∀ (v:PV) (u:Value),K2 S.blk ρ (okI F S.blk ρ) (hp w) v u→K2 S'.blk (fun k=>ρ (swN a b k)) (okI F S'.blk fun k=>ρ (swN a b k)) (hp w) (v.ren (swN a b)) u:=fun v u hr=>by
  have h1:=B0d (β:=S'.blk) (β0:=S.blk) (ρ:=fun k=>ρ (swN a b k)) (ρ0:=ρ) (ok:=okI F S.blk ρ) (Hp:=hp w) (κ:=swN a b) (K:=fun _=>True) (fun j _ B' hB'=>by
   obtain ⟨B,h2,h3⟩:=hb _ B' hB'
   rw [y0b] at h2
   refine ⟨B,h2,by rw [h3]; rfl,by rw [h3]; exact Cells.ren_len _ _,by simp only [y0b]⟩) v u (fun _ _=>trivial) hr
  exact K2.mono (K:=fun _=>True) hcar (fun k _ B hB=>⟨B,hB,rfl,Nat.le_refl _,fun _=>⟨rfl,fun c T fr hc=>⟨c,T,fr,hc,rfl⟩⟩⟩) _ u (fun _ _=>trivial) h1
 refine ⟨fun k=>ρ (swN a b k),fun t v' ht=>?_,fun k B' hk=>?_,fun k k' h1 h2 e=>?_,h.frame,h.nt,h.df,fun j x n hj hS=>?_⟩
 ·obtain ⟨v,hv,rfl⟩:=hs t v' ht
  obtain ⟨u,hu,hr⟩:=h.slots t v hv
  exact ⟨u,hu,hre v u hr⟩
 ·obtain ⟨B,h1,rfl⟩:=hb k B' hk
  obtain ⟨c,g1,g2,g3,g4⟩:=h.blks _ B h1
  refine ⟨c,g1,?_,by rw [show (B.ren (swN a b)).cs.len=B.cs.len from Cells.ren_len _ _]; exact g3,fun i x hx=>?_⟩
  ·rcases g2 with ⟨e1,e2⟩ | e1
   ·refine .inl ⟨e1,?_⟩
    unfold swN at e2
    split at e2
    ·rename_i e; rw [e,hlo]; exact e2
    ·split at e2
     ·rename_i e; rw [e,← hlo]; exact e2
     ·exact e2
   ·exact .inr e1
  ·have hx:(B.cs.ren (swN a b)).get i=some x:=hx
   rw [Cells.ren_get,M0] at hx
   obtain ⟨y,hy,rfl⟩:=hx
   obtain ⟨u,hu,ho,hr⟩:=g4 i y hy
   exact ⟨u,hu,ho,hre y u hr⟩
 ·have:=h.inj _ _ (hne k h1) (hne k' h2) e
  rw [← y0b a b k,this,y0b]
 ·have hja:j≠a:=fun e=>by rw [e,hpa] at hj; cases hj
  have hjb:j≠b:=fun e=>by rw [e,hpb] at hj; cases hj
  have e:swN a b j=j:=by rw [swN,if_neg hja,if_neg hjb]
  have:=h.pin j x n hj (by have:=hne j hS; rwa [e] at this)
  simp only [e]; exact this
end Go.Proofs.YtjagfionflbjbaaGreat.SH
set_option maxRecDepth 100000
set_option maxHeartbeats 4000000
namespace Go.Proofs.YtjagfionflbjbaaGreat.SH
open Go Go.RowKit
mutual
theorem PV.ren_only {κ:Nat→Nat}{ks:List Nat}(hk:∀ k∈ks,κ k=k):∀ x:PV,x.only ks=true→x.ren κ=x
 | .p _,_=>rfl
 | .at_ j _ _,h=>by
  have h:ks.contains j=true:=h
  rw [PV.ren,hk j (by simpa using h)]
 | .im _ _,_=>rfl
 | .ref j _ _ _,h=>by
  have h:ks.contains j=true:=h
  rw [PV.ren,hk j (by simpa using h)]
 | .agg xs,h=>by
  simp only [PV.only] at h
  rw [PV.ren,PV.renL_only hk xs h]
 | .tup xs,h=>by
  simp only [PV.only] at h
  rw [PV.ren,PV.renL_only hk xs h]
 | .clo f a b,h=>by
  simp only [PV.only,j0] at h
  rw [PV.ren,PV.renL_only hk a h.1,PV.renL_only hk b h.2]
 | .ifc t x,h=>by
  simp only [PV.only] at h
  rw [PV.ren,PV.ren_only hk x h]
 | .dead,_=>rfl
theorem PV.renL_only {κ:Nat→Nat}{ks:List Nat}(hk:∀ k∈ks,κ k=k):∀ xs:List PV,PV.onlyL ks xs=true→PV.renL κ xs=xs
 | [],_=>rfl
 | x :: xs,h=>by
  simp only [PV.onlyL,j0] at h
  rw [PV.renL,PV.ren_only hk x h.1,PV.renL_only hk xs h.2]
end
theorem Blk.ren_only {κ:Nat→Nat}{ks:List Nat}(hk:∀ k∈ks,κ k=k)(B:Blk)(h:B.cs.only ks=true):B.ren κ=B:=by
 obtain ⟨T,sz,cs⟩:=B
 cases cs with
 | pure xs=>rfl
 | mix vs =>
  have h:PV.onlyL ks vs=true:=h
  have:vs.map (PV.ren κ)=vs:=by rw [← d0z]; exact PV.renL_only hk vs h
  simp only [Blk.ren,Cells.ren,this]
end Go.Proofs.YtjagfionflbjbaaGreat.SH
namespace Go.Proofs.YtjagfionflbjbaaGreat.N
open Go Go.Proofs.YtjagfionflbjbaaGreat.SH Go.Proofs.YtjagfionflbjbaaGreat.NumA
theorem n1c {s:Nat}{m:List (List Rat)}{v:List Rat}:F2 s (m++[v])=(s+1001,⟨40,1,.mix (J4 s 0 m++[.ref (C3 s m.length) 0 v.length (v.length*4)])⟩) :: (E6 s 0 m++[(C3 s m.length,G4 v)]):=by
 rw [F2,hdB,j0r,p0m,F1]
theorem K1v {P:Program}{F:Fr}{c:Code}{Q:Exit→St→Prop}{S:St}{sl:List (Nat×PV)}{pre:List (Nat×Blk)}{m:List (List Rat)}{s a:Nat}{v:List Rat}(ks:List Nat)(hs2:s<9)(ha:a<1000)(hpa:F.pin a=none)(hpb:F.pin (C3 s m.length)=none)(hlo:F.lo a=F.lo (C3 s m.length))(hks:(ks.all fun k=>Nat.blt k 1100 && k != a)=true)
  (hS:M6 S sl) (hSo:(sl.all fun p=>p.2.only ks)=true) (hB:J5 S pre) (hBo:(pre.all fun p=>p.2.cs.only ks)=true) (hBk:(pre.all fun p=>Nat.blt p.1 1000 && p.1 != a)=true)
  (h1:S.blk (s+1001)=some ⟨40,1,.mix (J4 s 0 m++[.ref a 0 v.length (v.length*4)])⟩) (h2:S.blk a=some (G4 v)) (h3:∀ k B,(E6 s 0 m).lookup k=some B→S.blk k=some B)
  (hn:X3 P F c ⟨sl,pre++F2 s (m++[v])⟩ Q):X3 P F c S Q:=by
 have hfix:∀ k∈ks,swN a (C3 s m.length) k=k:=fun k hk=>by
  rw [s0] at hks
  have:=hks k hk
  simp only [j0,Nat.blt_eq,bne_iff_ne] at this
  rw [swN,if_neg this.2,if_neg (by unfold C3; omega)]
 rw [s0] at hSo hBo hBk
 refine p1g a (C3 s m.length) hpa hpb hlo (fun t v' ht=>?_) (fun k B' hk=>?_) hn
 ·have h4:=b8 (show sl.lookup t=some v' from ht)
  exact ⟨v',hS.all t v' ht,(PV.ren_only hfix v' (hSo _ h4)).symm⟩
 ·have hk:(pre++F2 s (m++[v])).lookup k=some B':=hk
  rw [R1] at hk
  cases e:pre.lookup k with
  | some C =>
   rw [e,K0] at hk
   injection hk with hk
   subst hk
   have h5:=hBk _ (J3 e)
   simp only [j0,Nat.blt_eq,bne_iff_ne] at h5
   refine ⟨C,?_,(Blk.ren_only hfix C (hBo _ (J3 e))).symm⟩
   rw [swN,if_neg h5.2,if_neg (by unfold C3; omega)]
   exact hB.all k C e
  | none =>
   rw [e,l0,n1c,i0] at hk
   have hrow:∀ j,j<m.length→swN a (C3 s m.length) (C3 s j)=C3 s j:=fun j hj=>by rw [swN,if_neg (by unfold C3; omega),if_neg (by unfold C3; omega)]
   by_cases e1:k=s+1001
   ·subst e1
    simp only [BEq.rfl,U0] at hk
    subst hk
    refine ⟨⟨40,1,.mix (J4 s 0 m++[.ref a 0 v.length (v.length*4)])⟩,by rw [swN,if_neg oM,if_neg (by unfold C3; omega)]; exact h1,?_⟩
    have hr:∀ (i:Nat) (q:List (List Rat)),i+q.length≤m.length→(J4 s i q).map (PV.ren (swN a (C3 s m.length)))=J4 s i q:=by
     intro i q
     induction q generalizing i with
     | nil=>intro _; rfl
     | cons w q ih =>
      intro hq
      simp only [D1] at hq
      simp only [J4,R0,PV.ren,hrow i oM,ih (i+1) oM]
    simp only [Blk.ren,Cells.ren,List.map_append,hr 0 m oM,R0,List.map_nil,PV.ren,swN,if_true]
   ·rw [show (k == s+1001)=false by simpa using e1,R1] at hk
    cases e2:(E6 s 0 m).lookup k with
    | some C =>
     rw [e2,K0] at hk
     injection hk with hk
     subst hk
     obtain ⟨j,hj,h6⟩:=b9 (G0.2 ⟨_,J3 e2,rfl⟩)
     simp only [F1] at h6
     refine ⟨C,by rw [h6,hrow j hj,← h6]; exact h3 k C e2,?_⟩
     rw [h6] at e2
     rw [N0h,M0] at e2
     obtain ⟨w,_,rfl⟩:=e2
     rfl
    | none =>
     rw [e2,l0,i0] at hk
     by_cases e3:k=C3 s m.length
     ·subst e3
      simp only [BEq.rfl,U0] at hk
      subst hk
      refine ⟨G4 v,by rw [swN,if_neg (by unfold C3; omega),if_pos rfl]; exact h2,rfl⟩
     ·rw [show (k == C3 s m.length)=false by simpa using e3] at hk; cases hk
end Go.Proofs.YtjagfionflbjbaaGreat.N
namespace Go.Proofs.YtjagfionflbjbaaGreat.SH
open Go Go.RowKit
theorem q1h {P:Program}{F:Fr}{c:Code}{Q:Exit→St→Prop}{S S':St}(hs:∀ t v,S'.slot t=some v→S.slot t=some v)(hb:∀ k B',S'.blk k=some B'→∃ B,S.blk k=some B∧B'.T=B.T∧B'.sz=B.sz∧B'.cs.len=B.cs.len∧∀ i,B'.cs.get i=B.cs.get i)(hn:X3 P F c S' Q):X3 P F c S Q:=by
 refine ⟨fun n a w ⟨ρ,h⟩=>hn.run n a w ⟨ρ,?_⟩⟩
 have hn':∀ j,S'.blk j≠none→S.blk j≠none:=fun j hj=>by
  obtain ⟨B,hB⟩:=j1.1 hj
  obtain ⟨B0,h0,_⟩:=hb j B hB
  rw [h0]; simp
 have hcar:Carry (okI F S.blk ρ) (okI F S'.blk ρ) (hp w) (hp w):=fun b hb _=>⟨⟨hb.1,fun j hj=>hb.2 j (hn' j hj)⟩,rfl⟩
 have hkp:∀ K:Nat→Prop,Z9 K S.blk S'.blk ρ ρ (hp w) (hp w):=fun K j _ B hB=>by
  obtain ⟨B0,h0,h1,h2,h3,_⟩:=hb j B hB
  exact ⟨B0,h0,h2,by omega,fun _=>⟨rfl,fun c T fr hc=>⟨c,T,fr,hc,rfl⟩⟩⟩
 refine ⟨fun t v ht=>?_,fun j B hB=>?_,fun j j' h1 h2 e=>h.inj j j' (hn' j h1) (hn' j' h2) e,h.frame,h.nt,h.df,fun j b n hj hS=>h.pin j b n hj (hn' j hS)⟩
 ·obtain ⟨u,hu,hr⟩:=h.slots t v (hs t v ht)
  exact ⟨u,hu,K2.mono (K:=fun _=>True) hcar (hkp _) v u (fun _ _=>trivial) hr⟩
 ·obtain ⟨B0,h0,h1,h2,h3,h4⟩:=hb j B hB
  obtain ⟨c,c1,c2,c3,c4⟩:=h.blks j B0 h0
  refine ⟨c,by rw [h1]; exact c1,c2,by omega,fun i x hx=>?_⟩
  obtain ⟨u,hu,ho,hr⟩:=c4 i x (by rw [← h4]; exact hx)
  exact ⟨u,hu,ho,K2.mono (K:=fun _=>True) hcar (hkp _) x u (fun _ _=>trivial) hr⟩
section
variable {P:Program} {F:Fr} {d:Nat} {T:TypeId} {pos:String} {aft:Array Edge} {g:Option (Nat×Bool)} {t tx:TypeId}
theorem k1z {x y:Operand}{k j n:Nat}{e:TypeId}{ie:TypeInfo}{z:Value}{cs:List PV}{u:PV}(hu:P.underlying t=some (.slice e))(hux:P.underlying tx=some (.slice e))(hi:∀ w,(typeInfo e).run P w = .ok ie w)(hz:ie.zero=some z)(hsz:ie.size=1)
  (hzl:z.cells.size=1) (hn:cs.length=n) (hby:2*(n+1)*ie.bytes≤281474976710656) (h63:n+1≤9223372036854775807) (hpk:F.pin k=none) (hlt:d<F.nt) :
  L2 P F ⟨some d,.call ⟨.builtin .append,#[x,y],#[t,tx]⟩,T,pos,aft,g⟩ ⟨[(x,.ref k 0 n n),(y,.ref j 0 1 1)],[(k,⟨e,1,.mix cs⟩),(j,⟨e,1,.mix [u]⟩)],none,[(d,.ref k 0 (n+1) (n+1))],[(k,⟨e,1,.mix (cs++[u])⟩)]⟩ :=
 F0d (m:=1) (sz:=1) (cs:=.mix cs) (us:=[u]) hu hi hz hsz hzl (by omega) hn (by simp) (K1n (B:=⟨e,1,.mix [u]⟩) (k:=j) (o:=0) hux rfl rfl rfl) rfl .mix rfl hby h63 hpk hlt
end
end Go.Proofs.YtjagfionflbjbaaGreat.SH
set_option maxRecDepth 100000
set_option maxHeartbeats 4000000
namespace Go.Proofs.YtjagfionflbjbaaGreat.N
open Go Go.Proofs.YtjagfionflbjbaaGreat.SH Go.Proofs.YtjagfionflbjbaaGreat.NumA
open Go.Proofs.Tryz renaming call103→cl103,call104→cl104,call11→cl11,call12→cl12,call132→cl132,call133→cl133,call13→cl13,call14→cl14,call15→cl15,call16→cl16,call17→cl17,call19→cl19,call22→cl22,call23→cl23,call24→cl24,call25→cl25,call27→cl27,call29→cl29,call30→cl30,call31→cl31,call33→cl33,call34→cl34,call35→cl35,call36→cl36,call37→cl37,call38→cl38,call39→cl39,call40→cl40,call41→cl41,call47→cl47,call48→cl48,call49→cl49,call50→cl50,call51→cl51,call52→cl52,call54→cl54,call55→cl55,call57→cl57,call58→cl58,call59→cl59,call60→cl60,call61→cl61,call62→cl62,call63→cl63,call64→cl64,call65→cl65,call66→cl66,call67→cl67,call68→cl68,call69→cl69,call70→cl70,call71→cl71,call72→cl72,call73→cl73,call74→cl74,call75→cl75,call76→cl76,call84→cl84,isAgg119→ag119,isAgg22→ag22,isAgg24→ag24,isAgg3→ag3,isAgg40→ag40,isAgg43→ag43,isAgg45→ag45,isAgg47→ag47,isAgg4→ag4,isAgg77→ag77,sizeOf119→sz119,sizeOf22→sz22,sizeOf24→sz24,sizeOf3→sz3,sizeOf40→sz40,sizeOf43→sz43,sizeOf45→sz45,sizeOf47→sz47,sizeOf4→sz4,sizeOf77→sz77,typeInfo3→ti3,typeInfo40→ti40,typeInfo47→ti47,underlying22→un22,underlying24→un24,underlying27→un27,underlying40→un40,underlying43→un43,underlying45→un45,underlying47→un47,underlying4→un4,underlying77→un77,underlying79→un79,zeroValue24→zv24,zeroValue47→zv47
theorem y1w {P:Program}{F:Fr}{c:Code}{Q:Exit→St→Prop}{S:St}{sl:List (Nat×PV)}{pre:List (Nat×Blk)}{s a t:Nat}(ks:List Nat)(hs2:s<9)(ha:a<1000)(hpa:F.pin a=none)(hpb:F.pin (s+1001)=none)(hlo:F.lo a=F.lo (s+1001))(hks:(ks.all fun k=>Nat.blt k 1000 && k != a)=true)
  (hS:M6 S sl) (hSo:(sl.all fun p=>p.2.only ks && p.1 != t)=true) (ht:S.slot t=some (.ref a 0 0 0)) (hB:J5 S pre) (hBo:(pre.all fun p=>p.2.cs.only ks)=true) (hBk:(pre.all fun p=>Nat.blt p.1 1000 && p.1 != a)=true)
  (h1:S.blk a=some ⟨40,1,.pure []⟩) (hn:X3 P F c ⟨(t,.ref (s+1001) 0 0 0) :: sl,pre++F2 s []⟩ Q):X3 P F c S Q:=by
 have hfix:∀ k∈ks,swN a (s+1001) k=k:=fun k hk=>by
  rw [s0] at hks
  have:=hks k hk
  simp only [j0,Nat.blt_eq,bne_iff_ne] at this
  rw [swN,if_neg this.2,if_neg oM]
 rw [s0] at hSo hBo hBk
 refine p1g (S':=⟨(t,.ref (s+1001) 0 0 0) :: sl,pre++[(s+1001,⟨40,1,.pure []⟩)]⟩) a (s+1001) hpa hpb hlo (fun t' v' ht'=>?_) (fun k B' hk=>?_) (q1h (S':=⟨(t,.ref (s+1001) 0 0 0) :: sl,pre++F2 s []⟩) (fun t v h=>h) (fun k B' hk=>?_) hn)
 ·have h2:List.lookup t' ((t,.ref (s+1001) 0 0 0) :: sl)=some v':=ht'
  rw [i0] at h2
  by_cases e:t'=t
  ·subst e
   simp only [BEq.rfl,U0] at h2
   subst h2
   exact ⟨_,ht,(by simp [PV.ren,swN])⟩
  ·rw [show (t' == t)=false by simpa using e] at h2
   have h4:=hSo _ (b8 h2)
   simp only [j0] at h4
   exact ⟨v',hS.all t' v' h2,(PV.ren_only hfix v' h4.1).symm⟩
 ·have hk:(pre++([(s+1001,⟨40,1,.pure []⟩)]:List (Nat×Blk))).lookup k=some B':=hk
  rw [R1] at hk
  cases e:pre.lookup k with
  | some C =>
   rw [e,K0] at hk
   injection hk with hk
   subst hk
   have h5:=hBk _ (J3 e)
   simp only [j0,Nat.blt_eq,bne_iff_ne] at h5
   refine ⟨C,?_,(Blk.ren_only hfix C (hBo _ (J3 e))).symm⟩
   rw [swN,if_neg h5.2,if_neg oM]
   exact hB.all k C e
  | none =>
   rw [e,l0,i0] at hk
   by_cases e1:k=s+1001
   ·subst e1
    simp only [BEq.rfl,U0] at hk
    subst hk
    exact ⟨_,(by rw [swN,if_neg oM,if_pos rfl]; exact h1),rfl⟩
   ·rw [show (k == s+1001)=false by simpa using e1] at hk; cases hk
 ·have hk:(pre++F2 s []).lookup k=some B':=hk
  show ∃ B,(pre++([(s+1001,⟨40,1,.pure []⟩)]:List (Nat×Blk))).lookup k=some B∧_
  rw [R1] at hk ⊢
  cases e:pre.lookup k with
  | some C =>
   rw [e,K0] at hk
   injection hk with hk
   subst hk
   exact ⟨C,rfl,rfl,rfl,rfl,fun _=>rfl⟩
  | none =>
   rw [e,l0,F2,i0] at hk
   by_cases e1:k=s+1001
   ·subst e1
    simp only [BEq.rfl,U0] at hk
    subst hk
    exact ⟨⟨40,1,.pure []⟩,(by rw [l0,List.lookup_cons_self]),rfl,rfl,rfl,fun _=>rfl⟩
   ·rw [show (k == s+1001)=false by simpa using e1] at hk; cases hk
theorem j1z {b:List Rat}{i:Nat}(h:i<b.length):(Y4 b).take (i+1)=(Y4 b).take i++[((zsQ (b.length+1)).set 0 (b.getD i 0)).set (i+1) 1]:=by
 rw [B0y (by simpa [Y4] using h),n1h h]
theorem b0j {B:Nat}{b:List Rat}(hB:∀ a∈b,qw a≤B)(hb:B<1000000000)(hl:b.length<1000000000):j3 E 64 [pV b] (bZ true):=by
 have:=W9 (b.map RQ.of) (by simpa using hl) (fun r hr=>by
  obtain ⟨a,ha,rfl⟩:=G0.1 hr
  have:=hB a ha
  exact RQ.sm_of oM)
 rwa [Y0k,M0w] at this
theorem B1q {v:List Rat}{a c:Rat}{j:Nat}(h0:0<v.length)(hj:j<v.length):(⟨47,4,.pure ((((d5 v).take (0*4)++cQ a++(d5 v).drop (0*4+4)).take (j*4))++cQ c++(((d5 v).take (0*4)++cQ a++(d5 v).drop (0*4+4)).drop (j*4+4)))⟩:Blk)=G4 ((v.set 0 a).set j c):=by rw [J1d a h0,q0m c (by simpa using hj)]
theorem g1m {m:List (List Rat)}{k:Nat}:(P5 m).drop k=P5 (m.drop k):=by simp [P5,List.map_drop]
theorem n1a {p:Nat→Prop}{i:Nat}(h:∀ k,k<i→p k)(hi:p i):∀ k,k<i+1→p k:=fun k hk=>by
 by_cases e:k=i
 ·rw [e]; exact hi
 ·exact h k oM
theorem q0z:∀ {v:List Rat}{k:Nat},(d5 v).drop (k*4)=d5 (v.drop k)
 | v,0=>by simp
 | [],k+1=>by simp [d5]
 | a :: v,k+1=>by
  rw [show (k+1)*4=k*4+1+1+1+1 by omega]
  simp only [d5,cQ,L1,List.nil_append,List.drop_succ_cons]
  exact q0z
theorem q1b {u:List Rat}{a:Rat}{k:Nat}(h:k<u.length):(u.take (k+1)).map (· / a)=(u.take k).map (· / a)++[u.getD k 0 / a]:=by
 rw [I1,List.map_append]; congr 1; simp [f0,h]
def P1w (r:List Rat):List Rat:=(r.drop 1).map (· / r.getD 0 0)
theorem J0m {p:Nat→Bool}:∀ {n a i:Nat},(∀ k,k<i→p (a+k)=false)→p (a+i)=true→i<n→B4 p a n=((a+i:Nat):Int)
 | 0,_,_,_,_,h=>by omega
 | n+1,a,0,_,h1,_=>by rw [B4,if_pos (by simpa using h1)]; simp
 | n+1,a,i+1,h0,h1,h=>by
  have h2:=h0 0 oM
  rw [Nat.add_zero] at h2
  rw [B4,if_neg (by rw [h2]; simp),J0m (a:=a+1) (i:=i) (fun k hk=>by rw [Nat.add_assoc,Nat.add_comm 1 k]; exact h0 (k+1) oM) (by rw [Nat.add_assoc,Nat.add_comm 1 i]; exact h1) oM]
  rw [Nat.add_assoc,Nat.add_comm 1 i]
theorem J0p {p:Nat→Bool}:∀ {n a:Nat},(∀ k,k<n→p (a+k)=false)→B4 p a n = -1
 | 0,_,_=>rfl
 | n+1,a,h=>by
  have h2:=h 0 oM
  rw [Nat.add_zero] at h2
  rw [B4,if_neg (by rw [h2]; simp)]
  exact J0p fun k hk=>by rw [Nat.add_assoc,Nat.add_comm 1 k]; exact h (k+1) oM
def Q0v (t:ESt)(n:Nat):Int:=B4 (nzI t.b 0) t.pv.length (n - t.pv.length)
def K0j (c:Nat)(t:ESt)(n:Nat):List Rat:=if Q0v t n<0 then P1k c t.pv (fun i=>ent t.b i 0) else []
def N0x (t:ESt)(n:Nat):List Rat:=if Q0v t n<0 then [] else P1w (t.b.getD (Q0v t n).toNat [])
def F0v (t:ESt)(n:Nat):Int:=if Q0v t n<0 then 0 else 4
theorem N0w (n c B DB:Nat)(M:List (List Rat))(b:List Rat)(h:MOk c M)(hB1:MB B M)(hbB:∀ a∈b,qw a≤B)(hn:M.length=n)(hbn:b.length=n)(H:EU n c (n+1) B DB M (Y4 b)):C4 E (fun _=>true) 24 [.p (pMq c M),.p (pV b)] ([]) ([]) (.p (.tup [pV (K0j c (ech M (Y4 b) c) n),pV (N0x (ech M (Y4 b) c) n),vZ (F0v (ech M (Y4 b) c) n)])):=by
 refine Z3 (xs:=[pV (K0j c (ech M (Y4 b) c) n),pV (N0x (ech M (Y4 b) c) n),vZ (F0v (ech M (Y4 b) c) n)]) Tryz.func24 rfl Tryz.ntmps24 Tryz.results24 sM fun F G=>?_
 have L:=@lti _ _ G.nt
 have hG:=G.g
 have hX:=G.x
 have hN:=M5 hG
 have P0:∀ k,Nat.blt k 1000=true→F.pin k=none:=fun k hk=>G.p0 k (n6.low k hk)
 have hb:=H.bl
 have hcl:=H.cl
 have hnl:=H.nl
 have hsp:=V6 H.rc H.rb c (Nat.le_refl _)
 subst hbn
 have hpin:∀ k,F.pin k=none:=fun k=>G.p0 k rfl
 have hlo:∀ k,F.lo k=true:=fun k=>by rw [G.lo]; rfl
 refine exr (swb (T3 (k:=2) (n:=2) pa2 rfl rfl (P0 _ rfl) L) t1 t0 (frT [] n6 rfl rfl rfl) (aV L rfl (aV L rfl (aV L rfl ?_))))
 refine O1 ⟨[(1,_),(2,_),(5,_)],(2,_) :: (([]:List (Nat×Blk))),t3,⟨rfl,(hbT [_] n6 rfl)⟩,?_⟩
 refine T1 (exr (lp2 ag24 sz24 L rfl rfl (cK hG hX cl40 hN (H8 h hB1 oM) L t1 (sw (q4 L) t1 t0 (mV L rfl (gV (g:=25) rfl rfl L rfl rfl (swg (g:=25) rfl rfl (c_c hG hX cl64 rfl hN (b0j hbB oM oM) L) rfl t1 t0 (swg (g:=25) rfl rfl (q4 L) rfl t1 t0 (sw (l4 rfl L) t2 t0 ?_)))))))))
 refine O1 ⟨[(1,_),(2,_),(5,_),(29,_)],(2,_) :: (([]:List (Nat×Blk))),t4,⟨rfl,(hbT [_] n6 rfl)⟩,?_⟩
 refine U3 rfl rfl ?_
 refine U1 (xq ?_)
 refine T1 (exr (mV L rfl (sw (Z2 un40 L) t1 t0 (sw (Z1 un24 rfl sz22 dC rX L) t1 t1 ?_))))
 refine sw (Y1 ag22 rF rF L) t1 t1 ?_
 refine sw (Z2 un22 L) t1 t0 (sw (c_n L) t2 t0 ?_)
 refine O1 ⟨[(1,_),(2,_),(5,_),(35,_)],(2,_) :: (([]:List (Nat×Blk))),t4,⟨rfl,(hbT [_] n6 rfl)⟩,?_⟩
 refine U3 rfl sO ?_
 refine U1 (xq ?_)
 refine exr (mV L rfl (sw (Z2 un40 L) t1 t0 (swb (w0k (k:=38) un77 ti40 rfl rfl rfl rfl (show (0:Int)=((0:Nat):Int) from rfl) rfl (Nat.zero_le _) (by simp [Tryz.t40]; omega) oM (P0 _ rfl) L) t2 t0 (frT [_] n6 rfl rfl rfl) ?_)))
 refine aV L rfl ?_
 refine O1 ⟨[(1,_),(2,_),(5,_),(7,_)],(2,_) :: (38,_) :: (([]:List (Nat×Blk))),t4,⟨rfl,rfl,(hbT [_,_] n6 rfl)⟩,?_⟩
 refine y1w (s:=1) (a:=38) (t:=7) [2] (sl:=[(1,_),(2,_),(5,_)]) (pre:=[(2,_)]) dC dC (hpin _) (hpin _) (by rw [hlo,hlo]) rfl t3 rfl rfl t1 rfl rfl rfl ?_
 refine T1 (exr (mV L rfl (sw (Z2 un40 L) t1 t0 (mV L rfl ?_))))
 refine O1 ⟨[(1,_),(2,_),(5,_),(7,_),(39,_),(40,_),(41,_)],(2,_) :: ((F2 1 [])),t7,⟨rfl,(hbT [_] (i2 (s:=1) dC []) rfl)⟩,?_⟩
 refine X1 ?_
 refine F0h (α:=Nat) (fun i=>[(41,vi (i:Int)),(7,.ref 1002 0 i i)]) (fun i=>[]) (fun i=>(F2 1 ((Y4 b).take i))) (fun i=>i≤b.length) (fun i=>b.length - i) (0) (sl:=[(1,_),(2,_),(5,_),(39,_),(40,_)]) (hb:=[(2,_)]) ?_ ⟨oR,oR,rfl,rfl,rfl,rfl,rfl,trivial⟩ ⟨rfl,(hbT [_] (i2 (s:=1) dC []) rfl)⟩ ?_
 ·exact Nat.zero_le _
 intro i hi
 have hbsl:(Y4 b).length=b.length:=by simp [Y4]
 have htl:((Y4 b).take i).length=i:=by rw [J0]; omega
 refine exr (sw (Y3 L) t2 t0 ?_)
 refine O1 ⟨[(1,_),(2,_),(5,_),(7,_),(39,_),(40,_),(41,_),(42,_)],(2,_) :: ((F2 1 ((Y4 b).take i))),t8,⟨rfl,(hbT [_] (i2 (s:=1) dC ((Y4 b).take i)) rfl)⟩,?_⟩
 refine T1 ?_
 refine j2 rfl (fun hc=>?_) (fun hc=>?_)
 ·have hc:=dt hc
  have hib:i<b.length:=by omega
  have hst:=j1z hib
  have hqb:=hbB _ (b5 hib)
  refine U1 (xq ?_)
  refine T1 (X1 (exr (mV L rfl (sw (I2 un40 sz47 oM oM sM dC L) t2 t0 ?_))))
  refine sw (P7 ag47 sz47 (R7 hib) rfl L) t1 t0 (swb (L3 (k:=9) (n:=4) zv47 (.cons rfl (.cons rfl (.cons rfl (.cons rfl .nil)))) rfl (P0 _ rfl) L) t0 t0 (frT [_] (i2 (s:=1) dC ((Y4 b).take i)) rfl rfl (by simp [E3,U2,Cells.free,PV.freeL,PV.free,P3,Y2])) ?_)
  refine aV L rfl (sb (R2 sz47 rF pa4 rfl pu4) t2 t1 ?_)
  refine O1 ⟨[(1,_),(2,_),(5,_),(7,_),(8,_),(9,_),(39,_),(40,_),(41,_)],(2,_) :: (9,_) :: ((F2 1 ((Y4 b).take i))),t9,⟨rfl,rfl,(hbT [_,_,_] (i2 (s:=1) dC ((Y4 b).take i)) rfl)⟩,?_⟩
  refine exr (mV L rfl (sw (Z2 un40 L) t1 t0 (sw (G3 L (w64 oM oM)) t2 t0 (swb (V0x (k:=49) hG hX cl54 rfl hN (k0q (b.length+1) oM) (P0 _ rfl) L) t1 t0 (frT [_,_] (i2 (s:=1) dC ((Y4 b).take i)) rfl rfl (by simp [E3,U2,Cells.free,PV.freeL,PV.free,P3,Y2])) ?_))))
  refine aV L rfl ?_
  refine O1 ⟨[(1,_),(2,_),(5,_),(7,_),(8,_),(9,_),(10,_),(39,_),(40,_),(41,_)],(2,_) :: (9,_) :: (49,_) :: ((F2 1 ((Y4 b).take i))),t10,⟨rfl,rfl,rfl,(hbT [_,_,_] (i2 (s:=1) dC ((Y4 b).take i)) rfl)⟩,?_⟩
  refine exd rF ?_
  refine mV L rfl (mV L rfl (mV L rfl (sw (G3 L (w64 oM oM)) t2 t0 (lp4 ag47 sz47 L rfl rfl (cK hG hX cl55 hN (O6 1 dC dC) L t1 (sw (I9 un40 sz47 (by exact sM) dC oM L) t2 t1 ?_))))))
  refine sb (F0y (n:=4) sz47 (by exact sM) rfl sO) t2 t1 ?_
  refine sw (q0h (sz:=4) un40 sz47 (by exact (by first | (simp; done) | (simp; omega))) (j:=i+1) rO oM L) t2 t1 ?_
  refine sb (F0y (n:=4) sz47 (by exact (by first | (simp; done) | (simp; omega))) rfl oM) t2 t1 ?_
  refine O1 ⟨g0h [⟨[10],[],[50],[]⟩,⟨[10],[],[51],[]⟩,⟨[8],[],[52],[]⟩,⟨[52],[],[53],[]⟩,⟨[9],[9],[54],[]⟩,⟨[],[],[55],[]⟩,⟨[50],[49],[56],[]⟩,⟨[56,54],[49],[],[49]⟩,⟨[51,53],[49],[57],[]⟩,⟨[57,55],[49],[],[49]⟩] (.cons (cf0 rfl) (.cons (cf0 rfl) (.cons (cf0 rfl) (.cons (cf0 rfl) (.cons (cf0 rfl) (.cons (cf0 rfl) (.cons (cf0 rfl) (.cons (cf0 rfl) (.cons (cf0 rfl) (.cons (cf0 rfl)  .nil)))))))))) rfl (frS [] [_,_,_] (i2 (s:=1) dC ((Y4 b).take i)) rfl (by simp [E3,U2,Cells.free,PV.freeL,PV.free,P3,Y2])) dC,[(1,_),(2,_),(5,_),(7,_),(10,_),(39,_),(40,_),(41,_)],(2,_) :: (49,G4 (((zsQ (b.length+1)).set 0 (b.getD i 0)).set (i+1) 1)) :: ((F2 1 ((Y4 b).take i))),t8,⟨rfl,obl rfl (B1q (v:=zq (b.length+1)) sM sO),(hbT [_,_,_,_,_] (i2 (s:=1) dC ((Y4 b).take i)) rfl)⟩,?_⟩
  obtain ⟨ln,hln⟩:∃ ln,ln=((zsQ (b.length+1)).set 0 (b.getD i 0)).set (i+1) 1:=⟨_,rfl⟩
  have hlnl:ln.length=b.length+1:=by rw [hln]; simp
  rw [← hln] at hst ⊢
  rw [← hlnl]
  refine F3 (mV L rfl (mV L rfl (swb (P1d (k:=60) (vs:=[_]) un77 ti40 rfl rfl dC dC rfl (P2 (.cons rfl .nil) rfl) rfl (.cons rfl .ref rfl pu1 .nil) rfl rfl (P0 _ rfl) L) t1 t0 (frT [_,_] (i2 (s:=1) dC ((Y4 b).take i)) rfl rfl rfl) ?_)))
  refine swb (k1z (k:=1002) (j:=60) (cs:=J4 1 0 ((Y4 b).take i)) un77 un77 ti40 rfl rfl rfl (by rw [y2,htl]) (by simp [Tryz.t40]; omega) oM (hpin _) L) t2 ⟨?_,rfl,trivial⟩ t0 ?_
  ·exact rdT [_,_,_] (i2 (s:=1) dC _) rfl hdL
  refine aV L rfl ?_
  refine O1 (xq ?_)
  refine K1v (s:=1) (a:=49) (m:=(Y4 b).take i) (v:=ln) [2,1002] (sl:=[(1,_),(2,_),(5,_),(7,.ref 1002 0 (i+1) (i+1)),(39,_),(40,_),(41,_)]) (pre:=[(2,_)]) dC dC (hpin _) (hpin _) (by rw [hlo,hlo]) rfl t7 rfl t1 rfl rfl rfl rfl (fun k B hk=>?_) ?_
  ·obtain ⟨j,_,hj⟩:=b9 (G0.2 ⟨_,J3 hk,rfl⟩)
   have hj:k=C3 1 (0+j):=hj
   have hk9:k≠1002∧k≠60∧k≠2∧k≠49:=by rw [hj]; unfold C3; omega
   show List.lookup k ((1002,_) :: (60,_) :: (2,_) :: (49,_) :: F2 1 ((Y4 b).take i))=some B
   rw [w8 hk9.1,w8 hk9.2.1,w8 hk9.2.2.1,w8 hk9.2.2.2,F2,w8 hk9.1]; exact hk
  rw [← hst]
  refine F3 (sw (G3 L (w64 oM oM)) t2 t0 (mV L rfl (O1 ?_)))
  exact ⟨i+1,oM,by omega,D3 ⟨oR,oR,rfl,rfl,rfl,rfl,rfl,trivial⟩ ⟨rfl,(hbT [_] (i2 (s:=1) dC ((Y4 b).take (i+1))) rfl)⟩⟩
 ·have hc:=df hc
  have hib:i=b.length:=by omega
  subst hib
  rw [show (Y4 b).take b.length=Y4 b from C0 oM]
  obtain ⟨t,ht⟩:∃ t,t=ech M (Y4 b) c:=⟨_,rfl⟩
  have hech:=q0s true b.length c (b.length+1) B DB M (Y4 b) H
  rw [← ht] at hech hsp
  obtain ⟨r1,r2,r3,-⟩:=hsp
  have hbe:=H.be c (Nat.le_refl _)
  rw [← ht] at hbe
  have hbeg:C4 E (fun _=>false) 50 [.p (.agg [vZ c,.sl M.length (P5 M)]),bv true b.length] (bsT true (Y4 b)) ([wU c M (bv true b.length)]++i5 true M (Y4 b)) (.at_ 999 0 3):=by rw [hn]; exact k0z true b.length c M (Y4 b) H.rc H.nl H.cl
  refine O2 (xq ?_)
  refine n0g (nsw (q6 ag24 sz24 rF (by exact al2) rfl L) t1 t1 ?_)
  refine nsw (c_m L) t1 t0 (nsU (pre:=[_]) (H:=bsT true (Y4 b)) G hN [2] [(1,_),(2,_),(5,_)] [(2,_)] hbeg L (R4 (ys:=[_,_]) cl50 rfl rfl) t2 Y0b m0w (n5 _ _).nd p0a k1m V0y (fun h=>by cases h) rfl t1 rfl t3 rfl rfl rfl rfl ?_)
  refine nsw (c_a L) t1 t0 ?_
  refine .nil ⟨[(2,_),(5,_),(11,_)],(2,_) :: (999,_) :: (i5 true M (Y4 b)),t3,⟨rfl,rfl,(hbT [_,_] (o6 true M (Y4 b)) rfl)⟩,?_⟩
  refine n0g (nsw (c_m L) t1 t0 (nsU (pre:=[_]) (H:=[wU c M (bv true b.length)]++i5 true M (Y4 b)) G hN [2,999] [(2,_),(5,_),(11,.at_ 999 0 3)] [(2,_)] hech L (R4 (ys:=[_]) cl51 rfl rfl) t1 m0w m0w p0a p0a k1m (fun q h=>by cases h) M1k rfl t1 rfl t3 rfl rfl rfl rfl ?_))
  refine nsw (c_m L) t1 t0 (nsw (V3 rfl L) t1 t0 (nsw (V3 rfl L) t1 t0 (H1k (L3 (k:=13) (n:=4) zv47 (.cons rfl (.cons rfl (.cons rfl (.cons rfl .nil)))) rfl (P0 _ rfl) L) t0 t0 (frT [_,_] (o6 true t.m t.b) rfl rfl (by simp [E3,U2,Cells.free,PV.freeL,PV.free,P3,Y2])) ?_)))
  refine nsw (c_a L) t1 t0 (nsb (R2 sz47 rF pa4 rfl pu4) t2 t1 ?_)
  refine .nil ⟨[(2,_),(5,_),(11,_),(12,_)],(2,_) :: (999,_) :: (i5 true t.m t.b),t4,⟨rfl,rfl,(hbT [_,_,_,_] (o6 true t.m t.b) rfl)⟩,?_⟩
  refine v1q (pre:=[_]) hlo rfl sM (fun _=>r2.1) ⟨⟨_,rfl,.same⟩,⟨_,rfl,.same⟩,⟨_,rfl,.same⟩,⟨_,rfl,.same⟩,trivial⟩ ?_
  have hle:=r3.le
  obtain ⟨q,hq⟩:∃ q,q=t.pv.length:=⟨_,rfl⟩
  have hdl:(t.b.drop q).length=b.length - q:=by rw [List.length_drop,r2.1]
  show X3 _ _ _ ⟨_,[_]++[(999,⟨79,3,.mix [.p (.sl t.m.length (P5 t.m)),.p (vZ c),.p (.sl t.b.length (P5 t.b))]⟩)]⟩ _
  refine T1 (exr (mV L rfl (sw (X2 rX L) t1 t1 ?_)))
  refine sw (Z1 un79 rfl sz77 dC rX L) t1 t1 ?_
  refine sw (Y1 ag77 rF rF L) t1 t1 ?_
  refine mV L rfl (sw (Z2 un27 L) t1 t0 (sw (V0h un77 sz40 (l:=q) rO (by have:=r2.1; omega) (show t.b.length - q=(t.b.drop q).length by simp) sM (by rw [Nat.mul_one,g1m]) L) t2 t0 ?_))
  refine sw (Z2 un77 L) t1 t0 (mV L rfl (zn [(2,_),(5,_),(11,_),(12,_),(77,_),(78,_),(79,_)] [(2,_),(999,_)] t7 t2 ?_))
  obtain ⟨D',hD⟩:∃ D',D'=t.b.drop q:=⟨_,rfl⟩
  rw [← hD] at hdl ⊢
  have hDg:∀ j,D'.getD j []=t.b.getD (q+j) []:=fun j=>by rw [hD,f0,f0,List.getElem?_drop]
  have hDl:∀ j,j<D'.length→(D'.getD j []).length=b.length+1:=fun j hj=>by rw [hDg]; exact r2.get oM
  have hDB:∀ j,∀ a∈D'.getD j [],qw a≤B:=fun j a ha=>by
   rw [hDg] at ha
   obtain ⟨k,rfl⟩:=f0n ha
   exact f0s hbe H.b0
  refine X1 ?_
  refine exl (α:=Nat) (fun i=>[(79,vi (i:Int))]) (fun i=>[]) (fun i=>i≤D'.length∧∀ k,k<i→(D'.getD k []).getD 0 0=0) (fun i=>D'.length - i) (0) (sl:=[(2,_),(5,_),(11,_),(12,_),(77,_),(78,_)]) (hb:=[(2,_),(999,_)]) ?_ ⟨oR,rfl,rfl,rfl,rfl,rfl,rfl,trivial⟩ t2 ?_
  ·exact ⟨Nat.zero_le _,fun k hk=>by omega⟩
  intro i hi
  obtain ⟨hi,hz⟩:=hi
  refine exr (sw (Y3 L) t2 t0 (zn [(2,_),(5,_),(11,_),(12,_),(77,_),(78,_),(79,_),(80,_)] [(2,_),(999,_)] t8 t2 (T1 ?_)))
  refine j2 rfl (fun hc2=>?_) (fun hc2=>?_)
  ·have hc2:=dt hc2
   have hid:i<D'.length:=by omega
   have hl:=hDl i hid
   have hlB:=hDB i
   obtain ⟨r,hr⟩:∃ r,r=D'.getD i []:=⟨_,rfl⟩
   rw [← hr] at hl hlB
   have h0l:0<r.length:=by omega
   have hqa:=hlB _ (b5 h0l)
   refine U1 (xq ?_)
   refine T1 (X1 (exr (sw (ixJ un77 sz40 (j:=i) rO oM sM L) t2 t0 ?_)))
   refine sw (n4 ag40 (by rw [Y8 hid,← hr]) L) t1 t0 ?_
   refine aV L rfl (zn [(2,_),(5,_),(11,_),(12,_),(15,_),(77,_),(78,_),(79,_)] [(2,_),(999,_)] t8 t2 (T1 (exr (mV L rfl (sw (I2 un40 sz47 dC oM sM dC L) t2 t0 ?_)))))
   refine sw (P7 ag47 sz47 (R7 (v:=r) (i:=0) h0l) rfl L) t1 t0 (cK hG hX cl65 hN (v6 (r.getD 0 0) oM) L t1 (zn [(2,_),(5,_),(11,_),(12,_),(15,_),(77,_),(78,_),(79,_),(86,_)] [(2,_),(999,_)] t9 t2 ?_))
   refine j2 rfl (fun hz0=>?_) (fun hz0=>?_)
   ·have hz0:=dt hz0
    refine O2 (xq ?_)
    refine F3 (sw (G3 L (w64 oM oM)) t2 t0 (mV L rfl (O1 ?_)))
    exact ⟨i+1,⟨by omega,n1a hz (by rw [← hr]; exact hz0)⟩,by omega,D3 ⟨oR,rfl,rfl,rfl,rfl,rfl,rfl,trivial⟩ t2⟩
   ·have hz0:=df hz0
    obtain ⟨r',hr'⟩:∃ r',r'=r.drop 1:=⟨_,rfl⟩
    have hl1:r'.length=b.length:=by rw [hr',List.length_drop,hl]; omega
    have hnb:0<b.length:=by omega
    have hB1':∀ a∈r',qw a≤B:=fun a ha=>hlB a (List.mem_of_mem_drop (by rw [hr'] at ha; exact ha))
    have hsy:∀ k,k<r'.length→(r'.take (k+1)).map (· / r.getD 0 0)=(r'.take k).map (· / r.getD 0 0)++[r'.getD k 0 / r.getD 0 0]:=fun k hk=>q1b hk
    refine U1 (xq ?_)
    refine T1 (exr (mV L rfl (sw (V0h un40 sz47 (l:=1) rfl oM (show r.length - 1=r'.length by rw [hl1,hl]; omega) sM (show (d5 r).drop (1*4)=d5 r' by rw [hr']; exact q0z) L) t2 t0 ?_)))
    refine sw (Z2 un40 L) t1 t0 (mV L rfl (zn [(5,_),(15,_),(88,_),(89,_),(90,_)] [] t5 trivial (X1 ?_)))
    refine B1g (α:=Nat) (fun k=>[(90,vi (k:Int)),(5,.ref 105 0 k (k*4))]) (fun k=>[(105,G4 ((r'.take k).map (· / r.getD 0 0)))]) (fun k=>0<k∧k≤r'.length) (fun k=>r'.length - k) (r'.length+1) (sl:=[(15,_),(88,_),(89,_)]) (hb:=[]) t3 t0 ?_ ?_
    ·refine exr (sw (Y3 L) t2 t0 (zn [(5,_),(15,_),(88,_),(89,_),(90,_),(91,_)] [] t6 trivial (T1 (M8 rfl sO ?_))))
     have hk0:0<r'.length:=by omega
     have hqk:=hB1' _ (b5 hk0)
     refine U1 (xq ?_)
     refine T1 (X1 (exr (sw (I2 un40 sz47 dC oM sM dC L) t2 t0 ?_)))
     refine sw (P7 ag47 sz47 (R7 (v:=r') (i:=0) hk0) rfl L) t1 t0 (swb (L3 (k:=17) (n:=4) zv47 (.cons rfl (.cons rfl (.cons rfl (.cons rfl .nil)))) rfl (P0 _ rfl) L) t0 t0 ⟨rfl,rfl⟩ (sb (R2 sz47 rF pa4 rfl pu4) t2 t1 ?_))
     refine zn [(5,_),(15,_),(17,_),(88,_),(89,_),(90,_)] [(17,_)] t6 t1 (exd rF ?_)
     refine lp4 ag47 sz47 L rfl rfl (mV L rfl (sw (I2 un40 sz47 dC oM sM dC L) t2 t0 ?_))
     refine sw (P7 ag47 sz47 (R7 (v:=r) (i:=0) h0l) rfl L) t1 t0 (cK hG hX cl66 hN (q0v (r'.getD 0 0) (r.getD 0 0) oM oM hz0) L t2 (mV L rfl (sw (V3 rfl L) t1 t0 (sw (V3 rfl L) t1 t0 (swb (L3 (k:=18) (n:=4) zv47 (.cons rfl (.cons rfl (.cons rfl (.cons rfl .nil)))) rfl (P0 _ rfl) L) t0 t0 ⟨rfl,rfl⟩ (sb (R2 sz47 rF pa4 rfl pu4) t2 t1 ?_))))))
     refine aV L rfl ?_
     refine O1 ⟨aok rfl rfl,[(5,_),(15,_),(18,_),(88,_),(89,_),(90,_)],[(18,_)],t6,t1,?_⟩
     refine F3 (mV L rfl (lp4 ag47 sz47 L rfl rfl (sw (I4 (vs:=[_]) un40 ti47 rfl rfl dC dC rfl (P2 (.cons rfl (.cons rfl (.cons rfl (.cons rfl .nil)))) rfl) rfl (.cons rfl pa4 rfl pu4 .nil) (.cons (.cons (.cons (.cons .nil)))) L) t1 t0 (swb (apN (k:=105) (sz:=4) un40 un40 ti47 rfl rfl rfl dC sM rfl (by first | (simp [Tryz.t47]; done) | (simp [Tryz.t47]; omega)) oM (P0 _ rfl) L) t2 t0 ⟨rfl,rfl⟩ ?_))))
     refine aV L rfl (O1 (F3 (sw (G3 L (w64 oM oM)) t2 t0 (mV L rfl (O1 ?_)))))
     exact ⟨1,⟨by omega,by omega⟩,oM,D3 ⟨oR,oR,rfl,rfl,rfl,trivial⟩ ⟨obl rfl (by rw [hsy 0 hk0]; rfl),trivial⟩⟩
    ·intro k hk
     obtain ⟨hk0,hk1⟩:=hk
     refine exr (sw (Y3 L) t2 t0 (zn [(5,_),(15,_),(88,_),(89,_),(90,_),(91,_)] [(105,_)] t6 t1 (T1 ?_)))
     refine j2 rfl (fun hk2=>?_) (fun hk2=>?_)
     ·have hk2:=dt hk2
      have hkl:k<r'.length:=by omega
      have hqk:=hB1' _ (b5 hkl)
      refine U1 (xq ?_)
      refine T1 (X1 (exr (sw (I2 un40 sz47 oM oM sM dC L) t2 t0 ?_)))
      refine sw (P7 ag47 sz47 (R7 hkl) rfl L) t1 t0 (swb (L3 (k:=17) (n:=4) zv47 (.cons rfl (.cons rfl (.cons rfl (.cons rfl .nil)))) rfl (P0 _ rfl) L) t0 t0 ⟨rfl,rfl⟩ (sb (R2 sz47 rF pa4 rfl pu4) t2 t1 ?_))
      refine zn [(5,_),(15,_),(17,_),(88,_),(89,_),(90,_)] [(17,_),(105,_)] t6 t2 (exd rF ?_)
      refine lp4 ag47 sz47 L rfl rfl (mV L rfl (sw (I2 un40 sz47 dC oM sM dC L) t2 t0 ?_))
      refine sw (P7 ag47 sz47 (R7 (v:=r) (i:=0) h0l) rfl L) t1 t0 (cK hG hX cl66 hN (q0v (r'.getD k 0) (r.getD 0 0) oM oM hz0) L t2 (mV L rfl (sw (V3 rfl L) t1 t0 (sw (V3 rfl L) t1 t0 (swb (L3 (k:=18) (n:=4) zv47 (.cons rfl (.cons rfl (.cons rfl (.cons rfl .nil)))) rfl (P0 _ rfl) L) t0 t0 ⟨rfl,rfl⟩ (sb (R2 sz47 rF pa4 rfl pu4) t2 t1 ?_))))))
      refine aV L rfl ?_
      refine O1 ⟨aok rfl rfl,[(5,_),(15,_),(18,_),(88,_),(89,_),(90,_)],[(18,_),(105,_)],t6,t2,?_⟩
      refine F3 (mV L rfl (lp4 ag47 sz47 L rfl rfl (sw (I4 (vs:=[_]) un40 ti47 rfl rfl dC dC rfl (P2 (.cons rfl (.cons rfl (.cons rfl (.cons rfl .nil)))) rfl) rfl (.cons rfl pa4 rfl pu4 .nil) (.cons (.cons (.cons (.cons .nil)))) L) t1 t0 (swb (apP (sz:=4) un40 un40 ti47 rfl rfl rfl dC (by exact (by first | (simp; done) | (simp; omega))) oF sM rfl rfl rfl (by first | (simp [Tryz.t47]; done) | (simp [Tryz.t47]; omega)) oM (P0 _ rfl) L) t2 t1 t0 ?_))))
      refine aV L rfl (O1 (F3 (sw (G3 L (w64 oM oM)) t2 t0 (mV L rfl (O1 ?_)))))
      exact ⟨k+1,⟨by omega,by omega⟩,by omega,D3 ⟨oR,(ov rfl sO),rfl,rfl,rfl,trivial⟩ ⟨obl rfl ((v0r _ _).trans (by rw [hsy k hkl])),trivial⟩⟩
     ·have hk2:=df hk2
      have hkl:k=r'.length:=by omega
      subst hkl
      rw [I0]
      refine O2 (xq ?_)
      refine exr (mV L rfl (aV L rfl (aV L rfl (aV L rfl (zn [(4,_),(5,_),(6,_)] [(105,_)] t3 t1 ?_)))))
      have hF:Q0v t b.length=((q+i:Nat):Int):=by
       rw [Q0v,← hq]
       refine J0m (fun k hk=>?_) ?_ oM
       ·have:=hz k hk
        rw [hDg] at this
        rw [nzI,this]; rfl
       ·have h1:=hDg i
        rw [← hr] at h1
        simp only [nzI,← h1,Bool.not_eq_true',decide_eq_false_iff_not]
        exact hz0
      have hneg:¬ (((q+i:Nat):Int)<0):=by omega
      rw [← ht,K0j,N0x,F0v,hF,if_neg hneg,if_neg hneg,if_neg hneg,Int.toNat_natCast,← hDg,← hr,P1w,← hr']
      refine f5 [105] (sl:=[(4,_),(5,_),(6,_)]) (hb:=[]) (f0c (by simp [hlo])) ⟨⟨_,rfl,(.p .nil)⟩,⟨_,rfl,(.ref rfl rfl (by exact (by first | (simp; done) | (simp; omega))) (by first | rfl | omega))⟩,⟨_,rfl,.same⟩,trivial⟩ t0 ?_
      refine V1 ?_
      refine ⟨.inr rfl,K4.cast (.cons (.tmp rfl) (.cons (.tmp rfl) (.cons (.tmp rfl) .nil))) ?_,trivial⟩
      rw [pV,pV,O0]; rfl
  ·have hc2:=df hc2
   have hid:i=D'.length:=by omega
   refine O2 (xq ?_)
   refine exr (sw (Z1 un24 rfl sz3 dC rX L) t1 t1 ?_)
   refine sw (Y1 ag3 rF rF L) t1 t1 ?_
   refine swb (V0x (k:=111) hG hX cl54 rfl hN (k0q c oM) (P0 _ rfl) L) t1 t0 ⟨rfl,rfl⟩ (aV L rfl (zn [(4,_),(11,_),(12,_)] [(111,_),(999,_)] t3 t2 (T1 (exr (mV L rfl (sw (Z2 un27 L) t1 t0 (mV L rfl (zn [(4,_),(11,_),(112,_),(113,_),(114,_)] [(111,_),(999,_)] t5 t2 (X1 ?_)))))))))
   refine exl (α:=Nat) (fun k=>[(114,vi (k:Int))]) (fun k=>[(111,G4 (F0w t.pv (fun j=>ent t.b j 0) (zsQ c) k))]) (fun k=>k≤t.pv.length) (fun k=>t.pv.length - k) (0) (sl:=[(4,_),(11,_),(112,_),(113,_)]) (hb:=[(999,_)]) ?_ ⟨oR,rfl,rfl,rfl,rfl,trivial⟩ t2 ?_
   ·exact Nat.zero_le _
   intro k hk
   refine exr (sw (Y3 L) t2 t0 (zn [(4,_),(11,_),(112,_),(113,_),(114,_),(115,_)] [(111,_),(999,_)] t6 t2 (T1 ?_)))
   refine j2 rfl (fun hk2=>?_) (fun hk2=>?_)
   ·have hk2:=dt hk2
    have hkp:k<t.pv.length:=by have:=V7 t.pv; omega
    have hpk:=r3.lt _ (s8 hkp)
    have hkb:k<t.b.length:=by rw [r2.1]; omega
    have hkl:=r2.get (i:=k) oM
    refine U1 (xq ?_)
    refine T1 (X1 (exr (mV L rfl (sw (ixJ un27 sz3 (j:=k) rO oM sM L) t2 t0 ?_))))
    refine sw (n4 ag3 (m1s hkp) L) t1 t0 (aV L rfl (aV L rfl (zn [(4,_),(11,_),(20,_),(21,_),(112,_),(113,_),(114,_)] [(111,_),(999,_)] t7 t2 (F3 (mV L rfl (mV L rfl (mV L rfl (sw (X2 rX L) t1 t1 ?_))))))))
    refine sw (Z1 un79 rfl sz77 dC rX L) t1 t1 ?_
    refine sw (Y1 ag77 rF rF L) t1 t1 ?_
    refine mV L rfl (sw (ixJ un77 sz40 (j:=k) rO oM sM L) t2 t0 ?_)
    refine sw (n4 ag40 (Y8 hkb) L) t1 t0 (sw (I2 un40 sz47 dC oM sM dC L) t2 t0 ?_)
    refine sw (P7 ag47 sz47 (R7 (v:=t.b.getD k []) (i:=0) oM) rfl L) t1 t0 (sw (q0h (sz:=4) un40 sz47 (by exact sM) (j:=t.pv.getD k 0) rO (by simpa using hpk) L) t2 t1 ?_)
    refine sb (F0y (n:=4) sz47 (by exact sM) rfl oM) t2 t1 ?_
    refine O1 (F3 (sw (G3 L (w64 oM oM)) t2 t0 (mV L rfl (O1 ?_))))
    exact ⟨k+1,oM,by omega,D3 ⟨oR,rfl,rfl,rfl,rfl,trivial⟩ ⟨obl rfl ((q0m _ (by simpa using hpk)).trans (by rw [p0k]; rfl)),rfl,trivial⟩⟩
   ·have hk2:=df hk2
    have hkp:k=t.pv.length:=by have:=V7 t.pv; omega
    subst hkp
    refine O2 (xq ?_)
    refine exr (mV L rfl (aV L rfl (aV L rfl (aV L rfl (zn [(4,_),(5,_),(6,_)] [(111,_)] t3 t1 ?_)))))
    have hF:Q0v t b.length = -1:=by
     rw [Q0v,← hq]
     refine J0p fun k hk=>?_
     have:=hz k oM
     rw [hDg] at this
     rw [nzI,this]; rfl
    rw [← ht,K0j,N0x,F0v,hF,if_pos dC,if_pos dC,if_pos dC,P1k]
    refine f5 [111] (sl:=[(4,_),(5,_),(6,_)]) (hb:=[]) (f0c (by simp [hlo])) ⟨⟨_,rfl,(.ref rfl rfl (by exact sM) (by first | rfl | omega))⟩,⟨_,rfl,(.p .nil)⟩,⟨_,rfl,.same⟩,trivial⟩ t0 ?_
    refine V1 ?_
    refine ⟨.inr rfl,K4.cast (.cons (.tmp rfl) (.cons (.tmp rfl) (.cons (.tmp rfl) .nil))) ?_,trivial⟩
    rw [pV,v0h,V0k]; rfl

def q0x (M:List (List Rat))(y:List Rat)(j k:Nat):List Rat:=(List.range k).map fun i=>y.getD i 0*ent M i j
theorem H0j {M:List (List Rat)}{y:List Rat}{j k:Nat}:q0x M y j (k+1)=q0x M y j k++[y.getD k 0*ent M k j]:=by simp [q0x,List.range_succ]
@[simp] theorem G1c {M:List (List Rat)}{y:List Rat}{j k:Nat}:(q0x M y j k).length=k:=by simp [q0x]
def V0p (M:List (List Rat))(y:List Rat)(c:Nat):Bool:=(List.range c).all fun j=>decide (p9 (q0x M y j M.length)=0)
def m1n (c:Nat)(M:List (List Rat))(b y:List Rat):Bool:=V0p M y c && decide (n0x y b=1)
theorem H1y {a b:Rat}:p0y a b=0↔a=b:=by
 unfold p0y
 constructor
 ·intro h
  split at h
  ·cases h
  ·split at h
   ·cases h
   ·rename_i h1 h2; exact Rat.le_antisymm (Rat.not_lt.1 h2) (Rat.not_lt.1 h1)
 ·rintro rfl; simp [Rat.lt_irrefl]
theorem H1a {B C:Nat}{u v:List Rat}(hB:∀ a∈u,qw a≤B)(hC:∀ a∈v,qw a≤C):qw (n0x u v)≤u.length*(B+C+1)+1:=by
 have:=Y0x (K0v hB hC)
 have h2:=V0 (B+C+1) (j0a (u:=u) (v:=v))
 rw [n0x]; omega
theorem F1h {B:Nat}{M:List (List Rat)}{y:List Rat}{j k:Nat}(hB:MB B M)(hy:∀ a∈y,qw a≤B)(h0:0<B)(hk:k≤y.length):∀ a∈q0x M y j k,qw a≤B+B:=by
 intro a ha
 simp only [q0x,G0,List.mem_range] at ha
 obtain ⟨i,hi,rfl⟩:=ha
 have:=L9 (y.getD i 0) (ent M i j)
 have:=hy _ (b5 (show i<y.length by omega))
 have:=f0s (i:=i) (j:=j) hB h0
 omega
theorem H0z {M:List (List Rat)}{y:List Rat}{c:Nat}:V0p M y (c+1)=(V0p M y c && decide (p9 (q0x M y c M.length)=0)):=by
 simp [V0p,List.range_succ]
theorem b1p {M:List (List Rat)}{y:List Rat}{j c:Nat}(hj:j<c)(h:¬ p9 (q0x M y j M.length)=0):V0p M y c=false:=by
 rw [V0p,List.all_eq_false]
 exact ⟨j,by simpa using hj,by simpa using h⟩
theorem Y0p (c B:Nat)(M:List (List Rat))(b y:List Rat)(h:MOk c M)(hB:MB B M)(hbB:∀ a∈b,qw a≤B)(hyB:∀ a∈y,qw a≤B)(hbl:b.length=M.length)(hyl:y.length=M.length)(h0:0<B)(hs:M.length*(B+B+1)+1<900000000)(hbb:B<100000000):j3 E 25 [pMq c M,pV b,pV y] (bZ (m1n c M b y)):=by
 refine D2 (xs:=[bZ (m1n c M b y)]) Tryz.func25 rfl Tryz.ntmps25 Tryz.results25 sM fun F hG hX0 hnt hdf P0=>?_
 obtain ⟨L,hX,hN⟩:=pro hnt hX0 hG
 have hr4:=h.rows
 have hc60:=h.cols
 refine exr (swb (T3 (k:=3) (n:=2) pa2 rfl rfl (P0 _ rfl) L) t1 t0 ⟨rfl,rfl⟩ (aV L rfl (zn [(1,_),(2,_),(3,_)] [(3,_)] t3 t1 (T1 (exr (lp2 ag24 sz24 L rfl rfl (cK hG hX cl40 hN (H8 h hB oM) L t1 (sw (q4 L) t1 t0 (mV L rfl (gV (g:=14) rfl rfl L rfl rfl (swg (g:=14) rfl rfl (c_c hG hX cl64 rfl hN (b0j hbB oM oM) L) rfl t1 t0 ?_)))))))))))
 refine swg (g:=14) rfl rfl (q4 L) rfl t1 t0 (sw (l4 rfl L) t2 t0 (mV L rfl (gV (g:=19) rfl rfl L rfl rfl (swg (g:=19) rfl rfl (c_c hG hX cl64 rfl hN (b0j hyB oM oM) L) rfl t1 t0 (swg (g:=19) rfl rfl (q4 L) rfl t1 t0 (sw (l4 rfl L) t2 t0 (mV L rfl (gV (g:=24) rfl rfl L rfl rfl (swg (g:=24) rfl rfl (Z2 un40 L) rfl t1 t0 (swg (g:=24) rfl rfl (Z1 un24 rfl sz22 dC rX L) rfl t1 t1 ?_))))))))))
 refine swg (g:=24) rfl rfl (Y1 ag22 rF rF L) rfl t1 t1 ?_
 refine swg (g:=24) rfl rfl (Z2 un22 L) rfl t1 t0 (swg (g:=24) rfl rfl (c_n L) rfl t2 t0 (sw (l4 rfl L) t2 t0 (mV L rfl (gV (g:=32) rfl sO L rfl rfl (swg (g:=32) rfl sO (Z2 un40 L) rfl t1 t0 (swg (g:=32) rfl sO (Z1 un24 rfl sz22 dC rX L) rfl t1 t1 ?_))))))
 refine swg (g:=32) rfl sO (Y1 ag22 rF rF L) rfl t1 t1 ?_
 refine swg (g:=32) rfl sO (Z2 un22 L) rfl t1 t0 (swg (g:=32) rfl sO (c_n L) rfl t2 t0 (sw (l4 sO L) t2 t0 (zn [(1,_),(2,_),(3,_),(39,_)] [(3,_)] t4 t1 (U3 rfl sO ?_))))
 refine U1 (xq ?_)
 refine T1 (exr (sw (Z1 un24 rfl sz3 dC rX L) t1 t1 ?_))
 refine sw (Y1 ag3 rF rF L) t1 t1 ?_
 refine mV L rfl (zn [(1,_),(2,_),(3,_),(41,_),(42,_)] [(3,_)] t5 t1 (X1 ?_))
 refine exl (α:=Nat) (fun j=>[(42,vi (j:Int))]) (fun j=>[]) (fun j=>j≤c∧V0p M y j=true) (fun j=>c - j) (0) (sl:=[(1,_),(2,_),(3,_),(41,_)]) (hb:=[(3,_)]) ?_ ⟨oR,rfl,rfl,rfl,rfl,trivial⟩ t1 ?_
 ·exact ⟨Nat.zero_le _,rfl⟩
 intro j hj
 obtain ⟨hj,hch⟩:=hj
 refine exr (sw (Y3 L) t2 t0 (zn [(1,_),(2,_),(3,_),(41,_),(42,_),(43,_)] [(3,_)] t6 t1 (T1 ?_)))
 refine j2 rfl (fun hc=>?_) (fun hc=>?_)
 ·have hc:=dt hc
  have hjc:j<c:=by omega
  refine U1 (xq ?_)
  refine T1 (X1 (exr (mV L rfl (aV L rfl (zn [(1,_),(2,_),(3,_),(7,_),(41,_),(42,_)] [(3,_)] t6 t1 (exr (aV L rfl (zn [(1,_),(2,_),(3,_),(7,_),(8,_),(41,_),(42,_)] [(3,_)] t7 t1 (T1 (exr (sw (Z1 un24 rfl sz22 dC rX L) t1 t1 ?_)))))))))))
  refine sw (Y1 ag22 rF rF L) t1 t1 ?_
  refine sw (Z2 un22 L) t1 t0 (mV L rfl (zn [(1,_),(2,_),(3,_),(7,_),(8,_),(41,_),(42,_),(46,_),(47,_),(48,_)] [(3,_)] t10 t1 (X1 ?_)))
  refine exl (α:=(Nat×List Rat)) (fun x=>[(48,vi (x.1:Int)),(8,g1p 64 x.2)]) (fun x=>[]++k1f 64 x.2) (fun x=>x.1≤M.length∧q0x M y j x.1=x.2) (fun x=>M.length - x.1) ((0,[])) (sl:=[(1,_),(2,_),(3,_),(7,_),(41,_),(42,_),(46,_),(47,_)]) (hb:=[(3,_)]) ?_ ⟨oR,oR,rfl,rfl,rfl,rfl,rfl,rfl,rfl,rfl,trivial⟩ (hbI (l':=[(3,_)]) rfl t1) ?_
  ·exact ⟨Nat.zero_le _,rfl⟩
  intro x hk
  obtain ⟨k,T⟩:=x
  obtain ⟨hk,hT⟩:=hk
  simp only at hk hT
  rcases T with _ | ⟨q,T⟩
  ·dsimp only [g1p,k1f,List.append_nil]
   refine exr (sw (Y3 L) t2 t0 (zn [(1,_),(2,_),(3,_),(7,_),(8,_),(41,_),(42,_),(46,_),(47,_),(48,_),(49,_)] [(3,_)] t11 t1 (T1 ?_)))
   refine j2 rfl (fun hd=>?_) (fun hd=>?_)
   ·have hd:=dt hd
    have hkl:k<M.length:=by omega
    have hrl:=h.get hkl
    have ht:=H0j (M:=M) (y:=y) (j:=j) (k:=k)
    rw [hT] at ht
    have hq1:=hyB _ (b5 (show k<y.length by omega))
    have hq2:=f0s (i:=k) (j:=j) hB h0
    refine U1 (xq ?_)
    refine T1 (X1 (exr (mV L rfl (sw (ixJ un22 sz40 (j:=k) rO oM sM L) t2 t0 ?_))))
    refine sw (n4 ag40 (Y8 hkl) L) t1 t0 (aV L rfl (aV L rfl (zn [(1,_),(2,_),(3,_),(7,_),(8,_),(9,_),(10,_),(41,_),(42,_),(46,_),(47,_),(48,_)] [(3,_)] t12 t1 (h0k rF ?_))))
    refine mV L rfl (mV L rfl (mV L rfl (sw (I2 un40 sz47 oM oM sM dC L) t2 t0 ?_)))
    refine sw (P7 ag47 sz47 (R7 (show k<y.length by omega)) rfl L) t1 t0 ?_
    refine mV L rfl (mV L rfl (sw (I2 un40 sz47 oM oM sM dC L) t2 t0 ?_))
    refine sw (P7 ag47 sz47 (R7 (show j<(M.getD k []).length by omega)) rfl L) t1 t0 ?_
    refine cK hG hX cl67 hN (U7 (y.getD k 0) (ent M k j) oM oM) L t2 (sw (I4 (vs:=[_]) un40 ti47 rfl rfl dC dC rfl (P2 (.cons rfl (.cons rfl (.cons rfl (.cons rfl .nil)))) rfl) rfl (.cons rfl pa4 rfl pu4 .nil) (.cons (.cons (.cons (.cons .nil)))) L) t1 t0 (swb (apN (k:=64) (sz:=4) un40 un40 ti47 rfl rfl rfl dC sM rfl (by simp [Tryz.t47]) oM (P0 _ rfl) L) t2 t0 ⟨rfl,rfl⟩ ?_))
    refine aV L rfl ?_
    refine O1 ⟨aok rfl rfl,?_⟩
    refine F3 (sw (G3 L (w64 oM oM)) t2 t0 (mV L rfl (O1 ?_)))
    exact ⟨(k+1,[y.getD k 0*ent M k j]),⟨by simp only; omega,ht⟩,(by simp only; omega),D3 ⟨oR,oR,rfl,rfl,rfl,rfl,rfl,rfl,rfl,rfl,trivial⟩ (hbI (l':=[(64,_),(3,_)]) rfl t2)⟩
   ·have hd:=df hd
    have hkl:k=M.length:=by omega
    rw [hkl] at hT
    refine O2 (xq ?_)
    refine f5 [] (sl:=[(1,_),(2,_),(3,_),(8,_),(41,_),(42,_)]) (hb:=[(3,_)]) (R3 hX0) ⟨⟨_,rfl,.same⟩,⟨_,rfl,.same⟩,⟨_,rfl,.same⟩,⟨_,rfl,(.p .nil)⟩,⟨_,rfl,.same⟩,⟨_,rfl,.same⟩,trivial⟩ ⟨⟨rfl,_,rfl,.same⟩,trivial⟩ (exr (mV L rfl (cK hG hX cl68 hN (m0q [] (B+B) sM sM sM) L t1 ?_)))
    refine cK hG hX cl65 hN (v6 (p9 []) (by rw [show p9 []=0 from rfl,n0n]; decide)) L t1 ?_
    refine sw (q4 L) t1 t0 (zn [(1,_),(2,_),(3,_),(41,_),(42,_),(69,_)] [(3,_)] t6 t1 (U3 rfl (by rw [show p9 []=0 from rfl]; rfl) ?_))
    refine U1 (xq ?_)
    refine F3 (sw (G3 L (w64 oM oM)) t2 t0 (mV L rfl (O1 ?_)))
    exact ⟨j+1,⟨by omega,by rw [H0z,hch,hT]; rfl⟩,by omega,D3 ⟨oR,rfl,rfl,rfl,rfl,trivial⟩ t1⟩
  ·dsimp only [g1p,k1f]
   have hTl:(q :: T).length=k:=by rw [← hT]; simp
   have hTl2:T.length+1=k:=hTl
   refine exr (sw (Y3 L) t2 t0 (zn [(1,_),(2,_),(3,_),(7,_),(8,_),(41,_),(42,_),(46,_),(47,_),(48,_),(49,_)] [(3,_),(64,_)] t11 t2 (T1 ?_)))
   refine j2 rfl (fun hd=>?_) (fun hd=>?_)
   ·have hd:=dt hd
    have hkl:k<M.length:=by omega
    have hrl:=h.get hkl
    have ht:=H0j (M:=M) (y:=y) (j:=j) (k:=k)
    rw [hT] at ht
    have hq1:=hyB _ (b5 (show k<y.length by omega))
    have hq2:=f0s (i:=k) (j:=j) hB h0
    refine U1 (xq ?_)
    refine T1 (X1 (exr (mV L rfl (sw (ixJ un22 sz40 (j:=k) rO oM sM L) t2 t0 ?_))))
    refine sw (n4 ag40 (Y8 hkl) L) t1 t0 (aV L rfl (aV L rfl (zn [(1,_),(2,_),(3,_),(7,_),(8,_),(9,_),(10,_),(41,_),(42,_),(46,_),(47,_),(48,_)] [(3,_),(64,_)] t12 t2 (h0k rF ?_))))
    refine mV L rfl (mV L rfl (mV L rfl (sw (I2 un40 sz47 oM oM sM dC L) t2 t0 ?_)))
    refine sw (P7 ag47 sz47 (R7 (show k<y.length by omega)) rfl L) t1 t0 ?_
    refine mV L rfl (mV L rfl (sw (I2 un40 sz47 oM oM sM dC L) t2 t0 ?_))
    refine sw (P7 ag47 sz47 (R7 (show j<(M.getD k []).length by omega)) rfl L) t1 t0 ?_
    refine cK hG hX cl67 hN (U7 (y.getD k 0) (ent M k j) oM oM) L t2 (sw (I4 (vs:=[_]) un40 ti47 rfl rfl dC dC rfl (P2 (.cons rfl (.cons rfl (.cons rfl (.cons rfl .nil)))) rfl) rfl (.cons rfl pa4 rfl pu4 .nil) (.cons (.cons (.cons (.cons .nil)))) L) t1 t0 (swb (apP (sz:=4) un40 un40 ti47 rfl rfl rfl dC (by exact sM) oF sM rfl rfl rfl (by simp [Tryz.t47]; omega) oM (P0 _ rfl) L) t2 t1 t0 ?_))
    refine aV L rfl ?_
    refine O1 ⟨q5 [⟨[8],[],[53],[]⟩,⟨[2],[],[54],[]⟩,⟨[9],[],[55],[]⟩,⟨[54,55],[],[56],[]⟩,⟨[56],[],[57],[]⟩,⟨[10],[],[58],[]⟩,⟨[7],[],[59],[]⟩,⟨[58,59],[],[60],[]⟩,⟨[60],[],[61],[]⟩,⟨[57,61],[],[62],[]⟩,⟨[62],[],[63],[]⟩,⟨[53,63],[64],[64],[64]⟩,⟨[64],[],[8],[]⟩] rF rF dC,?_⟩
    refine F3 (sw (G3 L (w64 oM oM)) t2 t0 (mV L rfl (O1 ?_)))
    exact ⟨(k+1,q :: T++[y.getD k 0*ent M k j]),⟨by simp only; omega,ht⟩,(by simp only; omega),D3 ⟨oR,(by exact ov rfl sO),rfl,rfl,rfl,rfl,rfl,rfl,rfl,rfl,trivial⟩ (hbI (l':=[(64,_),(3,_)]) rfl ⟨(obl rfl (v0r (q :: T) _)),rfl,trivial⟩)⟩
   ·have hd:=df hd
    have hkl:k=M.length:=by omega
    rw [hkl] at hT hTl
    have hbd:=F1h (M:=M) (y:=y) (j:=j) (k:=M.length) hB hyB h0 oM
    rw [hT] at hbd
    have hsq:=Y0x hbd
    rw [hTl] at hsq
    refine O2 (xq ?_)
    refine f5 [64] (sl:=[(1,_),(2,_),(3,_),(8,_),(41,_),(42,_)]) (hb:=[(3,_)]) (R3 hX0) ⟨⟨_,rfl,.same⟩,⟨_,rfl,.same⟩,⟨_,rfl,.same⟩,⟨_,rfl,(.ref rfl rfl (by exact sM) (by first | rfl | omega))⟩,⟨_,rfl,.same⟩,⟨_,rfl,.same⟩,trivial⟩ ⟨⟨rfl,_,rfl,.same⟩,trivial⟩ ?_
    refine exr (mV L rfl (cK hG hX cl68 hN (m0q (q :: T) (B+B) (by rw [hTl]; omega) hbd (by rw [hTl]; exact hs)) L t1 ?_))
    refine cK hG hX cl65 hN (v6 (p9 (q :: T)) oM) L t1 (sw (q4 L) t1 t0 (zn [(1,_),(2,_),(3,_),(41,_),(42,_),(69,_)] [(3,_)] t6 t1 ?_))
    refine j2 rfl (fun hz=>?_) (fun hz=>?_)
    ·have hz:¬ p9 (q0x M y j M.length)=0:=by rw [hT]; simpa using hz
     refine exr (aV L rfl (zn [(6,_)] [] t1 trivial (V1 ?_)))
     refine Q0 (.tmp rfl) ?_
     rw [m1n,b1p hjc hz]; rfl
    ·have hz:p9 (q0x M y j M.length)=0:=by rw [hT]; simpa using hz
     refine U1 (xq ?_)
     refine F3 (sw (G3 L (w64 oM oM)) t2 t0 (mV L rfl (O1 ?_)))
     exact ⟨j+1,⟨by omega,by rw [H0z,hch,hz]; rfl⟩,by omega,D3 ⟨oR,rfl,rfl,rfl,rfl,trivial⟩ t1⟩
 ·have hc:=df hc
  have hjc:j=c:=by omega
  subst hjc
  have hq:=H1a (u:=y) (v:=b) hyB hbB
  have hmul:y.length*(B+B+1)=M.length*(B+B+1):=by rw [hyl]
  refine O2 (xq ?_)
  refine exr (mV L rfl (mV L rfl (cK hG hX cl70 hN (B0w y b B B oM oM hyB hbB oM oM oM) L t2 (cK hG hX cl55 hN (O6 1 dC dC) L t1 (cK hG hX cl69 hN (m1h (n0x y b) 1 oM (by rw [y0c]; decide)) L t2 ?_)))))
  refine sw (c_e L) t2 t0 (aV L rfl (zn [(6,_)] [] t1 trivial (V1 ?_)))
  refine Q0 (.tmp rfl) ?_
  rw [m1n,hch,Bool.true_and,show decide (p0y (n0x y b) 1=0)=decide (n0x y b=1) from decide_eq_decide.2 H1y]
theorem k0x (n c B DB:Nat)(M:List (List Rat))(b:List Rat)(h:MOk c M)(hB1:MB B M)(hbB:∀ a∈b,qw a≤B)(hn:M.length=n)(hbn:b.length=n)(H:EU n c (n+1) B DB M (Y4 b)):j3 E 24 [pMq c M,pV b] (.tup [pV (K0j c (ech M (Y4 b) c) n),pV (N0x (ech M (Y4 b) c) n),vZ (F0v (ech M (Y4 b) c) n)]):=m0n (N0w n c B DB M b h hB1 hbB hn hbn H)
@[reducible] def b2 (vs:List (List RQ)):List (Nat×Blk):=[(2,⟨22,1,.mix [.p (.sl vs.length (d0n vs))]⟩)]
@[reducible] def b3 (vs:List (List RQ))(w:List RQ):List (Nat×Blk):=[(2,⟨22,1,.mix [.p (.sl vs.length (d0n vs))]⟩),(3,⟨40,1,.mix [.p (pVR w)]⟩)]
theorem g1x (vs:List (List RQ))(i:Nat)(hi:i<vs.length)(hm:MSm vs):C4 E (fun _=>true) 72 [.p (vZ i),.at_ 2 0 1] (b2 vs) (b2 vs) (.p (bZ (!(vs.getD i []).all RQ.is))):=by
 refine Z3 (xs:=[bZ (!(vs.getD i []).all RQ.is)]) Tryz.func72 rfl Tryz.ntmps72 Tryz.results72 sM fun F G=>?_
 have L:=@lti _ _ G.nt
 have hG:=G.g
 have hX:=G.x
 have hN:=M5 hG
 have P0:=G.p0
 have hr:=hm.2 _ (gDL hi)
 refine exr (aV L rfl (zn [(0,_),(1,_)] [(2,_)] t2 t1 (exr (sw (Y1 ag22 rF rF L) t1 t1 ?_))))
 refine mV L rfl (sw (ixJ un22 sz40 (j:=i) rO oM sM L) t2 t0 ?_)
 refine sw (n4 ag40 (g0c hi) L) t1 t0 (cK hG hX cl64 hN (W9 (vs.getD i []) hr.1 hr.2) L t1 (sw (q4 L) t1 t0 (aV L rfl (zn [(3,_)] [(2,_)] t1 t1 (V1 ?_)))))
 refine ⟨.inr rfl,K4.cast (.cons (.tmp rfl) .nil) ?_,t1⟩
 rfl
theorem k1y (vs:List (List RQ))(w:List RQ)(i:Nat)(hi:i<vs.length):C4 E (fun _=>true) 73 [.p (vZ i),.at_ 2 0 1,.at_ 3 0 1] (b3 vs w) (b3 vs w) (.p (bZ (!decide ((vs.getD i []).length=w.length)))):=by
 refine Z3 (xs:=[bZ (!decide ((vs.getD i []).length=w.length))]) Tryz.func73 rfl Tryz.ntmps73 Tryz.results73 sM fun F G=>?_
 have L:=@lti _ _ G.nt
 have hG:=G.g
 have hX:=G.x
 have hN:=M5 hG
 have P0:=G.p0
 refine exr (aV L rfl (zn [(0,_),(1,_),(2,_)] [(2,_),(3,_)] t3 t2 (exd rF ?_)))
 refine sw (Y1 ag22 rF rF L) t1 t1 ?_
 refine mV L rfl (sw (ixJ un22 sz40 (j:=i) rO oM sM L) t2 t0 ?_)
 refine sw (n4 ag40 (g0c hi) L) t1 t0 (sw (Z2 un40 L) t1 t0 (sw (Y1 ag40 rF rF L) t1 t1 ?_))
 refine sw (Z2 un40 L) t1 t0 (sw (c_n L) t2 t0 (aV L rfl ?_))
 refine O1 ⟨q5 [⟨[1],[2],[5],[]⟩,⟨[0],[],[6],[]⟩,⟨[5,6],[],[7],[]⟩,⟨[7],[],[8],[]⟩,⟨[8],[],[9],[]⟩,⟨[2],[3],[10],[]⟩,⟨[10],[],[11],[]⟩,⟨[9,11],[],[12],[]⟩,⟨[12],[],[4],[]⟩] rF rF dC,[(4,_)],[(2,_),(3,_)],t1,t2,?_⟩
 refine V1 ?_
 refine ⟨.inr rfl,K4.cast (.cons (.tmp rfl) .nil) ?_,t2⟩
 rw [show decide (((vs.getD i []).length:Int)=w.length)=decide ((vs.getD i []).length=w.length) from decide_eq_decide.2 oM]
theorem G0w {p:Nat→Bool}{n:Nat}:0≤B4 p 0 (n - 0)↔∃ i,i<n∧p i=true:=by
 constructor
 ·intro h
  obtain ⟨h1,h2,h3,h4⟩:=f0v (show ¬ B4 p 0 (n - 0)<0 by omega)
  exact ⟨_,by omega,h3⟩
 ·rintro ⟨i,hi,h⟩
  apply Classical.byContradiction
  intro hn
  have:=b0r (show B4 p 0 (n - 0)<0 by omega) i (Nat.zero_le _) oM
  rw [h] at this; cases this
theorem W0k {vs:List (List RQ)}:decide (0≤B4 (fun i=>!(vs.getD i []).all RQ.is) 0 (vs.length - 0)) = !(vs.all fun r=>r.all RQ.is):=by
 rw [Bool.eq_iff_iff,decide_eq_true_iff,G0w,Bool.not_eq_true',List.all_eq_false]
 constructor
 ·rintro ⟨i,hi,h⟩
  exact ⟨_,gDL hi,by simpa using h⟩
 ·rintro ⟨r,hr,h⟩
  obtain ⟨i,hi,rfl⟩:=List.getElem_of_mem hr
  refine ⟨i,hi,?_⟩
  have e:vs.getD i []=vs[i]:=by simp [f0,hi]
  rw [e]; simpa using h
theorem h1m {vs:List (List RQ)}{n:Nat}:decide (0≤B4 (fun i=>!decide ((vs.getD i []).length=n)) 0 (vs.length - 0)) = !(vs.all fun r=>decide (r.length=n)):=by
 rw [Bool.eq_iff_iff,decide_eq_true_iff,G0w,Bool.not_eq_true',List.all_eq_false]
 constructor
 ·rintro ⟨i,hi,h⟩
  exact ⟨_,gDL hi,by simpa using h⟩
 ·rintro ⟨r,hr,h⟩
  obtain ⟨i,hi,rfl⟩:=List.getElem_of_mem hr
  refine ⟨i,hi,?_⟩
  have e:vs.getD i []=vs[i]:=by simp [f0,hi]
  rw [e]; simpa using h
@[reducible] def pMl (V:List (List Rat)):J2:=.sl V.length (P5 V)
theorem Q1q (V:List (List Rat)):((V.map (List.map RQ.of)).all fun r=>r.all RQ.is)=true:=by
 rw [s0]; intro r hr
 obtain ⟨v,_,rfl⟩:=G0.1 hr
 exact Y0k v
theorem P1q {B:Nat}{V:List (List Rat)}(hB:MB B V)(hb:B<1000000000)(h1:V.length<1000000000)(h2:∀ r∈V,r.length<1000000000):MSm (V.map (List.map RQ.of)):=by
 refine ⟨by simpa using h1,fun r hr=>?_⟩
 obtain ⟨v,hv,rfl⟩:=G0.1 hr
 refine ⟨by simpa using h2 v hv,fun a ha=>?_⟩
 obtain ⟨q,hq,rfl⟩:=G0.1 ha
 have:=hB v hv q hq
 exact RQ.sm_of oM
theorem J0z (B DB:Nat)(V:List (List Rat))(w:List Rat)(hV:∀ r∈V,r.length=w.length)(hk:V.length≤60)(hwl:w.length≤400)(hB:MB B V)(hwB:∀ a∈w,qw a≤B)(H:EU w.length V.length (w.length+1) B DB (trM w.length V) (Y4 w)):j3 E 30 [pMl V,pV w] (.tup [pV (K0j V.length (ech (trM w.length V) (Y4 w) V.length) w.length),pV (N0x (ech (trM w.length V) (Y4 w) V.length) w.length),vZ (F0v (ech (trM w.length V) (Y4 w) V.length) w.length)]):=by
 refine D2 (xs:=[pV (K0j V.length (ech (trM w.length V) (Y4 w) V.length) w.length),pV (N0x (ech (trM w.length V) (Y4 w) V.length) w.length),vZ (F0v (ech (trM w.length V) (Y4 w) V.length) w.length)]) Tryz.func30 rfl Tryz.ntmps30 Tryz.results30 sM fun F hG hX0 hnt hdf P0=>?_
 obtain ⟨L,hX,hN⟩:=pro hnt hX0 hG
 have hb:=H.bl
 have hms:=P1q hB oM oM (fun r hr=>by rw [hV r hr]; omega)
 have f1:=B8 72 [.at_ 2 0 1] (b2 (V.map (List.map RQ.of))) sM (K7 rfl) cl72 (fun i=>!((V.map (List.map RQ.of)).getD i []).all RQ.is) 0 (V.map (List.map RQ.of)).length sO (fun i _ hi=>g1x _ i hi hms)
 have f2:=B8 73 [.at_ 2 0 1,.at_ 3 0 1] (b3 (V.map (List.map RQ.of)) (w.map RQ.of)) sM (K7 rfl) cl73 (fun i=>!decide (((V.map (List.map RQ.of)).getD i []).length=(w.map RQ.of).length)) 0 (V.map (List.map RQ.of)).length sO (fun i _ hi=>k1y _ (w.map RQ.of) i hi)
 have ff:=W0k (vs:=V.map (List.map RQ.of))
 have fg:=h1m (vs:=V.map (List.map RQ.of)) (n:=(w.map RQ.of).length)
 have fv:((V.map (List.map RQ.of)).all fun r=>decide (r.length=(w.map RQ.of).length))=true:=by
  rw [s0]; intro r hr
  obtain ⟨v,hv,rfl⟩:=G0.1 hr
  simp [hV v hv]
 have hst:=k0x w.length V.length B DB (trM w.length V) w ⟨by simpa using hwl,hk,fun r hr=>by simp only [trM,G0] at hr; obtain ⟨j,_,rfl⟩:=hr; simp⟩ (fun r hr a ha=>by
  simp only [trM,G0,List.mem_range] at hr
  obtain ⟨j,hj,rfl⟩:=hr
  exact F1n hB hj hV a ha) hwB sM rfl H
 rw [Q1q] at ff
 rw [fv] at fg
 obtain ⟨p1,hp1⟩:∃ p1,p1=B4 (fun i=>!((V.map (List.map RQ.of)).getD i []).all RQ.is) 0 ((V.map (List.map RQ.of)).length - 0):=⟨_,rfl⟩
 obtain ⟨p2,hp2⟩:∃ p2,p2=B4 (fun i=>!decide (((V.map (List.map RQ.of)).getD i []).length=(w.map RQ.of).length)) 0 ((V.map (List.map RQ.of)).length - 0):=⟨_,rfl⟩
 rw [← hp1] at f1 ff
 rw [← hp2] at f2 fg
 simp only [b2,b3,g0s,O0,M0w] at f1 f2
 refine exr (swb (T3 (k:=2) (n:=1) .sl rfl rfl (P0 _ rfl) L) t1 t0 ⟨rfl,rfl⟩ (swb (T3 (k:=3) (n:=1) .sl rfl rfl (P0 _ rfl) L) t1 t0 ⟨rfl,rfl⟩ (aV L rfl (aV L rfl (aV L rfl (zn [(2,_),(3,_)] [(2,_),(3,_)] t2 t2 (T1 (exr (sw (Y1 ag22 rF rF L) t1 t1 ?_)))))))))
 refine sw (Z2 un22 L) t1 t0 (sw (q0b (vs:=[]) (us:=[_]) rfl rfl L) t1 t0 (sw (Z5 hG hX hN f1 rfl L (R4 (ys:=[_,_,_]) cl52 rfl rfl) sM (K7 rfl) (fun q h=>by cases h)) t3 t1 ?_))
 refine sw (g0g L) t2 t0 (mV L rfl (swg (g:=17) rfl (by rw [ff] <;> rfl) (Y1 ag40 rF rF L) rfl t1 t1 ?_))
 refine swg (g:=17) rfl (by rw [ff] <;> rfl) (c_c hG hX cl64 rfl hN (b0j hwB oM oM) L) rfl t1 t0 ?_
 refine swg (g:=17) rfl (by rw [ff] <;> rfl) (q4 L) rfl t1 t0 ?_
 refine sw (l4 (by rw [ff] <;> rfl) L) t2 t0 ?_
 refine zn [(2,_),(3,_),(21,_)] [(2,_),(3,_)] t3 t2 (U3 rfl rfl ?_)
 refine U1 (xq ?_)
 refine T1 (exr (sw (Y1 ag22 rF rF L) t1 t1 ?_))
 refine sw (Z2 un22 L) t1 t0 (sw (q0b (vs:=[]) (us:=[_,_]) rfl rfl L) t2 t0 (sw (Z5 hG hX hN f2 rfl L (R4 (ys:=[_,_,_]) cl52 rfl rfl) sM (K7 rfl) (fun q h=>by cases h)) t3 t2 ?_))
 refine sw (g0g L) t2 t0 (zn [(2,_),(3,_),(26,_)] [(2,_),(3,_)] t3 t2 (U3 rfl (by rw [fg] <;> rfl) ?_))
 refine U1 (xq ?_)
 refine T1 (exr (sw (Y1 ag22 rF rF L) t1 t1 ?_))
 refine sw (Z2 un22 L) t1 t0 (sw (F6 L) t2 t0 (mV L rfl (swg (g:=30) rfl sO (Y1 ag40 rF rF L) rfl t1 t1 ?_)))
 refine swg (g:=30) rfl sO (Z2 un40 L) rfl t1 t0 (swg (g:=30) rfl sO (F6 L) rfl t2 t0 (sw (l4 sO L) t2 t0 (zn [(2,_),(3,_),(34,_)] [(2,_),(3,_)] t3 t2 (U3 rfl sO ?_))))
 refine U1 (xq ?_)
 refine exr (sw (Y1 ag22 rF rF L) t1 t1 ?_)
 refine sw (Z2 un22 L) t1 t0 (sw (e7 (vs:=[_]) un24 zv24 (.cons rfl (.cons rfl .nil)) ((G2.cons sz3 (G2.cons sz22 G2.nil))).to rfl (.cons rfl (.atom rfl) rfl pu1 .nil) (.cons (.cons .nil)) L) t1 t0 (swb (L3 (k:=7) (n:=2) zv24 (.cons rfl (.cons rfl .nil)) rfl (P0 _ rfl) L) t0 t0 ⟨rfl,rfl⟩ (sb (R2 sz24 rF pa2 rfl pu2) t2 t1 ?_)))
 refine zn [(2,_),(3,_),(7,_)] [(2,_),(3,_),(7,_)] t3 t3 (T1 (exr (sw (Y1 ag40 rF rF L) t1 t1 ?_)))
 refine sw (Z2 un40 L) t1 t0 (mV L rfl (zn [(2,_),(3,_),(7,_),(39,_),(40,_)] [(2,_),(3,_),(7,_)] t5 t3 (X1 ?_)))
 refine exl (α:=(Nat×List (List Rat))) (fun x=>[(40,vi (x.1:Int))]) (fun x=>[(7,⟨24,2,.mix [.p (vZ V.length),M0x 64 x.2]⟩)]++K0q 64 x.2) (fun x=>x.1≤w.length∧trM x.1 V=x.2) (fun x=>w.length - x.1) ((0,[])) (sl:=[(2,_),(3,_),(7,_),(39,_)]) (hb:=[(2,_),(3,_)]) ?_ ⟨oR,rfl,rfl,rfl,rfl,trivial⟩ (hbI (l':=[(7,_),(2,_),(3,_)]) rfl t3) ?_
 ·exact ⟨Nat.zero_le _,rfl⟩
 intro x hx
 obtain ⟨j,T⟩:=x
 obtain ⟨hj,hT⟩:=hx
 simp only at hj hT
 rcases T with _ | ⟨q,T⟩
 ·dsimp only [M0x,K0q,List.append_nil]
  refine exr (sw (Y3 L) t2 t0 (zn [(2,_),(3,_),(7,_),(39,_),(40,_),(41,_)] [(2,_),(3,_),(7,_)] t6 t3 (T1 ?_)))
  refine j2 rfl (fun hc=>?_) (fun hc=>?_)
  ·have hc:=dt hc
   have hjc:j<w.length:=by omega
   have ht:=P0f j V
   rw [hT] at ht
   refine U1 (xq ?_)
   refine T1 (X1 (exr (mV L rfl (aV L rfl (zn [(2,_),(3,_),(7,_),(8,_),(39,_),(40,_)] [(2,_),(3,_),(7,_)] t6 t3 (exr (sw (Y1 ag22 rF rF L) t1 t1 ?_)))))))
   refine sw (Z2 un22 L) t1 t0 (swb (T7 (sz:=4) (k:=45) un40 ti47 rfl rfl dC rfl rfl rfl (show (0:Int)=((0:Nat):Int) from rfl) rfl (Nat.zero_le _) (by simp [Tryz.t47]; omega) oM (P0 _ rfl) L) t2 t0 ⟨rfl,rfl⟩ ?_)
   refine aV L rfl ?_
   refine O1 ⟨[(2,_),(3,_),(7,_),(8,_),(9,.ref 45 0 0 0),(39,_),(40,_)],[(2,_),(3,_),(7,_),(45,G4 [])],t7,t4,?_⟩
   refine T1 (exr (sw (Y1 ag22 rF rF L) t1 t1 ?_))
   refine sw (Z2 un22 L) t1 t0 (mV L rfl (zn [(2,_),(3,_),(7,_),(8,_),(9,_),(39,_),(40,_),(46,_),(47,_),(48,_)] [(2,_),(3,_),(7,_),(45,_)] t10 t4 (X1 ?_)))
   refine exl (α:=Nat) (fun k=>[(48,vi (k:Int)),(9,.ref 45 0 k (k*4))]) (fun k=>[(45,G4 (m9 (V.take k) j))]) (fun k=>k≤V.length) (fun k=>V.length - k) (0) (sl:=[(2,_),(3,_),(7,_),(8,_),(39,_),(40,_),(46,_),(47,_)]) (hb:=[(2,_),(3,_),(7,_)]) ?_ ⟨oR,oR,rfl,rfl,rfl,rfl,rfl,rfl,rfl,rfl,trivial⟩ t4 ?_
   ·exact Nat.zero_le _
   intro k hk
   refine exr (sw (Y3 L) t2 t0 (zn [(2,_),(3,_),(7,_),(8,_),(9,_),(39,_),(40,_),(46,_),(47,_),(48,_),(49,_)] [(2,_),(3,_),(7,_),(45,_)] t11 t4 (T1 ?_)))
   refine j2 rfl (fun he=>?_) (fun he=>?_)
   ·have he:=dt he
    have hk2:k<V.length:=by omega
    have hrl:=hV _ (gDL hk2)
    refine U1 (xq ?_)
    refine T1 (X1 (exr (sw (ixJ un22 sz40 (j:=k) rO oM sM L) t2 t0 ?_)))
    refine sw (n4 ag40 (Y8 hk2) L) t1 t0 (aV L rfl (zn [(2,_),(3,_),(7,_),(8,_),(9,_),(11,_),(39,_),(40,_),(46,_),(47,_),(48,_)] [(2,_),(3,_),(7,_),(45,_)] t11 t4 (F3 (mV L rfl (mV L rfl (mV L rfl (sw (I2 un40 sz47 oM oM sM dC L) t2 t0 ?_)))))))
    refine sw (P7 ag47 sz47 (R7 (show j<(V.getD k []).length by omega)) rfl L) t1 t0 ?_
    refine sw (I4 (vs:=[_]) un40 ti47 rfl rfl dC dC rfl (P2 (.cons rfl (.cons rfl (.cons rfl (.cons rfl .nil)))) rfl) rfl (.cons rfl pa4 rfl pu4 .nil) (.cons (.cons (.cons (.cons .nil)))) L) t1 t0 (swb (apP (sz:=4) un40 un40 ti47 rfl rfl rfl dC (by exact (by first | (simp; done) | (simp; omega))) oF sM rfl rfl rfl (by first | (simp [Tryz.t47]; done) | (simp [Tryz.t47]; omega)) oM (P0 _ rfl) L) t2 t1 t0 ?_)
    refine aV L rfl (O1 (F3 (sw (G3 L (w64 oM oM)) t2 t0 (mV L rfl (O1 ?_)))))
    exact ⟨k+1,oM,by omega,D3 ⟨oR,ov rfl sO,rfl,rfl,rfl,rfl,rfl,rfl,rfl,rfl,trivial⟩ ⟨obl rfl ((v0r _ _).trans (by rw [j0v hk2])),rfl,rfl,rfl,trivial⟩⟩
   ·have he:=df he
    have hkM:k=V.length:=by omega
    subst hkM
    rw [I0]
    refine O2 (xq ?_)
    refine f5 [45] (sl:=[(2,_),(3,_),(7,_),(9,_),(39,_),(40,_)]) (hb:=[(2,_),(3,_),(7,_)]) (R3 hX0) ⟨⟨_,rfl,.same⟩,⟨_,rfl,.same⟩,⟨_,rfl,.same⟩,⟨_,rfl,(.ref rfl rfl (by exact (by first | (simp; done) | (simp; omega))) (by first | rfl | omega))⟩,⟨_,rfl,.same⟩,⟨_,rfl,.same⟩,trivial⟩ ⟨⟨rfl,_,rfl,.same⟩,⟨rfl,_,rfl,.same⟩,⟨rfl,_,rfl,.same⟩,trivial⟩ ?_
    refine F3 (sw (Z1 un24 rfl sz22 dC rX L) t1 t1 ?_)
    refine sw (Y1 ag22 rF rF L) t1 t1 ?_
    refine mV L rfl (sw (I4 (vs:=[_]) un22 ti40 rfl rfl dC dC rfl (P2 (.cons rfl .nil) rfl) rfl (.cons rfl .sl rfl pu1 .nil) (.cons .nil) L) t1 t0 (swb (apN (k:=64) (sz:=1) un22 un22 ti40 rfl rfl rfl dC sM rfl (by first | (simp [Tryz.t40]; done) | (simp [Tryz.t40]; omega)) oM (P0 _ rfl) L) t2 t0 ⟨rfl,rfl⟩ ?_))
    refine sw (Z1 un24 rfl sz22 dC rX L) t1 t1 ?_
    refine sb (R2 sz22 rF .ref rfl (.skip pu1)) t2 t1 ?_
    refine O1 (F3 (sw (G3 L (w64 oM oM)) t2 t0 (mV L rfl (O1 ?_))))
    exact ⟨(j+1,[m9 V j]),⟨by simp only; omega,ht⟩,(by simp only; omega),D3 ⟨oR,rfl,rfl,rfl,rfl,trivial⟩ (hbI (l':=[(7,_),(64,_),(2,_),(3,_)]) rfl ⟨rfl,obl rfl (by simp [P5]),rfl,rfl,trivial⟩)⟩
  ·have hc:=df hc
   have hjc:j=w.length:=by omega
   rw [hjc] at hT
   rw [hT] at hst ⊢
   refine O2 (xq ?_)
   refine f5 [] (sl:=[(3,_),(7,_)]) (hb:=[(3,_),(7,_)]) (R3 hX0) ⟨⟨_,rfl,.same⟩,⟨_,rfl,.same⟩,trivial⟩ ⟨⟨rfl,_,rfl,.same⟩,⟨rfl,_,rfl,(.mix (.cons .same (.cons (.p .nil) .nil)))⟩,trivial⟩ (exr (lp2 ag24 sz24 L rfl rfl (sw (Y1 ag40 rF rF L) t1 t1 ?_)))
   refine cK hG hX cl24 hN hst L t2 (sw (V3 rfl L) t1 t0 (sw (V3 rfl L) t1 t0 (sw (V3 rfl L) t1 t0 (aV L rfl (aV L rfl (aV L rfl (zn [(4,_),(5,_),(6,_)] [] t3 trivial (V1 ?_))))))))
   refine P1 (.tmp rfl) (.tmp rfl) (.tmp rfl) ?_
   rfl
 ·dsimp only [M0x,K0q]
  have hTl:(q :: T).length=j:=by rw [← hT,b1g]
  have hTl2:T.length+1=j:=hTl
  refine exr (sw (Y3 L) t2 t0 (zn [(2,_),(3,_),(7,_),(39,_),(40,_),(41,_)] [(2,_),(3,_),(7,_),(64,_)] t6 t4 (T1 ?_)))
  refine j2 rfl (fun hc=>?_) (fun hc=>?_)
  ·have hc:=dt hc
   have hjc:j<w.length:=by omega
   have ht:=P0f j V
   rw [hT] at ht
   refine U1 (xq ?_)
   refine T1 (X1 (exr (mV L rfl (aV L rfl (zn [(2,_),(3,_),(7,_),(8,_),(39,_),(40,_)] [(2,_),(3,_),(7,_),(64,_)] t6 t4 (exr (sw (Y1 ag22 rF rF L) t1 t1 ?_)))))))
   refine sw (Z2 un22 L) t1 t0 (swb (T7 (sz:=4) (k:=45) un40 ti47 rfl rfl dC rfl rfl rfl (show (0:Int)=((0:Nat):Int) from rfl) rfl (Nat.zero_le _) (by simp [Tryz.t47]; omega) oM (P0 _ rfl) L) t2 t0 ⟨rfl,rfl⟩ ?_)
   refine aV L rfl ?_
   refine O1 ⟨[(2,_),(3,_),(7,_),(8,_),(9,.ref 45 0 0 0),(39,_),(40,_)],[(2,_),(3,_),(7,_),(45,G4 []),(64,_)],t7,t5,?_⟩
   refine T1 (exr (sw (Y1 ag22 rF rF L) t1 t1 ?_))
   refine sw (Z2 un22 L) t1 t0 (mV L rfl (zn [(2,_),(3,_),(7,_),(8,_),(9,_),(39,_),(40,_),(46,_),(47,_),(48,_)] [(2,_),(3,_),(7,_),(45,_),(64,_)] t10 t5 (X1 ?_)))
   refine exl (α:=Nat) (fun k=>[(48,vi (k:Int)),(9,.ref 45 0 k (k*4))]) (fun k=>[(45,G4 (m9 (V.take k) j))]) (fun k=>k≤V.length) (fun k=>V.length - k) (0) (sl:=[(2,_),(3,_),(7,_),(8,_),(39,_),(40,_),(46,_),(47,_)]) (hb:=[(2,_),(3,_),(7,_),(64,_)]) ?_ ⟨oR,oR,rfl,rfl,rfl,rfl,rfl,rfl,rfl,rfl,trivial⟩ t5 ?_
   ·exact Nat.zero_le _
   intro k hk
   refine exr (sw (Y3 L) t2 t0 (zn [(2,_),(3,_),(7,_),(8,_),(9,_),(39,_),(40,_),(46,_),(47,_),(48,_),(49,_)] [(2,_),(3,_),(7,_),(45,_),(64,_)] t11 t5 (T1 ?_)))
   refine j2 rfl (fun he=>?_) (fun he=>?_)
   ·have he:=dt he
    have hk2:k<V.length:=by omega
    have hrl:=hV _ (gDL hk2)
    refine U1 (xq ?_)
    refine T1 (X1 (exr (sw (ixJ un22 sz40 (j:=k) rO oM sM L) t2 t0 ?_)))
    refine sw (n4 ag40 (Y8 hk2) L) t1 t0 (aV L rfl (zn [(2,_),(3,_),(7,_),(8,_),(9,_),(11,_),(39,_),(40,_),(46,_),(47,_),(48,_)] [(2,_),(3,_),(7,_),(45,_),(64,_)] t11 t5 (F3 (mV L rfl (mV L rfl (mV L rfl (sw (I2 un40 sz47 oM oM sM dC L) t2 t0 ?_)))))))
    refine sw (P7 ag47 sz47 (R7 (show j<(V.getD k []).length by omega)) rfl L) t1 t0 ?_
    refine sw (I4 (vs:=[_]) un40 ti47 rfl rfl dC dC rfl (P2 (.cons rfl (.cons rfl (.cons rfl (.cons rfl .nil)))) rfl) rfl (.cons rfl pa4 rfl pu4 .nil) (.cons (.cons (.cons (.cons .nil)))) L) t1 t0 (swb (apP (sz:=4) un40 un40 ti47 rfl rfl rfl dC (by exact (by first | (simp; done) | (simp; omega))) oF sM rfl rfl rfl (by first | (simp [Tryz.t47]; done) | (simp [Tryz.t47]; omega)) oM (P0 _ rfl) L) t2 t1 t0 ?_)
    refine aV L rfl (O1 (F3 (sw (G3 L (w64 oM oM)) t2 t0 (mV L rfl (O1 ?_)))))
    exact ⟨k+1,oM,by omega,D3 ⟨oR,ov rfl sO,rfl,rfl,rfl,rfl,rfl,rfl,rfl,rfl,trivial⟩ ⟨obl rfl ((v0r _ _).trans (by rw [j0v hk2])),rfl,rfl,rfl,rfl,trivial⟩⟩
   ·have he:=df he
    have hkM:k=V.length:=by omega
    subst hkM
    rw [I0]
    refine O2 (xq ?_)
    refine f5 [45] (sl:=[(2,_),(3,_),(7,_),(9,_),(39,_),(40,_)]) (hb:=[(2,_),(3,_),(7,_),(64,_)]) (R3 hX0) ⟨⟨_,rfl,.same⟩,⟨_,rfl,.same⟩,⟨_,rfl,.same⟩,⟨_,rfl,(.ref rfl rfl (by exact (by first | (simp; done) | (simp; omega))) (by first | rfl | omega))⟩,⟨_,rfl,.same⟩,⟨_,rfl,.same⟩,trivial⟩ ⟨⟨rfl,_,rfl,.same⟩,⟨rfl,_,rfl,.same⟩,⟨rfl,_,rfl,.same⟩,⟨rfl,_,rfl,.same⟩,trivial⟩ ?_
    refine F3 (sw (Z1 un24 rfl sz22 dC rX L) t1 t1 ?_)
    refine sw (Y1 ag22 rF rF L) t1 t1 ?_
    refine mV L rfl (sw (I4 (vs:=[_]) un22 ti40 rfl rfl dC dC rfl (P2 (.cons rfl .nil) rfl) rfl (.cons rfl .sl rfl pu1 .nil) (.cons .nil) L) t1 t0 (swb (apP (sz:=1) un22 un22 ti40 rfl rfl rfl dC (by exact (n7 _)) oF sM rfl rfl rfl (by first | (simp [Tryz.t40]; done) | (simp [Tryz.t40]; omega)) oM (P0 _ rfl) L) t2 t1 t0 ?_))
    refine sw (Z1 un24 rfl sz22 dC rX L) t1 t1 ?_
    refine sb (R2 sz22 rF .ref rfl (.skip pu1)) t2 t1 ?_
    refine O1 (F3 (sw (G3 L (w64 oM oM)) t2 t0 (mV L rfl (O1 ?_))))
    exact ⟨(j+1,q :: T++[m9 V j]),⟨by simp only; omega,ht⟩,(by simp only; omega),D3 ⟨oR,rfl,rfl,rfl,rfl,trivial⟩ (hbI (l':=[(7,_),(64,_),(2,_),(3,_)]) rfl ⟨obl rfl sM,obl rfl (m1p V.length (q :: T) (m9 V j) (T8 _ _)),rfl,rfl,trivial⟩)⟩
  ·have hc:=df hc
   have hjc:j=w.length:=by omega
   rw [hjc] at hT
   rw [hT] at hst ⊢
   refine O2 (xq ?_)
   refine f5 [64] (sl:=[(3,_),(7,_)]) (hb:=[(3,_),(7,_)]) (R3 hX0) ⟨⟨_,rfl,.same⟩,⟨_,rfl,.same⟩,trivial⟩ ⟨⟨rfl,_,rfl,.same⟩,⟨rfl,_,rfl,(.mix (.cons .same (.cons (.ref rfl rfl (by exact (n7 _)) (by first | rfl | omega)) .nil)))⟩,trivial⟩ ?_
   refine exr (lp2 ag24 sz24 L rfl rfl (sw (Y1 ag40 rF rF L) t1 t1 ?_))
   refine cK hG hX cl24 hN hst L t2 (sw (V3 rfl L) t1 t0 (sw (V3 rfl L) t1 t0 (sw (V3 rfl L) t1 t0 (aV L rfl (aV L rfl (aV L rfl (zn [(4,_),(5,_),(6,_)] [] t3 trivial (V1 ?_))))))))
   refine P1 (.tmp rfl) (.tmp rfl) (.tmp rfl) ?_
   rfl
theorem q1s {a:Rat}:((i3 a.num.natAbs).length:Int)=0↔a=0:=by
 have:=f1q (a:=a.num)
 unfold nw at this
 rw [← Rat.num_eq_zero,← this]; omega
theorem y1q (a:Rat):j3 E 22 [pQ a] (bZ (decide (a=0))):=by
 refine D2 (xs:=[bZ (decide (a=0))]) Tryz.func22 rfl Tryz.ntmps22 Tryz.results22 sM fun F hG hX0 hnt hdf P0=>?_
 obtain ⟨L,hX,hN⟩:=pro hnt hX0 hG
 refine exr (swb (T3 (k:=1) (n:=4) pa4 rfl rfl (P0 _ rfl) L) t1 t0 ⟨rfl,rfl⟩ (aV L rfl (zn [(1,_)] [(1,_)] t1 t1 (exr (sw (Z1 un47 rfl sz45 dC rX L) t1 t1 ?_)))))
 refine sw (Z1 un45 rfl sz43 dC rX L) t1 t1 ?_
 refine sw (Y1 ag43 rF rF L) t1 t1 ?_
 refine sw (Z2 un43 L) t1 t0 (sw (c_e L) t2 t0 (aV L rfl (zn [(2,_)] [] t1 trivial (V1 ?_))))
 refine Q0 (.tmp rfl) ?_
 rw [decide_eq_decide.2 (q1s (a:=a))]
theorem dnt {p:Prop}[Decidable p](h:(!decide p)=true):¬ p:=by simpa using h
theorem dnf {p:Prop}[Decidable p](h:(!decide p)=false):p:=by simpa using h
theorem K0s {p:Nat→Prop}{k:Nat}(h:∀ i,i<k→p i)(hk:p k):∀ i,i<k+1→p i:=fun i hi=>(Nat.lt_or_eq_of_le (Nat.le_of_lt_succ hi)).elim (h i) (fun e=>e ▸ hk)
theorem w1f {ws vs:List Int}(hl:ws.length=vs.length)(h:∀ k,k<ws.length→ws.getD k 0=vs.getD k 0):ws=vs:=by
 refine List.ext_getElem hl fun i h1 h2=>?_
 have:=h i h1
 simpa [f0,h1,h2] using this
theorem h0m (m n:Bool)(ws vs:List Int)(h1:ws.length<1000000000)(h2:vs.length<1000000000):j3 E 74 [.agg [.a (.bool m),.sl ws.length (s4 ws)],.agg [.a (.bool n),.sl vs.length (s4 vs)]] (bZ (decide (m=n∧ws=vs))):=by
 refine D2 (xs:=[bZ (decide (m=n∧ws=vs))]) Tryz.func74 rfl Tryz.ntmps74 Tryz.results74 sM fun F hG hX0 hnt hdf P0=>?_
 obtain ⟨L,hX,hN⟩:=pro hnt hX0 hG
 refine exr (swb (T3 (k:=2) (n:=2) pa2 rfl rfl (P0 _ rfl) L) t1 t0 ⟨rfl,rfl⟩ (swb (T3 (k:=3) (n:=2) pa2 rfl rfl (P0 _ rfl) L) t1 t0 ⟨rfl,rfl⟩ (aV L rfl (zn [(2,_),(3,_)] [(2,_),(3,_)] t2 t2 (T1 ?_)))))
 refine exm (sl:=[(19,vb (decide (¬ (m=n∧ws.length=vs.length))))]) (sl0:=[(2,_),(3,_)]) (hb:=[]) (hb0:=[(2,_),(3,_)]) t2 t2 ?_ ?_
 ·by_cases h:m=n
  ·refine sw (Z1 un45 rfl sz4 dC rX L) t1 t1 ?_
   refine sw (Y1 ag4 rF rF L) t1 t1 ?_
   refine sw (Z1 un45 rfl sz4 dC rX L) t1 t1 ?_
   refine sw (Y1 ag4 rF rF L) t1 t1 ?_
   refine sw (p0g un4 L) t2 t0 (mV L rfl (swg (g:=11) rfl (by rw [h]; cases n <;> rfl) (Z1 un45 rfl sz43 dC rX L) rfl t1 t1 ?_))
   refine swg (g:=11) rfl (by rw [h]; cases n <;> rfl) (Y1 ag43 rF rF L) rfl t1 t1 ?_
   refine swg (g:=11) rfl (by rw [h]; cases n <;> rfl) (Z2 un43 L) rfl t1 t0 ?_
   refine swg (g:=11) rfl (by rw [h]; cases n <;> rfl) (Z1 un45 rfl sz43 dC rX L) rfl t1 t1 ?_
   refine swg (g:=11) rfl (by rw [h]; cases n <;> rfl) (Y1 ag43 rF rF L) rfl t1 t1 ?_
   refine swg (g:=11) rfl (by rw [h]; cases n <;> rfl) (Z2 un43 L) rfl t1 t0 ?_
   refine swg (g:=11) rfl (by rw [h]; cases n <;> rfl) (c_n L) rfl t2 t0 ?_
   refine sw (l4 (by rw [h]; cases n <;> rfl) L) t2 t0 ?_
   exact O1 ⟨⟨ob rfl (by simp [h]; omega),rfl,rfl,trivial⟩,t2⟩
  ·refine sw (Z1 un45 rfl sz4 dC rX L) t1 t1 ?_
   refine sw (Y1 ag4 rF rF L) t1 t1 ?_
   refine sw (Z1 un45 rfl sz4 dC rX L) t1 t1 ?_
   refine sw (Y1 ag4 rF rF L) t1 t1 ?_
   refine sw (p0g un4 L) t2 t0 (mV L rfl (swn (g:=11) rfl (by revert h; cases m <;> cases n <;> simp) L rfl ?_))
   refine swn (g:=11) rfl (by revert h; cases m <;> cases n <;> simp) L rfl ?_
   refine swn (g:=11) rfl (by revert h; cases m <;> cases n <;> simp) L rfl ?_
   refine swn (g:=11) rfl (by revert h; cases m <;> cases n <;> simp) L rfl ?_
   refine swn (g:=11) rfl (by revert h; cases m <;> cases n <;> simp) L rfl ?_
   refine swn (g:=11) rfl (by revert h; cases m <;> cases n <;> simp) L rfl ?_
   refine swn (g:=11) rfl (by revert h; cases m <;> cases n <;> simp) L rfl ?_
   refine sw (T4 (by revert h; cases m <;> cases n <;> simp) L) t2 t0 ?_
   exact O1 ⟨⟨ob rfl (by simp [h]),rfl,rfl,trivial⟩,t2⟩
 refine j2 rfl (fun hc=>?_) (fun hc=>?_)
 ·have hc:=dt hc
  refine exr (aV L rfl (zn [(4,_)] [] t1 trivial (V1 ?_)))
  refine Q0 (.tmp rfl) ?_
  rw [decide_eq_false (fun h=>hc ⟨h.1,by rw [h.2]⟩)]
 ·have hc:=df hc
  have hc:m=n∧ws.length=vs.length:=Classical.not_not.1 hc
  obtain ⟨rfl,hl⟩:=hc
  refine U1 (xq ?_)
  refine T1 (exr (aV L rfl (zn [(2,_),(3,_),(5,_)] [(2,_),(3,_)] t3 t2 (X1 ?_))))
  refine exl (α:=Nat) (fun k=>[(5,vi (k:Int))]) (fun k=>[]) (fun k=>k≤ws.length∧∀ i,i<k→ws.getD i 0=vs.getD i 0) (fun k=>ws.length - k) (0) (sl:=[(2,_),(3,_)]) (hb:=[(2,_),(3,_)]) ?_ ⟨oR,rfl,rfl,trivial⟩ t2 ?_
  ·exact ⟨Nat.zero_le _,fun i h=>absurd h (Nat.not_lt_zero i)⟩
  intro k hk
  obtain ⟨hk,hw⟩:=hk
  refine T1 (exr (mV L rfl (sw (Z1 un45 rfl sz43 dC rX L) t1 t1 ?_)))
  refine sw (Y1 ag43 rF rF L) t1 t1 ?_
  refine sw (Z2 un43 L) t1 t0 (sw (Y3 L) t2 t0 (zn [(2,_),(3,_),(5,_),(24,_)] [(2,_),(3,_)] t4 t2 ?_))
  refine j2 rfl (fun hc=>?_) (fun hc=>?_)
  ·have hc:=dt hc
   have hk2:k<ws.length:=by omega
   have hk3:k<vs.length:=by omega
   refine U1 (xq ?_)
   refine T1 (X1 (exd rF ?_))
   refine sw (Z1 un45 rfl sz43 dC rX L) t1 t1 ?_
   refine sw (Y1 ag43 rF rF L) t1 t1 ?_
   refine mV L rfl (sw (ixJ un43 sz119 (j:=k) rO oM sM L) t2 t0 ?_)
   refine sw (n4 ag119 (R5 hk2) L) t1 t0 (sw (Z1 un45 rfl sz43 dC rX L) t1 t1 ?_)
   refine sw (Y1 ag43 rF rF L) t1 t1 ?_
   refine mV L rfl (sw (ixJ un43 sz119 (j:=k) rO oM sM L) t2 t0 ?_)
   refine sw (n4 ag119 (R5 hk3) L) t1 t0 (sw (c_n L) t2 t0 ?_)
   refine O1 ⟨q5 [⟨[2],[2],[27],[]⟩,⟨[27],[2],[28],[]⟩,⟨[5],[],[29],[]⟩,⟨[28,29],[],[30],[]⟩,⟨[30],[],[31],[]⟩,⟨[3],[3],[32],[]⟩,⟨[32],[3],[33],[]⟩,⟨[5],[],[34],[]⟩,⟨[33,34],[],[35],[]⟩,⟨[35],[],[36],[]⟩,⟨[31,36],[],[37],[]⟩] rF rF dC,[(2,_),(3,_),(5,_),(37,_)],[(2,_),(3,_)],t4,t2,?_⟩
   refine j2 rfl (fun he=>?_) (fun he=>?_)
   ·have he:=dnt he
    refine exr (aV L rfl (zn [(4,_)] [] t1 trivial (V1 ?_)))
    refine Q0 (.tmp rfl) ?_
    rw [decide_eq_false (fun h=>he (by rw [h.2]))]
   ·have he:=dnf he
    refine U1 (xq ?_)
    refine F3 (mV L rfl (sw (G3 L (w64 oM oM)) t2 t0 (aV L rfl (O1 ?_))))
    exact ⟨k+1,⟨by omega,K0s hw he⟩,by omega,D3 ⟨oR,rfl,rfl,trivial⟩ t2⟩
  ·have hc:=df hc
   refine O2 (xq ?_)
   refine exr (aV L rfl (zn [(4,_)] [] t1 trivial (V1 ?_)))
   refine Q0 (.tmp rfl) ?_
   rw [decide_eq_true (⟨rfl,w1f hl (fun i hi=>hw i oM)⟩:m=m∧ws=vs)]
deriving instance DecidableEq for RQ
theorem G0f {α:Type}{d:α}{u v:List α}(hl:u.length=v.length)(h:∀ k,k<u.length→u.getD k d=v.getD k d):u=v:=by
 refine List.ext_getElem hl fun i h1 h2=>?_
 have:=h i h1
 simpa [f0,h1,h2] using this
theorem v0s (a b:RQ)(ha:a.sm)(hb:b.sm):j3 E 33 [.agg (cR a),.agg (cR b)] (bZ (decide (a=b))):=by
 refine D2 (xs:=[bZ (decide (a=b))]) Tryz.func33 rfl Tryz.ntmps33 Tryz.results33 sM fun F hG hX0 hnt hdf P0=>?_
 obtain ⟨L,hX,hN⟩:=pro hnt hX0 hG
 have e:(a=b)=((a.m=b.m∧a.ws=b.ws)∧(a.n=b.n∧a.vs=b.vs)):=by
  cases a; cases b; simp only [RQ.mk.injEq,and_assoc]
 refine exr (swb (T3 (k:=2) (n:=4) pa4 rfl rfl (P0 _ rfl) L) t1 t0 ⟨rfl,rfl⟩ (swb (T3 (k:=3) (n:=4) pa4 rfl rfl (P0 _ rfl) L) t1 t0 ⟨rfl,rfl⟩ (aV L rfl (zn [(2,_),(3,_)] [(2,_),(3,_)] t2 t2 ?_))))
 refine exm (sl:=[(4,vb (decide (a=b)))]) (sl0:=[]) (hb:=[]) (hb0:=[]) t0 t0 ?_ ?_
 ·by_cases h:a.m=b.m∧a.ws=b.ws
  ·refine sw (Z1 un47 rfl sz45 dC rX L) t1 t1 ?_
   refine lp2 ag45 sz45 L rfl rfl (sw (Z1 un47 rfl sz45 dC rX L) t1 t1 ?_)
   refine lp2 ag45 sz45 L rfl rfl (cK hG hX cl74 hN (h0m a.m b.m a.ws b.ws ha.2.1 hb.2.1) L t2 (mV L rfl (swg (g:=10) rfl (by rw [decide_eq_true h] <;> rfl) (Z1 un47 rfl sz45 dC rX L) rfl t1 t1 ?_)))
   refine swg (g:=10) rfl (by rw [decide_eq_true h] <;> rfl) (q6 ag45 sz45 rF (by exact al2) rfl L) rfl t1 t1 ?_
   refine swg (g:=10) rfl (by rw [decide_eq_true h] <;> rfl) (Z1 un47 rfl sz45 dC rX L) rfl t1 t1 ?_
   refine swg (g:=10) rfl (by rw [decide_eq_true h] <;> rfl) (q6 ag45 sz45 rF (by exact al2) rfl L) rfl t1 t1 ?_
   refine swg (g:=10) rfl (by rw [decide_eq_true h] <;> rfl) (c_c hG hX cl74 rfl hN (h0m a.n b.n a.vs b.vs ha.2.2 hb.2.2) L) rfl t2 t0 ?_
   refine sw (T4 (by rw [decide_eq_true h] <;> rfl) L) t2 t0 ?_
   refine aV L rfl ?_
   exact O1 ⟨⟨ob rfl (by simp only [e,h,true_and,and_self]),trivial⟩,trivial⟩
  ·refine sw (Z1 un47 rfl sz45 dC rX L) t1 t1 ?_
   refine lp2 ag45 sz45 L rfl rfl (sw (Z1 un47 rfl sz45 dC rX L) t1 t1 ?_)
   refine lp2 ag45 sz45 L rfl rfl (cK hG hX cl74 hN (h0m a.m b.m a.ws b.ws ha.2.1 hb.2.1) L t2 (mV L rfl (swn (g:=10) rfl (by rw [decide_eq_false h] <;> rfl) L rfl ?_)))
   refine swn (g:=10) rfl (by rw [decide_eq_false h] <;> rfl) L rfl ?_
   refine swn (g:=10) rfl (by rw [decide_eq_false h] <;> rfl) L rfl ?_
   refine swn (g:=10) rfl (by rw [decide_eq_false h] <;> rfl) L rfl ?_
   refine swn (g:=10) rfl (by rw [decide_eq_false h] <;> rfl) L rfl ?_
   refine sw (l4 (by rw [decide_eq_false h] <;> rfl) L) t2 t0 ?_
   refine aV L rfl ?_
   exact O1 ⟨⟨ob rfl (by simp only [e,h,false_and,decide_false]),trivial⟩,trivial⟩
 refine V1 ?_
 refine Q0 (.tmp rfl) ?_
 rfl
theorem v0m (u v:List RQ)(hu:u.length<1000000000)(su:∀ r∈u,r.sm)(sv:∀ r∈v,r.sm):j3 E 29 [pVR u,pVR v] (bZ (decide (u=v))):=by
 refine D2 (xs:=[bZ (decide (u=v))]) Tryz.func29 rfl Tryz.ntmps29 Tryz.results29 sM fun F hG hX0 hnt hdf P0=>?_
 obtain ⟨L,hX,hN⟩:=pro hnt hX0 hG
 refine exr (aV L rfl (zn [(0,_),(1,_)] [] t2 trivial (T1 (exr (mV L rfl (sw (Z2 un40 L) t1 t0 (mV L rfl (sw (Z2 un40 L) t1 t0 (sw (c_n L) t2 t0 (zn [(0,_),(1,_),(10,_)] [] t3 trivial ?_))))))))))
 refine j2 rfl (fun hc=>?_) (fun hc=>?_)
 ·have hc:=dnt hc
  refine exr (aV L rfl (zn [(4,_)] [] t1 trivial (V1 ?_)))
  refine Q0 (.tmp rfl) ?_
  rw [decide_eq_false (fun h=>hc (by rw [h]))]
 ·have hc:=dnf hc
  have hl:u.length=v.length:=by omega
  refine U1 (xq ?_)
  refine T1 (exr (aV L rfl (zn [(0,_),(1,_),(5,_)] [] t3 trivial (X1 ?_))))
  refine exl (α:=Nat) (fun k=>[(5,vi (k:Int))]) (fun k=>[]) (fun k=>k≤u.length∧∀ i,i<k→u.getD i default=v.getD i default) (fun k=>u.length - k) (0) (sl:=[(0,_),(1,_)]) (hb:=[]) ?_ ⟨oR,rfl,rfl,trivial⟩ t0 ?_
  ·exact ⟨Nat.zero_le _,fun i h=>absurd h (Nat.not_lt_zero i)⟩
  intro k hk
  obtain ⟨hk,hw⟩:=hk
  refine T1 (exr (mV L rfl (mV L rfl (sw (Z2 un40 L) t1 t0 (sw (Y3 L) t2 t0 (zn [(0,_),(1,_),(5,_),(14,_)] [] t4 trivial ?_))))))
  refine j2 rfl (fun hc=>?_) (fun hc=>?_)
  ·have hc:=dt hc
   have hk2:k<u.length:=by omega
   have hk3:k<v.length:=by omega
   refine U1 (xq ?_)
   refine T1 (X1 (exd rF ?_))
   refine mV L rfl (mV L rfl (sw (I2 un40 sz47 oM oM sM dC L) t2 t0 ?_))
   refine sw (P7 ag47 sz47 (m1c hk2) rfl L) t1 t0 (mV L rfl (mV L rfl (sw (I2 un40 sz47 oM oM sM dC L) t2 t0 ?_)))
   refine sw (P7 ag47 sz47 (m1c hk3) rfl L) t1 t0 (cK hG hX cl33 hN (v0s _ _ (su _ (gD hk2)) (sv _ (gD hk3))) L t2 (sw (q4 L) t1 t0 ?_))
   refine O1 ⟨q5 [⟨[0],[],[17],[]⟩,⟨[5],[],[18],[]⟩,⟨[17,18],[],[19],[]⟩,⟨[19],[],[20],[]⟩,⟨[1],[],[21],[]⟩,⟨[5],[],[22],[]⟩,⟨[21,22],[],[23],[]⟩,⟨[23],[],[24],[]⟩,⟨[20,24],[],[25],[]⟩,⟨[25],[],[26],[]⟩] rF rF dC,[(0,_),(1,_),(5,_),(26,_)],[],t4,trivial,?_⟩
   refine j2 rfl (fun he=>?_) (fun he=>?_)
   ·have he:=dnt he
    refine exr (aV L rfl (zn [(4,_)] [] t1 trivial (V1 ?_)))
    refine Q0 (.tmp rfl) ?_
    rw [decide_eq_false (fun h=>he (by rw [h]))]
   ·have he:=dnf he
    refine U1 (xq ?_)
    refine F3 (mV L rfl (sw (G3 L (w64 oM oM)) t2 t0 (aV L rfl (O1 ?_))))
    exact ⟨k+1,⟨by omega,K0s hw he⟩,by omega,D3 ⟨oR,rfl,rfl,trivial⟩ trivial⟩
  ·have hc:=df hc
   refine O2 (xq ?_)
   refine exr (aV L rfl (zn [(4,_)] [] t1 trivial (V1 ?_)))
   refine Q0 (.tmp rfl) ?_
   rw [decide_eq_true (G0f hl (fun i hi=>hw i oM))]
theorem w0a (u v:List (List RQ))(hu:MSm u)(hv:MSm v):j3 E 19 [.sl u.length (d0n u),.sl v.length (d0n v)] (bZ (decide (u=v))):=by
 refine D2 (xs:=[bZ (decide (u=v))]) Tryz.func19 rfl Tryz.ntmps19 Tryz.results19 sM fun F hG hX0 hnt hdf P0=>?_
 obtain ⟨L,hX,hN⟩:=pro hnt hX0 hG
 have hul:=hu.1
 have hvl:=hv.1
 refine exr (aV L rfl (zn [(0,_),(1,_)] [] t2 trivial (T1 (exr (mV L rfl (sw (Z2 un22 L) t1 t0 (mV L rfl (sw (Z2 un22 L) t1 t0 (sw (c_n L) t2 t0 (zn [(0,_),(1,_),(10,_)] [] t3 trivial ?_))))))))))
 refine j2 rfl (fun hc=>?_) (fun hc=>?_)
 ·have hc:=dnt hc
  refine exr (aV L rfl (zn [(4,_)] [] t1 trivial (V1 ?_)))
  refine Q0 (.tmp rfl) ?_
  rw [decide_eq_false (fun h=>hc (by rw [h]))]
 ·have hc:=dnf hc
  have hl:u.length=v.length:=by omega
  refine U1 (xq ?_)
  refine T1 (exr (aV L rfl (zn [(0,_),(1,_),(5,_)] [] t3 trivial (X1 ?_))))
  refine exl (α:=Nat) (fun k=>[(5,vi (k:Int))]) (fun k=>[]) (fun k=>k≤u.length∧∀ i,i<k→u.getD i []=v.getD i []) (fun k=>u.length - k) (0) (sl:=[(0,_),(1,_)]) (hb:=[]) ?_ ⟨oR,rfl,rfl,trivial⟩ t0 ?_
  ·exact ⟨Nat.zero_le _,fun i h=>absurd h (Nat.not_lt_zero i)⟩
  intro k hk
  obtain ⟨hk,hw⟩:=hk
  refine T1 (exr (mV L rfl (mV L rfl (sw (Z2 un22 L) t1 t0 (sw (Y3 L) t2 t0 (zn [(0,_),(1,_),(5,_),(14,_)] [] t4 trivial ?_))))))
  refine j2 rfl (fun hc=>?_) (fun hc=>?_)
  ·have hc:=dt hc
   have hk2:k<u.length:=by omega
   have hk3:k<v.length:=by omega
   have m1:=hu.2 _ (gDL hk2)
   have m2:=hv.2 _ (gDL hk3)
   refine U1 (xq ?_)
   refine T1 (X1 (exd rF ?_))
   refine mV L rfl (mV L rfl (sw (ixJ un22 sz40 (j:=k) rO oM sM L) t2 t0 ?_))
   refine sw (n4 ag40 (g0c hk2) L) t1 t0 (mV L rfl (mV L rfl (sw (ixJ un22 sz40 (j:=k) rO oM sM L) t2 t0 ?_)))
   refine sw (n4 ag40 (g0c hk3) L) t1 t0 (cK hG hX cl29 hN (v0m _ _ m1.1 m1.2 m2.2) L t2 (sw (q4 L) t1 t0 ?_))
   refine O1 ⟨q5 [⟨[0],[],[17],[]⟩,⟨[5],[],[18],[]⟩,⟨[17,18],[],[19],[]⟩,⟨[19],[],[20],[]⟩,⟨[1],[],[21],[]⟩,⟨[5],[],[22],[]⟩,⟨[21,22],[],[23],[]⟩,⟨[23],[],[24],[]⟩,⟨[20,24],[],[25],[]⟩,⟨[25],[],[26],[]⟩] rF rF dC,[(0,_),(1,_),(5,_),(26,_)],[],t4,trivial,?_⟩
   refine j2 rfl (fun he=>?_) (fun he=>?_)
   ·have he:=dnt he
    refine exr (aV L rfl (zn [(4,_)] [] t1 trivial (V1 ?_)))
    refine Q0 (.tmp rfl) ?_
    rw [decide_eq_false (fun h=>he (by rw [h]))]
   ·have he:=dnf he
    refine U1 (xq ?_)
    refine F3 (mV L rfl (sw (G3 L (w64 oM oM)) t2 t0 (aV L rfl (O1 ?_))))
    exact ⟨k+1,⟨by omega,K0s hw he⟩,by omega,D3 ⟨oR,rfl,rfl,trivial⟩ trivial⟩
  ·have hc:=df hc
   refine O2 (xq ?_)
   refine exr (aV L rfl (zn [(4,_)] [] t1 trivial (V1 ?_)))
   refine Q0 (.tmp rfl) ?_
   rw [decide_eq_true (G0f hl (fun i hi=>hw i oM))]
theorem P0q (c d:Int)(u v:List (List RQ))(hu:MSm u)(hv:MSm v):j3 E 17 [pMR c u,pMR d v] (bZ (decide (c=d∧u=v))):=by
 refine D2 (xs:=[bZ (decide (c=d∧u=v))]) Tryz.func17 rfl Tryz.ntmps17 Tryz.results17 sM fun F hG hX0 hnt hdf P0=>?_
 obtain ⟨L,hX,hN⟩:=pro hnt hX0 hG
 refine exr (swb (T3 (k:=2) (n:=2) pa2 rfl rfl (P0 _ rfl) L) t1 t0 ⟨rfl,rfl⟩ (swb (T3 (k:=3) (n:=2) pa2 rfl rfl (P0 _ rfl) L) t1 t0 ⟨rfl,rfl⟩ (aV L rfl (zn [(2,_),(3,_)] [(2,_),(3,_)] t2 t2 ?_))))
 refine exm (sl:=[(4,vb (decide (c=d∧u=v)))]) (sl0:=[]) (hb:=[]) (hb0:=[]) t0 t0 ?_ ?_
 ·by_cases h:c=d
  ·refine sw (Z1 un24 rfl sz3 dC rX L) t1 t1 ?_
   refine sw (Y1 ag3 rF rF L) t1 t1 ?_
   refine sw (Z1 un24 rfl sz3 dC rX L) t1 t1 ?_
   refine sw (Y1 ag3 rF rF L) t1 t1 ?_
   refine sw (c_e L) t2 t0 (mV L rfl (swg (g:=10) rfl (by simp [h]) (Z1 un24 rfl sz22 dC rX L) rfl t1 t1 ?_))
   refine swg (g:=10) rfl (by simp [h]) (Y1 ag22 rF rF L) rfl t1 t1 ?_
   refine swg (g:=10) rfl (by simp [h]) (Z1 un24 rfl sz22 dC rX L) rfl t1 t1 ?_
   refine swg (g:=10) rfl (by simp [h]) (Y1 ag22 rF rF L) rfl t1 t1 ?_
   refine swg (g:=10) rfl (by simp [h]) (c_c hG hX cl19 rfl hN (w0a u v hu hv) L) rfl t2 t0 ?_
   refine sw (T4 (by simp [h]) L) t2 t0 ?_
   refine aV L rfl ?_
   exact O1 ⟨⟨ob rfl (by simp only [h,true_and]),trivial⟩,trivial⟩
  ·refine sw (Z1 un24 rfl sz3 dC rX L) t1 t1 ?_
   refine sw (Y1 ag3 rF rF L) t1 t1 ?_
   refine sw (Z1 un24 rfl sz3 dC rX L) t1 t1 ?_
   refine sw (Y1 ag3 rF rF L) t1 t1 ?_
   refine sw (c_e L) t2 t0 (mV L rfl (swn (g:=10) rfl (by rw [decide_eq_false h] <;> rfl) L rfl ?_))
   refine swn (g:=10) rfl (by rw [decide_eq_false h] <;> rfl) L rfl ?_
   refine swn (g:=10) rfl (by rw [decide_eq_false h] <;> rfl) L rfl ?_
   refine swn (g:=10) rfl (by rw [decide_eq_false h] <;> rfl) L rfl ?_
   refine swn (g:=10) rfl (by rw [decide_eq_false h] <;> rfl) L rfl ?_
   refine sw (l4 (by rw [decide_eq_false h] <;> rfl) L) t2 t0 ?_
   refine aV L rfl ?_
   exact O1 ⟨⟨ob rfl (by simp only [h,false_and,decide_false]),trivial⟩,trivial⟩
 refine V1 ?_
 refine Q0 (.tmp rfl) ?_
 rfl
theorem m0s {α:Type}{p:α→Bool}{v:List α}{k:Nat}{d:α}(h:k<v.length)(h1:(v.take k).all p=true)(h2:p (v.getD k d)=true):(v.take (k+1)).all p=true:=by
 rw [I1,List.all_append,h1]
 simpa [f0,h] using h2
theorem K0x {α:Type}{p:α→Bool}{v:List α}{a:α}(h:a∈v)(h2:p a=false):v.all p=false:=by
 rw [Bool.eq_false_iff]; intro hh
 rw [s0] at hh
 rw [hh a h] at h2; cases h2
theorem m1m (v:List RQ)(hl:v.length<1000000000)(hs:∀ r∈v,r.sm):j3 E 27 [pVR v] (bZ (v.all RQ.is)):=by
 refine D2 (xs:=[bZ (v.all RQ.is)]) Tryz.func27 rfl Tryz.ntmps27 Tryz.results27 sM fun F hG hX0 hnt hdf P0=>?_
 obtain ⟨L,hX,hN⟩:=pro hnt hX0 hG
 refine exr (aV L rfl (zn [(0,_)] [] t1 trivial (T1 (exr (aV L rfl (zn [(0,_),(3,_)] [] t2 trivial (X1 ?_)))))))
 refine exl (α:=Nat) (fun k=>[(3,vi (k:Int))]) (fun k=>[]) (fun k=>k≤v.length∧(v.take k).all RQ.is=true) (fun k=>v.length - k) (0) (sl:=[(0,_)]) (hb:=[]) ?_ ⟨oR,rfl,trivial⟩ t0 ?_
 ·exact ⟨Nat.zero_le _,rfl⟩
 intro k hk
 obtain ⟨hk,hw⟩:=hk
 refine T1 (exr (mV L rfl (mV L rfl (sw (Z2 un40 L) t1 t0 (sw (Y3 L) t2 t0 (zn [(0,_),(3,_),(7,_)] [] t3 trivial ?_))))))
 refine j2 rfl (fun hc=>?_) (fun hc=>?_)
 ·have hc:=dt hc
  have hk2:k<v.length:=by omega
  have hr:=hs _ (gD hk2)
  refine U1 (xq ?_)
  refine T1 (X1 (exr (mV L rfl (mV L rfl (sw (I2 un40 sz47 oM oM sM dC L) t2 t0 ?_)))))
  refine sw (P7 ag47 sz47 (m1c hk2) rfl L) t1 t0 (cK hG hX cl36 hN (g1k hr.1 hr.2.1 hr.2.2) L t1 (sw (q4 L) t1 t0 (zn [(0,_),(3,_),(15,_)] [] t3 trivial ?_)))
  refine j2 rfl (fun he=>?_) (fun he=>?_)
  ·have he:(v.getD k default).is=false:=by simpa using he
   refine exr (aV L rfl (zn [(2,_)] [] t1 trivial (V1 ?_)))
   refine Q0 (.tmp rfl) ?_
   rw [K0x (gD hk2) he]
  ·have he:(v.getD k default).is=true:=by simpa using he
   refine U1 (xq ?_)
   refine F3 (mV L rfl (sw (G3 L (w64 oM oM)) t2 t0 (aV L rfl (O1 ?_))))
   exact ⟨k+1,⟨by omega,m0s hk2 hw he⟩,by omega,D3 ⟨oR,rfl,trivial⟩ trivial⟩
 ·have hc:=df hc
  refine O2 (xq ?_)
  refine exr (aV L rfl (zn [(2,_)] [] t1 trivial (V1 ?_)))
  refine Q0 (.tmp rfl) ?_
  rw [show k=v.length by omega,I0] at hw; rw [hw]
theorem j0y (c:Int)(m:List (List RQ))(hm:MSm m):j3 E 15 [pMR c m] (bZ (isM c m)):=by
 refine D2 (xs:=[bZ (isM c m)]) Tryz.func15 rfl Tryz.ntmps15 Tryz.results15 sM fun F hG hX0 hnt hdf P0=>?_
 obtain ⟨L,hX,hN⟩:=pro hnt hX0 hG
 have hl:=hm.1
 refine exr (swb (T3 (k:=1) (n:=2) pa2 rfl rfl (P0 _ rfl) L) t1 t0 ⟨rfl,rfl⟩ (aV L rfl (zn [(1,_)] [(1,_)] t1 t1 (T1 ?_))))
 refine exm (sl:=[(17,vb (!decide (m.length≤400∧0≤c∧c≤60)))]) (sl0:=[(1,_)]) (hb:=[]) (hb0:=[(1,_)]) t1 t1 ?_ ?_
 ·rcases (by omega:c<0∨0≤c∧60<c∨0≤c∧c≤60) with h | h | h
  ·refine sw (Z1 un24 rfl sz3 dC rX L) t1 t1 ?_
   refine sw (Y1 ag3 rF rF L) t1 t1 ?_
   refine sw (Y3 L) t2 t0 (mV L rfl (swn (g:=7) rfl sO L rfl (swn (g:=7) rfl sO L rfl (swn (g:=7) rfl sO L rfl (sw (T4 sO L) t2 t0 (mV L rfl (swn (g:=12) rfl rfl L rfl (swn (g:=12) rfl rfl L rfl (swn (g:=12) rfl rfl L rfl (swn (g:=12) rfl rfl L rfl (sw (T4 rfl L) t2 t0 ?_)))))))))))
   exact O1 ⟨⟨ob rfl sO,rfl,trivial⟩,t1⟩
  ·refine sw (Z1 un24 rfl sz3 dC rX L) t1 t1 ?_
   refine sw (Y1 ag3 rF rF L) t1 t1 ?_
   refine sw (Y3 L) t2 t0 (mV L rfl (swg (g:=7) rfl sO (Z1 un24 rfl sz3 dC rX L) rfl t1 t1 ?_))
   refine swg (g:=7) rfl sO (Y1 ag3 rF rF L) rfl t1 t1 ?_
   refine swg (g:=7) rfl sO (F6 L) rfl t2 t0 (sw (l4 sO L) t2 t0 (mV L rfl (swn (g:=12) rfl sO L rfl (swn (g:=12) rfl sO L rfl (swn (g:=12) rfl sO L rfl (swn (g:=12) rfl sO L rfl (sw (T4 sO L) t2 t0 ?_)))))))
   exact O1 ⟨⟨ob rfl sO,rfl,trivial⟩,t1⟩
  ·refine sw (Z1 un24 rfl sz3 dC rX L) t1 t1 ?_
   refine sw (Y1 ag3 rF rF L) t1 t1 ?_
   refine sw (Y3 L) t2 t0 (mV L rfl (swg (g:=7) rfl sO (Z1 un24 rfl sz3 dC rX L) rfl t1 t1 ?_))
   refine swg (g:=7) rfl sO (Y1 ag3 rF rF L) rfl t1 t1 ?_
   refine swg (g:=7) rfl sO (F6 L) rfl t2 t0 (sw (l4 sO L) t2 t0 (mV L rfl (swg (g:=12) rfl sO (Z1 un24 rfl sz22 dC rX L) rfl t1 t1 ?_)))
   refine swg (g:=12) rfl sO (Y1 ag22 rF rF L) rfl t1 t1 ?_
   refine swg (g:=12) rfl sO (Z2 un22 L) rfl t1 t0 (swg (g:=12) rfl sO (F6 L) rfl t2 t0 (sw (l4 sO L) t2 t0 ?_))
   exact O1 ⟨⟨ob rfl (by rw [Bool.eq_iff_iff]; simp; omega),rfl,trivial⟩,t1⟩
 refine j2 rfl (fun hc=>?_) (fun hc=>?_)
 ·refine exr (aV L rfl (zn [(2,_)] [] t1 trivial (V1 ?_)))
  refine Q0 (.tmp rfl) ?_
  simp only [isM]; rw [show decide (m.length≤400∧0≤c∧c≤60)=false by simpa only [Bool.not_eq_true'] using hc]; rfl
 ·have hd:decide (m.length≤400∧0≤c∧c≤60)=true:=by simpa only [Bool.not_eq_false'] using hc
  refine U1 (xq ?_)
  refine T1 (exr (aV L rfl (zn [(1,_),(3,_)] [(1,_)] t2 t1 (X1 ?_))))
  refine exl (α:=Nat) (fun k=>[(3,vi (k:Int))]) (fun k=>[]) (fun k=>k≤m.length∧(m.take k).all (J9 c)=true) (fun k=>m.length - k) (0) (sl:=[(1,_)]) (hb:=[(1,_)]) ?_ ⟨oR,rfl,trivial⟩ t1 ?_
  ·exact ⟨Nat.zero_le _,rfl⟩
  intro k hk
  obtain ⟨hk,hw⟩:=hk
  refine T1 (exr (mV L rfl (sw (Z1 un24 rfl sz22 dC rX L) t1 t1 ?_)))
  refine sw (Y1 ag22 rF rF L) t1 t1 ?_
  refine sw (Z2 un22 L) t1 t0 (sw (Y3 L) t2 t0 (zn [(1,_),(3,_),(22,_)] [(1,_)] t3 t1 ?_))
  refine j2 rfl (fun hc=>?_) (fun hc=>?_)
  ·have hc:=dt hc
   have hk2:k<m.length:=by omega
   have hr:=hm.2 _ (gDL hk2)
   refine U1 (xq ?_)
   refine T1 (X1 ?_)
   refine N1h (sl:=[(42,vb (!J9 c (m.getD k [])))]) (sl0:=[(1,_),(3,_)]) (hb:=[]) (hb0:=[(1,_)]) rF t2 t1 ?_ ?_
   ·by_cases h:((m.getD k []).length:Int)=c
    ·refine sw (Z1 un24 rfl sz22 dC rX L) t1 t1 ?_
     refine sw (Y1 ag22 rF rF L) t1 t1 ?_
     refine mV L rfl (sw (ixJ un22 sz40 (j:=k) rO oM sM L) t2 t0 ?_)
     refine sw (n4 ag40 (g0c hk2) L) t1 t0 (sw (Z2 un40 L) t1 t0 (sw (Z1 un24 rfl sz3 dC rX L) t1 t1 ?_))
     refine sw (Y1 ag3 rF rF L) t1 t1 ?_
     refine sw (c_n L) t2 t0 (mV L rfl (swg (g:=34) rfl (by rw [h]; simp) (Z1 un24 rfl sz22 dC rX L) rfl t1 t1 ?_))
     refine swg (g:=34) rfl (by rw [h]; simp) (Y1 ag22 rF rF L) rfl t1 t1 ?_
     refine gV (g:=34) rfl (by rw [h]; simp) L rfl rfl ?_
     refine swg (g:=34) rfl (by rw [h]; simp) (ixJ un22 sz40 (j:=k) rO oM sM L) rfl t2 t0 ?_
     refine swg (g:=34) rfl (by rw [h]; simp) (n4 ag40 (g0c hk2) L) rfl t1 t0 ?_
     refine swg (g:=34) rfl (by rw [h]; simp) (c_c hG hX cl27 rfl hN (m1m (m.getD k []) hr.1 hr.2) L) rfl t1 t0 ?_
     refine swg (g:=34) rfl (by rw [h]; simp) (q4 L) rfl t1 t0 ?_
     refine sw (l4 (by rw [h]; simp) L) t2 t0 ?_
     exact O1 ⟨q5 [⟨[1],[1],[25],[]⟩,⟨[25],[1],[26],[]⟩,⟨[3],[],[27],[]⟩,⟨[26,27],[],[28],[]⟩,⟨[28],[],[29],[]⟩,⟨[29],[],[30],[]⟩,⟨[1],[1],[31],[]⟩,⟨[31],[1],[32],[]⟩,⟨[30,32],[],[33],[]⟩,⟨[33],[],[34],[]⟩,⟨[34,1],[1],[35],[]⟩,⟨[34,35],[1],[36],[]⟩,⟨[34,3],[],[37],[]⟩,⟨[34,36,37],[],[38],[]⟩,⟨[34,38],[],[39],[]⟩,⟨[34,39],[],[40],[]⟩,⟨[34,40],[],[41],[]⟩,⟨[34,41],[],[42],[]⟩] rF rF dC,⟨ob rfl (by rw [J9,h]; simp),rfl,rfl,trivial⟩,t1⟩
    ·refine sw (Z1 un24 rfl sz22 dC rX L) t1 t1 ?_
     refine sw (Y1 ag22 rF rF L) t1 t1 ?_
     refine mV L rfl (sw (ixJ un22 sz40 (j:=k) rO oM sM L) t2 t0 ?_)
     refine sw (n4 ag40 (g0c hk2) L) t1 t0 (sw (Z2 un40 L) t1 t0 (sw (Z1 un24 rfl sz3 dC rX L) t1 t1 ?_))
     refine sw (Y1 ag3 rF rF L) t1 t1 ?_
     refine sw (c_n L) t2 t0 (mV L rfl (swn (g:=34) rfl (by rw [decide_eq_false h] <;> rfl) L rfl ?_))
     refine swn (g:=34) rfl (by rw [decide_eq_false h] <;> rfl) L rfl ?_
     refine swn (g:=34) rfl (by rw [decide_eq_false h] <;> rfl) L rfl ?_
     refine swn (g:=34) rfl (by rw [decide_eq_false h] <;> rfl) L rfl ?_
     refine swn (g:=34) rfl (by rw [decide_eq_false h] <;> rfl) L rfl ?_
     refine swn (g:=34) rfl (by rw [decide_eq_false h] <;> rfl) L rfl ?_
     refine swn (g:=34) rfl (by rw [decide_eq_false h] <;> rfl) L rfl ?_
     refine sw (T4 (by rw [decide_eq_false h] <;> rfl) L) t2 t0 ?_
     exact O1 ⟨q5 [⟨[1],[1],[25],[]⟩,⟨[25],[1],[26],[]⟩,⟨[3],[],[27],[]⟩,⟨[26,27],[],[28],[]⟩,⟨[28],[],[29],[]⟩,⟨[29],[],[30],[]⟩,⟨[1],[1],[31],[]⟩,⟨[31],[1],[32],[]⟩,⟨[30,32],[],[33],[]⟩,⟨[33],[],[34],[]⟩,⟨[34],[],[35],[]⟩,⟨[34],[],[36],[]⟩,⟨[34],[],[37],[]⟩,⟨[34],[],[38],[]⟩,⟨[34],[],[39],[]⟩,⟨[34],[],[40],[]⟩,⟨[34],[],[41],[]⟩,⟨[34],[],[42],[]⟩] rF rF dC,⟨ob rfl (by rw [J9,decide_eq_false h]; rfl),rfl,rfl,trivial⟩,t1⟩
   refine j2 rfl (fun he=>?_) (fun he=>?_)
   ·have he:J9 c (m.getD k [])=false:=by simpa using he
    refine exr (aV L rfl (zn [(2,_)] [] t1 trivial (V1 ?_)))
    refine Q0 (.tmp rfl) ?_
    rw [isM,hd,K0x (gDL hk2) he]; rfl
   ·have he:J9 c (m.getD k [])=true:=by simpa using he
    refine U1 (xq ?_)
    refine F3 (mV L rfl (sw (G3 L (w64 oM oM)) t2 t0 (aV L rfl (O1 ?_))))
    exact ⟨k+1,⟨by omega,m0s hk2 hw he⟩,by omega,D3 ⟨oR,rfl,trivial⟩ t1⟩
  ·have hc:=df hc
   refine O2 (xq ?_)
   refine exr (aV L rfl (zn [(2,_)] [] t1 trivial (V1 ?_)))
   refine Q0 (.tmp rfl) ?_
   rw [show k=m.length by omega,I0] at hw; rw [isM,hd,hw]; rfl

theorem W0h {c B:Nat}{M:List (List Rat)}(h:MOk c M)(hB:MB B M)(hb:B<1000000000):j3 E 15 [pMq c M] (bZ true):=by
 have:=j0y c _ (n1w h hB hb)
 rwa [p1h h,W0n] at this
@[reducible] def pMr (m:List (List Rat)):J2:=.sl m.length (P5 m)
theorem F1z {l:List Nat}{k:Nat}(h:k<l.length):(J6 l)[k]? = some (vZ (l.getD k 0)):=by simp [J6,f0,h]


theorem RQ.of_inj {a b:Rat}(h:RQ.of a=RQ.of b):a=b:=by
 have h1:=congrArg (fun r=>sg r.m (val r.ws)) h
 have h2:=congrArg (fun r=>sg r.n (val r.vs)) h
 simp only [RQ.of,G1q] at h1 h2
 exact Rat.ext h1 (by exact_mod_cast h2)
theorem RQ.of_iff {a b:Rat}:RQ.of a=RQ.of b↔a=b:=⟨RQ.of_inj,fun h=>by rw [h]⟩
theorem v0w (a b:Rat)(ha:qw a<1000000000)(hb:qw b<1000000000):j3 E 33 [pQ a,pQ b] (bZ (decide (a=b))):=by
 have:=v0s (RQ.of a) (RQ.of b) (RQ.sm_of ha) (RQ.sm_of hb)
 rwa [decide_eq_decide.2 RQ.of_iff] at this
theorem W0g {B:Nat}{v:List Rat}(h:∀ a∈v,qw a≤B)(hb:B<1000000000):∀ r∈v.map RQ.of,r.sm:=fun r hr=>by
 obtain ⟨a,ha,rfl⟩:=G0.1 hr
 exact RQ.sm_of (Nat.lt_of_le_of_lt (h a ha) hb)
theorem G0a:∀ {v:List Rat}{k:Nat},(d5 v).take (k*4)=d5 (v.take k)
 | [],k=>by simp [d5]
 | a :: v,0=>by simp [d5]
 | a :: v,k+1=>by
  have:=G0a (v:=v) (k:=k)
  rw [show (k+1)*4=k*4+1+1+1+1 by omega]
  simp only [d5,cQ,L1,List.nil_append,List.take_succ_cons,this]
def d0j (v:List Rat)(j:Nat):List Rat:=v.take j++v.drop (j+1)
theorem M0r {v:List Rat}{j:Nat}(h:j<v.length):(d0j v j).length=v.length - 1:=by simp [d0j]; omega
theorem j1y (u v:List Rat):d5 u++d5 v=d5 (u++v):=(n0k u v).symm
theorem k0m (v:List Rat)(j:Nat)(hl:v.length<100000000)(hj:j<v.length):j3 E 75 [pV v,vZ j] (pV (d0j v j)):=by
 refine D2 (xs:=[pV (d0j v j)]) Tryz.func75 rfl Tryz.ntmps75 Tryz.results75 sM fun F hG hX0 hnt hdf P0=>?_
 obtain ⟨L,hX,hN⟩:=pro hnt hX0 hG
 obtain ⟨u,hu⟩:∃ u,u=v.take j:=⟨_,rfl⟩
 obtain ⟨w,hw⟩:∃ w,w=v.drop (j+1):=⟨_,rfl⟩
 have hul:u.length=j:=by rw [hu,J0]; omega
 have hwl:w.length=v.length - (j+1):=by rw [hw,List.length_drop]
 have h1:(d5 v).take (j*4)=d5 u:=by rw [hu]; exact G0a
 have h2:(d5 v).drop ((j+1)*4)=d5 w:=by rw [hw]; exact q0z
 refine exr (aV L rfl (zn [(0,_),(1,_)] [] t2 trivial (exr (swb (j0h (k:=6) (sz:=4) un40 ti47 (P0 _ rfl) L) t0 t0 ⟨rfl,rfl⟩ (mV L rfl (mV L rfl (sw (p1j un40 sz47 (h:=j) rO oM h1 L) t2 t0 ?_)))))))
 refine swb (apP (sz:=4) un40 un40 ti47 rfl rfl rfl dC rX oF sO rfl rfl rfl (by simp [Tryz.t47]; omega) oM (P0 _ rfl) L) t2 t1 t0 ?_
 refine aV L rfl ?_
 refine O1 ⟨[(0,_),(1,_),(5,.ref 6 0 u.length (u.length*4))],[(6,G4 u)],⟨rfl,rfl,ov rfl sO,trivial⟩,t1,?_⟩
 refine exr (mV L rfl (mV L rfl (mV L rfl (sw (G3 L (w64 oM oM)) t2 t0 (sw (V0h un40 sz47 (l:=j+1) rO oM rfl sM h2 L) t2 t0 ?_)))))
 refine swb (apP (sz:=4) un40 un40 ti47 rfl rfl rfl dC (by exact sM) oF sO rfl rfl rfl (by simp [Tryz.t47]; omega) oM (P0 _ rfl) L) t2 t1 t0 ?_
 refine aV L rfl ?_
 refine O1 ⟨[(5,.ref 6 0 (u++w).length ((u++w).length*4))],[(6,G4 (u++w))],⟨ov rfl sO,trivial⟩,⟨obl rfl (congrArg (fun c=>(⟨47,4,.pure c⟩:Blk)) (j1y u w)),trivial⟩,?_⟩
 rw [show d0j v j=u++w by rw [d0j,hu,hw]]
 refine f5 [6] (sl:=[(5,_)]) (hb:=[]) (R3 hX0) ⟨⟨_,rfl,(.ref rfl rfl (by exact sM) (by first | rfl | omega))⟩,trivial⟩ t0 ?_
 refine exr (mV L rfl (aV L rfl (zn [(4,_)] [] t1 trivial (V1 ?_))))
 refine Q0 (.tmp rfl) ?_
 rfl
def j9 (M:List (List Rat))(j:Nat):List (List Rat):=(M.drop 1).map (d0j · j)
theorem J0f {M:List (List Rat)}{j i:Nat}(h:i+1<M.length):(j9 M j).take (i+1)=(j9 M j).take i++[d0j (M.getD (i+1) []) j]:=by
 have h2:i<(j9 M j).length:=by simp [j9]; omega
 rw [I1]
 congr 1
 simp [j9,h,f0,Nat.add_comm 1 i]
theorem g1q {v:List Rat}{j k:Nat}(hj:j<v.length):(d0j v j).getD k 0=v.getD (skp j k) 0:=by
 unfold d0j skp
 simp only [f0,List.getElem?_append,J0,G1 (Nat.le_of_lt hj),List.getElem?_take,List.getElem?_drop]
 by_cases h:k<j
 ·rw [if_pos h,if_pos h,if_pos h]
 ·rw [if_neg h,if_neg h,show j+1+(k - j)=k+1 by omega]
theorem w0q {n j:Nat}{M:List (List Rat)}(h:RC (n+1) (n+1) M)(hj:j<n+1):RC n n (j9 M j):=by
 refine ⟨by simp [j9,h.1],fun r hr=>?_⟩
 simp only [j9,G0] at hr
 obtain ⟨v,hv,rfl⟩:=hr
 have hl:=h.2 v (List.mem_of_mem_drop hv)
 rw [M0r oM,hl]; rfl
theorem q1a {n j i k:Nat}{M:List (List Rat)}(h:RC (n+1) (n+1) M)(hj:j<n+1)(hi:i<n):ent (j9 M j) i k=ent M (i+1) (skp j k):=by
 have hl:j<(M.getD (i+1) []).length:=by rw [h.get oM]; exact hj
 have e:(j9 M j).getD i []=d0j (M.getD (i+1) []) j:=by
  have h3:i+1<M.length:=by rw [h.1]; omega
  simp [j9,f0,h3,Nat.add_comm 1 i]
 rw [ent,e,g1q hl]; rfl
theorem w0v {B j:Nat}{M:List (List Rat)}(h:MB B M):MB B (j9 M j):=by
 intro r hr a ha
 simp only [j9,G0] at hr
 obtain ⟨v,hv,rfl⟩:=hr
 rcases List.mem_append.1 ha with h1 | h1
 ·exact h v (List.mem_of_mem_drop hv) a (List.mem_of_mem_take h1)
 ·exact h v (List.mem_of_mem_drop hv) a (List.mem_of_mem_drop h1)
def dtT (n:Nat)(M:List (List Rat))(j:Nat):Rat:=sg1 j*ent M 0 j*DF n (ent (j9 M j))
theorem n1b {n:Nat}{M:List (List Rat)}(h:RC (n+1) (n+1) M):DF (n+1) (ent M)=sN (n+1) (dtT n M):=by
 rw [DF]; exact s5 fun j hj=>by rw [dtT]; congr 1; exact q9 fun i k hi hk=>(q1a h hj hi).symm
def dbd (B:Nat):Nat→Nat
 | 0=>2
 | n+1=>(n+1)*(B+dbd B n+1)+2
theorem F1p {j:Nat}{a:Rat}:sg1 j*a=if j % 2=1 then -a else a:=by
 unfold sg1; split
 ·grind
 ·rw [Rat.one_mul]
theorem M0b {n j:Nat}{M:List (List Rat)}:dtT n M j=if j % 2=1 then -(ent M 0 j*DF n (ent (j9 M j))) else ent M 0 j*DF n (ent (j9 M j)):=by
 rw [dtT,Rat.mul_assoc,F1p]
theorem V0q {B n j:Nat}{M:List (List Rat)}(hB:qw (ent M 0 j)≤B)(hD:qw (DF n (ent (j9 M j)))≤dbd B n):qw (dtT n M j)≤B+dbd B n:=by
 have:=L9 (ent M 0 j) (DF n (ent (j9 M j)))
 rw [M0b]; split
 ·rw [y0r]; omega
 ·omega
theorem y1g {C:Nat}{f:Nat→Rat}:∀ {n:Nat},(∀ j,j<n→qw (f j)≤C)→qw (sN n f)≤n*(C+1)+2
 | 0,_=>by rw [sN,n0n]; omega
 | n+1,h=>by
  have h1:=y1g (n:=n) fun j hj=>h j oM
  have h2:=h n oM
  have h3:=Y0w (sN n f) (f n)
  rw [sN,Nat.add_mul]; omega
theorem w1z {B:Nat}:∀ {n:Nat} {M:List (List Rat)},RC n n M→MB B M→qw (DF n (ent M))≤dbd B n
 | 0,M,_,_=>by rw [DF,y0c]; exact Nat.le_succ 1
 | n+1,M,h,hB=>by
  rw [n1b h]
  have h0:0<M.length:=by rw [h.1]; omega
  have:=y1g (C:=B+dbd B n) (n:=n+1) (f:=dtT n M) fun j hj=>V0q (hB _ (gDL h0) _ (b5 (by rw [h.get oM]; exact hj))) (w1z (w0q h hj) (w0v hB))
  rw [dbd]; exact this
theorem P1b (c:Nat):j3 E 34 [pMq c []] (pQ 1):=by
 refine D2 (xs:=[pQ 1]) Tryz.func34 rfl Tryz.ntmps34 Tryz.results34 sM fun F hG hX0 hnt hdf P0=>?_
 obtain ⟨L,hX,hN⟩:=pro hnt hX0 hG
 refine exr (swb (T3 (k:=1) (n:=2) pa2 rfl rfl (P0 _ rfl) L) t1 t0 ⟨rfl,rfl⟩ (swb (L3 (k:=2) (n:=4) zv47 (.cons rfl (.cons rfl (.cons rfl (.cons rfl .nil)))) rfl (P0 _ rfl) L) t0 t0 ⟨rfl,rfl⟩ (zn [(1,_),(2,_)] [(1,_),(2,_)] t2 t2 (T1 (exr (sw (Z1 un24 rfl sz22 dC rX L) t1 t1 ?_))))))
 refine sw (Y1 ag22 rF rF L) t1 t1 ?_
 refine sw (Z2 un22 L) t1 t0 (sw (c_e L) t2 t0 (zn [(1,_),(2,_),(11,_)] [(1,_),(2,_)] t3 t2 (M8 rfl rfl (exr (cK hG hX cl61 hN (b1n) L t0 (sb (R2 sz47 rF pa4 rfl pu4) t2 t1 ?_))))))
 refine zn [(2,_)] [(2,_)] t1 t1 (V1 ?_)
 refine Q0 (.agg rfl rfl rfl ag47 sz47 (.cons (.cons (.cons (.cons .nil))))) ?_
 rfl
theorem P1c (n B:Nat)(M:List (List Rat))(h:RC (n+1) (n+1) M)(hB:MB B M)(hn:n<1000000)(hs:B+dbd B (n+1)<400000000)(ih:∀ j,j<n+1→j3 E 34 [pMq n (j9 M j)] (pQ (DF n (ent (j9 M j))))):j3 E 34 [pMq (n+1:Nat) M] (pQ (DF (n+1) (ent M))):=by
 refine D2 (xs:=[pQ (DF (n+1) (ent M))]) Tryz.func34 rfl Tryz.ntmps34 Tryz.results34 sM fun F hG hX0 hnt hdf P0=>?_
 obtain ⟨L,hX,hN⟩:=pro hnt hX0 hG
 have hMl:=h.1
 have h0:0<M.length:=by omega
 have h0l:(M.getD 0 []).length=n+1:=h.get oM
 have hdb:dbd B (n+1)=(n+1)*(B+dbd B n+1)+2:=rfl
 have hdm:(n+1)*(B+dbd B n+1)=n*(B+dbd B n+1)+(B+dbd B n+1):=Nat.succ_mul _ _
 have hsum:∀ j,j≤n+1→qw (sN j (dtT n M))≤dbd B (n+1):=fun j hj=>by
  have h1:=y1g (C:=B+dbd B n) (n:=j) (f:=dtT n M) fun k hk=>V0q (hB _ (gDL h0) _ (b5 oM)) (w1z (w0q h oM) (w0v hB))
  have h2:j*(B+dbd B n+1)≤(n+1)*(B+dbd B n+1):=V0 _ hj
  omega
 refine exr (swb (T3 (k:=1) (n:=2) pa2 rfl rfl (P0 _ rfl) L) t1 t0 ⟨rfl,rfl⟩ (swb (L3 (k:=2) (n:=4) zv47 (.cons rfl (.cons rfl (.cons rfl (.cons rfl .nil)))) rfl (P0 _ rfl) L) t0 t0 ⟨rfl,rfl⟩ (zn [(1,_),(2,_)] [(1,_),(2,_)] t2 t2 (T1 (exr (sw (Z1 un24 rfl sz22 dC rX L) t1 t1 ?_))))))
 refine sw (Y1 ag22 rF rF L) t1 t1 ?_
 refine sw (Z2 un22 L) t1 t0 (sw (c_e L) t2 t0 (zn [(1,_),(2,_),(11,_)] [(1,_),(2,_)] t3 t2 (U3 rfl (decide_eq_false oM) ?_)))
 refine U1 (xq ?_)
 refine exr (cK hG hX cl60 hN (V0r) L t0 (swb (L3 (k:=3) (n:=4) zv47 (.cons rfl (.cons rfl (.cons rfl (.cons rfl .nil)))) rfl (P0 _ rfl) L) t0 t0 ⟨rfl,rfl⟩ (sb (R2 sz47 rF pa4 rfl pu4) t2 t1 ?_)))
 refine zn [(1,_),(2,_),(3,_)] [(1,_),(2,_),(3,_)] t3 t3 (T1 (exr (aV L rfl (zn [(1,_),(2,_),(3,_),(4,_)] [(1,_),(2,_),(3,_)] t4 t3 (X1 ?_)))))
 refine exl (α:=Nat) (fun j=>[(4,vi (j:Int))]) (fun j=>[(3,bQ (sN j (dtT n M)))]) (fun j=>j≤n+1) (fun j=>n+1 - j) (0) (sl:=[(1,_),(2,_),(3,_)]) (hb:=[(1,_),(2,_)]) ?_ ⟨oR,rfl,rfl,rfl,trivial⟩ t3 ?_
 ·exact Nat.zero_le _
 intro j hj
 have hsj:=hsum j hj
 refine T1 (exr (mV L rfl (sw (Z1 un24 rfl sz3 dC rX L) t1 t1 ?_)))
 refine sw (Y1 ag3 rF rF L) t1 t1 ?_
 refine sw (Y3 L) t2 t0 (zn [(1,_),(2,_),(3,_),(4,_),(17,_)] [(1,_),(2,_),(3,_)] t5 t3 ?_)
 refine j2 rfl (fun hc=>?_) (fun hc=>?_)
 ·have hc:=dt hc
  have hjn:j<n+1:=by omega
  have hj0:j<(M.getD 0 []).length:=by omega
  have hent:qw (ent M 0 j)≤B:=hB _ (gDL h0) _ (b5 hj0)
  have hD:=w1z (w0q h hjn) (w0v (j:=j) hB)
  have hT0:=V0q hent hD
  have hmul:=L9 (ent M 0 j) (DF n (ent (j9 M j)))
  have hstep:sN (j+1) (dtT n M)=sN j (dtT n M)+dtT n M j:=rfl
  refine U1 (xq ?_)
  refine T1 (X1 (T1 (exr (sw (Z1 un24 rfl sz22 dC rX L) t1 t1 ?_))))
  refine sw (Y1 ag22 rF rF L) t1 t1 ?_
  refine sw (ixJ un22 sz40 (j:=0) rO oM sM L) t2 t0 ?_
  refine sw (n4 ag40 (Y8 h0) L) t1 t0 (mV L rfl (sw (I2 un40 sz47 oM oM sM dC L) t2 t0 ?_))
  refine sw (P7 ag47 sz47 (R7 hj0) rfl L) t1 t0 (cK hG hX cl22 hN (y1q ((M.getD 0 []).getD j 0)) L t1 (zn [(1,_),(2,_),(3,_),(4,_),(27,_)] [(1,_),(2,_),(3,_)] t5 t3 ?_))
  refine j2 rfl (fun hz=>?_) (fun hz=>?_)
  ·have hz:=dt hz
   have hz2:dtT n M j=0:=by rw [dtT,show ent M 0 j=0 from hz]; grind
   rw [hz2,Rat.add_zero] at hstep
   refine O2 (xq ?_)
   refine F3 (mV L rfl (sw (G3 L (w64 oM oM)) t2 t0 (aV L rfl (O1 ?_))))
   exact ⟨j+1,oM,by omega,D3 ⟨oR,rfl,rfl,rfl,trivial⟩ ⟨obl rfl (by rw [hstep]),rfl,rfl,trivial⟩⟩
  ·refine U1 (xq ?_)
   refine exr (sw (Z1 un24 rfl sz3 dC rX L) t1 t1 ?_)
   refine sw (Y1 ag3 rF rF L) t1 t1 ?_
   refine sw (U5 L (w64 oM oM)) t2 t0 (sw (e7 (vs:=[_]) un24 zv24 (.cons rfl (.cons rfl .nil)) ((G2.cons sz3 (G2.cons sz22 G2.nil))).to rfl (.cons rfl (.atom rfl) rfl pu1 .nil) (.cons (.cons .nil)) L) t1 t0 (swb (L3 (k:=5) (n:=2) zv24 (.cons rfl (.cons rfl .nil)) rfl (P0 _ rfl) L) t0 t0 ⟨rfl,rfl⟩ (sb (R2 sz24 rF pa2 rfl pu2) t2 t1 ?_)))
   refine zn [(1,_),(2,_),(3,_),(4,_),(5,_)] [(1,_),(2,_),(3,_),(5,_)] t5 t4 ?_
   rw [show ((n+1:Nat):Int) - 1=(n:Int) by omega]
   refine T1 (exr (aV L rfl (zn [(1,_),(2,_),(3,_),(4,_),(5,_),(6,_)] [(1,_),(2,_),(3,_),(5,_)] t6 t4 (X1 ?_))))
   refine exl (α:=(Nat×List (List Rat))) (fun x=>[(6,vi (x.1+1:Int))]) (fun x=>[(5,⟨24,2,.mix [.p (vZ n),M0x 49 x.2]⟩)]++K0q 49 x.2) (fun x=>x.1≤n∧(j9 M j).take x.1=x.2) (fun x=>n - x.1) ((0,[])) (sl:=[(1,_),(2,_),(3,_),(4,_),(5,_)]) (hb:=[(1,_),(2,_),(3,_)]) ?_ ⟨oR,rfl,rfl,rfl,rfl,rfl,trivial⟩ (hbI (l':=[(5,_),(1,_),(2,_),(3,_)]) rfl t4) ?_
   ·exact ⟨Nat.zero_le _,rfl⟩
   intro x hx
   obtain ⟨i,T⟩:=x
   obtain ⟨hi,hT⟩:=hx
   simp only at hi hT
   rcases T with _ | ⟨q,T⟩
   ·dsimp only [M0x,K0q,List.append_nil]
    refine T1 (exr (mV L rfl (sw (Z1 un24 rfl sz22 dC rX L) t1 t1 ?_)))
    refine sw (Y1 ag22 rF rF L) t1 t1 ?_
    refine sw (Z2 un22 L) t1 t0 (sw (Y3 L) t2 t0 (zn [(1,_),(2,_),(3,_),(4,_),(5,_),(6,_),(36,_)] [(1,_),(2,_),(3,_),(5,_)] t7 t4 ?_))
    refine j2 rfl (fun he=>?_) (fun he=>?_)
    ·have he:=dt he
     have hi2:i+1<M.length:=by omega
     have ht:=J0f (j:=j) hi2
     rw [hT] at ht
     have hrl:(M.getD (i+1) []).length=n+1:=h.get oM
     refine U1 (xq ?_)
     refine T1 (X1 (h0k rF ?_))
     refine sw (Z1 un24 rfl sz22 dC rX L) t1 t1 ?_
     refine sw (Y1 ag22 rF rF L) t1 t1 ?_
     refine sw (Z1 un24 rfl sz22 dC rX L) t1 t1 ?_
     refine sw (Y1 ag22 rF rF L) t1 t1 ?_
     refine mV L rfl (sw (ixJ un22 sz40 (j:=i+1) rO oM sM L) t2 t0 ?_)
     refine sw (n4 ag40 (Y8 hi2) L) t1 t0 (mV L rfl (cK hG hX cl75 hN (k0m (M.getD (i+1) []) j oM oM) L t2 (sw (I4 (vs:=[_]) un22 ti40 rfl rfl dC dC rfl (P2 (.cons rfl .nil) rfl) rfl (.cons rfl .sl rfl pu1 .nil) (.cons .nil) L) t1 t0 (swb (apN (k:=49) (sz:=1) un22 un22 ti40 rfl rfl rfl dC sM rfl (by first | (simp [Tryz.t40]; done) | (simp [Tryz.t40]; omega)) oM (P0 _ rfl) L) t2 t0 ⟨rfl,rfl⟩ ?_))))
     refine sw (Z1 un24 rfl sz22 dC rX L) t1 t1 ?_
     refine sb (R2 sz22 rF .ref rfl (.skip pu1)) t2 t1 ?_
     refine O1 ⟨aok rfl rfl,?_⟩
     refine F3 (mV L rfl (sw (G3 L (w64 oM oM)) t2 t0 (aV L rfl (O1 ?_))))
     exact ⟨(i+1,[d0j (M.getD (i+1) []) j]),⟨by simp only; omega,ht⟩,(by simp only; omega),D3 ⟨oR,rfl,rfl,rfl,rfl,rfl,trivial⟩ (hbI (l':=[(5,_),(49,_),(1,_),(2,_),(3,_)]) rfl ⟨rfl,obl rfl (by simp [P5]),rfl,rfl,rfl,trivial⟩)⟩
    ·have he:=df he
     rw [C0 (by simp [j9]; omega)] at hT
     have hih:=ih j hjn
     rw [hT] at hih hD hmul
     have hval:=M0b (n:=n) (M:=M) (j:=j)
     rw [hT] at hval
     refine O2 (xq ?_)
     refine f5 [] (sl:=[(1,_),(2,_),(3,_),(4,_),(5,_)]) (hb:=[(1,_),(2,_),(3,_),(5,_)]) (R3 hX0) ⟨⟨_,rfl,.same⟩,⟨_,rfl,.same⟩,⟨_,rfl,.same⟩,⟨_,rfl,.same⟩,⟨_,rfl,.same⟩,trivial⟩ ⟨⟨rfl,_,rfl,.same⟩,⟨rfl,_,rfl,.same⟩,⟨rfl,_,rfl,.same⟩,⟨rfl,_,rfl,(.mix (.cons .same (.cons (.p .nil) .nil)))⟩,trivial⟩ (exd rF ?_)
     refine sw (Z1 un24 rfl sz22 dC rX L) t1 t1 ?_
     refine sw (Y1 ag22 rF rF L) t1 t1 ?_
     refine sw (ixJ un22 sz40 (j:=0) rO oM sM L) t2 t0 ?_
     refine sw (n4 ag40 (Y8 h0) L) t1 t0 (mV L rfl (sw (I2 un40 sz47 oM oM sM dC L) t2 t0 ?_))
     refine sw (P7 ag47 sz47 (R7 hj0) rfl L) t1 t0 (lp2 ag24 sz24 L rfl rfl (cK hG hX cl34 hN hih L t1 (cK hG hX cl37 hN (D0s (ent M 0 j) (DF n (ent [])) oM oM) L t2 (swb (L3 (k:=7) (n:=4) zv47 (.cons rfl (.cons rfl (.cons rfl (.cons rfl .nil)))) rfl (P0 _ rfl) L) t0 t0 ⟨rfl,rfl⟩ (sb (R2 sz47 rF pa4 rfl pu4) t2 t1 ?_)))))
     refine O1 ⟨aok rfl rfl,[(1,_),(2,_),(3,_),(4,_),(7,_)],[(1,_),(2,_),(3,_),(7,_)],t5,t4,?_⟩
     refine T1 (exr (mV L rfl (sw (c_r L dC rfl) t2 t0 (sw (c_e L) t2 t0 (zn [(1,_),(2,_),(3,_),(4,_),(7,_),(63,_)] [(1,_),(2,_),(3,_),(7,_)] t6 t4 ?_)))))
     refine j2 rfl (fun hp=>?_) (fun hp=>?_)
     ·have hp:=dt hp
      rw [show Int.tmod (j:Int) 2=((j % 2:Nat):Int) from rfl] at hp
      rw [if_pos (show j % 2=1 by omega)] at hval
      refine F3 (lp4 ag47 sz47 L rfl rfl (cK hG hX cl62 hN (D0f (ent M 0 j*DF n (ent [])) oM) L t1 (sb (R2 sz47 rF pa4 rfl pu4) t2 t1 ?_)))
      refine O1 ?_
      rw [← hval]
      refine F3 (lp4 ag47 sz47 L rfl rfl (lp4 ag47 sz47 L rfl rfl (cK hG hX cl76 hN (f0k (sN j (dtT n M)) (dtT n M j) oM oM) L t2 (sb (R2 sz47 rF pa4 rfl pu4) t2 t1 ?_))))
      refine O1 (F3 (mV L rfl (sw (G3 L (w64 oM oM)) t2 t0 (aV L rfl (O1 ?_)))))
      exact ⟨j+1,oM,by omega,D3 ⟨oR,rfl,rfl,rfl,trivial⟩ ⟨obl rfl (by rw [hstep]),rfl,rfl,trivial⟩⟩
     ·have hp:=df hp
      rw [show Int.tmod (j:Int) 2=((j % 2:Nat):Int) from rfl] at hp
      rw [if_neg (show ¬ j % 2=1 by omega)] at hval
      rw [← hval]
      refine U1 (xq ?_)
      refine F3 (lp4 ag47 sz47 L rfl rfl (lp4 ag47 sz47 L rfl rfl (cK hG hX cl76 hN (f0k (sN j (dtT n M)) (dtT n M j) oM oM) L t2 (sb (R2 sz47 rF pa4 rfl pu4) t2 t1 ?_))))
      refine O1 (F3 (mV L rfl (sw (G3 L (w64 oM oM)) t2 t0 (aV L rfl (O1 ?_)))))
      exact ⟨j+1,oM,by omega,D3 ⟨oR,rfl,rfl,rfl,trivial⟩ ⟨obl rfl (by rw [hstep]),rfl,rfl,trivial⟩⟩
   ·dsimp only [M0x,K0q]
    have hTl:(q :: T).length=i:=by rw [← hT,J0]; simp [j9]; omega
    have hTl2:T.length+1=i:=hTl
    refine T1 (exr (mV L rfl (sw (Z1 un24 rfl sz22 dC rX L) t1 t1 ?_)))
    refine sw (Y1 ag22 rF rF L) t1 t1 ?_
    refine sw (Z2 un22 L) t1 t0 (sw (Y3 L) t2 t0 (zn [(1,_),(2,_),(3,_),(4,_),(5,_),(6,_),(36,_)] [(1,_),(2,_),(3,_),(5,_),(49,_)] t7 t5 ?_))
    refine j2 rfl (fun he=>?_) (fun he=>?_)
    ·have he:=dt he
     have hi2:i+1<M.length:=by omega
     have ht:=J0f (j:=j) hi2
     rw [hT] at ht
     have hrl:(M.getD (i+1) []).length=n+1:=h.get oM
     refine U1 (xq ?_)
     refine T1 (X1 (h0k rF ?_))
     refine sw (Z1 un24 rfl sz22 dC rX L) t1 t1 ?_
     refine sw (Y1 ag22 rF rF L) t1 t1 ?_
     refine sw (Z1 un24 rfl sz22 dC rX L) t1 t1 ?_
     refine sw (Y1 ag22 rF rF L) t1 t1 ?_
     refine mV L rfl (sw (ixJ un22 sz40 (j:=i+1) rO oM sM L) t2 t0 ?_)
     refine sw (n4 ag40 (Y8 hi2) L) t1 t0 (mV L rfl (cK hG hX cl75 hN (k0m (M.getD (i+1) []) j oM oM) L t2 (sw (I4 (vs:=[_]) un22 ti40 rfl rfl dC dC rfl (P2 (.cons rfl .nil) rfl) rfl (.cons rfl .sl rfl pu1 .nil) (.cons .nil) L) t1 t0 (swb (apP (sz:=1) un22 un22 ti40 rfl rfl rfl dC (by exact (n7 _)) oF sM rfl rfl rfl (by first | (simp [Tryz.t40]; done) | (simp [Tryz.t40]; omega)) oM (P0 _ rfl) L) t2 t1 t0 ?_))))
     refine sw (Z1 un24 rfl sz22 dC rX L) t1 t1 ?_
     refine sb (R2 sz22 rF .ref rfl (.skip pu1)) t2 t1 ?_
     refine O1 ⟨q5 [⟨[5],[5],[39],[]⟩,⟨[39],[5],[40],[]⟩,⟨[1],[1],[41],[]⟩,⟨[41],[1],[42],[]⟩,⟨[6],[],[43],[]⟩,⟨[42,43],[],[44],[]⟩,⟨[44],[],[45],[]⟩,⟨[4],[],[46],[]⟩,⟨[45,46],[],[47],[]⟩,⟨[47],[],[48],[]⟩,⟨[40,48],[49],[49],[49]⟩,⟨[5],[5],[50],[]⟩,⟨[50,49],[5],[],[5]⟩] rF rF dC,?_⟩
     refine F3 (mV L rfl (sw (G3 L (w64 oM oM)) t2 t0 (aV L rfl (O1 ?_))))
     exact ⟨(i+1,q :: T++[d0j (M.getD (i+1) []) j]),⟨by simp only; omega,ht⟩,(by simp only; omega),D3 ⟨oR,rfl,rfl,rfl,rfl,rfl,trivial⟩ (hbI (l':=[(5,_),(49,_),(1,_),(2,_),(3,_)]) rfl ⟨obl rfl sM,obl rfl (m1p _ (q :: T) _ rfl),rfl,rfl,rfl,trivial⟩)⟩
    ·have he:=df he
     rw [C0 (by simp [j9]; omega)] at hT
     have hih:=ih j hjn
     rw [hT] at hih hD hmul
     have hval:=M0b (n:=n) (M:=M) (j:=j)
     rw [hT] at hval
     refine O2 (xq ?_)
     refine f5 [49] (sl:=[(1,_),(2,_),(3,_),(4,_),(5,_)]) (hb:=[(1,_),(2,_),(3,_),(5,_)]) (R3 hX0) ⟨⟨_,rfl,.same⟩,⟨_,rfl,.same⟩,⟨_,rfl,.same⟩,⟨_,rfl,.same⟩,⟨_,rfl,.same⟩,trivial⟩ ⟨⟨rfl,_,rfl,.same⟩,⟨rfl,_,rfl,.same⟩,⟨rfl,_,rfl,.same⟩,⟨rfl,_,rfl,(.mix (.cons .same (.cons (.ref rfl rfl (by exact (n7 _)) (by first | rfl | omega)) .nil)))⟩,trivial⟩ ?_
     refine exd rF ?_
     refine sw (Z1 un24 rfl sz22 dC rX L) t1 t1 ?_
     refine sw (Y1 ag22 rF rF L) t1 t1 ?_
     refine sw (ixJ un22 sz40 (j:=0) rO oM sM L) t2 t0 ?_
     refine sw (n4 ag40 (Y8 h0) L) t1 t0 (mV L rfl (sw (I2 un40 sz47 oM oM sM dC L) t2 t0 ?_))
     refine sw (P7 ag47 sz47 (R7 hj0) rfl L) t1 t0 (lp2 ag24 sz24 L rfl rfl (cK hG hX cl34 hN hih L t1 (cK hG hX cl37 hN (D0s (ent M 0 j) (DF n (ent (q :: T))) oM oM) L t2 (swb (L3 (k:=7) (n:=4) zv47 (.cons rfl (.cons rfl (.cons rfl (.cons rfl .nil)))) rfl (P0 _ rfl) L) t0 t0 ⟨rfl,rfl⟩ (sb (R2 sz47 rF pa4 rfl pu4) t2 t1 ?_)))))
     refine O1 ⟨aok rfl rfl,[(1,_),(2,_),(3,_),(4,_),(7,_)],[(1,_),(2,_),(3,_),(7,_)],t5,t4,?_⟩
     refine T1 (exr (mV L rfl (sw (c_r L dC rfl) t2 t0 (sw (c_e L) t2 t0 (zn [(1,_),(2,_),(3,_),(4,_),(7,_),(63,_)] [(1,_),(2,_),(3,_),(7,_)] t6 t4 ?_)))))
     refine j2 rfl (fun hp=>?_) (fun hp=>?_)
     ·have hp:=dt hp
      rw [show Int.tmod (j:Int) 2=((j % 2:Nat):Int) from rfl] at hp
      rw [if_pos (show j % 2=1 by omega)] at hval
      refine F3 (lp4 ag47 sz47 L rfl rfl (cK hG hX cl62 hN (D0f (ent M 0 j*DF n (ent (q :: T))) oM) L t1 (sb (R2 sz47 rF pa4 rfl pu4) t2 t1 ?_)))
      refine O1 ?_
      rw [← hval]
      refine F3 (lp4 ag47 sz47 L rfl rfl (lp4 ag47 sz47 L rfl rfl (cK hG hX cl76 hN (f0k (sN j (dtT n M)) (dtT n M j) oM oM) L t2 (sb (R2 sz47 rF pa4 rfl pu4) t2 t1 ?_))))
      refine O1 (F3 (mV L rfl (sw (G3 L (w64 oM oM)) t2 t0 (aV L rfl (O1 ?_)))))
      exact ⟨j+1,oM,by omega,D3 ⟨oR,rfl,rfl,rfl,trivial⟩ ⟨obl rfl (by rw [hstep]),rfl,rfl,trivial⟩⟩
     ·have hp:=df hp
      rw [show Int.tmod (j:Int) 2=((j % 2:Nat):Int) from rfl] at hp
      rw [if_neg (show ¬ j % 2=1 by omega)] at hval
      rw [← hval]
      refine U1 (xq ?_)
      refine F3 (lp4 ag47 sz47 L rfl rfl (lp4 ag47 sz47 L rfl rfl (cK hG hX cl76 hN (f0k (sN j (dtT n M)) (dtT n M j) oM oM) L t2 (sb (R2 sz47 rF pa4 rfl pu4) t2 t1 ?_))))
      refine O1 (F3 (mV L rfl (sw (G3 L (w64 oM oM)) t2 t0 (aV L rfl (O1 ?_)))))
      exact ⟨j+1,oM,by omega,D3 ⟨oR,rfl,rfl,rfl,trivial⟩ ⟨obl rfl (by rw [hstep]),rfl,rfl,trivial⟩⟩
 ·have hc:=df hc
  have hjn:j=n+1:=by omega
  subst hjn
  refine O2 (xq ?_)
  refine exr (lp4 ag47 sz47 L rfl rfl (sb (R2 sz47 rF pa4 rfl pu4) t2 t1 ?_))
  refine zn [(2,_)] [(2,_)] t1 t1 (V1 ?_)
  refine Q0 (.agg rfl rfl rfl ag47 sz47 (.cons (.cons (.cons (.cons .nil))))) ?_
  rw [n1b h]
theorem J0j {B N:Nat}(hN:N<1000)(hs:∀ n,n≤N→B+dbd B n<400000000):∀ {n:Nat} {M:List (List Rat)},n≤N→RC n n M→MB B M→j3 E 34 [pMq n M] (pQ (DF n (ent M)))
 | 0,M,_,h,_=>by
  obtain rfl:=E0 h.1
  exact P1b 0
 | n+1,M,hn,h,hB=>P1c n B M h hB oM (hs _ hn) fun j hj=>J0j hN hs oM (w0q h hj) (w0v hB)
theorem y1a:∀ {v:List RQ}{i:Nat}(j:Nat),i<v.length→j<4→(n0f v)[i*4+j]? = (cR (v.getD i default))[j]?
 | [],i,j,h,_=>by simp at h
 | a :: v,0,j,_,h2=>by
  rw [n0f,Nat.zero_mul,F1,X0 (by simp [cR]; omega)]; rfl
 | a :: v,i+1,j,h,h2=>by
  have:=y1a (v:=v) (i:=i) j (by simpa using h) h2
  rw [n0f,D0 (by simp [cR]; omega),show (i+1)*4+j - (cR a).length=i*4+j by simp [cR]; omega,this]
  simp
theorem M1f {v:List RQ}{i:Nat}(h:i<v.length):(n0f v)[i*4+0+1]? = some (.sl (v.getD i default).ws.length (s4 (v.getD i default).ws)):=y1a 1 h dC
theorem N1d {v:List RQ}{i:Nat}(h:i<v.length):(n0f v)[i*4+2+1]? = some (.sl (v.getD i default).vs.length (s4 (v.getD i default).vs)):=y1a 3 h dC
def iV (l:List Int):List Rat:=l.map fun z:Int=>(z:Rat)
@[simp] theorem j0n (l:List Int):(iV l).length=l.length:=by simp [iV]
@[reducible] def pJ (l:List Int):J2:=.sl l.length (l.map vZ)
theorem Q1k {l:List Int}{k:Nat}(h:k<l.length):(l.map vZ)[k]? = some (vZ (l.getD k 0)):=by simp [f0,h]
theorem D1k {l:List Int}{k:Nat}(h:k<l.length):iV (l.take (k+1))=iV (l.take k)++[((l.getD k 0:Int):Rat)]:=by
 rw [I1,iV,List.map_append]; simp [iV,f0,h]
theorem n1x (l:List Int)(hl:l.length<1000)(hb:∀ z∈l,-1000≤z∧z<1000):j3 E 48 [pJ l] (pV (iV l)):=by
 refine D2 (xs:=[pV (iV l)]) Tryz.func48 rfl Tryz.ntmps48 Tryz.results48 sM fun F hG hX0 hnt hdf P0=>?_
 obtain ⟨L,hX,hN⟩:=pro hnt hX0 hG
 refine exr (aV L rfl (zn [(0,_)] [] t1 trivial (exr (swb (j0h (k:=5) (sz:=4) un40 ti47 (P0 _ rfl) L) t0 t0 ⟨rfl,rfl⟩ (aV L rfl ?_)))))
 refine O1 ⟨[(0,_),(3,.ref 5 0 0 0)],[(5,G4 [])],t2,t1,?_⟩
 refine T1 (exr (aV L rfl (zn [(0,_),(3,_),(4,_)] [(5,_)] t3 t1 (X1 ?_))))
 refine exl (α:=Nat) (fun k=>[(4,vi (k:Int)),(3,.ref 5 0 k (k*4))]) (fun k=>[(5,G4 (iV (l.take k)))]) (fun k=>k≤l.length) (fun k=>l.length - k) (0) (sl:=[(0,_)]) (hb:=[]) ?_ ⟨oR,oR,rfl,trivial⟩ t1 ?_
 ·exact Nat.zero_le _
 intro k hk
 refine T1 (exr (mV L rfl (mV L rfl (sw (Z2 un27 L) t1 t0 (sw (Y3 L) t2 t0 (zn [(0,_),(3,_),(4,_),(9,_)] [(5,_)] t4 t1 ?_))))))
 refine j2 rfl (fun hc=>?_) (fun hc=>?_)
 ·have hc:=dt hc
  have hk2:k<l.length:=by omega
  have hz:=hb (l.getD k 0) (by simp [f0,hk2])
  refine U1 (xq ?_)
  refine T1 (X1 (F3 (mV L rfl (mV L rfl (mV L rfl (sw (ixJ un27 sz3 (j:=k) rO oM sM L) t2 t0 ?_))))))
  refine sw (n4 ag3 (Q1k hk2) L) t1 t0 (cK hG hX cl49 hN (b0g (l.getD k 0) oM oM) L t1 (sw (I4 (vs:=[_]) un40 ti47 rfl rfl dC dC rfl (P2 (.cons rfl (.cons rfl (.cons rfl (.cons rfl .nil)))) rfl) rfl (.cons rfl pa4 rfl pu4 .nil) (.cons (.cons (.cons (.cons .nil)))) L) t1 t0 (swb (apP (sz:=4) un40 un40 ti47 rfl rfl rfl dC (by exact (by first | (simp; omega) | (simp; done))) oF sM rfl rfl rfl (by first | (simp [Tryz.t47]; done) | (simp [Tryz.t47]; omega)) oM (P0 _ rfl) L) t2 t1 t0 ?_)))
  refine aV L rfl (O1 (F3 (mV L rfl (sw (G3 L (w64 oM oM)) t2 t0 (aV L rfl (O1 ?_))))))
  exact ⟨k+1,oM,by omega,D3 ⟨oR,ov rfl sO,rfl,trivial⟩ ⟨obl rfl ((v0r _ _).trans (by rw [D1k hk2])),trivial⟩⟩
 ·have hc:=df hc
  have hkl:k=l.length:=by omega
  rw [C0 oM]
  subst hkl
  refine O2 (xq ?_)
  refine f5 [5] (sl:=[(3,_)]) (hb:=[]) (R3 hX0) ⟨⟨_,rfl,(.ref rfl rfl (by exact (by first | (simp; omega) | (simp; done))) (by first | rfl | omega))⟩,trivial⟩ t0 ?_
  refine exr (mV L rfl (aV L rfl (zn [(2,_)] [] t1 trivial (V1 ?_))))
  refine Q0 (.tmp rfl) ?_
  simp
theorem q1n (c:Int)(M:List (List Rat)):j3 E 47 [vZ c,pMr M] (.agg [vZ c,pMr M]):=by
 refine D2 (xs:=[.agg [vZ c,pMr M]]) Tryz.func47 rfl Tryz.ntmps47 Tryz.results47 sM fun F hG hX0 hnt hdf P0=>?_
 obtain ⟨L,hX,hN⟩:=pro hnt hX0 hG
 refine exr (swb (L3 (k:=4) (n:=2) zv24 (.cons rfl (.cons rfl .nil)) rfl (P0 _ rfl) L) t0 t0 ⟨rfl,rfl⟩ (zn [(0,_),(1,_),(4,_)] [(4,_)] t3 t1 (exr (mV L rfl (mV L rfl (sw (e7 (vs:=[_,_]) un24 zv24 (.cons rfl (.cons rfl .nil)) ((G2.cons sz3 (G2.cons sz22 G2.nil))).to rfl (.cons rfl (.atom rfl) rfl pu1 (.cons rfl .sl rfl (.skip pu1) .nil)) (.cons (.cons .nil)) L) t2 t0 (sb (R2 sz24 rF pa2 rfl pu2) t2 t1 ?_)))))))
 refine zn [(4,_)] [(4,_)] t1 t1 (V1 ?_)
 refine Q0 (.agg rfl rfl rfl ag24 sz24 (.cons (.cons .nil))) ?_
 rfl
def smW (k:Nat)(r:RQ):Bool:=decide (r.ws.length≤k∧r.vs.length≤k)
def smV (n:Nat)(v:List RQ):Bool:=decide (v.length≤n) && v.all (smW 6)
theorem or3 (p q:Prop):p∨(¬p∧q)∨(¬p∧¬q):=by
 rcases Classical.em p with h | h
 ·exact .inl h
 ·rcases Classical.em q with h2 | h2
  ·exact .inr (.inl ⟨h,h2⟩)
  ·exact .inr (.inr ⟨h,h2⟩)
theorem Y0z (n:Nat)(v:List RQ)(hn:n<1000):j3 E 23 [pVR v,vZ n] (bZ (smV n v)):=by
 refine D2 (xs:=[bZ (smV n v)]) Tryz.func23 rfl Tryz.ntmps23 Tryz.results23 sM fun F hG hX0 hnt hdf P0=>?_
 obtain ⟨L,hX,hN⟩:=pro hnt hX0 hG
 refine exr (aV L rfl (zn [(0,_),(1,_)] [] t2 trivial (T1 (exr (mV L rfl (sw (Z2 un40 L) t1 t0 (mV L rfl (sw (F6 L) t2 t0 (zn [(0,_),(9,_)] [] t2 trivial ?_)))))))))
 refine j2 rfl (fun hc=>?_) (fun hc=>?_)
 ·have hc:=dt hc
  refine exr (aV L rfl (zn [(4,_)] [] t1 trivial (V1 ?_)))
  refine Q0 (.tmp rfl) ?_
  rw [smV,decide_eq_false oM,Bool.false_and]
 ·have hc:=df hc
  have hl:v.length≤n:=by omega
  refine U1 (xq ?_)
  refine T1 (exr (aV L rfl (zn [(0,_),(5,_)] [] t2 trivial (X1 ?_))))
  refine exl (α:=Nat) (fun k=>[(5,vi (k:Int))]) (fun k=>[]) (fun k=>k≤v.length∧(v.take k).all (smW 6)=true) (fun k=>v.length - k) (0) (sl:=[(0,_)]) (hb:=[]) ?_ ⟨oR,rfl,trivial⟩ t0 ?_
  ·exact ⟨Nat.zero_le _,rfl⟩
  intro k hk
  obtain ⟨hk,hw⟩:=hk
  refine T1 (exr (mV L rfl (mV L rfl (sw (Z2 un40 L) t1 t0 (sw (Y3 L) t2 t0 (zn [(0,_),(5,_),(13,_)] [] t3 trivial ?_))))))
  refine j2 rfl (fun hc=>?_) (fun hc=>?_)
  ·have hc:=dt hc
   have hk2:k<v.length:=by omega
   have ha:=M1f hk2
   have hd:=N1d hk2
   obtain ⟨r,hr⟩:∃ r,r=v.getD k default:=⟨_,rfl⟩
   rw [← hr] at ha hd
   refine U1 (xq ?_)
   refine T1 (X1 ?_)
   refine exm (sl:=[(33,vb (!smW 6 r))]) (sl0:=[(0,_),(5,_)]) (hb:=[]) (hb0:=[]) t2 t0 ?_ ?_
   ·rcases or3 ((r.ws.length:Int) > 6) ((r.vs.length:Int) > 6) with h1 | ⟨h1,h2⟩ | ⟨h1,h2⟩
    ·refine mV L rfl (mV L rfl (sw (I2 un40 sz47 oM oM sM dC L) t2 t0 ?_))
     refine sw (F0n un47 rfl sz45 dC L) t1 t0 (sw (F0n un45 rfl sz43 dC L) t1 t0 (sw (n4 ag43 ha L) t1 t0 (sw (Z2 un43 L) t1 t0 (sw (F6 L) t2 t0 (mV L rfl (swn (g:=24) rfl (decide_eq_true h1) L rfl (swn (g:=24) rfl (decide_eq_true h1) L rfl (swn (g:=24) rfl (decide_eq_true h1) L rfl (swn (g:=24) rfl (decide_eq_true h1) L rfl (swn (g:=24) rfl (decide_eq_true h1) L rfl (swn (g:=24) rfl (decide_eq_true h1) L rfl ?_)))))))))))
     refine swn (g:=24) rfl (decide_eq_true h1) L rfl (swn (g:=24) rfl (decide_eq_true h1) L rfl (sw (T4 (decide_eq_true h1) L) t2 t0 ?_))
     exact O1 ⟨⟨ob rfl (by rw [smW,decide_eq_false oM] <;> rfl),rfl,rfl,trivial⟩,trivial⟩
    ·refine mV L rfl (mV L rfl (sw (I2 un40 sz47 oM oM sM dC L) t2 t0 ?_))
     refine sw (F0n un47 rfl sz45 dC L) t1 t0 (sw (F0n un45 rfl sz43 dC L) t1 t0 (sw (n4 ag43 ha L) t1 t0 (sw (Z2 un43 L) t1 t0 (sw (F6 L) t2 t0 (mV L rfl (gV (g:=24) rfl (decide_eq_false h1) L rfl rfl (gV (g:=24) rfl (decide_eq_false h1) L rfl rfl (swg (g:=24) rfl (decide_eq_false h1) (I2 un40 sz47 oM oM sM dC L) rfl t2 t0 ?_))))))))
     refine swg (g:=24) rfl (decide_eq_false h1) (F0n un47 rfl sz45 dC L) rfl t1 t0 (swg (g:=24) rfl (decide_eq_false h1) (F0n un45 rfl sz43 dC L) rfl t1 t0 (swg (g:=24) rfl (decide_eq_false h1) (n4 ag43 hd L) rfl t1 t0 (swg (g:=24) rfl (decide_eq_false h1) (Z2 un43 L) rfl t1 t0 (swg (g:=24) rfl (decide_eq_false h1) (F6 L) rfl t2 t0 (sw (l4 (decide_eq_false h1) L) t2 t0 ?_)))))
     exact O1 ⟨⟨ob rfl (by rw [smW,decide_eq_false (show ¬ (r.ws.length≤6∧r.vs.length≤6) by omega),decide_eq_true h2] <;> rfl),rfl,rfl,trivial⟩,trivial⟩
    ·refine mV L rfl (mV L rfl (sw (I2 un40 sz47 oM oM sM dC L) t2 t0 ?_))
     refine sw (F0n un47 rfl sz45 dC L) t1 t0 (sw (F0n un45 rfl sz43 dC L) t1 t0 (sw (n4 ag43 ha L) t1 t0 (sw (Z2 un43 L) t1 t0 (sw (F6 L) t2 t0 (mV L rfl (gV (g:=24) rfl (decide_eq_false h1) L rfl rfl (gV (g:=24) rfl (decide_eq_false h1) L rfl rfl (swg (g:=24) rfl (decide_eq_false h1) (I2 un40 sz47 oM oM sM dC L) rfl t2 t0 ?_))))))))
     refine swg (g:=24) rfl (decide_eq_false h1) (F0n un47 rfl sz45 dC L) rfl t1 t0 (swg (g:=24) rfl (decide_eq_false h1) (F0n un45 rfl sz43 dC L) rfl t1 t0 (swg (g:=24) rfl (decide_eq_false h1) (n4 ag43 hd L) rfl t1 t0 (swg (g:=24) rfl (decide_eq_false h1) (Z2 un43 L) rfl t1 t0 (swg (g:=24) rfl (decide_eq_false h1) (F6 L) rfl t2 t0 (sw (l4 (decide_eq_false h1) L) t2 t0 ?_)))))
     exact O1 ⟨⟨ob rfl (by rw [smW,decide_eq_true (show r.ws.length≤6∧r.vs.length≤6 by omega),decide_eq_false h2] <;> rfl),rfl,rfl,trivial⟩,trivial⟩
   refine j2 rfl (fun he=>?_) (fun he=>?_)
   ·have he:smW 6 r=false:=by simpa using he
    rw [hr] at he
    refine exr (aV L rfl (zn [(4,_)] [] t1 trivial (V1 ?_)))
    refine Q0 (.tmp rfl) ?_
    rw [smV,K0x (gD hk2) he,Bool.and_false]
   ·have he:smW 6 r=true:=by simpa using he
    rw [hr] at he
    refine U1 (xq ?_)
    refine F3 (mV L rfl (sw (G3 L (w64 oM oM)) t2 t0 (aV L rfl (O1 ?_))))
    exact ⟨k+1,⟨by omega,m0s hk2 hw he⟩,by omega,D3 ⟨oR,rfl,trivial⟩ trivial⟩
  ·have hc:=df hc
   refine O2 (xq ?_)
   refine exr (aV L rfl (zn [(4,_)] [] t1 trivial (V1 ?_)))
   refine Q0 (.tmp rfl) ?_
   rw [show k=v.length by omega,I0] at hw; rw [smV,hw,decide_eq_true hl]; rfl
def J8 (n:Nat)(c:Int)(m:List (List RQ)):Bool:=decide (m.length≤n∧(c≤n∨60<c)) && m.all (smV n)
theorem b1r (n:Nat)(c:Int)(m:List (List RQ))(hn:n<1000):j3 E 11 [pMR c m,vZ n] (bZ (J8 n c m)):=by
 refine D2 (xs:=[bZ (J8 n c m)]) Tryz.func11 rfl Tryz.ntmps11 Tryz.results11 sM fun F hG hX0 hnt hdf P0=>?_
 obtain ⟨L,hX,hN⟩:=pro hnt hX0 hG
 refine exr (swb (T3 (k:=2) (n:=2) pa2 rfl rfl (P0 _ rfl) L) t1 t0 ⟨rfl,rfl⟩ (aV L rfl (zn [(1,_),(2,_)] [(2,_)] t2 t1 (T1 ?_))))
 refine exm (sl:=[(21,vb (!decide (m.length≤n∧(c≤n∨60<c))))]) (sl0:=[(1,_),(2,_)]) (hb:=[]) (hb0:=[(2,_)]) t2 t1 ?_ ?_
 ·rcases (by omega:n<m.length∨(m.length≤n∧(n:Int)<c)∨(m.length≤n∧c≤n)) with h | h | h
  ·refine sw (Z1 un24 rfl sz22 dC rX L) t1 t1 ?_
   refine sw (Y1 ag22 rF rF L) t1 t1 ?_
   refine sw (Z2 un22 L) t1 t0 (mV L rfl (sw (F6 L) t2 t0 (mV L rfl (swn (g:=11) rfl sO L rfl (swn (g:=11) rfl sO L rfl (swn (g:=11) rfl sO L rfl (swn (g:=11) rfl sO L rfl (swn (g:=11) rfl sO L rfl (swu (g:=16) rfl L rfl (swu (g:=16) rfl L rfl (swu (g:=16) rfl L rfl ?_)))))))))))
   refine swn (g:=11) rfl sO L rfl (sw (T4 sO L) t2 t0 ?_)
   exact O1 ⟨⟨ob rfl (by rw [decide_eq_false (show ¬ (m.length≤n∧(c≤n∨60<c)) by omega)] <;> rfl),rfl,rfl,trivial⟩,t1⟩
  ·refine sw (Z1 un24 rfl sz22 dC rX L) t1 t1 ?_
   refine sw (Y1 ag22 rF rF L) t1 t1 ?_
   refine sw (Z2 un22 L) t1 t0 (mV L rfl (sw (F6 L) t2 t0 (mV L rfl (swg (g:=11) rfl sO (Z1 un24 rfl sz3 dC rX L) rfl t1 t1 ?_))))
   refine swg (g:=11) rfl sO (Y1 ag3 rF rF L) rfl t1 t1 ?_
   refine gV (g:=11) rfl sO L rfl rfl (swg (g:=11) rfl sO (F6 L) rfl t2 t0 (gV (g:=11) rfl sO L rfl rfl (swg (g:=16) rfl sO (Z1 un24 rfl sz3 dC rX L) rfl t1 t1 ?_)))
   refine swg (g:=16) rfl sO (Y1 ag3 rF rF L) rfl t1 t1 ?_
   refine swg (g:=16) rfl sO (J1j L) rfl t2 t0 (swg (g:=11) rfl sO (T4 sO L) rfl t2 t0 (sw (l4 sO L) t2 t0 ?_))
   exact O1 ⟨⟨ob rfl (by rw [Bool.eq_iff_iff]; simp; omega),rfl,rfl,trivial⟩,t1⟩
  ·refine sw (Z1 un24 rfl sz22 dC rX L) t1 t1 ?_
   refine sw (Y1 ag22 rF rF L) t1 t1 ?_
   refine sw (Z2 un22 L) t1 t0 (mV L rfl (sw (F6 L) t2 t0 (mV L rfl (swg (g:=11) rfl sO (Z1 un24 rfl sz3 dC rX L) rfl t1 t1 ?_))))
   refine swg (g:=11) rfl sO (Y1 ag3 rF rF L) rfl t1 t1 ?_
   refine gV (g:=11) rfl sO L rfl rfl (swg (g:=11) rfl sO (F6 L) rfl t2 t0 (gV (g:=11) rfl sO L rfl rfl (swn (g:=16) rfl sO L rfl (swn (g:=16) rfl sO L rfl (swn (g:=16) rfl sO L rfl (swg (g:=11) rfl sO (l4 sO L) rfl t2 t0 (sw (l4 sO L) t2 t0 ?_)))))))
   exact O1 ⟨⟨ob rfl (by rw [decide_eq_true (show m.length≤n∧(c≤n∨60<c) by omega)] <;> rfl),rfl,rfl,trivial⟩,t1⟩
 refine j2 rfl (fun hc=>?_) (fun hc=>?_)
 ·have hc:decide (m.length≤n∧(c≤n∨60<c))=false:=by simpa only [Bool.not_eq_true'] using hc
  refine exr (aV L rfl (zn [(4,_)] [] t1 trivial (V1 ?_)))
  refine Q0 (.tmp rfl) ?_
  rw [J8,hc,Bool.false_and]
 ·have hd:decide (m.length≤n∧(c≤n∨60<c))=true:=by simpa only [Bool.not_eq_false'] using hc
  have hl:m.length≤n:=(of_decide_eq_true hd).1
  refine U1 (xq ?_)
  refine T1 (exr (aV L rfl (zn [(1,_),(2,_),(5,_)] [(2,_)] t3 t1 (X1 ?_))))
  refine exl (α:=Nat) (fun k=>[(5,vi (k:Int))]) (fun k=>[]) (fun k=>k≤m.length∧(m.take k).all (smV n)=true) (fun k=>m.length - k) (0) (sl:=[(1,_),(2,_)]) (hb:=[(2,_)]) ?_ ⟨oR,rfl,rfl,trivial⟩ t1 ?_
  ·exact ⟨Nat.zero_le _,rfl⟩
  intro k hk
  obtain ⟨hk,hw⟩:=hk
  refine T1 (exr (mV L rfl (sw (Z1 un24 rfl sz22 dC rX L) t1 t1 ?_)))
  refine sw (Y1 ag22 rF rF L) t1 t1 ?_
  refine sw (Z2 un22 L) t1 t0 (sw (Y3 L) t2 t0 (zn [(1,_),(2,_),(5,_),(26,_)] [(2,_)] t4 t1 ?_))
  refine j2 rfl (fun hc=>?_) (fun hc=>?_)
  ·have hc:=dt hc
   have hk2:k<m.length:=by omega
   refine U1 (xq ?_)
   refine T1 (X1 (exr (sw (Z1 un24 rfl sz22 dC rX L) t1 t1 ?_)))
   refine sw (Y1 ag22 rF rF L) t1 t1 ?_
   refine mV L rfl (sw (ixJ un22 sz40 (j:=k) rO oM sM L) t2 t0 ?_)
   refine sw (n4 ag40 (g0c hk2) L) t1 t0 (mV L rfl (cK hG hX cl23 hN (Y0z n (m.getD k []) hn) L t2 (sw (q4 L) t1 t0 (zn [(1,_),(2,_),(5,_),(36,_)] [(2,_)] t4 t1 ?_))))
   refine j2 rfl (fun he=>?_) (fun he=>?_)
   ·have he:smV n (m.getD k [])=false:=by simpa using he
    refine exr (aV L rfl (zn [(4,_)] [] t1 trivial (V1 ?_)))
    refine Q0 (.tmp rfl) ?_
    rw [J8,K0x (gDL hk2) he,Bool.and_false]
   ·have he:smV n (m.getD k [])=true:=by simpa using he
    refine U1 (xq ?_)
    refine F3 (mV L rfl (sw (G3 L (w64 oM oM)) t2 t0 (aV L rfl (O1 ?_))))
    exact ⟨k+1,⟨by omega,m0s hk2 hw he⟩,by omega,D3 ⟨oR,rfl,rfl,trivial⟩ t1⟩
  ·have hc:=df hc
   refine O2 (xq ?_)
   refine exr (aV L rfl (zn [(4,_)] [] t1 trivial (V1 ?_)))
   refine Q0 (.tmp rfl) ?_
   rw [show k=m.length by omega,I0] at hw; rw [J8,hw,hd]; rfl
theorem Q0w (c:Int)(m:List (List RQ))(hm:MSm m):j3 E 32 [pMR c m] (bZ (isM c m && decide ((m.length:Int)=c))):=by
 refine D2 (xs:=[bZ (isM c m && decide ((m.length:Int)=c))]) Tryz.func32 rfl Tryz.ntmps32 Tryz.results32 sM fun F hG hX0 hnt hdf P0=>?_
 obtain ⟨L,hX,hN⟩:=pro hnt hX0 hG
 refine exr (swb (T3 (k:=1) (n:=2) pa2 rfl rfl (P0 _ rfl) L) t1 t0 ⟨rfl,rfl⟩ (aV L rfl (zn [(1,_)] [(1,_)] t1 t1 ?_)))
 refine exm (sl:=[(2,vb (isM c m && decide ((m.length:Int)=c)))]) (sl0:=[]) (hb:=[]) (hb0:=[]) t0 t0 ?_ ?_
 ·by_cases h:isM c m=true
  ·refine lp2 ag24 sz24 L rfl rfl (cK hG hX cl15 hN (j0y c m hm) L t1 (mV L rfl (swg (g:=5) rfl h (Z1 un24 rfl sz22 dC rX L) rfl t1 t1 ?_)))
   refine swg (g:=5) rfl h (Y1 ag22 rF rF L) rfl t1 t1 ?_
   refine swg (g:=5) rfl h (Z2 un22 L) rfl t1 t0 (swg (g:=5) rfl h (Z1 un24 rfl sz3 dC rX L) rfl t1 t1 ?_)
   refine swg (g:=5) rfl h (Y1 ag3 rF rF L) rfl t1 t1 ?_
   refine swg (g:=5) rfl h (c_e L) rfl t2 t0 (sw (T4 h L) t2 t0 (aV L rfl ?_))
   exact O1 ⟨⟨ob rfl (by rw [h,Bool.true_and]),trivial⟩,trivial⟩
  ·refine lp2 ag24 sz24 L rfl rfl (cK hG hX cl15 hN (j0y c m hm) L t1 (mV L rfl (swn (g:=5) rfl (by simpa using h) L rfl ?_)))
   refine swn (g:=5) rfl (by simpa using h) L rfl ?_
   refine swn (g:=5) rfl (by simpa using h) L rfl ?_
   refine swn (g:=5) rfl (by simpa using h) L rfl ?_
   refine swn (g:=5) rfl (by simpa using h) L rfl ?_
   refine swn (g:=5) rfl (by simpa using h) L rfl ?_
   refine sw (l4 (by simpa using h) L) t2 t0 ?_
   refine aV L rfl ?_
   exact O1 ⟨⟨ob rfl (by rw [Bool.eq_false_iff.2 h,Bool.false_and]),trivial⟩,trivial⟩
 refine V1 ?_
 refine Q0 (.tmp rfl) ?_
 rfl
theorem H0d (X:Nat):(2:Nat) ^ X<4294967296 ^ (X / 32+1):=by
 rw [show (4294967296:Nat)=2 ^ 32 from rfl,← Nat.pow_mul]
 exact Nat.pow_lt_pow_right dC oM
theorem p32 (k:Nat):((4294967296 ^ k:Nat):Int)=(4294967296:Int) ^ k:=Int.natCast_pow _ _
theorem G1w {X:Nat}{a:Rat}(h:hsz X a):qw a≤X / 32+1:=by
 have key:∀ z:Int,z.natAbs≤2 ^ X→nw z≤X / 32+1:=fun z hz=>y0n (by
  rw [← p32 (X / 32+1)]
  exact Int.ofNat_lt.2 (Nat.lt_of_le_of_lt hz (H0d X)))
 exact Nat.max_le.2 ⟨key _ h.1,key _ (by simpa using h.2)⟩
theorem G1r {k:Nat}{a:Rat}(h:qw a≤k):hsz (32*k) a:=by
 have key:∀ z:Int,nw z≤k→z.natAbs≤2 ^ (32*k):=fun z hz=>by
  have h1:=G0r (a:=z)
  have h2:(4294967296:Nat) ^ nw z≤4294967296 ^ k:=Nat.pow_le_pow_right dC hz
  rw [show (4294967296:Nat) ^ k=2 ^ (32*k) by rw [Nat.pow_mul]] at h2
  rw [← p32 (nw z)] at h1
  exact Nat.le_of_lt (Nat.lt_of_lt_of_le (Int.ofNat_lt.1 h1) h2)
 exact ⟨key _ (Nat.le_trans (U4 a) h),by simpa using key _ (Nat.le_trans (B5 a) h)⟩
theorem N1z {X:Nat}{m b:List (List Rat)}(h:CDM X m b):MB (X / 32+1) m∧MB (X / 32+1) b:=by
 have key:∀ {m:List (List Rat)},(∀ i j,hsz X (ent m i j))→MB (X / 32+1) m:=fun {m} hm r hr a ha=>by
  obtain ⟨i,hi,rfl⟩:=List.getElem_of_mem hr
  obtain ⟨j,hj,rfl⟩:=List.getElem_of_mem ha
  have:=G1w (hm i j)
  rwa [ent,show m.getD i []=m[i] by simp [f0,hi],show (m[i]).getD j 0=m[i][j] by simp [f0,hj]] at this
 exact ⟨key fun i j=>h.m i j,key fun i j=>h.b i j⟩
theorem w1b {n cc d B:Nat}{m b:List (List Rat)}(h:RC n cc m)(hb:RC n d b)(hB:∀ c,c≤cc→∀ i j,qw (ent (ech m b c).m i j)≤B):∀ c,c≤cc→qw (ech m b c).det≤1+(ech m b c).pv.length*B
 | 0,_=>by show qw 1≤_; rw [y0c]; omega
 | c+1,hc=>by
  have ih:=w1b h hb hB c oM
  rcases w1y h hb (show c<cc by omega) with e | ⟨_,e2,i,_,e | e⟩
  ·have hpv:(ech m b c).pv.length≤(ech m b (c+1)).pv.length:=by
    rw [m8]; unfold L8
    split
    ·split
     ·exact Nat.le_refl _
     ·rw [J0v,K1]; omega
    ·exact Nat.le_refl _
   have:=V0 B hpv
   rw [e]; omega
  ·have h1:=L9 (ech m b c).det (ent (ech m b c).m i c)
   have h2:=hB c oM i c
   rw [e,e2,Nat.add_mul]; omega
  ·have h1:=L9 (-(ech m b c).det) (ent (ech m b c).m i c)
   rw [y0r] at h1
   have h2:=hB c oM i c
   rw [e,e2,Nat.add_mul]; omega
@[reducible] def BB:Nat:=22000000
@[reducible] def DD:Nat:=310000000
theorem y1m {n c d X:Nat}{m b:List (List Rat)}(h:RC n c m)(hb:RC n d b)(hn:n≤14)(hc:c≤70)(hd:d≤70)(hC:CDM X m b)(hX:m0b X n≤700000000):EU n c d BB DD m b:=by
 have hB:∀ k,k≤c→CDM 700000000 (ech m b k).m (ech m b k).b:=fun k hk=>(F1q h hb hC hk (Nat.le_refl n)).mono hX
 have hM:=fun k hk=>N1z (hB k hk)
 refine ⟨h,hb,by omega,by omega,by omega,by decide,by decide,by decide,fun k hk r hr a ha=>Nat.le_trans ((hM k hk).1 r hr a ha) dC,fun k hk r hr a ha=>Nat.le_trans ((hM k hk).2 r hr a ha) dC,fun k hk=>?_⟩
 have h1:=w1b (B:=BB) h hb (fun k hk i j=>Nat.le_trans (G1w ((hB k hk).m i j)) dC) k hk
 have h2:(ech m b k).pv.length≤n:=(V6 h hb k hk).2.2.1.le
 have h3:(ech m b k).pv.length*BB≤14*BB:=V0 _ oM
 exact Nat.le_trans h1 (Nat.le_trans (Nat.add_le_add_left h3 1) dC)
theorem M1x {k n c:Nat}{m b:List (List Rat)}{l:List Rat}(h:RC n c m)(hm:MB k m)(hl:∀ a∈l,qw a≤k)(hb:∀ i j,ent b i j=0∨ent b i j=1∨ent b i j∈l):CDM (32*k*(n*c+l.length)) m b:=by
 have h1:=cdl (b:=32*k) (l:=m.flatten++l) fun a ha=>by
  rcases List.mem_append.1 ha with ha | ha
  ·obtain ⟨r,hr,ha⟩:=List.mem_flatten.1 ha
   exact G1r (hm r hr a ha)
  ·exact G1r (hl a ha)
 rw [K1,n1g h] at h1
 refine H1c h1 (fun i j=>?_) fun i j=>?_
 ·rcases w0r (m:=m) (i:=i) (j:=j) with e | ⟨r,hr,ha⟩
  ·exact .inl e
  ·exact .inr (.inr (List.mem_append_left _ (List.mem_flatten.2 ⟨r,hr,ha⟩)))
 ·rcases hb i j with e | e | e
  ·exact .inl e
  ·exact .inr (.inl e)
  ·exact .inr (.inr (List.mem_append_right _ e))
theorem N0n (n c B DB:Nat)(M:List (List Rat))(h:MOk c M)(hB1:MB B M)(hn:M.length=n)(H:EU n c 0 B DB M (nob n)):j3 E 14 [pMq c M] (.tup [pMr (W0v c (ech M (nob n) c).pv ((ech M (nob n) c).m.take (ech M (nob n) c).pv.length)),vZ 0]):=m0n (K0d n c B DB M h hB1 hn H)
theorem B1d {n i j:Nat}:ent (nob n) i j=0:=by
 rcases w0r (m:=nob n) (i:=i) (j:=j) with e | ⟨r,hr,ha⟩
 ·exact e
 ·rw [W0p.2 r hr |> E0] at ha; cases ha
theorem F1g {b:List Rat}{i j:Nat}:ent (Y4 b) i j=0∨ent (Y4 b) i j=1∨ent (Y4 b) i j∈b:=by
 rcases w0r (m:=Y4 b) (i:=i) (j:=j) with e | ⟨r,hr,ha⟩
 ·exact .inl e
 ·simp only [Y4,G0,List.mem_range] at hr
  obtain ⟨k,hk,rfl⟩:=hr
  rcases List.mem_or_eq_of_mem_set ha with h | h
  ·rcases List.mem_or_eq_of_mem_set h with h | h
   ·exact .inl (List.eq_of_mem_replicate h)
   ·exact .inr (.inr (h ▸ b5 hk))
  ·exact .inr (.inl h)
theorem MOk.rc {c:Nat}{M:List (List Rat)}(h:MOk c M):RC M.length c M:=⟨rfl,h.len⟩
theorem N0a {n c k:Nat}{M:List (List Rat)}(h:RC n c M)(hB:MB k M)(hn:n≤14)(hc:c≤70)(hX:m0b (32*k*(n*c+0)) n≤700000000):EU n c 0 BB DD M (nob n) :=
 y1m h W0p hn hc dC (M1x (l:=[]) h hB sM fun _ _=>.inl B1d) hX
theorem V0v {n c k:Nat}{M:List (List Rat)}{b:List Rat}(h:RC n c M)(hB:MB k M)(hbn:b.length=n)(hb:∀ a∈b,qw a≤k)(hn:n≤14)(hc:c≤70)(hX:m0b (32*k*(n*c+n)) n≤700000000):EU n c (n+1) BB DD M (Y4 b) :=
 y1m h (B1j hbn) hn hc oM (M1x (l:=b) h hB hb fun _ _=>F1g) (by rw [hbn]; exact hX)
theorem H1p {c:Nat}{M:List (List Rat)}:RC c M.length (trM c M):=by
 refine ⟨by simp,fun r hr=>?_⟩
 simp only [trM,G0] at hr
 obtain ⟨j,_,rfl⟩:=hr
 simp
theorem H1d {c B:Nat}{M:List (List Rat)}(hl:∀ r∈M,r.length=c)(h:MB B M):MB B (trM c M):=by
 intro r hr a ha
 simp only [trM,G0,List.mem_range] at hr
 obtain ⟨j,hj,rfl⟩:=hr
 exact F1n h hj hl a ha
theorem MB.mono {B C:Nat}{M:List (List Rat)}(h:MB B M)(hBC:B≤C):MB C M:=fun r hr a ha=>Nat.le_trans (h r hr a ha) hBC
def mI (L:List (List Int)):List (List Rat):=L.map iV
def sI (l:List Int):Bool:=l.all fun z=>decide (-1000≤z∧z<1000)
theorem H1g {z:Int}(h : -1000≤z∧z<1000):qw (z:Rat)≤1:=by
 unfold qw
 rw [Rat.num_intCast,Rat.den_intCast]
 exact Nat.max_le.2 ⟨y0n oM,by rw [show ((1:Nat):Int)=1 from rfl,k0v]; exact Nat.le_refl _⟩
theorem k0g {l:List Int}(h:sI l=true):∀ a∈iV l,qw a≤1:=fun a ha=>by
 obtain ⟨z,hz,rfl⟩:=G0.1 ha
 exact H1g (by simpa using s0.1 h z hz)
theorem Z8 {L:List (List Int)}(h:L.all sI=true):MB 1 (mI L):=fun r hr=>by
 obtain ⟨l,hl,rfl⟩:=G0.1 hr
 exact k0g (s0.1 h l hl)
theorem m0g {c:Nat}{L:List (List Int)}(h:(L.all fun l=>decide (l.length=c))=true):∀ r∈mI L,r.length=c:=fun r hr=>by
 obtain ⟨l,hl,rfl⟩:=G0.1 hr
 rw [j0n]; simpa using s0.1 h l hl
theorem v0n {c:Nat}{L:List (List Int)}(h1:L.length≤400)(hc:c≤60)(h:(L.all fun l=>decide (l.length=c))=true):MOk c (mI L):=⟨by simpa [mI] using h1,hc,m0g h⟩
theorem d1w {B:Nat}{M:List (List Rat)}(hl:M.length<1000000000)(hr:∀ r∈M,r.length<1000000000)(hB:MB B M)(hb:B<1000000000):MSm (M.map (List.map RQ.of)) :=
 ⟨by simpa using hl,fun r hr2=>by
  obtain ⟨v,hv,rfl⟩:=G0.1 hr2
  exact ⟨by simpa using hr v hv,W0g (hB v hv) hb⟩⟩
theorem v1y {B:Nat}{u:List Rat}(hl:u.length<1000000000)(hB:∀ a∈u,qw a≤B)(hb:B<1000000000):j3 E 29 [pV u,pV u] (bZ true):=by
 have:=v0m (u.map RQ.of) (u.map RQ.of) (by simpa using hl) (W0g hB hb) (W0g hB hb)
 rwa [decide_eq_true rfl,M0w] at this
theorem j1j {B:Nat}{M:List (List Rat)}(hl:M.length<1000000000)(hr:∀ r∈M,r.length<1000000000)(hB:MB B M)(hb:B<1000000000):j3 E 19 [pMr M,pMr M] (bZ true):=by
 have:=w0a _ _ (d1w hl hr hB hb) (d1w hl hr hB hb)
 rwa [decide_eq_true rfl,g0s,O0] at this
theorem n1n {B:Nat}{c:Int}{M:List (List Rat)}(hl:M.length<1000000000)(hr:∀ r∈M,r.length<1000000000)(hB:MB B M)(hb:B<1000000000):j3 E 17 [pMq c M,pMq c M] (bZ true):=by
 have:=P0q c c _ _ (d1w hl hr hB hb) (d1w hl hr hB hb)
 rwa [decide_eq_true ⟨rfl,rfl⟩,pMR,g0s,O0] at this
theorem H1h:j3 E 13 [pMq 3 (mI [[0,2,4],[1,1,1],[1,2,3]])] (.tup [pMq 3 (mI [[1,0,-1],[0,1,2]]),pIs [0,1],vZ 0]):=by
 have h:=n0j 3 3 BB DD (mI [[0,2,4],[1,1,1],[1,2,3]]) (v0n dC dC dC) ((Z8 dC).mono dC) rfl (N0a ⟨rfl,m0g dC⟩ (Z8 dC) dC dC dC)
 have e1:(ech (mI [[0,2,4],[1,1,1],[1,2,3]]) (nob 3) 3).pv=[0,1]:=by decide +kernel
 have e2:(ech (mI [[0,2,4],[1,1,1],[1,2,3]]) (nob 3) 3).m.take 2=mI [[1,0,-1],[0,1,2]]:=by decide +kernel
 rw [e1,show [0,1].length=2 from rfl,e2] at h
 exact h
theorem K1c:j3 E 14 [pMq 3 (mI [[0,2,4],[1,1,1],[1,2,3]])] (.tup [pMr (mI [[1,-2,1]]),vZ 0]):=by
 have h:=N0n 3 3 BB DD (mI [[0,2,4],[1,1,1],[1,2,3]]) (v0n dC dC dC) ((Z8 dC).mono dC) rfl (N0a ⟨rfl,m0g dC⟩ (Z8 dC) dC dC dC)
 have e2:W0v 3 (ech (mI [[0,2,4],[1,1,1],[1,2,3]]) (nob 3) 3).pv ((ech (mI [[0,2,4],[1,1,1],[1,2,3]]) (nob 3) 3).m.take (ech (mI [[0,2,4],[1,1,1],[1,2,3]]) (nob 3) 3).pv.length)=mI [[1,-2,1]]:=by decide +kernel
 rw [e2] at h
 exact h
theorem H1v:j3 E 24 [pMq 2 (mI [[1,1],[1,-1]]),pV (iV [3,1])] (.tup [pV (iV [2,1]),pV [],vZ 0]):=by
 have h:=k0x 2 2 BB DD (mI [[1,1],[1,-1]]) (iV [3,1]) (v0n dC dC dC) ((Z8 dC).mono dC) (fun a ha=>Nat.le_trans (k0g dC a ha) dC) rfl rfl (V0v ⟨rfl,m0g dC⟩ (Z8 dC) rfl (k0g dC) dC dC dC)
 have e1:K0j 2 (ech (mI [[1,1],[1,-1]]) (Y4 (iV [3,1])) 2) 2=iV [2,1]:=by decide +kernel
 have e2:N0x (ech (mI [[1,1],[1,-1]]) (Y4 (iV [3,1])) 2) 2=[]:=by decide +kernel
 have e3:F0v (ech (mI [[1,1],[1,-1]]) (Y4 (iV [3,1])) 2) 2=0:=by decide +kernel
 rw [e1,e2,e3] at h
 exact h
theorem H1x:∃ x y,j3 E 24 [pMq 2 (mI [[1,1],[2,2]]),pV (iV [1,3])] (.tup [pV x,pV y,vZ 4]):=by
 have h:=k0x 2 2 BB DD (mI [[1,1],[2,2]]) (iV [1,3]) (v0n dC dC dC) ((Z8 dC).mono dC) (fun a ha=>Nat.le_trans (k0g dC a ha) dC) rfl rfl (V0v ⟨rfl,m0g dC⟩ (Z8 dC) rfl (k0g dC) dC dC dC)
 have e3:F0v (ech (mI [[1,1],[2,2]]) (Y4 (iV [1,3])) 2) 2=4:=by decide +kernel
 rw [e3] at h
 exact ⟨_,_,h⟩
theorem w1a (l:List Int)(v:Bool)(hl:l.length=2)(hs:sI l=true)(h:m1n 2 (mI [[1,1],[2,2]]) (iV [1,3]) (iV l)=v):j3 E 25 [pMq 2 (mI [[1,1],[2,2]]),pV (iV [1,3]),pV (iV l)] (bZ v):=by
 have:=Y0p 2 1 (mI [[1,1],[2,2]]) (iV [1,3]) (iV l) (v0n dC dC dC) (Z8 dC) (k0g dC) (k0g hs) rfl (by rw [j0n,hl]; rfl) dC dC dC
 rwa [h] at this
theorem K1r:j3 E 41 [pMq 2 (mI [[1,2],[3,4]]),pMq 2 (mI [[0,1],[1,0]])] (.tup [pMq 2 (mI [[2,1],[4,3]]),vZ 0]):=by
 have h:=h1w 2 2 1 (mI [[1,2],[3,4]]) (mI [[0,1],[1,0]]) (v0n dC dC dC) (v0n dC dC dC) (Z8 dC) (Z8 dC) dC rfl
 have e:M0m 2 (mI [[1,2],[3,4]]) (mI [[0,1],[1,0]])=mI [[2,1],[4,3]]:=by decide +kernel
 rw [e] at h
 exact h
theorem K1w:j3 E 31 [pMq 2 (mI [[2,1],[4,3]])] (.tup [pQ ((2:Int):Rat),vZ 0]):=by
 have h:=P0c 2 BB DD (mI [[2,1],[4,3]]) (v0n dC dC dC) ((Z8 dC).mono dC) rfl (N0a ⟨rfl,m0g dC⟩ (Z8 dC) dC dC dC)
 have e:B0n 2 (mI [[2,1],[4,3]]) (nob 2)=((2:Int):Rat):=by decide +kernel
 rw [e] at h
 exact h
theorem K1k:∃ y,j3 E 30 [pMl (mI [[1,0,1],[2,0,2],[0,1,1]]),pV (iV [3,1,4])] (.tup [pV (iV [3,0,1]),pV y,vZ 0]):=by
 have hl:∀ r∈mI [[1,0,1],[2,0,2],[0,1,1]],r.length=3:=m0g dC
 have h:=J0z BB DD (mI [[1,0,1],[2,0,2],[0,1,1]]) (iV [3,1,4]) hl dC dC ((Z8 dC).mono dC) (fun a ha=>Nat.le_trans (k0g dC a ha) dC) (V0v H1p (H1d hl (Z8 dC)) rfl (k0g dC) dC dC dC)
 have e1:K0j 3 (ech (trM 3 (mI [[1,0,1],[2,0,2],[0,1,1]])) (Y4 (iV [3,1,4])) 3) 3=iV [3,0,1]:=by decide +kernel
 have e3:F0v (ech (trM 3 (mI [[1,0,1],[2,0,2],[0,1,1]])) (Y4 (iV [3,1,4])) 3) 3=0:=by decide +kernel
 rw [show (mI [[1,0,1],[2,0,2],[0,1,1]]).length=3 from rfl,show (iV [3,1,4]).length=3 from rfl,e1,e3] at h
 exact ⟨_,h⟩
theorem vI (l:List Int)(h:sI l=true)(hl:l.length<1000):j3 E 48 [pJ l] (pV (iV l)):=n1x l hl fun z hz=>by simpa using s0.1 h z hz
theorem mtI (c:Int)(L:List (List Int)):j3 E 47 [vZ c,pMr (mI L)] (pMq c (mI L)):=q1n c (mI L)
theorem d1n (c:Int)(L:List (List Int))(h1:L.length<1000)(h:(L.all fun l=>decide (l.length<1000))=true)(hb:L.all sI=true):j3 E 17 [pMq c (mI L),pMq c (mI L)] (bZ true) :=
 n1n (B:=1) (by simp [mI]; omega) (fun r hr=>by
  obtain ⟨l,hl,rfl⟩:=G0.1 hr
  have:=s0.1 h l hl
  rw [j0n]; simp at this; omega) (Z8 hb) dC
theorem F1b (L:List (List Int))(h1:L.length<1000)(h:(L.all fun l=>decide (l.length<1000))=true)(hb:L.all sI=true):j3 E 19 [pMr (mI L),pMr (mI L)] (bZ true) :=
 j1j (B:=1) (by simp [mI]; omega) (fun r hr=>by
  obtain ⟨l,hl,rfl⟩:=G0.1 hr
  have:=s0.1 h l hl
  rw [j0n]; simp at this; omega) (Z8 hb) dC
theorem f1b (l:List Int)(h:sI l=true)(hl:l.length<1000):j3 E 29 [pV (iV l),pV (iV l)] (bZ true):=v1y (B:=1) sO (k0g h) dC
theorem j0b  : j3 E 12 [] (bZ true):=by
 refine D2 (xs:=[bZ true]) Tryz.func12 rfl Tryz.ntmps12 Tryz.results12 sM fun F hG hX0 hnt hdf P0=>?_
 obtain ⟨L,hX,hN⟩:=pro hnt hX0 hG
 obtain ⟨nx,ny,hnon⟩:=H1x
 obtain ⟨cy,hcom⟩:=K1k
 have hc1:=w1a [-2,1] true rfl dC (by decide +kernel)
 have hc2:=w1a [2,-1] false rfl dC (by decide +kernel)
 refine exr (aV L rfl (zn [] [] trivial trivial (exr (sw (I4 (vs:=[_,_,_]) un27 ti3 rfl rfl dC dC rfl (P2 (.cons rfl .nil) rfl) rfl (.cons rfl (.atom rfl) rfl pu1 (.cons rfl (.atom rfl) rfl (.skip pu1) (.cons rfl (.atom rfl) rfl (.skip (.skip pu1)) .nil))) (.cons (.cons (.cons .nil))) L) t3 t0 (cK hG hX cl48 hN (vI [0,2,4] dC dC) L t1 (sw (I4 (vs:=[_,_,_]) un27 ti3 rfl rfl dC dC rfl (P2 (.cons rfl .nil) rfl) rfl (.cons rfl (.atom rfl) rfl pu1 (.cons rfl (.atom rfl) rfl (.skip pu1) (.cons rfl (.atom rfl) rfl (.skip (.skip pu1)) .nil))) (.cons (.cons (.cons .nil))) L) t3 t0 (cK hG hX cl48 hN (vI [1,1,1] dC dC) L t1 (sw (I4 (vs:=[_,_,_]) un27 ti3 rfl rfl dC dC rfl (P2 (.cons rfl .nil) rfl) rfl (.cons rfl (.atom rfl) rfl pu1 (.cons rfl (.atom rfl) rfl (.skip pu1) (.cons rfl (.atom rfl) rfl (.skip (.skip pu1)) .nil))) (.cons (.cons (.cons .nil))) L) t3 t0 (cK hG hX cl48 hN (vI [1,2,3] dC dC) L t1 (sw (I4 (vs:=[_,_,_]) un22 ti40 rfl rfl dC dC rfl (P2 (.cons rfl .nil) rfl) rfl (.cons rfl .sl rfl pu1 (.cons rfl .sl rfl (.skip pu1) (.cons rfl .sl rfl (.skip (.skip pu1)) .nil))) (.cons (.cons (.cons .nil))) L) t3 t0 (cK hG hX cl47 hN (mtI 3 [[0,2,4],[1,1,1],[1,2,3]]) L t2 ?_)))))))))))
 refine swb (L3 (k:=1) (n:=2) zv24 (.cons rfl (.cons rfl .nil)) rfl (P0 _ rfl) L) t0 t0 ⟨rfl,rfl⟩ (sb (R2 sz24 rF pa2 rfl pu2) t2 t1 ?_)
 refine zn [(1,_)] [(1,_)] t1 t1 (exr (lp2 ag24 sz24 L rfl rfl (cK hG hX cl13 hN H1h L t1 (mV L rfl (sw (V3 rfl L) t1 t0 (sw (V3 rfl L) t1 t0 (sw (V3 rfl L) t1 t0 (swb (L3 (k:=2) (n:=2) zv24 (.cons rfl (.cons rfl .nil)) rfl (P0 _ rfl) L) t0 t0 ⟨rfl,rfl⟩ (sb (R2 sz24 rF pa2 rfl pu2) t2 t1 ?_)))))))))
 refine aV L rfl (aV L rfl (zn [(1,_),(2,_),(3,_),(4,_)] [(1,_),(2,_)] t4 t2 (T1 (exd rF ?_))))
 refine mV L rfl (sw (c_n L) t2 t0 (mV L rfl (swg (g:=30) rfl rfl (q6 ag24 sz24 rF (by exact al2) rfl L) rfl t1 t1 ?_)))
 refine swg (g:=30) rfl rfl (I4 (vs:=[_,_,_]) un27 ti3 rfl rfl dC dC rfl (P2 (.cons rfl .nil) rfl) rfl (.cons rfl (.atom rfl) rfl pu1 (.cons rfl (.atom rfl) rfl (.skip pu1) (.cons rfl (.atom rfl) rfl (.skip (.skip pu1)) .nil))) (.cons (.cons (.cons .nil))) L) rfl t3 t0 (swg (g:=30) rfl rfl (c_c hG hX cl48 rfl hN (vI [1,0,-1] dC dC) L) rfl t1 t0 (swg (g:=30) rfl rfl (I4 (vs:=[_,_,_]) un27 ti3 rfl rfl dC dC rfl (P2 (.cons rfl .nil) rfl) rfl (.cons rfl (.atom rfl) rfl pu1 (.cons rfl (.atom rfl) rfl (.skip pu1) (.cons rfl (.atom rfl) rfl (.skip (.skip pu1)) .nil))) (.cons (.cons (.cons .nil))) L) rfl t3 t0 (swg (g:=30) rfl rfl (c_c hG hX cl48 rfl hN (vI [0,1,2] dC dC) L) rfl t1 t0 (swg (g:=30) rfl rfl (I4 (vs:=[_,_]) un22 ti40 rfl rfl dC dC rfl (P2 (.cons rfl .nil) rfl) rfl (.cons rfl .sl rfl pu1 (.cons rfl .sl rfl (.skip pu1) .nil)) (.cons (.cons .nil)) L) rfl t2 t0 (swg (g:=30) rfl rfl (c_c hG hX cl47 rfl hN (mtI 3 [[1,0,-1],[0,1,2]]) L) rfl t2 t0 (swg (g:=30) rfl rfl (c_c hG hX cl17 rfl hN (d1n 3 [[1,0,-1],[0,1,2]] dC dC dC) L) rfl t2 t0 (swg (g:=30) rfl rfl (q4 L) rfl t1 t0 (sw (l4 rfl L) t2 t0 (mV L rfl (gV (g:=41) rfl rfl L rfl rfl (swg (g:=41) rfl rfl (Z2 un27 L) rfl t1 t0 ?_)))))))))))
 refine swg (g:=41) rfl rfl (c_n L) rfl t2 t0 (sw (l4 rfl L) t2 t0 (mV L rfl (gV (g:=46) rfl rfl L rfl rfl (swg (g:=46) rfl rfl (ixJ un27 sz3 (j:=0) rO dC sM L) rfl t2 t0 ?_))))
 refine swg (g:=46) rfl rfl (n4 ag3 (F1z (l:=[0,1]) (k:=0) dC) L) rfl t1 t0 (swg (g:=46) rfl rfl (c_n L) rfl t2 t0 (sw (l4 rfl L) t2 t0 (mV L rfl (gV (g:=52) rfl rfl L rfl rfl (swg (g:=52) rfl rfl (ixJ un27 sz3 (j:=1) rO dC sM L) rfl t2 t0 ?_)))))
 refine swg (g:=52) rfl rfl (n4 ag3 (F1z (l:=[0,1]) (k:=1) dC) L) rfl t1 t0 (swg (g:=52) rfl rfl (c_n L) rfl t2 t0 (sw (l4 rfl L) t2 t0 ?_))
 refine O1 ⟨q5 [⟨[4],[],[28],[]⟩,⟨[28],[],[29],[]⟩,⟨[29],[],[30],[]⟩,⟨[30,2],[2],[31],[]⟩,⟨[30],[],[32],[]⟩,⟨[30,32],[],[33],[]⟩,⟨[30],[],[34],[]⟩,⟨[30,34],[],[35],[]⟩,⟨[30,33,35],[],[36],[]⟩,⟨[30,36],[],[37],[]⟩,⟨[30,31,37],[],[38],[]⟩,⟨[30,38],[],[39],[]⟩,⟨[30,39],[],[40],[]⟩,⟨[40],[],[41],[]⟩,⟨[41,3],[],[42],[]⟩,⟨[41,42],[],[43],[]⟩,⟨[41,43],[],[44],[]⟩,⟨[41,44],[],[45],[]⟩,⟨[45],[],[46],[]⟩,⟨[46,3],[],[47],[]⟩,⟨[46,47],[],[48],[]⟩,⟨[46,48],[],[49],[]⟩,⟨[46,49],[],[50],[]⟩,⟨[46,50],[],[51],[]⟩,⟨[51],[],[52],[]⟩,⟨[52,3],[],[53],[]⟩,⟨[52,53],[],[54],[]⟩,⟨[52,54],[],[55],[]⟩,⟨[52,55],[],[56],[]⟩,⟨[52,56],[],[57],[]⟩] rF rF dC,[(1,_),(57,_)],[(1,_)],t2,t1,?_⟩
 refine U3 rfl rfl ?_
 refine U1 (xq ?_)
 refine exr (lp2 ag24 sz24 L rfl rfl (cK hG hX cl14 hN K1c L t1 (mV L rfl (sw (V3 rfl L) t1 t0 (sw (V3 rfl L) t1 t0 (aV L rfl (aV L rfl (zn [(4,_),(5,_)] [] t2 trivial (T1 (exr (mV L rfl ?_)))))))))))
 refine sw (c_n L) t2 t0 (mV L rfl (gV (g:=65) rfl rfl L rfl rfl (swg (g:=65) rfl rfl (I4 (vs:=[_,_,_]) un27 ti3 rfl rfl dC dC rfl (P2 (.cons rfl .nil) rfl) rfl (.cons rfl (.atom rfl) rfl pu1 (.cons rfl (.atom rfl) rfl (.skip pu1) (.cons rfl (.atom rfl) rfl (.skip (.skip pu1)) .nil))) (.cons (.cons (.cons .nil))) L) rfl t3 t0 (swg (g:=65) rfl rfl (c_c hG hX cl48 rfl hN (vI [1,-2,1] dC dC) L) rfl t1 t0 (swg (g:=65) rfl rfl (I4 (vs:=[_]) un22 ti40 rfl rfl dC dC rfl (P2 (.cons rfl .nil) rfl) rfl (.cons rfl .sl rfl pu1 .nil) (.cons .nil) L) rfl t1 t0 (swg (g:=65) rfl rfl (c_c hG hX cl19 rfl hN (F1b [[1,-2,1]] dC dC dC) L) rfl t2 t0 (swg (g:=65) rfl rfl (q4 L) rfl t1 t0 (sw (l4 rfl L) t2 t0 (zn [(72,_)] [] t1 trivial (U3 rfl rfl ?_))))))))))
 refine U1 (xq ?_)
 refine exr (sw (I4 (vs:=[_,_]) un27 ti3 rfl rfl dC dC rfl (P2 (.cons rfl .nil) rfl) rfl (.cons rfl (.atom rfl) rfl pu1 (.cons rfl (.atom rfl) rfl (.skip pu1) .nil)) (.cons (.cons .nil)) L) t2 t0 (cK hG hX cl48 hN (vI [1,1] dC dC) L t1 (sw (I4 (vs:=[_,_]) un27 ti3 rfl rfl dC dC rfl (P2 (.cons rfl .nil) rfl) rfl (.cons rfl (.atom rfl) rfl pu1 (.cons rfl (.atom rfl) rfl (.skip pu1) .nil)) (.cons (.cons .nil)) L) t2 t0 (cK hG hX cl48 hN (vI [1,-1] dC dC) L t1 (sw (I4 (vs:=[_,_]) un22 ti40 rfl rfl dC dC rfl (P2 (.cons rfl .nil) rfl) rfl (.cons rfl .sl rfl pu1 (.cons rfl .sl rfl (.skip pu1) .nil)) (.cons (.cons .nil)) L) t2 t0 (cK hG hX cl47 hN (mtI 2 [[1,1],[1,-1]]) L t2 (sw (I4 (vs:=[_,_]) un27 ti3 rfl rfl dC dC rfl (P2 (.cons rfl .nil) rfl) rfl (.cons rfl (.atom rfl) rfl pu1 (.cons rfl (.atom rfl) rfl (.skip pu1) .nil)) (.cons (.cons .nil)) L) t2 t0 (cK hG hX cl48 hN (vI [3,1] dC dC) L t1 (cK hG hX cl24 hN H1v L t2 (mV L rfl (sw (V3 rfl L) t1 t0 ?_)))))))))))
 refine sw (V3 rfl L) t1 t0 (sw (V3 rfl L) t1 t0 (aV L rfl (aV L rfl (aV L rfl (zn [(4,_),(6,_)] [] t2 trivial (T1 (exr (mV L rfl (sw (c_n L) t2 t0 (mV L rfl (gV (g:=88) rfl rfl L rfl rfl ?_)))))))))))
 refine swg (g:=88) rfl rfl (I4 (vs:=[_,_]) un27 ti3 rfl rfl dC dC rfl (P2 (.cons rfl .nil) rfl) rfl (.cons rfl (.atom rfl) rfl pu1 (.cons rfl (.atom rfl) rfl (.skip pu1) .nil)) (.cons (.cons .nil)) L) rfl t2 t0 (swg (g:=88) rfl rfl (c_c hG hX cl48 rfl hN (vI [2,1] dC dC) L) rfl t1 t0 (swg (g:=88) rfl rfl (c_c hG hX cl29 rfl hN (f1b [2,1] dC dC) L) rfl t2 t0 (swg (g:=88) rfl rfl (q4 L) rfl t1 t0 (sw (l4 rfl L) t2 t0 (zn [(94,_)] [] t1 trivial (U3 rfl rfl ?_))))))
 refine U1 (xq ?_)
 refine exr (sw (I4 (vs:=[_,_]) un27 ti3 rfl rfl dC dC rfl (P2 (.cons rfl .nil) rfl) rfl (.cons rfl (.atom rfl) rfl pu1 (.cons rfl (.atom rfl) rfl (.skip pu1) .nil)) (.cons (.cons .nil)) L) t2 t0 (cK hG hX cl48 hN (vI [1,1] dC dC) L t1 (sw (I4 (vs:=[_,_]) un27 ti3 rfl rfl dC dC rfl (P2 (.cons rfl .nil) rfl) rfl (.cons rfl (.atom rfl) rfl pu1 (.cons rfl (.atom rfl) rfl (.skip pu1) .nil)) (.cons (.cons .nil)) L) t2 t0 (cK hG hX cl48 hN (vI [2,2] dC dC) L t1 (sw (I4 (vs:=[_,_]) un22 ti40 rfl rfl dC dC rfl (P2 (.cons rfl .nil) rfl) rfl (.cons rfl .sl rfl pu1 (.cons rfl .sl rfl (.skip pu1) .nil)) (.cons (.cons .nil)) L) t2 t0 (cK hG hX cl47 hN (mtI 2 [[1,1],[2,2]]) L t2 (swb (L3 (k:=8) (n:=2) zv24 (.cons rfl (.cons rfl .nil)) rfl (P0 _ rfl) L) t0 t0 ⟨rfl,rfl⟩ (sb (R2 sz24 rF pa2 rfl pu2) t2 t1 ?_))))))))
 refine zn [(8,_)] [(8,_)] t1 t1 (exd rF ?_)
 refine lp2 ag24 sz24 L rfl rfl (sw (I4 (vs:=[_,_]) un27 ti3 rfl rfl dC dC rfl (P2 (.cons rfl .nil) rfl) rfl (.cons rfl (.atom rfl) rfl pu1 (.cons rfl (.atom rfl) rfl (.skip pu1) .nil)) (.cons (.cons .nil)) L) t2 t0 (cK hG hX cl48 hN (vI [1,3] dC dC) L t1 (cK hG hX cl24 hN hnon L t2 (mV L rfl (sw (V3 rfl L) t1 t0 (sw (V3 rfl L) t1 t0 (sw (V3 rfl L) t1 t0 (aV L rfl ?_))))))))
 refine O1 ⟨q5 [⟨[8],[8],[102],[]⟩,⟨[],[],[103],[]⟩,⟨[103],[],[104],[]⟩,⟨[102,104],[],[105],[]⟩,⟨[105],[],[101],[]⟩,⟨[101],[],[106],[]⟩,⟨[101],[],[107],[]⟩,⟨[101],[],[108],[]⟩,⟨[108],[],[4],[]⟩] rF rF dC,[(4,_),(8,_)],[(8,_)],t2,t1,?_⟩
 refine T1 (exd rF ?_)
 refine mV L rfl (sw (c_n L) t2 t0 (mV L rfl (swg (g:=111) rfl rfl (q6 ag24 sz24 rF (by exact al2) rfl L) rfl t1 t1 ?_)))
 refine swg (g:=111) rfl rfl (I4 (vs:=[_,_]) un27 ti3 rfl rfl dC dC rfl (P2 (.cons rfl .nil) rfl) rfl (.cons rfl (.atom rfl) rfl pu1 (.cons rfl (.atom rfl) rfl (.skip pu1) .nil)) (.cons (.cons .nil)) L) rfl t2 t0 (swg (g:=111) rfl rfl (c_c hG hX cl48 rfl hN (vI [1,3] dC dC) L) rfl t1 t0 (swg (g:=111) rfl rfl (I4 (vs:=[_,_]) un27 ti3 rfl rfl dC dC rfl (P2 (.cons rfl .nil) rfl) rfl (.cons rfl (.atom rfl) rfl pu1 (.cons rfl (.atom rfl) rfl (.skip pu1) .nil)) (.cons (.cons .nil)) L) rfl t2 t0 (swg (g:=111) rfl rfl (c_c hG hX cl48 rfl hN (vI [-2,1] dC dC) L) rfl t1 t0 (swg (g:=111) rfl rfl (c_c hG hX cl25 rfl hN hc1 L) rfl t3 t0 (swg (g:=111) rfl rfl (q4 L) rfl t1 t0 (sw (l4 rfl L) t2 t0 (mV L rfl (swg (g:=120) rfl rfl (q6 ag24 sz24 rF (by exact al2) rfl L) rfl t1 t1 ?_))))))))
 refine swg (g:=120) rfl rfl (I4 (vs:=[_,_]) un27 ti3 rfl rfl dC dC rfl (P2 (.cons rfl .nil) rfl) rfl (.cons rfl (.atom rfl) rfl pu1 (.cons rfl (.atom rfl) rfl (.skip pu1) .nil)) (.cons (.cons .nil)) L) rfl t2 t0 (swg (g:=120) rfl rfl (c_c hG hX cl48 rfl hN (vI [1,3] dC dC) L) rfl t1 t0 (swg (g:=120) rfl rfl (I4 (vs:=[_,_]) un27 ti3 rfl rfl dC dC rfl (P2 (.cons rfl .nil) rfl) rfl (.cons rfl (.atom rfl) rfl pu1 (.cons rfl (.atom rfl) rfl (.skip pu1) .nil)) (.cons (.cons .nil)) L) rfl t2 t0 (swg (g:=120) rfl rfl (c_c hG hX cl48 rfl hN (vI [2,-1] dC dC) L) rfl t1 t0 (swg (g:=120) rfl rfl (c_c hG hX cl25 rfl hN hc2 L) rfl t3 t0 (sw (l4 rfl L) t2 t0 ?_)))))
 refine O1 ⟨q5 [⟨[4],[],[109],[]⟩,⟨[109],[],[110],[]⟩,⟨[110],[],[111],[]⟩,⟨[111,8],[8],[112],[]⟩,⟨[111],[],[113],[]⟩,⟨[111,113],[],[114],[]⟩,⟨[111],[],[115],[]⟩,⟨[111,115],[],[116],[]⟩,⟨[111,112,114,116],[],[117],[]⟩,⟨[111,117],[],[118],[]⟩,⟨[111,118],[],[119],[]⟩,⟨[119],[],[120],[]⟩,⟨[120,8],[8],[121],[]⟩,⟨[120],[],[122],[]⟩,⟨[120,122],[],[123],[]⟩,⟨[120],[],[124],[]⟩,⟨[120,124],[],[125],[]⟩,⟨[120,121,123,125],[],[126],[]⟩,⟨[120,126],[],[127],[]⟩] rF rF dC,[(127,_)],[],t1,trivial,?_⟩
 refine U3 rfl rfl ?_
 refine U1 (xq ?_)
 refine exr (sw (I4 (vs:=[_,_]) un27 ti3 rfl rfl dC dC rfl (P2 (.cons rfl .nil) rfl) rfl (.cons rfl (.atom rfl) rfl pu1 (.cons rfl (.atom rfl) rfl (.skip pu1) .nil)) (.cons (.cons .nil)) L) t2 t0 (cK hG hX cl48 hN (vI [1,2] dC dC) L t1 (sw (I4 (vs:=[_,_]) un27 ti3 rfl rfl dC dC rfl (P2 (.cons rfl .nil) rfl) rfl (.cons rfl (.atom rfl) rfl pu1 (.cons rfl (.atom rfl) rfl (.skip pu1) .nil)) (.cons (.cons .nil)) L) t2 t0 (cK hG hX cl48 hN (vI [3,4] dC dC) L t1 (sw (I4 (vs:=[_,_]) un22 ti40 rfl rfl dC dC rfl (P2 (.cons rfl .nil) rfl) rfl (.cons rfl .sl rfl pu1 (.cons rfl .sl rfl (.skip pu1) .nil)) (.cons (.cons .nil)) L) t2 t0 (cK hG hX cl47 hN (mtI 2 [[1,2],[3,4]]) L t2 (sw (I4 (vs:=[_,_]) un27 ti3 rfl rfl dC dC rfl (P2 (.cons rfl .nil) rfl) rfl (.cons rfl (.atom rfl) rfl pu1 (.cons rfl (.atom rfl) rfl (.skip pu1) .nil)) (.cons (.cons .nil)) L) t2 t0 (cK hG hX cl48 hN (vI [0,1] dC dC) L t1 (sw (I4 (vs:=[_,_]) un27 ti3 rfl rfl dC dC rfl (P2 (.cons rfl .nil) rfl) rfl (.cons rfl (.atom rfl) rfl pu1 (.cons rfl (.atom rfl) rfl (.skip pu1) .nil)) (.cons (.cons .nil)) L) t2 t0 (cK hG hX cl48 hN (vI [1,0] dC dC) L t1 (sw (I4 (vs:=[_,_]) un22 ti40 rfl rfl dC dC rfl (P2 (.cons rfl .nil) rfl) rfl (.cons rfl .sl rfl pu1 (.cons rfl .sl rfl (.skip pu1) .nil)) (.cons (.cons .nil)) L) t2 t0 ?_)))))))))))
 refine cK hG hX cl47 hN (mtI 2 [[0,1],[1,0]]) L t2 (cK hG hX cl41 hN K1r L t2 (mV L rfl (sw (V3 rfl L) t1 t0 (sw (V3 rfl L) t1 t0 (swb (L3 (k:=9) (n:=2) zv24 (.cons rfl (.cons rfl .nil)) rfl (P0 _ rfl) L) t0 t0 ⟨rfl,rfl⟩ (sb (R2 sz24 rF pa2 rfl pu2) t2 t1 ?_))))))
 refine aV L rfl (zn [(4,_),(9,_)] [(9,_)] t2 t1 (T1 (exd rF ?_)))
 refine mV L rfl (sw (c_n L) t2 t0 (mV L rfl (swg (g:=146) rfl rfl (q6 ag24 sz24 rF (by exact al2) rfl L) rfl t1 t1 ?_)))
 refine swg (g:=146) rfl rfl (I4 (vs:=[_,_]) un27 ti3 rfl rfl dC dC rfl (P2 (.cons rfl .nil) rfl) rfl (.cons rfl (.atom rfl) rfl pu1 (.cons rfl (.atom rfl) rfl (.skip pu1) .nil)) (.cons (.cons .nil)) L) rfl t2 t0 (swg (g:=146) rfl rfl (c_c hG hX cl48 rfl hN (vI [2,1] dC dC) L) rfl t1 t0 (swg (g:=146) rfl rfl (I4 (vs:=[_,_]) un27 ti3 rfl rfl dC dC rfl (P2 (.cons rfl .nil) rfl) rfl (.cons rfl (.atom rfl) rfl pu1 (.cons rfl (.atom rfl) rfl (.skip pu1) .nil)) (.cons (.cons .nil)) L) rfl t2 t0 (swg (g:=146) rfl rfl (c_c hG hX cl48 rfl hN (vI [4,3] dC dC) L) rfl t1 t0 (swg (g:=146) rfl rfl (I4 (vs:=[_,_]) un22 ti40 rfl rfl dC dC rfl (P2 (.cons rfl .nil) rfl) rfl (.cons rfl .sl rfl pu1 (.cons rfl .sl rfl (.skip pu1) .nil)) (.cons (.cons .nil)) L) rfl t2 t0 (swg (g:=146) rfl rfl (c_c hG hX cl47 rfl hN (mtI 2 [[2,1],[4,3]]) L) rfl t2 t0 (swg (g:=146) rfl rfl (c_c hG hX cl17 rfl hN (d1n 2 [[2,1],[4,3]] dC dC dC) L) rfl t2 t0 (swg (g:=146) rfl rfl (q4 L) rfl t1 t0 (sw (l4 rfl L) t2 t0 ?_))))))))
 refine O1 ⟨q5 [⟨[4],[],[144],[]⟩,⟨[144],[],[145],[]⟩,⟨[145],[],[146],[]⟩,⟨[146,9],[9],[147],[]⟩,⟨[146],[],[148],[]⟩,⟨[146,148],[],[149],[]⟩,⟨[146],[],[150],[]⟩,⟨[146,150],[],[151],[]⟩,⟨[146,149,151],[],[152],[]⟩,⟨[146,152],[],[153],[]⟩,⟨[146,147,153],[],[154],[]⟩,⟨[146,154],[],[155],[]⟩,⟨[146,155],[],[156],[]⟩] rF rF dC,[(9,_),(156,_)],[(9,_)],t2,t1,?_⟩
 refine U3 rfl rfl ?_
 refine U1 (xq ?_)
 refine exr (lp2 ag24 sz24 L rfl rfl (cK hG hX cl31 hN K1w L t1 (mV L rfl (sw (V3 rfl L) t1 t0 (sw (V3 rfl L) t1 t0 (swb (L3 (k:=10) (n:=4) zv47 (.cons rfl (.cons rfl (.cons rfl (.cons rfl .nil)))) rfl (P0 _ rfl) L) t0 t0 ⟨rfl,rfl⟩ (sb (R2 sz47 rF pa4 rfl pu4) t2 t1 ?_)))))))
 refine aV L rfl (zn [(4,_),(10,_)] [(10,_)] t2 t1 (exr (sw (I4 (vs:=[_,_,_]) un27 ti3 rfl rfl dC dC rfl (P2 (.cons rfl .nil) rfl) rfl (.cons rfl (.atom rfl) rfl pu1 (.cons rfl (.atom rfl) rfl (.skip pu1) (.cons rfl (.atom rfl) rfl (.skip (.skip pu1)) .nil))) (.cons (.cons (.cons .nil))) L) t3 t0 (cK hG hX cl48 hN (vI [1,0,1] dC dC) L t1 (sw (I4 (vs:=[_,_,_]) un27 ti3 rfl rfl dC dC rfl (P2 (.cons rfl .nil) rfl) rfl (.cons rfl (.atom rfl) rfl pu1 (.cons rfl (.atom rfl) rfl (.skip pu1) (.cons rfl (.atom rfl) rfl (.skip (.skip pu1)) .nil))) (.cons (.cons (.cons .nil))) L) t3 t0 (cK hG hX cl48 hN (vI [2,0,2] dC dC) L t1 (sw (I4 (vs:=[_,_,_]) un27 ti3 rfl rfl dC dC rfl (P2 (.cons rfl .nil) rfl) rfl (.cons rfl (.atom rfl) rfl pu1 (.cons rfl (.atom rfl) rfl (.skip pu1) (.cons rfl (.atom rfl) rfl (.skip (.skip pu1)) .nil))) (.cons (.cons (.cons .nil))) L) t3 t0 (cK hG hX cl48 hN (vI [0,1,1] dC dC) L t1 (sw (I4 (vs:=[_,_,_]) un22 ti40 rfl rfl dC dC rfl (P2 (.cons rfl .nil) rfl) rfl (.cons rfl .sl rfl pu1 (.cons rfl .sl rfl (.skip pu1) (.cons rfl .sl rfl (.skip (.skip pu1)) .nil))) (.cons (.cons (.cons .nil))) L) t3 t0 (sw (I4 (vs:=[_,_,_]) un27 ti3 rfl rfl dC dC rfl (P2 (.cons rfl .nil) rfl) rfl (.cons rfl (.atom rfl) rfl pu1 (.cons rfl (.atom rfl) rfl (.skip pu1) (.cons rfl (.atom rfl) rfl (.skip (.skip pu1)) .nil))) (.cons (.cons (.cons .nil))) L) t3 t0 (cK hG hX cl48 hN (vI [3,1,4] dC dC) L t1 ?_)))))))))))
 refine cK hG hX cl30 hN hcom L t2 (mV L rfl (sw (V3 rfl L) t1 t0 (sw (V3 rfl L) t1 t0 (sw (V3 rfl L) t1 t0 (aV L rfl (aV L rfl (aV L rfl (zn [(4,_),(10,_),(11,_),(13,_)] [(10,_)] t4 t1 (exd rF ?_)))))))))
 refine mV L rfl (sw (c_e L) t2 t0 (mV L rfl (gV (g:=178) rfl rfl L rfl rfl (swg (g:=178) rfl rfl (c_e L) rfl t2 t0 (sw (T4 rfl L) t2 t0 (mV L rfl (swg (g:=182) rfl rfl (q6 ag47 sz47 rF (by exact al4) rfl L) rfl t1 t1 ?_)))))))
 refine swg (g:=182) rfl rfl (c_c hG hX cl49 rfl hN (b0g 2 dC dC) L) rfl t1 t0 (swg (g:=182) rfl rfl (c_c hG hX cl33 rfl hN (v0w ((2:Int):Rat) ((2:Int):Rat) (by decide +kernel) (by decide +kernel)) L) rfl t2 t0 ?_)
 refine sw (T4 rfl L) t2 t0 (mV L rfl (gV (g:=187) rfl rfl L rfl rfl (swg (g:=187) rfl rfl (I4 (vs:=[_,_,_]) un27 ti3 rfl rfl dC dC rfl (P2 (.cons rfl .nil) rfl) rfl (.cons rfl (.atom rfl) rfl pu1 (.cons rfl (.atom rfl) rfl (.skip pu1) (.cons rfl (.atom rfl) rfl (.skip (.skip pu1)) .nil))) (.cons (.cons (.cons .nil))) L) rfl t3 t0 (swg (g:=187) rfl rfl (c_c hG hX cl48 rfl hN (vI [3,0,1] dC dC) L) rfl t1 t0 (swg (g:=187) rfl rfl (c_c hG hX cl29 rfl hN (f1b [3,0,1] dC dC) L) rfl t2 t0 (sw (T4 rfl L) t2 t0 (aV L rfl ?_)))))))
 refine O1 ⟨q5 [⟨[4],[],[176],[]⟩,⟨[176],[],[177],[]⟩,⟨[177],[],[178],[]⟩,⟨[178,13],[],[179],[]⟩,⟨[178,179],[],[180],[]⟩,⟨[178,180],[],[181],[]⟩,⟨[181],[],[182],[]⟩,⟨[182,10],[10],[183],[]⟩,⟨[182],[],[184],[]⟩,⟨[182,183,184],[],[185],[]⟩,⟨[182,185],[],[186],[]⟩,⟨[186],[],[187],[]⟩,⟨[187,11],[],[188],[]⟩,⟨[187],[],[189],[]⟩,⟨[187,189],[],[190],[]⟩,⟨[187,188,190],[],[191],[]⟩,⟨[187,191],[],[192],[]⟩,⟨[192],[],[0],[]⟩] rF rF dC,[(0,_)],[],t1,trivial,?_⟩
 refine V1 ?_
 refine Q0 (.tmp rfl) ?_
 rfl
def WdM (m:List (List RQ)):Prop:=∀ r∈m,∀ q∈r,q.wd
theorem G0x {n:Nat}{c:Int}{m:List (List RQ)}(hn:n<1000)(hw:WdM m)(h:J8 n c m=true):MSm m:=by
 rw [J8,j0,decide_eq_true_iff,s0] at h
 refine ⟨by omega,fun r hr=>?_⟩
 have h1:=h.2 r hr
 rw [smV,j0,decide_eq_true_iff,s0] at h1
 refine ⟨by omega,fun a ha=>?_⟩
 have h2:=h1.2 a ha
 rw [smW,decide_eq_true_iff] at h2
 exact ⟨hw r hr a ha,by omega,by omega⟩
theorem B1m {n:Nat}{c:Int}{M:List (List Rat)}(h:J8 n c (M.map (List.map RQ.of))=true):M.length≤n∧(∀ r∈M,r.length≤n)∧MB 6 M:=by
 rw [J8,j0,decide_eq_true_iff,s0,O0] at h
 have key:∀ r∈M,r.length≤n∧∀ a∈r,qw a≤6:=fun r hr=>by
  have h1:=h.2 _ (List.mem_map_of_mem hr)
  rw [smV,j0,decide_eq_true_iff,s0,O0] at h1
  refine ⟨h1.1,fun a ha=>?_⟩
  have h2:=h1.2 _ (List.mem_map_of_mem ha)
  rw [smW,decide_eq_true_iff] at h2
  exact Nat.max_le.2 h2
 exact ⟨h.1.1,fun r hr=>(key r hr).1,fun r hr=>(key r hr).2⟩
theorem Y0m {n:Nat}{c:Nat}{m:List (List RQ)}(h:J8 n c m=true)(hc:c≤60):c≤n:=by
 rw [J8,j0,decide_eq_true_iff] at h
 omega
theorem y1h {n:Nat}{c:Int}{m:List (List RQ)}(hn:n<1000)(hw:WdM m)(h:J8 n c m=true)(hi:isM c m=true):∃ (k:Nat) (M:List (List Rat)),c=k∧m=M.map (List.map RQ.of)∧MOk k M∧k≤n∧M.length≤n∧MB 6 M:=by
 obtain ⟨k,M,rfl,rfl,hM⟩:=K1a (G0x hn hw h) hi
 have:=B1m h
 exact ⟨k,M,rfl,rfl,hM,Y0m h hM.cols,this.1,this.2.2⟩
end Go.Proofs.YtjagfionflbjbaaGreat.N
namespace Go.Proofs.YtjagfionflbjbaaGreat.SH
open Go Go.RowKit Go.ChangeShapes Go.WideShapes Go.ChangeAt
variable {H:Type} {enc:TypeId×Value→H} {P:Program}
theorem k0j (hl:laidOutB P=true){W W':World}(hb:Below W.heap.size W W'):∀ {ts:List TypeId} {vs:List Value} {ds:List (DataW H)} {ps:List MemPlace},
  (ts.all fun t=>P.readableRec t && decide (t<P.types.size))=true→DataW.TrodAll enc P W 0 (fun _=>true) true ts vs ds ps→(∀ x∈ps,x.block<W.heap.size) →
  DataW.TrodAll enc P W' 0 (fun b=>decide (b<W.heap.size)) true ts vs ds ps
 | [],vs,ds,ps,_,h,_=>by
  obtain ⟨rfl,rfl,rfl⟩:=trodAll_nil h
  rfl
 | t :: ts,vs,ds,ps,hr,h,hlt=>by
  obtain ⟨v,vs',d,ds',p,q,rfl,rfl,rfl,h1,h2⟩:=trodAll_cons h
  simp only [List.all_cons,j0,decide_eq_true_eq] at hr
  exact trodAll_cons_mk (Below.trod hl hr.1.1 hr.1.2 h1 hb fun x hx=>hlt x (List.mem_append_left _ hx)) (k0j hl hb hr.2 h2 fun x hx=>hlt x (List.mem_append_right _ hx))
theorem y1b {fn:Func}{s:ChangeSpec}{d7 fresh handsOn:Bool}{W W':World}{args:Array Value}{ds gs:List (DataW H)}{before:List MemPlace}{tb:TypeId}(hl:laidOutB P=true)(hr:(fn.params.toList.all fun t=>P.readableRec t && decide (t<P.types.size))=true)(htb:P.underlying tb=some .bool)(hrt:fn.resultTypes = #[tb])(hv:s.vars=[])
  (hW:DataW.Whole enc P fn.params.toList s.vars d7 W args.toList ds gs before) (hb:Below W.heap.size W W') (hs:s.fn H (ds++gs)={ results:=[.lit (.bool true)],args:=ds }):s.post enc P fn d7 fresh handsOn false W args (.bool true) W':=by
 have hW':=hW
 obtain ⟨p,q,hA,hV,rfl,hfz,hnd⟩:=hW
 rw [hv] at hV
 obtain ⟨rfl,rfl⟩:=trodVars_none hV
 refine ⟨ds,[],p++[],[],p,[],hW',?_,?_,?_,hb.frame _,fun h=>by cases h⟩
 ·rw [hs,hrt]; exact trodAll_mk1 (shut_bool htb true)
 ·rw [hs]; exact k0j hl hb hr hA fun x hx=>hW'.lt x (List.mem_append_left _ hx)
 ·rw [hs,hv]; rfl
end Go.Proofs.YtjagfionflbjbaaGreat.SH
set_option maxRecDepth 100000
namespace Go.Proofs.YtjagfionflbjbaaGreat.N
open Go Go.Proofs.YtjagfionflbjbaaGreat.SH Go.Proofs.YtjagfionflbjbaaGreat.NumA Go.Proofs.YtjagfionflbjbaaGreat Go.RowKit Go.ChangeShapes Go.WideShapes Go.ChangeAt Go.Joins
theorem own:ownKnob Tryz.prog.godebug=none:=by kernel_rfl
theorem F1f:laidOutB Tryz.prog=true:=by kernel_rfl
theorem F0a:Tryz.prog.cellsOf 45=2:=by kernel_rfl
theorem P0p:Tryz.prog.cellsOf 47=4:=by kernel_rfl
theorem v1p:Tryz.prog.cellsOf 119=1:=by kernel_rfl
theorem m1j:Tryz.prog.cellsOf 43=1:=by kernel_rfl
theorem K1s:Tryz.prog.cellsOf 4=1:=by kernel_rfl
theorem w1d:Tryz.prog.cellsOf 3=1:=by kernel_rfl
theorem B1y:Tryz.prog.cellsOf 22=1:=by kernel_rfl
theorem B1k:Tryz.prog.cellsOf 40=1:=by kernel_rfl
theorem D1q:Tryz.prog.cellsOf 24=2:=by kernel_rfl
theorem V0c {w:World}{a:Addr}{k:IntKind}{zs:List Int}{n:Nat}(hcell:∀ i,i<zs.length→w.cell? (a.add i)=some (.int k (zs.getD i 0)))(hn:n≤zs.length) :
  j7 (fun _=>True) (hp w) ((zs.take n).map fun z=>.a (.int k z)) (some a):=by
 by_cases h0:n=0
 ·subst h0; trivial
 ·obtain ⟨b,off,rfl,hc⟩:=ints_at hcell (by omega)
  refine j7.of trivial (L4.of fun i y hy=>?_)
  rw [List.getElem?_map,List.getElem?_take] at hy
  split at hy
  ·rename_i hi
   have hi':i<zs.length:=by omega
   rw [J1 hi'] at hy
   simp only [Option.map_some,U0] at hy
   subst hy
   refine ⟨.int k zs[i],?_,rfl,by simp [Rel]⟩
   rw [← y0a,hc i hi',f0,J1 hi']
   rfl
  ·cases hy
section
variable {H:Type} {enc:TypeId×Value→H} {W:World}
theorem H0n {n:Nat}{cs:List Value}{y:DataW H×List MemPlace}(h:DataW.trod enc Tryz.prog W 0 (fun _=>true) true n 45 cs=some y) :
  ∃ neg ws c0 c1,Wd ws∧cs=[c0,c1]∧Rel (fun _=>True) (hp W) (.a (.bool neg)) c0∧Rel (fun _=>True) (hp W) (.sl ws.length (s4 ws)) c1∧c0.oneCell'=true∧c1.oneCell'=true:=by
 obtain ⟨y0,y1,m,-,hl,h0,h1⟩:=trod_struct2 Tryz.underlying45 h
 rw [F0a] at hl
 match cs,hl with
 | [c0,c1],_ =>
  have h0':DataW.trod enc Tryz.prog W 0 (fun _=>true) true m 4 [c0]=some y0:=by simpa [K1s] using h0
  have h1':DataW.trod enc Tryz.prog W 0 (fun _=>true) true m 43 [c1]=some y1:=by simpa [m1j] using h1
  obtain ⟨b,hb,-⟩:=DataW.trod_bool Tryz.underlying4 h0'
  obtain rfl:c0 = .bool b:=by simpa using hb
  rcases open_ints Tryz.underlying43 Tryz.underlying119 v1p h1' with ⟨hcs,hx⟩ | ⟨a,len,cap,zs,hcs,_,hl,hm,hz,hx,hcell,hwz⟩
  ·obtain rfl:c1 = .slice none 0 0:=by simpa using hcs
   exact ⟨b,[],_,_,Wd.nil,rfl,by simp [Rel],⟨none,0,rfl,Nat.le_refl _,trivial⟩,rfl,rfl⟩
  ·obtain rfl:c1 = .slice (some a) len cap:=by simpa using hcs
   simp only [if_true] at hz
   have hlen:(zs.take len).length=len:=by rw [J0]; omega
   refine ⟨b,zs.take len,_,_,fun w hw=>?_,rfl,by simp [Rel],⟨some a,cap,by rw [hlen],by rw [hlen]; exact hl,V0c hcell (by omega)⟩,rfl,rfl⟩
   have:=hwz w (List.mem_of_mem_take hw)
   simp only [Lit.wf,j0,decide_eq_true_eq] at this
   exact ⟨this.1,Int.lt_of_le_of_lt this.2 (by decide)⟩
theorem h1h {n:Nat}{cs:List Value}{y:DataW H×List MemPlace}(h:DataW.trod enc Tryz.prog W 0 (fun _=>true) true n 47 cs=some y) :
  ∃ r:RQ,r.wd∧E5 (fun _=>True) (hp W) (cR r) cs∧∀ c∈cs,c.oneCell'=true:=by
 obtain ⟨y0,y1,m,-,hl,h0,h1⟩:=trod_struct2 Tryz.underlying47 h
 rw [P0p] at hl
 match cs,hl with
 | [c0,c1,c2,c3],_ =>
  have h0':DataW.trod enc Tryz.prog W 0 (fun _=>true) true m 45 [c0,c1]=some y0:=by simpa [F0a] using h0
  have h1':DataW.trod enc Tryz.prog W 0 (fun _=>true) true m 45 [c2,c3]=some y1:=by simpa [F0a] using h1
  obtain ⟨b,ws,d0,d1,w1,e1,a1,a2,o1,o2⟩:=H0n h0'
  obtain ⟨b',vs,d2,d3,w2,e2,a3,a4,o3,o4⟩:=H0n h1'
  simp only [List.cons.injEq,and_true] at e1 e2
  obtain ⟨rfl,rfl⟩:=e1
  obtain ⟨rfl,rfl⟩:=e2
  refine ⟨⟨b,ws,b',vs⟩,⟨w1,w2⟩,⟨_,_,rfl,a1,_,_,rfl,a2,_,_,rfl,a3,_,_,rfl,a4,rfl⟩,fun c hc=>?_⟩
  simp only [List.mem_cons,List.not_mem_nil,or_false] at hc
  rcases hc with rfl | rfl | rfl | rfl <;> assumption
theorem j1n {n:Nat}{v:Value}{y:DataW H×List MemPlace}(h:DataW.trod enc Tryz.prog W 0 (fun _=>true) true n 40 [v]=some y) :
  ∃ l:List RQ,(∀ r∈l,r.wd)∧Rel (fun _=>True) (hp W) (pVR l) v∧v.oneCell'=true:=by
 rcases DataW.trod_slice Tryz.underlying40 h with ⟨hcs,hx⟩ | ⟨a,len,cap,elems,rest,m,_,hcs,hx,_,hl,_,hlen,hel,_,_⟩
 ·obtain rfl:v = .slice none 0 0:=by simpa using hcs
  exact ⟨[],by simp,⟨none,0,rfl,Nat.le_refl _,trivial⟩,rfl⟩
 ·obtain rfl:v = .slice (some a) len cap:=by simpa using hcs
  have each:∀ i,i<len→∃ r:RQ,r.wd∧∀ j x,(cR r)[j]? = some x→∃ u,W.cell? ((a.add (i*4)).add j)=some u∧u.oneCell'=true∧Rel (fun _=>True) (hp W) x u:=fun i hi=>by
   have h1:=hel i hi
   rw [P0p,J1 (by omega),Option.bind_eq_some_iff] at h1
   obtain ⟨cs,h2,h3⟩:=h1
   obtain ⟨-,h4,h5⟩:=World.cells?_some h2
   obtain ⟨r,hw,hr,ho⟩:=h1h h3
   refine ⟨r,hw,fun j x hx=>?_⟩
   obtain ⟨u,hu,hru⟩:=hr.get hx
   have hj:j<4:=by have:=(i1.1 hu).1; omega
   refine ⟨u,?_,ho u (M1 hu),hru⟩
   rw [← hu,← h5 j hj]
  have build:∀ k,k≤len→∃ l:List RQ,l.length=k∧(∀ r∈l,r.wd)∧∀ i,i<k→∀ j x,(cR (l.getD i default))[j]? = some x→∃ u,W.cell? ((a.add (i*4)).add j)=some u∧u.oneCell'=true∧Rel (fun _=>True) (hp W) x u:=fun k=>by
   induction k with
   | zero=>exact fun _=>⟨[],rfl,by simp,fun i hi=>absurd hi (Nat.not_lt_zero _)⟩
   | succ k ih =>
    intro hk
    obtain ⟨l,h1,h2,h3⟩:=ih (by omega)
    obtain ⟨r,hw,hr⟩:=each k (by omega)
    refine ⟨l++[r],by simp [h1],fun q hq=>?_,fun i hi j x hx=>?_⟩
    ·rcases List.mem_append.1 hq with hq | hq
     ·exact h2 q hq
     ·rw [List.mem_singleton.1 hq]; exact hw
    ·by_cases e:i<k
     ·refine h3 i e j x ?_
      rw [f0,X0 (by omega),← f0] at hx
      exact hx
     ·obtain rfl:i=k:=by omega
      refine hr j x ?_
      rw [f0,D0 (by omega),h1,Nat.sub_self] at hx
      exact hx
  obtain ⟨l,h1,h2,h3⟩:=build len (Nat.le_refl _)
  refine ⟨l,h2,⟨some a,cap,by rw [h1],by rw [h1]; exact hl,?_⟩,rfl⟩
  by_cases h0:l.length=0
  ·rw [E0 h0]; trivial
  ·obtain ⟨u0,hu0,-⟩:=h3 0 (by omega) 0 _ rfl
   obtain ⟨b,off,spot⟩:=a
   have hspot:spot=none:=by simpa [Addr.add] using World.cell?_spot hu0
   subst hspot
   refine j7.of trivial (L4.of fun i x hx=>?_)
   have hi:i<l.length*4:=by
    have:=(i1.1 hx).1
    rwa [v0k] at this
   have hg:=m1c (v:=l) (i:=i / 4) (by omega)
   have hx':(cR (l.getD (i / 4) default))[i % 4]? = some x:=by
    rw [← hg,List.getElem?_take,if_pos (by omega),List.getElem?_drop,show i / 4*4+i % 4=i by omega]
    exact hx
   obtain ⟨u,hu,ho,hru⟩:=h3 (i / 4) (by omega) (i % 4) x hx'
   refine ⟨u,?_,ho,hru⟩
   rw [Go.WideShapes.add_plain,Go.WideShapes.add_plain,Nat.add_assoc,show i / 4*4+i % 4=i by omega] at hu
   rw [← y0a]; exact hu
theorem k1g {n:Nat}{v:Value}{y:DataW H×List MemPlace}(h:DataW.trod enc Tryz.prog W 0 (fun _=>true) true n 22 [v]=some y) :
  ∃ m:List (List RQ),WdM m∧Rel (fun _=>True) (hp W) (.sl m.length (d0n m)) v∧v.oneCell'=true:=by
 rcases DataW.trod_slice Tryz.underlying22 h with ⟨hcs,hx⟩ | ⟨a,len,cap,elems,rest,m,_,hcs,hx,_,hl,_,hlen,hel,_,_⟩
 ·obtain rfl:v = .slice none 0 0:=by simpa using hcs
  exact ⟨[],by simp [WdM],⟨none,0,rfl,Nat.le_refl _,trivial⟩,rfl⟩
 ·obtain rfl:v = .slice (some a) len cap:=by simpa using hcs
  have each:∀ i,i<len→∃ (l:List RQ) (u:Value),(∀ r∈l,r.wd)∧W.cell? (a.add i)=some u∧u.oneCell'=true∧Rel (fun _=>True) (hp W) (pVR l) u:=fun i hi=>by
   have h1:=hel i hi
   rw [B1k,J1 (by omega),Option.bind_eq_some_iff] at h1
   obtain ⟨cs,h2,h3⟩:=h1
   obtain ⟨-,h4,h5⟩:=World.cells?_some h2
   match cs,h4 with
   | [u],_ =>
    obtain ⟨l,hw,hr,ho⟩:=j1n h3
    refine ⟨l,u,hw,?_,ho,hr⟩
    have:=h5 0 (by decide)
    rw [Nat.mul_one] at this
    simpa [Addr.add] using this
  have build:∀ k,k≤len→∃ l:List (List RQ),l.length=k∧WdM l∧∀ i,i<k→∃ u,W.cell? (a.add i)=some u∧u.oneCell'=true∧Rel (fun _=>True) (hp W) (pVR (l.getD i [])) u:=fun k=>by
   induction k with
   | zero=>exact fun _=>⟨[],rfl,by simp [WdM],fun i hi=>absurd hi (Nat.not_lt_zero _)⟩
   | succ k ih =>
    intro hk
    obtain ⟨l,h1,h2,h3⟩:=ih (by omega)
    obtain ⟨r,u,hw,hc,ho,hr⟩:=each k (by omega)
    refine ⟨l++[r],by simp [h1],fun q hq=>?_,fun i hi=>?_⟩
    ·rcases List.mem_append.1 hq with hq | hq
     ·exact h2 q hq
     ·rw [List.mem_singleton.1 hq]; exact hw
    ·by_cases e:i<k
     ·obtain ⟨u,g1,g2,g3⟩:=h3 i e
      refine ⟨u,g1,g2,?_⟩
      rwa [f0,X0 (by omega),← f0]
     ·obtain rfl:i=k:=by omega
      refine ⟨u,hc,ho,?_⟩
      rwa [f0,D0 (by omega),h1,Nat.sub_self]
  obtain ⟨l,h1,h2,h3⟩:=build len (Nat.le_refl _)
  refine ⟨l,h2,⟨some a,cap,by rw [h1],by rw [h1]; exact hl,?_⟩,rfl⟩
  by_cases h0:l.length=0
  ·rw [E0 h0]; trivial
  ·obtain ⟨u0,hu0,-⟩:=h3 0 (by omega)
   obtain ⟨b,off,spot⟩:=a
   have hspot:spot=none:=by simpa [Addr.add] using World.cell?_spot hu0
   subst hspot
   refine j7.of trivial (L4.of fun i x hx=>?_)
   have hi:i<l.length:=by
    have:=(i1.1 hx).1
    rwa [K0f] at this
   rw [g0c hi] at hx
   obtain rfl:=Option.some.inj hx
   obtain ⟨u,hu,ho,hru⟩:=h3 i (by omega)
   refine ⟨u,?_,ho,hru⟩
   rw [Go.WideShapes.add_plain] at hu
   rw [← y0a]; exact hu
theorem F1k {r:Reach}{b0:Nat}{v:Value}{d:DataW H}{p:List MemPlace}(hv:Value.okWide Tryz.prog W r b0 24 v)(h:DataW.Trod enc Tryz.prog W 0 (fun _=>true) true 24 v d p) :
  ∃ (c:Int) (m:List (List RQ)),WdM m∧(-9223372036854775808≤c∧c<9223372036854775808)∧Rel (fun _=>True) (hp W) (pMR c m) v:=by
 obtain ⟨cs,rfl,-⟩:=okWide_struct Tryz.underlying24 hv
 obtain ⟨n,h⟩:=h
 obtain ⟨y0,y1,m,-,hl,h0,h1⟩:=trod_struct2 Tryz.underlying24 h
 rw [D1q] at hl
 match hcs:(Value.agg cs).cells.toList,hl with
 | [c0,c1],_ =>
  rw [hcs] at h0 h1
  have h0':DataW.trod enc Tryz.prog W 0 (fun _=>true) true m 3 [c0]=some y0:=by simpa [w1d] using h0
  have h1':DataW.trod enc Tryz.prog W 0 (fun _=>true) true m 22 [c1]=some y1:=by simpa [w1d,B1y] using h1
  obtain ⟨k,hk,-,hwf⟩:=DataW.trod_int Tryz.underlying3 h0'
  obtain rfl:c0 = .int .i64 k:=by simpa using hk
  obtain ⟨l,hw,hr,ho⟩:=k1g h1'
  have e':cs.toList=[.int .i64 k,c1]:=by simpa [Value.cells] using hcs
  simp only [Lit.wf,j0,decide_eq_true_eq] at hwf
  refine ⟨k,l,hw,⟨hwf.1,Int.lt_of_le_of_lt hwf.2 (by decide)⟩,cs.toList,by simp,by rw [e']; exact ⟨_,_,rfl,by simp [Rel],_,_,rfl,hr,rfl⟩,?_⟩
  rw [e']
  intro c hc
  simp only [List.mem_cons,List.not_mem_nil,or_false] at hc
  rcases hc with rfl | rfl
  ·rfl
  ·exact ho
end
end Go.Proofs.YtjagfionflbjbaaGreat.N
set_option maxRecDepth 100000
set_option maxHeartbeats 4000000
namespace Go.Proofs.YtjagfionflbjbaaGreat.N
open Go Go.Proofs.YtjagfionflbjbaaGreat.SH Go.Proofs.YtjagfionflbjbaaGreat.NumA
open Go.Proofs.Tryz renaming call11→cl11,call12→cl12,call15→cl15,call31→cl31,call32→cl32,call33→cl33,call34→cl34,isAgg24→ag24,isAgg47→ag47,sizeOf24→sz24,sizeOf47→sz47,zeroValue47→zv47
theorem V1a:∀ n,n≤6→6+dbd 6 n<400000000:=by decide
theorem H1z {X Y n N:Nat}(h:X≤Y)(hn:n≤N)(hY:m0b Y N≤700000000):m0b X n≤700000000:=by
 refine Nat.le_trans (J0d hn) (Nat.le_trans ?_ hY)
 unfold m0b
 have:=Nat.mul_le_mul_left (2 ^ N) (show X+1≤Y+1 by omega)
 omega
theorem v1k {n c:Nat}{M:List (List Rat)}(h:MOk c M)(hB:MB 6 M)(hn:M.length=n)(hn2:n≤14)(hc:c≤14):EU n c 0 BB DD M (nob n):=by
 subst hn
 have h1:M.length*c≤14*14:=Nat.mul_le_mul hn2 hc
 exact N0a h.rc hB hn2 oM (H1z (Y:=192*210) (N:=14) oM hn2 (by decide +kernel))
theorem K1m {n:Nat}{M:List (List Rat)}(h:EU n n 0 BB DD M (nob n)):qw (B0n n M (nob n))≤DD:=by
 unfold B0n; split
 ·rw [n0n]; decide
 ·exact h.de n (Nat.le_refl _)
theorem h1g (c:Int)(m:List (List RQ))(hw:WdM m):j3 E 6 [pMR c m] (bZ true):=by
 refine D2 (xs:=[bZ true]) Tryz.func6 rfl Tryz.ntmps6 Tryz.results6 sM fun F hG hX0 hnt hdf P0=>?_
 obtain ⟨L,hX,hN⟩:=pro hnt hX0 hG
 refine exr (swb (T3 (k:=1) (n:=2) pa2 rfl rfl (P0 _ rfl) L) t1 t0 ⟨rfl,rfl⟩ (aV L rfl (zn [(1,_)] [(1,_)] t1 t1 (T1 (exr (lp2 ag24 sz24 L rfl rfl (cK hG hX cl11 hN (b1r 6 c m dC) L t2 (sw (q4 L) t1 t0 (zn [(1,_),(7,_)] [(1,_)] t2 t1 ?_)))))))))
 refine j2 rfl (fun hc=>?_) (fun hc=>?_)
 ·refine exr (cK hG hX cl12 hN j0b L t0 (aV L rfl (zn [(2,_)] [] t1 trivial (V1 ?_))))
  refine Q0 (.tmp rfl) ?_
  rfl
 ·have hc:J8 6 c m=true:=by simpa using hc
  have hm:=G0x dC hw hc
  rcases Bool.eq_false_or_eq_true (isM c m) with hi | hi
  ·obtain ⟨k,M,rfl,rfl,hM,hk,hl,hB⟩:=y1h dC hw hc hi
   have hsq:=Q0w k _ hm
   have hri:=W0h hM hB dC
   rw [W0n] at hsq
   rw [g0s,O0]
   rw [hi,Bool.true_and,O0] at hsq
   by_cases hlk:M.length=k
   ·rw [decide_eq_true (show (M.length:Int)=k by omega)] at hsq
    have hE:=v1k hM hB hlk oM oM
    have hd:=P0c k BB DD M hM (hB.mono dC) hlk hE
    have hrc:RC k k M:=⟨hlk,hM.len⟩
    have hr:=J0j (B:=6) (N:=6) dC V1a oM hrc hB
    rw [D1n hrc W0p] at hr
    have hq:=K1m hE
    refine U1 (xq ?_)
    refine exr (lp2 ag24 sz24 L rfl rfl (cK hG hX cl31 hN hd L t1 (mV L rfl (sw (V3 rfl L) t1 t0 (sw (V3 rfl L) t1 t0 (swb (L3 (k:=3) (n:=4) zv47 (.cons rfl (.cons rfl (.cons rfl (.cons rfl .nil)))) rfl (P0 _ rfl) L) t0 t0 ⟨rfl,rfl⟩ (sb (R2 sz47 rF pa4 rfl pu4) t2 t1 ?_)))))))
    refine aV L rfl (zn [(1,_),(3,_),(4,_)] [(1,_),(3,_)] t3 t2 (T1 (X1 (exr (lp2 ag24 sz24 L rfl rfl (cK hG hX cl15 hN hri L t1 (sw (q4 L) t1 t0 (aV L rfl (zn [(1,_),(3,_),(4,_),(14,_)] [(1,_),(3,_)] t4 t2 (U3 rfl rfl (exr ?_)))))))))))
    refine lp2 ag24 sz24 L rfl rfl (cK hG hX cl32 hN hsq L t1 (sw (q4 L) t1 t0 (aV L rfl (zn [(1,_),(3,_),(4,_),(23,_)] [(1,_),(3,_)] t4 t2 (U3 rfl rfl ?_)))))
    refine U1 (xq ?_)
    refine exd rF ?_
    refine cK hG hX cl12 hN j0b L t0 (mV L rfl (gV (g:=33) rfl rfl L rfl rfl (swg (g:=33) rfl rfl (c_e L) rfl t2 t0 (sw (T4 rfl L) t2 t0 (mV L rfl (swg (g:=37) rfl rfl (q6 ag47 sz47 rF (by exact al4) rfl L) rfl t1 t1 ?_))))))
    refine swg (g:=37) rfl rfl (q6 ag24 sz24 rF (by exact al2) rfl L) rfl t1 t1 ?_
    refine swg (g:=37) rfl rfl (c_c hG hX cl34 rfl hN hr L) rfl t1 t0 (swg (g:=37) rfl rfl (c_c hG hX cl33 rfl hN (v0w _ _ (Nat.lt_of_le_of_lt hq dC) (Nat.lt_of_le_of_lt hq dC)) L) rfl t2 t0 (sw (T4 rfl L) t2 t0 (aV L rfl ?_)))
    refine O1 ⟨q5 [⟨[],[],[32],[]⟩,⟨[32],[],[33],[]⟩,⟨[33,4],[],[34],[]⟩,⟨[33,34],[],[35],[]⟩,⟨[33,35],[],[36],[]⟩,⟨[36],[],[37],[]⟩,⟨[37,3],[3],[38],[]⟩,⟨[37,1],[1],[39],[]⟩,⟨[37,39],[],[40],[]⟩,⟨[37,38,40],[],[41],[]⟩,⟨[37,41],[],[42],[]⟩,⟨[42],[],[2],[]⟩] rF rF dC,[(2,_)],[],t1,trivial,?_⟩
    refine V1 ?_
    refine Q0 (.tmp rfl) ?_
    rw [decide_eq_true rfl]
   ·rw [decide_eq_false (show ¬ (M.length:Int)=k by omega)] at hsq
    refine U1 (xq ?_)
    refine exr (lp2 ag24 sz24 L rfl rfl (cK hG hX cl31 hN (D1p k 6 M hM hB dC hlk) L t1 (mV L rfl (sw (V3 rfl L) t1 t0 (sw (V3 rfl L) t1 t0 (swb (L3 (k:=3) (n:=4) zv47 (.cons rfl (.cons rfl (.cons rfl (.cons rfl .nil)))) rfl (P0 _ rfl) L) t0 t0 ⟨rfl,rfl⟩ (sb (R2 sz47 rF pa4 rfl pu4) t2 t1 ?_)))))))
    refine aV L rfl (zn [(1,_),(3,_),(4,_)] [(1,_),(3,_)] t3 t2 (T1 (X1 (exr (lp2 ag24 sz24 L rfl rfl (cK hG hX cl15 hN hri L t1 (sw (q4 L) t1 t0 (aV L rfl (zn [(1,_),(3,_),(4,_),(14,_)] [(1,_),(3,_)] t4 t2 (U3 rfl rfl (exr ?_)))))))))))
    refine lp2 ag24 sz24 L rfl rfl (cK hG hX cl32 hN hsq L t1 (sw (q4 L) t1 t0 (aV L rfl (zn [(1,_),(3,_),(4,_),(23,_)] [(1,_),(3,_)] t4 t2 (M8 rfl rfl (exr (cK hG hX cl12 hN j0b L t0 (mV L rfl (gV (g:=28) rfl rfl L rfl rfl (swg (g:=28) rfl rfl (c_e L) rfl t2 t0 (sw (T4 rfl L) t2 t0 ?_)))))))))))
    refine aV L rfl (zn [(2,_)] [] t1 trivial (V1 ?_))
    refine Q0 (.tmp rfl) ?_
    rfl
  ·refine U1 (xq ?_)
   refine exr (lp2 ag24 sz24 L rfl rfl (cK hG hX cl31 hN (J1n c m hm hi) L t1 (mV L rfl (sw (V3 rfl L) t1 t0 (sw (V3 rfl L) t1 t0 (swb (L3 (k:=3) (n:=4) zv47 (.cons rfl (.cons rfl (.cons rfl (.cons rfl .nil)))) rfl (P0 _ rfl) L) t0 t0 ⟨rfl,rfl⟩ (sb (R2 sz47 rF pa4 rfl pu4) t2 t1 ?_)))))))
   refine aV L rfl (zn [(1,_),(3,_),(4,_)] [(1,_),(3,_)] t3 t2 (T1 (X1 (exr (lp2 ag24 sz24 L rfl rfl (cK hG hX cl15 hN (j0y c m hm) L t1 (sw (q4 L) t1 t0 (aV L rfl (zn [(1,_),(3,_),(4,_),(14,_)] [(1,_),(3,_)] t4 t2 (M8 rfl (by rw [hi]; rfl) ?_))))))))))
   refine exr (cK hG hX cl12 hN j0b L t0 (mV L rfl (gV (g:=19) rfl rfl L rfl rfl (swg (g:=19) rfl rfl (c_e L) rfl t2 t0 (sw (T4 rfl L) t2 t0 (aV L rfl (zn [(2,_)] [] t1 trivial (V1 ?_))))))))
   refine Q0 (.tmp rfl) ?_
   rfl
end Go.Proofs.YtjagfionflbjbaaGreat.N
