/- Part E of the proof: lemmas for the walks of the given functions. No statement of its own. -/
import Derived.ChangeSame
import Derived.ChangeVars
import Derived.JoinedOf
import Derived.RowKit
import Derived.RowKitTokens
import Derived.LaidLaws
import Derived.LaidHandle
import Derived.Carry
import Derived.OpenShut
import Derived.Lib.SmallJoins
import Derived.Lib.LaidTab
import Derived.Lay
import Derived.LaidMore
import Derived.MakeChecks
import Derived.Stop.LaidErr
import Derived.ProofKit
import Derived.Test.YtjagfionflbjbaaGreatRows
import Derived.Test.YtjagfionflbjbaaGreatPD
set_option linter.unusedVariables false
set_option linter.unusedSimpArgs false
set_option linter.deprecated false
set_option maxRecDepth 100000
set_option maxHeartbeats 4000000
namespace Go.Proofs.YtjagfionflbjbaaGreat.N
open Go Go.Proofs.YtjagfionflbjbaaGreat.SH Go.Proofs.YtjagfionflbjbaaGreat.NumA
open Go.Proofs.Tryz renaming call55→cl55,isAgg3→ag3,isAgg47→ag47,isAgg73→ag73,isAgg77→ag77,sizeOf3→sz3,sizeOf47→sz47,sizeOf77→sz77,underlying27→un27,underlying77→un77,underlying79→un79,zeroValue3→zv3,zeroValue47→zv47
@[simp] theorem N1q {k q:Nat}{cs:List PV}(h:k≠q):(rvV k cs).free q=true:=j0f h
theorem f1j {sl:List (Nat×PV)}{pre pre' T:List (Nat×Blk)}(hT:R5 T)(hp:n6 pre=true)(hb:T5 ⟨[],pre⟩ pre'):h0w ⟨sl,pre++T⟩ [] (pre'++T):=by
 refine p0m fun p hp2=>⟨rfl,?_⟩
 show (pre++T).lookup p.1=_
 rcases List.mem_append.1 hp2 with h | h
 ·rw [T1,n0w hb h]; rfl
 ·have h1:=V5 (j:=p.1) (B:=p.2) hT.nd h
  have h2:pre.lookup p.1=none:=by
   cases e:pre.lookup p.1 with
   | none=>rfl
   | some C =>
    have:=f0h hp e
    rw [hT.low _ (by simpa [Nat.blt_eq] using this)] at h1; cases h1
  rw [T1,h2,l0,h1]
theorem m1a (s:Bool)(n cols:Nat)(b:List (List Rat)):I4 E B8 51 [.at_ 999 0 3] ([wU cols [] (bv s n)]++bsT s b) ([wU cols [] (bv s n)]++bsT s b) (.p (.tup [.sl 0 [],pQ 1])):=by
 refine n4 (xs:=[.sl 0 [],pQ 1]) Tryz.func51 rfl Tryz.ntmps51 Tryz.results51 sM fun F G=>?_
 have L:=@lti _ _ G.nt
 have hG:=G.g
 have hX:=G.x
 have hN:=W5 hG
 have P0:=fun k (hk:(Nat.blt k 1000 && (List.lookup k _).isNone)=true)=>G.p0 k (p0T (w5 s b) hk)
 refine exr (swb (g0a (k:=1) rX rfl (P0 _ rfl) L) t1 t1 (frT [_] (w5 s b) rfl rfl (by simp [F3,X2,Cells.free,PV.freeL,PV.free,X3,i3])) ?_)
 refine aV L rfl (swb (T3 (k:=3) (n:=4) zv47 (.cons rfl (.cons rfl (.cons rfl (.cons rfl .nil)))) rfl (P0 _ rfl) L) t0 t0 (frT [_,_] (w5 s b) rfl rfl (by simp [F3,X2,Cells.free,PV.freeL,PV.free,X3,i3])) ?_)
 refine O1 ⟨[(1,_),(2,_),(3,_)],(1,_) :: (3,_) :: (999,_) :: ((bsT s b)),t3,⟨rfl,rfl,rfl,(hbT [_,_,_] (w5 s b) rfl)⟩,?_⟩
 refine exr (cK hG hX cl55 hN (R6 1 dC dC) L t1 (sb (U2 sz47 rF pa4 rfl pu4) t2 t1 ?_))
 refine O1 ⟨[(1,_),(2,_),(3,_)],(1,_) :: (3,_) :: (999,_) :: ((bsT s b)),t3,⟨rfl,rfl,rfl,(hbT [_,_,_,_] (w5 s b) rfl)⟩,?_⟩
 refine R1 (exr (swb (T3 (k:=4) (n:=1) zv3 (.cons rfl .nil) rfl (P0 _ rfl) L) t0 t0 (frT [_,_,_] (w5 s b) rfl rfl (by simp [F3,X2,Cells.free,PV.freeL,PV.free,X3,i3])) ?_))
 refine sb (U2 sz3 rF (.atom rfl) rfl pu1) t2 t1 ?_
 refine O1 ⟨[(1,_),(2,_),(3,_),(4,_)],(1,_) :: (3,_) :: (4,_) :: (999,_) :: ((bsT s b)),t4,⟨rfl,rfl,rfl,rfl,(hbT [_,_,_,_,_] (w5 s b) rfl)⟩,?_⟩
 refine X1 ?_
 refine F0r (α:=Nat) (fun x=>[]) (fun x=>[(4,⟨3,1,.mix [.p (vZ (x:Int))]⟩)]) (fun x=>(bsT s b)) (fun x=>x=0) (fun x=>x) (0) (sl:=[(1,_),(2,_),(3,_),(4,_)]) (hb:=[(1,_),(3,_),(999,_)]) ?_ t4 ⟨rfl,rfl,rfl,rfl,(hbT [_,_,_,_] (w5 s b) rfl)⟩ ?_
 ·rfl
 intro x hx
 subst hx
 by_cases hcc:0<cols
 ·refine R1 (exd rF ?_)
  refine sw (Y1 ag3 rF rF L) t1 t1 ?_
  refine sw (Y1 ag73 rF rF L) t1 t1 ?_
  refine sw (Z2 rX L) t1 t1 ?_
  refine sw (Z1 un79 rfl sz3 dC rX L) t1 t1 ?_
  refine sw (Y1 ag3 rF rF L) t1 t1 ?_
  refine sw (d4 L) t2 t0 (mV L rfl (gV (g:=19) rfl sO L rfl rfl (swg (g:=19) rfl sO (q0v un27 L) rfl t1 t0 (swg (g:=19) rfl sO (Y1 ag73 rF rF L) rfl t1 t1 ?_))))
  refine swg (g:=19) rfl sO (Z2 rX L) rfl t1 t1 ?_
  refine swg (g:=19) rfl sO (Z1 un79 rfl sz77 dC rX L) rfl t1 t1 ?_
  refine swg (g:=19) rfl sO (Y1 ag77 rF rF L) rfl t1 t1 ?_
  refine swg (g:=19) rfl sO (q0v un77 L) rfl t1 t0 (swg (g:=19) rfl sO (d4 L) rfl t2 t0 (sw (m4 sO L) t2 t0 ?_))
  refine O1 ⟨h0g [⟨[4],[4],[13],[]⟩,⟨[1],[1],[14],[]⟩,⟨[14],[999],[15],[]⟩,⟨[15],[999],[16],[]⟩,⟨[16],[999],[17],[]⟩,⟨[13,17],[],[18],[]⟩,⟨[18],[],[19],[]⟩,⟨[19,2],[],[20],[]⟩,⟨[19,20],[],[21],[]⟩,⟨[19,1],[1],[22],[]⟩,⟨[19,22],[999],[23],[]⟩,⟨[19,23],[999],[24],[]⟩,⟨[19,24],[999],[25],[]⟩,⟨[19,25],[],[26],[]⟩,⟨[19,21,26],[],[27],[]⟩,⟨[19,27],[],[28],[]⟩] (.cons (cf0 rfl) (.cons (cf0 rfl) (.cons (cf0 rfl) (.cons (cf0 rfl) (.cons (cf0 rfl) (.cons (cf0 rfl) (.cons (cf0 rfl) (.cons (cf0 rfl) (.cons (cf0 rfl) (.cons (cf0 rfl) (.cons (cf0 rfl) (.cons (cf0 rfl) (.cons (cf0 rfl) (.cons (cf0 rfl) (.cons (cf0 rfl) (.cons (cf0 rfl)  .nil)))))))))))))))) rfl (frS [] [_,_,_,_] (w5 s b) rfl (by simp [F3,X2,Cells.free,PV.freeL,PV.free,X3,i3])) dC,[(1,_),(2,_),(3,_),(4,_),(28,_)],(1,_) :: (3,_) :: (4,_) :: (999,_) :: ((bsT s b)),t5,⟨rfl,rfl,rfl,rfl,(hbT [_,_,_,_] (w5 s b) rfl)⟩,?_⟩
  refine W3 rfl rfl ?_
  refine L2 (xq ?_)
  refine exd rF ?_
  refine mV L rfl (lp4 ag47 sz47 L rfl rfl (aV L rfl (sb (U2 sz47 rF pa4 rfl pu4) t2 t1 ?_)))
  refine O1 ⟨h0g [⟨[2],[],[84],[]⟩,⟨[3],[3],[85],[]⟩,⟨[84],[],[2],[]⟩,⟨[3,85],[3],[],[3]⟩] (.cons (cf0 rfl) (.cons (cf0 rfl) (.cons (cf0 rfl) (.cons (cf0 rfl)  .nil)))) rfl (frS [] [_,_,_,_] (w5 s b) rfl (by simp [F3,X2,Cells.free,PV.freeL,PV.free,X3,i3])) dC,[(2,_),(3,_)],(3,_) :: (999,_) :: ((bsT s b)),t2,⟨rfl,rfl,(hbT [_,_,_,_,_] (w5 s b) rfl)⟩,?_⟩
  refine G4 [] (sl:=[(2,.p (.sl 0 [])),(3,.at_ 3 0 4)]) (hb:=[(3,bQ 1),wU cols [] (bv s n)]++bsT s b) (g0c rfl) ⟨⟨_,rfl,.p .nil⟩,⟨_,rfl,.same⟩,trivial⟩ (f1j (pre:=[_,_]) (w5 s b) rfl t2) (V1 ?_)
  exact ⟨.inr rfl,.cons (.tmp rfl) (.cons (.agg rfl rfl rfl ag47 sz47 (.cons (.cons (.cons (.cons .nil))))) .nil),rfl,hbT [_,_] (w5 s b) rfl⟩
 ·refine R1 (exd rF ?_)
  refine sw (Y1 ag3 rF rF L) t1 t1 ?_
  refine sw (Y1 ag73 rF rF L) t1 t1 ?_
  refine sw (Z2 rX L) t1 t1 ?_
  refine sw (Z1 un79 rfl sz3 dC rX L) t1 t1 ?_
  refine sw (Y1 ag3 rF rF L) t1 t1 ?_
  refine sw (d4 L) t2 t0 (mV L rfl (swn (g:=19) rfl sO L rfl (swn (g:=19) rfl sO L rfl (swn (g:=19) rfl sO L rfl (swn (g:=19) rfl sO L rfl (swn (g:=19) rfl sO L rfl (swn (g:=19) rfl sO L rfl (swn (g:=19) rfl sO L rfl (swn (g:=19) rfl sO L rfl (sw (V3 sO L) t2 t0 ?_))))))))))
  refine O1 ⟨h0g [⟨[4],[4],[13],[]⟩,⟨[1],[1],[14],[]⟩,⟨[14],[999],[15],[]⟩,⟨[15],[999],[16],[]⟩,⟨[16],[999],[17],[]⟩,⟨[13,17],[],[18],[]⟩,⟨[18],[],[19],[]⟩,⟨[19],[],[20],[]⟩,⟨[19],[],[21],[]⟩,⟨[19],[],[22],[]⟩,⟨[19],[],[23],[]⟩,⟨[19],[],[24],[]⟩,⟨[19],[],[25],[]⟩,⟨[19],[],[26],[]⟩,⟨[19],[],[27],[]⟩,⟨[19],[],[28],[]⟩] (.cons (cf0 rfl) (.cons (cf0 rfl) (.cons (cf0 rfl) (.cons (cf0 rfl) (.cons (cf0 rfl) (.cons (cf0 rfl) (.cons (cf0 rfl) (.cons (cf0 rfl) (.cons (cf0 rfl) (.cons (cf0 rfl) (.cons (cf0 rfl) (.cons (cf0 rfl) (.cons (cf0 rfl) (.cons (cf0 rfl) (.cons (cf0 rfl) (.cons (cf0 rfl)  .nil)))))))))))))))) rfl (frS [] [_,_,_,_] (w5 s b) rfl (by simp [F3,X2,Cells.free,PV.freeL,PV.free,X3,i3])) dC,[(1,_),(2,_),(3,_),(4,_),(28,_)],(1,_) :: (3,_) :: (4,_) :: (999,_) :: ((bsT s b)),t5,⟨rfl,rfl,rfl,rfl,(hbT [_,_,_,_] (w5 s b) rfl)⟩,?_⟩
  refine W3 rfl rfl ?_
  refine L2 (xq ?_)
  refine exd rF ?_
  refine mV L rfl (lp4 ag47 sz47 L rfl rfl (aV L rfl (sb (U2 sz47 rF pa4 rfl pu4) t2 t1 ?_)))
  refine O1 ⟨h0g [⟨[2],[],[84],[]⟩,⟨[3],[3],[85],[]⟩,⟨[84],[],[2],[]⟩,⟨[3,85],[3],[],[3]⟩] (.cons (cf0 rfl) (.cons (cf0 rfl) (.cons (cf0 rfl) (.cons (cf0 rfl)  .nil)))) rfl (frS [] [_,_,_,_] (w5 s b) rfl (by simp [F3,X2,Cells.free,PV.freeL,PV.free,X3,i3])) dC,[(2,_),(3,_)],(3,_) :: (999,_) :: ((bsT s b)),t2,⟨rfl,rfl,(hbT [_,_,_,_,_] (w5 s b) rfl)⟩,?_⟩
  refine G4 [] (sl:=[(2,.p (.sl 0 [])),(3,.at_ 3 0 4)]) (hb:=[(3,bQ 1),wU cols [] (bv s n)]++bsT s b) (g0c rfl) ⟨⟨_,rfl,.p .nil⟩,⟨_,rfl,.same⟩,trivial⟩ (f1j (pre:=[_,_]) (w5 s b) rfl t2) (V1 ?_)
  exact ⟨.inr rfl,.cons (.tmp rfl) (.cons (.agg rfl rfl rfl ag47 sz47 (.cons (.cons (.cons (.cons .nil))))) .nil),rfl,hbT [_,_] (w5 s b) rfl⟩
theorem h1q {b:List (List Rat)}:∀ c,ech [] b c=⟨[],b,[],1⟩
 | 0=>rfl
 | c+1=>by rw [m9,h1q c]; rfl
structure EU (n cols d B DB:Nat) (m b:List (List Rat)):Prop where
 rc:RC n cols m
 rb:RC n d b
 nl:n<1000
 cl:cols<1000
 dl:d<1000
 b0:0<B
 bl:B<100000000
 dbl:DB+B<1000000000
 me:∀ c,c≤cols→MB B (ech m b c).m
 be:∀ c,c≤cols→MB B (ech m b c).b
 de:∀ c,c≤cols→qw (ech m b c).det≤DB
theorem j0w (s:Bool)(n cols d B DB:Nat)(m b:List (List Rat))(H:EU n cols d B DB m b):I4 E B8 51 [.at_ 999 0 3] ([wU cols m (bv s n)]++i5 s m b) ([wU cols (ech m b cols).m (bv s n)]++i5 s (ech m b cols).m (ech m b cols).b) (.p (.tup [.sl (ech m b cols).pv.length (Z6 (ech m b cols).pv),pQ (ech m b cols).det])):=by
 cases m with
 | nil =>
  rw [h1q]
  exact m1a s n cols b
 | cons r m =>
  have h0:0<n:=by have:=H.rc.1; simp at this; omega
  have hm:0<(r :: m).length:=by simp
  have hrc:=D7 H.rc H.rb cols (Nat.le_refl _)
  have hm':0<(ech (r :: m) b cols).m.length:=by rw [hrc.1.1]; exact h0
  have hn:=H.rc.1
  have:=B1j s n cols d B DB (r :: m) b ⟨H.rc,H.rb,h0,H.nl,H.cl,H.dl,H.b0,H.bl,H.dbl,H.me,H.be,H.de⟩
  rw [N0v hm,N0v hm',V1g hm,V1g hm',hrc.1.1,hn]; exact this
end Go.Proofs.YtjagfionflbjbaaGreat.N
namespace Go.Proofs.YtjagfionflbjbaaGreat.SH
open Go Go.RowKit
section
variable {P:Program} {F:Fr} {d:Nat} {T:TypeId} {pos:String} {aft:Array Edge} {g:Option (Nat×Bool)} {t:TypeId}
theorem V1y {x hi mx:Operand}{n h:Nat}{i:Int}{xs ys:List J2}{e:TypeId}{sz:Nat}{kh km:IntKind}(hu:P.underlying t=some (.slice e))(hsz:∀ w,(sizeOf e).run P w = .ok sz w)(hi':i=(h:Int))(h2:h≤n)(hy:xs.take (h*sz)=ys)(hlt:d<F.nt) :
  O2 P F ⟨some d,.slice t x none (some hi) (some mx),T,pos,aft,g⟩ { rs:=[(x,.p (.sl n xs)),(hi,.p (.a (.int kh i))),(mx,.p (.a (.int km i)))],ws:=[(d,.p (.sl h ys))] }:=by
 subst hi'
 exact B4 rfl hlt rfl rfl fun ρ S a w hS hA=>by
  have hx:=Z4 hS (v:=.p (.sl n xs)) (hA.rs (x,_) (by simp))
  simp only [K2,Rel] at hx
  obtain ⟨ad,cap,he,hc,hr⟩:=hx
  have e1:a.eval hi = .int kh h:=M4 hS (hA.rs (hi,_) (by simp))
  have e2:a.eval mx = .int km h:=M4 hS (hA.rs (mx,_) (by simp))
  have b1:(h:Int)≤cap:=by omega
  have hb:(Instr.sliceBounds true n cap none (some (a.eval hi)) (some (a.eval mx))).run P w = .ok (0,h,h) w:=by
   simp_all [Instr.sliceBounds,Instr.sliceBound,asIntOf]
  refine ⟨.slice (if h=0 then ad else ad.map (·.add (0*sz))) h h,?_,?_⟩
  ·simp [execOp,Instr.sliceAt,Instr.slice,run_underlying hu,he,hb,hsz]
  ·simp only [K2,Rel]
   refine ⟨_,_,rfl,Nat.le_refl _,?_⟩
   by_cases hyn:ys=[]
   ·subst hyn; simp [I7]
   ·have hxn:xs≠[]:=fun e=>by subst e; simp at hy; exact hyn (by first | exact hy | exact hy.symm)
    obtain ⟨b,o,rfl,hok,hra⟩:=hr.at hxn
    have h0:0<h:=by
     rcases Nat.eq_zero_or_pos h with e | e
     ·subst e; simp at hy; exact absurd (by first | exact hy | exact hy.symm) hyn
     ·exact e
    rw [if_neg (by omega)]
    have e:(⟨b,o,none⟩:Addr).add (0*sz)=⟨b,o,none⟩:=by unfold Addr.add; split <;> simp_all
    simp only [Option.map_some,e]
    rw [← hy]
    exact I7.of hok (hra.take _)
end
theorem Q0j {P:Program}{F:Fr}{ops:Array Oper}{o:Oper}{S S1 S2:St}(h:B0a P F ops o S S1)(hs:∀ t,S2.slot t=S1.slot t)(hb:∀ k,S2.blk k=S1.blk k):B0a P F ops o S S2:=by
 intro a w hS Q K hK
 exact h a w hS Q K fun a' w' h'=>hK a' w' (h'.congr hs hb)
def P0a (l:List (Nat×Blk)):Bool:=l.all fun p=>Nat.blt p.1 900
theorem f0j {l:List (Nat×Blk)}(h:P0a l=true){k:Nat}(hk:900≤k):l.lookup k=none:=by
 cases e:l.lookup k with
 | none=>rfl
 | some B =>
  unfold P0a at h
  rw [s0] at h
  have:=h _ (O3 e)
  simp only [Nat.blt_eq] at this
  omega
theorem y0y {sl:List (Nat×PV)}{pre H:List (Nat×Blk)}:∀ {l:List (Nat×Blk)},T5 ⟨[],pre⟩ l→T5 ⟨sl,pre++H⟩ l
 | [],_=>trivial
 | (k, B) :: l, h => ⟨by
   show (pre++H).lookup k=some B
   rw [T1,show pre.lookup k=some B from h.1]; rfl,y0y h.2⟩
theorem n1x {P:Program}{F:Fr}{ops:Array Oper}{o:Oper}{S S1 S2:St}(h:B0a P F ops o S S1)(hl:St.le S2 S1):B0a P F ops o S S2:=by
 intro a w hS Q K hK
 exact h a w hS Q K fun a' w' ⟨ρ,h'⟩=>hK a' w' ⟨ρ,h'.weakR hl⟩
theorem nsU {E:Env}{st st0:Nat→Bool}{F:Fr}{nt:Nat}(G:GFr E st0 [] nt F)(hng:E.ng≤F.w0.heap.size){ops:Array Oper}{d:Nat}{f:FuncId}{op:Op}{T:TypeId}{pos:String}{aft:Array Edge}{xs:List PV}{sl:List (Nat×PV)}{pre H H':List (Nat×Blk)}{r:PV}{rs:List (Operand×PV)}{os:List Oper}{K:St→Prop}(ks:List Nat)(slR:List (Nat×PV))(hbR:List (Nat×Blk))(hs:I4 E st f xs H H' r)(hlt:d<F.nt)
  (hargs:∀ ρ S a w,b5 F ρ S a w→(∀ p∈rs,S.opd p.1=some p.2)→∃ vals:List Value,(execOp a.eval ⟨some d,op,T,pos,aft,none⟩).run E.P w = .ok (.enter f vals.toArray) w∧D3 S.blk ρ (okI F S.blk ρ) (hp w) xs vals)
  (hr:v8 ⟨sl,pre++H⟩ rs) (hh:∀ k B,H.lookup k=some B→900≤k) (hh':∀ k B,H'.lookup k=some B→900≤k) (nd:(H.map (·.1)).Nodup) (nd':(H'.map (·.1)).Nodup) (hw:Whole H') (hres:∀ q,r.free q=false→H'.lookup q≠none) (h9:ks.contains 999=true→∃ B0 B1,st 999=true∧H.lookup 999=some B0∧H'.lookup 999=some B1∧B1.sz=B0.sz∧B1.cs.len=B0.cs.len)
  (hp:P0a pre=true) (hR:T5 ⟨[],pre⟩ hbR) (hR9:P0a hbR=true) (hsl:e7 ⟨sl,pre++H⟩ slR) (hd:slR.lookup d=none) (ho:(slR.all fun p=>p.2.only ks)=true) (hbo:(hbR.all fun p=>p.2.cs.only ks)=true) (hks:(ks.all fun k=>(hbR.lookup k).isSome || k == 999)=true)
  (hn:g0f E.P F ops os ⟨(d,r) :: slR,hbR++H'⟩ K):g0f E.P F ops (⟨some d,op,T,pos,aft,none⟩ :: os) ⟨sl,pre++H⟩ K:=by
 have hHno:∀ k,k<900→H.lookup k=none:=fun k hk=>by
  cases e:H.lookup k with
  | none=>rfl
  | some B=>have:=hh k B e; omega
 have hHno':∀ k,k<900→H'.lookup k=none:=fun k hk=>by
  cases e:H'.lookup k with
  | none=>rfl
  | some B=>have:=hh' k B e; omega
 have hlt9:∀ k,hbR.lookup k≠none→k<900:=fun k hk=>by
  apply Classical.byContradiction
  intro h
  exact hk (f0j hR9 (by omega))
 refine .cons (Q0j (S2:=⟨(d,r) :: slR,hbR++H'⟩) (J1g (H:=H) (H':=H') G.g G.x hng ks slR hbR hs hlt hargs hr (y5 nd fun k B hk=>?_) hsl (y0y hR) hd nd nd' (fun k hk=>⟨hHno k (hlt9 k hk),hHno' k (hlt9 k hk)⟩) hw hres ho (fun k B hk=>by rw [s0] at hbo; exact hbo _ (O3 hk)) (fun k hk=>by
  rw [s0] at hks
  have:=hks k hk
  rw [Bool.or_eq_true,beq_iff_eq] at this
  rcases this with h | h
  ·exact .inl fun e=>by rw [e] at h; cases h
  ·subst h; exact .inr (h9 (by rw [List.contains_iff_mem]; exact hk))) (fun i j hi _ _ hlo=>by rw [G.lo] at hlo; cases hlo) (fun j _ hj=>absurd (G.p0 j rfl) hj)) (fun t=>rfl) (fun k=>?_)) hn
 ·show (pre++H).lookup k=some B
  rw [T1,f0j hp (hh k B hk),l0,hk]
 ·show (hbR++H').lookup k=(H'++hbR).lookup k
  rw [T1,T1]
  cases e:hbR.lookup k with
  | none=>simp
  | some B=>rw [hHno' k (hlt9 k (by rw [e]; simp))]; rfl
theorem W1c {E:Env}{st st0:Nat→Bool}{F:Fr}{nt:Nat}(G:GFr E st0 [] nt F)(hng:E.ng≤F.w0.heap.size){ops:Array Oper}{d:Nat}{f:FuncId}{op:Op}{T:TypeId}{pos:String}{aft:Array Edge}{xs:List PV}{sl:List (Nat×PV)}{pre H H':List (Nat×Blk)}{r:PV}{rs:List (Operand×PV)}{os:List Oper}{K:St→Prop}(ks:List Nat)(slR:List (Nat×PV))(hbR:List (Nat×Blk))(hs:I4 E st f xs H H' r)(hlt:d<F.nt)
  (hargs:∀ ρ S a w,b5 F ρ S a w→(∀ p∈rs,S.opd p.1=some p.2)→∃ vals:List Value,(execOp a.eval ⟨some d,op,T,pos,aft,none⟩).run E.P w = .ok (.enter f vals.toArray) w∧D3 S.blk ρ (okI F S.blk ρ) (hp w) xs vals)
  (hr:v8 ⟨sl,pre++H⟩ rs) (hh:∀ k B,H.lookup k=some B→900≤k) (hh':∀ k B,H'.lookup k=some B→900≤k) (nd:(H.map (·.1)).Nodup) (nd':(H'.map (·.1)).Nodup) (hw:Whole H') (hres:∀ q,r.free q=false→H'.lookup q≠none) (h9:ks.contains 999=true→∃ B0 B1,st 999=true∧H.lookup 999=some B0∧H'.lookup 999=some B1∧B1.sz=B0.sz∧B1.cs.len=B0.cs.len)
  (hp:P0a pre=true) (hR:T5 ⟨[],pre⟩ hbR) (hR9:P0a hbR=true) (hsl:e7 ⟨sl,pre++H⟩ slR) (hd:slR.lookup d=none) (ho:(slR.all fun p=>p.2.only ks)=true) (hbo:(hbR.all fun p=>p.2.cs.only ks)=true) (hks:(ks.all fun k=>(hbR.lookup k).isSome || k == 999)=true)
  (hn:g0f E.P F ops os ⟨(d,r) :: slR,hbR⟩ K):g0f E.P F ops (⟨some d,op,T,pos,aft,none⟩ :: os) ⟨sl,pre++H⟩ K:=by
 have hlt9:∀ k,hbR.lookup k≠none→k<900:=fun k hk=>by
  apply Classical.byContradiction
  intro h
  exact hk (f0j hR9 (by omega))
 have hHno:∀ k,k<900→H.lookup k=none:=fun k hk=>by
  cases e:H.lookup k with
  | none=>rfl
  | some B=>have:=hh k B e; omega
 have hHno':∀ k,k<900→H'.lookup k=none:=fun k hk=>by
  cases e:H'.lookup k with
  | none=>rfl
  | some B=>have:=hh' k B e; omega
 refine .cons (n1x (S1:=⟨(d,r) :: slR,H'++hbR⟩) (S2:=⟨(d,r) :: slR,hbR⟩) (J1g (H:=H) (H':=H') G.g G.x hng ks slR hbR hs hlt hargs hr (y5 nd fun k B hk=>?_) hsl (y0y hR) hd nd nd' (fun k hk=>⟨hHno k (hlt9 k hk),hHno' k (hlt9 k hk)⟩) hw hres ho (fun k B hk=>by rw [s0] at hbo; exact hbo _ (O3 hk)) (fun k hk=>by
  rw [s0] at hks
  have:=hks k hk
  rw [Bool.or_eq_true,beq_iff_eq] at this
  rcases this with h | h
  ·exact .inl fun e=>by rw [e] at h; cases h
  ·subst h; exact .inr (h9 (by rw [List.contains_iff_mem]; exact hk))) (fun i j hi _ _ hlo=>by rw [G.lo] at hlo; cases hlo) (fun j _ hj=>absurd (G.p0 j rfl) hj)) ⟨fun t v h=>h,fun k B h=>?_⟩) hn
 ·show (pre++H).lookup k=some B
  rw [T1,f0j hp (hh k B hk),l0,hk]
 ·show (H'++hbR).lookup k=some B
  rw [T1,hHno' k (hlt9 k (by rw [show hbR.lookup k=some B from h]; simp)),l0]; exact h
end Go.Proofs.YtjagfionflbjbaaGreat.SH
set_option maxRecDepth 100000
set_option maxHeartbeats 4000000
namespace Go.Proofs.YtjagfionflbjbaaGreat.N
open Go Go.Proofs.YtjagfionflbjbaaGreat.SH Go.Proofs.YtjagfionflbjbaaGreat.NumA
open Go.Proofs.Tryz renaming call13→cl13,call40→cl40,call50→cl50,call51→cl51,call52→cl52,call53→cl53,call54→cl54,call55→cl55,call56→cl56,isAgg22→ag22,isAgg24→ag24,isAgg27→ag27,isAgg3→ag3,isAgg40→ag40,isAgg47→ag47,isAgg77→ag77,sizeOf22→sz22,sizeOf24→sz24,sizeOf27→sz27,sizeOf3→sz3,sizeOf40→sz40,sizeOf45→sz45,sizeOf47→sz47,sizeOf77→sz77,typeInfo40→ti40,underlying22→un22,underlying24→un24,underlying27→un27,underlying40→un40,underlying47→un47,underlying77→un77,underlying79→un79,zeroValue24→zv24,zeroValue27→zv27,zeroValue3→zv3,zeroValue47→zv47
theorem G1x {s:Bool}{m b:List (List Rat)}:∀ k B,(i5 s m b).lookup k=some B→900≤k:=fun k B h=>by
 have:=d0c (f6 s m b) _ (O3 h)
 simp only at this; omega
theorem P0c {s:Bool}{b:List (List Rat)}:∀ k B,(bsT s b).lookup k=some B→900≤k:=fun k B h=>by
 have:=d0c (w5 s b) _ (O3 h)
 simp only at this; omega
theorem h0a {s:Bool}{c:Nat}{m b:List (List Rat)}{v:PV}:∀ k B,([wU c m v]++i5 s m b).lookup k=some B→900≤k:=fun k B h=>by
 rw [List.singleton_append,i0] at h
 by_cases e:k=999
 ·omega
 ·rw [show (k == 999)=false by simpa using e] at h; exact G1x k B h
theorem g0y {s:Bool}{c:Nat}{m b:List (List Rat)}{v:PV}:(([wU c m v]++i5 s m b).map (·.1)).Nodup:=by
 rw [List.singleton_append,R0,List.nodup_cons]
 refine ⟨fun hm=>?_,(f6 s m b).nd⟩
 obtain ⟨⟨q,B⟩,hp,e⟩:=G0.1 hm
 have:=d0c (f6 s m b) _ hp
 simp only at this e; omega
theorem w1h {b:List (List Rat)}:(bsT true b).lookup 1002=some (hdB 1 b):=hdL
theorem V0h {s:Bool}{c n:Nat}{m b:List (List Rat)}:Whole ([wU c m (bv s n)]++i5 s m b):=by
 intro j B hj i x hx q hq
 rw [T1] at hj
 cases e:([wU c m (bv s n)]:List (Nat×Blk)).lookup j with
 | none =>
  rw [e,l0] at hj
  exact I8 ((f6 s m b).whole j B hj i x hx q hq)
 | some C =>
  rw [e,K0] at hj
  injection hj with hj
  subst hj
  obtain rfl:C=(wU c m (bv s n)).2:=by
   simp only [i0,List.lookup_nil] at e
   split at e
   ·injection e with e; exact e.symm
   ·cases e
  have hx:[rvV 1001 (V4 0 0 m),PV.p (vZ c),bv s n][i]? = some x:=hx
  have hm:=M1 hx
  simp only [List.mem_cons,List.not_mem_nil,or_false] at hm
  rcases hm with rfl | rfl | rfl
  ·cases m with
   | nil=>cases hq
   | cons r m =>
    rw [K0w hq]
    refine I8 ?_
    rw [N0v sM,f1m]; simp
  ·cases hq
  ·cases s
   ·cases hq
   ·obtain rfl:1002=q:=by simpa [bv,PV.free] using hq
    refine I8 ?_
    rw [i5,T1,w1h]
    cases (y0f 0 m).lookup 1002 <;> simp
theorem N0h {s:Bool}{c:Nat}{m b:List (List Rat)}{v:PV}:∀ q,(PV.at_ 999 0 3).free q=false→([wU c m v]++i5 s m b).lookup q≠none:=fun q h=>by
 obtain rfl:999=q:=by simpa [PV.free] using h
 simp [i0]
theorem K1p {s:Bool}{c:Nat}{m m' b b':List (List Rat)}{v v':PV}{p:Prop}:p→∃ B0 B1,B8 999=true∧([wU c m v]++i5 s m b).lookup 999=some B0∧([wU c m' v']++i5 s m' b').lookup 999=some B1∧B1.sz=B0.sz∧B1.cs.len=B0.cs.len:=fun _=>⟨_,_,rfl,rfl,rfl,rfl,rfl⟩
def nob (n:Nat):List (List Rat):=List.replicate n []
theorem v1w {n:Nat}:RC n 0 (nob n):=⟨by simp [nob],fun r hr=>by obtain ⟨_,rfl⟩:=List.mem_replicate.1 hr; rfl⟩
theorem h1y (n B DB:Nat)(M:List (List Rat))(h:MOk n M)(hB1:MB B M)(hn:M.length=n)(H:EU n n 0 B DB M (nob n)):I4 E (fun _=>true) 31 [.p (pMq n M)] ([]) ([]) (.p (.tup [pQ (n1b n M (nob n)),vZ 0])):=by
 refine n4 (xs:=[pQ (n1b n M (nob n)),vZ 0]) Tryz.func31 rfl Tryz.ntmps31 Tryz.results31 sM fun F G=>?_
 have L:=@lti _ _ G.nt
 have hG:=G.g
 have hX:=G.x
 have hN:=W5 hG
 have P0:=G.p0
 have hb:=H.bl
 subst hn
 refine exr (swb (R3 (k:=1) (n:=2) pa2 rfl rfl (P0 _ rfl) L) t1 t0 ⟨rfl,rfl⟩ (swb (T3 (k:=2) (n:=4) zv47 (.cons rfl (.cons rfl (.cons rfl (.cons rfl .nil)))) rfl (P0 _ rfl) L) t0 t0 ⟨rfl,rfl⟩ (aV L rfl (zn [(1,_),(2,_)] [(1,_),(2,_)] t2 t2 (R1 (exr (lp2 ag24 sz24 L rfl rfl (cK hG hX cl40 hN (D6 h hB1 oM) L t1 (sw (P3 L) t1 t0 (zn [(1,_),(2,_),(8,_)] [(1,_),(2,_)] t3 t2 (W3 rfl rfl ?_)))))))))))
 refine U1 (xq ?_)
 refine R1 (exr (sw (Z1 un24 rfl sz22 dC rX L) t1 t1 ?_))
 refine sw (Y1 ag22 rF rF L) t1 t1 ?_
 refine sw (R2 un22 L) t1 t0 (sw (Z1 un24 rfl sz3 dC rX L) t1 t1 ?_)
 refine sw (Y1 ag3 rF rF L) t1 t1 ?_
 refine sw (c_n L) t2 t0 (zn [(1,_),(2,_),(15,_)] [(1,_),(2,_)] t3 t2 (W3 rfl sM ?_))
 refine U1 (xq ?_)
 refine k0w (nsw (l6 ag24 sz24 rF (by exact al2) rfl L) t1 t1 ?_)
 refine nsU (pre:=[_,_]) (H:=bsT false (nob M.length)) G hN [1,2] [(1,.at_ 1 0 2),(2,.at_ 2 0 4)] [(1,_),(2,_)] (g0g false M.length M.length M (nob M.length) H.rc H.nl H.cl) L (C4 (ys:=[_,_]) cl50 rfl rfl) t2 P0c h0a (w5 _ _).nd g0y V0h N0h (fun h=>by cases h) rfl t2 rfl t2 rfl rfl rfl rfl ?_
 refine W1c (pre:=[_,_]) (H:=[wU M.length M (bv false M.length)]++i5 false M (nob M.length)) G hN [1,2] [(1,.at_ 1 0 2),(2,.at_ 2 0 4)] [(1,_),(2,_)] (j0w false M.length M.length 0 B DB M (nob M.length) H) L (C4 (ys:=[_]) cl51 rfl rfl) t1 h0a h0a g0y g0y V0h (fun q h=>by cases h) (fun h=>by cases h) rfl t2 rfl t2 rfl rfl rfl rfl ?_
 refine nsw (c_m L) t1 t0 (nsw (i4 rfl L) t1 t0 (nsw (i4 rfl L) t1 t0 (D1r (T3 (k:=5) (n:=4) zv47 (.cons rfl (.cons rfl (.cons rfl (.cons rfl .nil)))) rfl (P0 _ rfl) L) t0 t0 ⟨rfl,rfl⟩ (nsw (c_a L) t1 t0 (nsb (U2 sz47 rF pa4 rfl pu4) t2 t1 ?_)))))
 refine .nil ⟨[(1,_),(2,_),(4,_),(5,_)],(1,_) :: (2,_) :: (5,_) :: [],t4,t3,?_⟩
 refine R1 (exr (mV L rfl (sw (R2 un27 L) t1 t0 (sw (Z1 un24 rfl sz3 dC rX L) t1 t1 ?_))))
 refine sw (Y1 ag3 rF rF L) t1 t1 ?_
 refine sw (d4 L) t2 t0 (zn [(2,_),(5,_),(27,_)] [(2,_),(5,_)] t3 t2 ?_)
 refine D2 rfl (fun hc=>?_) (fun hc=>?_)
 ·have hc2:=dt hc
  refine exr (cK hG hX cl55 hN (R6 0 dC dC) L t1 (sb (U2 sz47 rF pa4 rfl pu4) t2 t1 ?_))
  refine aV L rfl (zn [(2,_),(3,_)] [(2,_)] t2 t1 (V1 ?_))
  refine ⟨.inr rfl,U4.cast (.cons (.agg rfl rfl rfl ag47 sz47 (.cons (.cons (.cons (.cons .nil))))) (.cons (.tmp rfl) .nil)) ?_,trivial⟩
  rw [n1b,if_pos oM]; rfl
 ·have hc2:=df hc
  refine U1 (xq ?_)
  refine exr (lp4 ag47 sz47 L rfl rfl (sb (U2 sz47 rF pa4 rfl pu4) t2 t1 ?_))
  refine aV L rfl (zn [(2,_),(3,_)] [(2,_)] t2 t1 (V1 ?_))
  refine ⟨.inr rfl,U4.cast (.cons (.agg rfl rfl rfl ag47 sz47 (.cons (.cons (.cons (.cons .nil))))) (.cons (.tmp rfl) .nil)) ?_,trivial⟩
  rw [n1b,if_neg oM]
theorem W0x (n B DB:Nat)(M:List (List Rat))(h:MOk n M)(hB1:MB B M)(hn:M.length=n)(H:EU n n 0 B DB M (nob n)):Y2 E 31 [pMq n M] (.tup [pQ (n1b n M (nob n)),vZ 0]):=h0h (h1y n B DB M h hB1 hn H)
@[reducible] def pR0:J2:=.agg [.a (.bool false),.sl 0 [],.a (.bool false),.sl 0 []]
theorem M1c (c:Int)(m:List (List RQ))(hm:MSm m)(h:isM c m=false):Y2 E 31 [pMR c m] (.tup [pR0,vZ 3]):=by
 refine j2 (xs:=[pR0,vZ 3]) Tryz.func31 rfl Tryz.ntmps31 Tryz.results31 sM fun F hG hX0 hnt hdf P0=>?_
 obtain ⟨L,hX,hN⟩:=pro hnt hX0 hG
 refine exr (swb (R3 (k:=1) (n:=2) pa2 rfl rfl (P0 _ rfl) L) t1 t0 ⟨rfl,rfl⟩ (swb (T3 (k:=2) (n:=4) zv47 (.cons rfl (.cons rfl (.cons rfl (.cons rfl .nil)))) rfl (P0 _ rfl) L) t0 t0 ⟨rfl,rfl⟩ (aV L rfl (zn [(1,_),(2,_)] [(1,_),(2,_)] t2 t2 (R1 (exr (lp2 ag24 sz24 L rfl rfl (cK hG hX cl40 hN (w6 c m hm) L t1 (sw (P3 L) t1 t0 (zn [(1,_),(2,_),(8,_)] [(1,_),(2,_)] t3 t2 (i6 rfl (by rw [h]; rfl) ?_)))))))))))
 refine exr (sw (Y7 (E6 (vs:=[]) un47 zv47 (.cons rfl (.cons rfl (.cons rfl (.cons rfl .nil)))) ((y2.cons sz45 (y2.cons sz45 y2.nil))).to rfl .nil (.cons (.cons (.cons (.cons .nil)))) L) (.agg (.cons .same (.cons .nil (.cons .same (.cons .nil .nil)))))) t0 t0 (sb (U2 sz47 rF pa4 rfl pu4) t2 t1 ?_))
 refine aV L rfl (zn [(2,_),(3,_)] [(2,_)] t2 t1 (V1 ?_))
 refine Y0 (.agg rfl rfl rfl ag47 sz47 (.cons (.cons (.cons (.cons .nil))))) (.tmp rfl) ?_
 rfl
theorem H1p (c B:Nat)(M:List (List Rat))(h:MOk c M)(hB:MB B M)(hb:B<1000000000)(hn:M.length≠c):Y2 E 31 [pMq c M] (.tup [pR0,vZ 1]):=by
 refine j2 (xs:=[pR0,vZ 1]) Tryz.func31 rfl Tryz.ntmps31 Tryz.results31 sM fun F hG hX0 hnt hdf P0=>?_
 obtain ⟨L,hX,hN⟩:=pro hnt hX0 hG
 refine exr (swb (R3 (k:=1) (n:=2) pa2 rfl rfl (P0 _ rfl) L) t1 t0 ⟨rfl,rfl⟩ (swb (T3 (k:=2) (n:=4) zv47 (.cons rfl (.cons rfl (.cons rfl (.cons rfl .nil)))) rfl (P0 _ rfl) L) t0 t0 ⟨rfl,rfl⟩ (aV L rfl (zn [(1,_),(2,_)] [(1,_),(2,_)] t2 t2 (R1 (exr (lp2 ag24 sz24 L rfl rfl (cK hG hX cl40 hN (D6 h hB hb) L t1 (sw (P3 L) t1 t0 (zn [(1,_),(2,_),(8,_)] [(1,_),(2,_)] t3 t2 (W3 rfl rfl ?_)))))))))))
 refine U1 (xq ?_)
 refine R1 (exr (sw (Z1 un24 rfl sz22 dC rX L) t1 t1 ?_))
 refine sw (Y1 ag22 rF rF L) t1 t1 ?_
 refine sw (R2 un22 L) t1 t0 (sw (Z1 un24 rfl sz3 dC rX L) t1 t1 ?_)
 refine sw (Y1 ag3 rF rF L) t1 t1 ?_
 refine sw (c_n L) t2 t0 (zn [(1,_),(2,_),(15,_)] [(1,_),(2,_)] t3 t2 (i6 rfl sO (exr (sw (Y7 (E6 (vs:=[]) un47 zv47 (.cons rfl (.cons rfl (.cons rfl (.cons rfl .nil)))) ((y2.cons sz45 (y2.cons sz45 y2.nil))).to rfl .nil (.cons (.cons (.cons (.cons .nil)))) L) (.agg (.cons .same (.cons .nil (.cons .same (.cons .nil .nil)))))) t0 t0 (sb (U2 sz47 rF pa4 rfl pu4) t2 t1 ?_)))))
 refine aV L rfl (zn [(2,_),(3,_)] [(2,_)] t2 t1 (V1 ?_))
 refine Y0 (.agg rfl rfl rfl ag47 sz47 (.cons (.cons (.cons (.cons .nil))))) (.tmp rfl) ?_
 rfl
theorem F0p {β:Nat→Option Blk}{z:List Nat}{s:Nat}:∀ {i:Nat} {m:List (List Rat)},(∀ j,j<m.length→z.contains (G3 s (i+j))=true∧β (G3 s (i+j))=some (q4 (m.getD j [])))→CvP β z (V4 s i m) (O5 m)
 | _,[],_=>.nil
 | i,v :: m,h=>by
  have h0:=h 0 sM
  refine .cons (.ref h0.1 h0.2 (I3 v) rfl) (F0p fun j hj=>?_)
  have:=h (j+1) (by simpa using hj)
  rw [show i+1+j=i+(j+1) by omega]
  exact this
def bw (s:Bool)(b:List (List Rat)):PV:=if s then .p (.sl b.length (O5 b)) else .p (.a (.slice none 0 0))
@[reducible] def wD (s:Bool)(c:Nat)(m b:List (List Rat)):Nat×Blk:=(999,⟨79,3,.mix [.p (.sl m.length (O5 m)),.p (vZ c),bw s b]⟩)
theorem f1w {sl:List (Nat×PV)}{pre T:List (Nat×Blk)}{k:Nat}(hp:P0a pre=true)(hk:900≤k):St.blk ⟨sl,pre++T⟩ k=T.lookup k:=by
 show (pre++T).lookup k=_
 rw [T1,f0j hp hk,l0]
theorem y1f {s:Bool}{m b:List (List Rat)}{j:Nat}(h:j<m.length):(i5 s m b).lookup (G3 0 j)=some (q4 (m.getD j [])):=by
 rw [i5,q0x oM,T1,rwL dC h]; rfl
theorem H1j {s:Bool}{m b:List (List Rat)}(h:0<m.length):(i5 s m b).lookup 1001=some (hdB 0 m):=by
 rw [i5,q0x h,T1,show (1001:Nat)=0+1001 from rfl,hdL]; rfl
theorem h1r {m:List (List Rat)}{k:Nat}(h1:k≠1001)(h2:∀ q,k≠G3 0 q):(y0f 0 m).lookup k=none:=by
 cases e:(y0f 0 m).lookup k with
 | none=>rfl
 | some B =>
  rcases H0y dC (show (y0f 0 m).lookup k≠none by rw [e]; simp) with h | ⟨q,_,h⟩
  ·exact absurd h h1
  ·exact absurd h (h2 q)
theorem w1p {m b:List (List Rat)}:(i5 true m b).lookup 1002=some (hdB 1 b):=by
 rw [i5,T1,h1r dC (fun q=>by unfold G3; omega),l0]; exact w1h
theorem j1r {m b:List (List Rat)}{j:Nat}(h:j<b.length):(i5 true m b).lookup (G3 1 j)=some (q4 (b.getD j [])):=by
 rw [i5,T1,h1r (by unfold G3; omega) (fun q=>Ne.symm (d1q q j)),l0]; exact rwL dC h
theorem g1d {T:List (Nat×Blk)}{k:Nat}{B:Blk}(h:T.lookup k=some B):(T.map (·.1)).contains k=true:=by
 rw [List.contains_iff_mem]; exact G0.2 ⟨_,O3 h,rfl⟩
theorem Q1b {T:List (Nat×Blk)}{k:Nat}(h:R5 T)(hk:k<1000):(T.map (·.1)).contains k=false:=by
 cases e:(T.map (·.1)).contains k with
 | false=>rfl
 | true =>
  rw [List.contains_iff_mem] at e
  obtain ⟨p,hp,rfl⟩:=G0.1 e
  have:=d0c h p hp; omega
theorem d1z {P:Program}{F:Fr}{c:Code}{Q:Exit→St→Prop}{s:Bool}{cols n:Nat}{m b:List (List Rat)}{sl:List (Nat×PV)}{pre:List (Nat×Blk)}(hlo:∀ k,F.lo k=true)(hp:P0a pre=true)(hpn:(pre.map (·.1)).Nodup)(hb:s=true→b.length=n)
  (hsl:K0q ⟨sl,pre++([wU cols m (bv s n)]++i5 s m b)⟩ ((i5 s m b).map (·.1)) sl) (hn:l4 P F c ⟨sl,pre++[wD s cols m b]⟩ Q):l4 P F c ⟨sl,pre++([wU cols m (bv s n)]++i5 s m b)⟩ Q:=by
 have hT:=f6 s m b
 refine G4 ((i5 s m b).map (·.1)) (g0c (by rw [s0]; exact fun k _=>hlo k)) hsl ?_ hn
 have hbig:∀ k B,1000≤k→(i5 s m b).lookup k=some B→St.blk ⟨sl,pre++([wU cols m (bv s n)]++i5 s m b)⟩ k=some B:=fun k B hk h=>by
  rw [f1w hp oM,List.singleton_append,m7 oM,h]
 have key:∀ (l:List (Nat×Blk)),(∀ p∈l,p.1<900∧pre.lookup p.1=some p.2)→∀ r,h0w ⟨sl,pre++([wU cols m (bv s n)]++i5 s m b)⟩ ((i5 s m b).map (·.1)) r→h0w ⟨sl,pre++([wU cols m (bv s n)]++i5 s m b)⟩ ((i5 s m b).map (·.1)) (l++r):=by
  intro l
  induction l with
  | nil=>intro _ r h; exact h
  | cons p l ih =>
   intro h r hr
   obtain ⟨h1,h2⟩:=h p sM
   refine ⟨⟨Q1b hT oM,p.2,?_,.same⟩,ih (fun q hq=>h q (by simp [hq])) r hr⟩
   show (pre++_).lookup p.1=_
   rw [T1,h2]; rfl
 refine key pre (fun p hm=>⟨?_,V5 hpn hm⟩) _ ⟨⟨Q1b hT dC,⟨79,3,.mix [rvV 1001 (V4 0 0 m),.p (vZ cols),bv s n]⟩,?_,.mix (.cons ?_ (.cons .same (.cons ?_ .nil)))⟩,trivial⟩
 ·unfold P0a at hp
  rw [s0] at hp
  simpa [Nat.blt_eq] using hp p hm
 ·rw [f1w hp dC]; rfl
 ·cases m with
  | nil=>exact .p .nil
  | cons r m =>
   have h1:=H1j (s:=s) (m:=r :: m) (b:=b) sM
   have:=Cv.refm (n:=(r :: m).length) (g1d h1) (hbig _ _ dC h1) (E2 0 0 _) (Nat.mul_one _) (F0p fun j hj=>by
    rw [F1]
    have h2:=y1f (s:=s) (b:=b) hj
    exact ⟨g1d h2,hbig _ _ (by unfold G3; omega) h2⟩)
   simpa [rvV,V4] using this
 ·cases s with
  | false=>exact .same
  | true =>
   have hb':=hb rfl
   subst hb'
   have h1:=w1p (m:=m) (b:=b)
   have:=Cv.refm (n:=b.length) (g1d h1) (hbig _ _ dC h1) (E2 1 0 _) (Nat.mul_one _) (F0p fun j hj=>by
    rw [F1]
    have h2:=j1r (m:=m) hj
    exact ⟨g1d h2,hbig _ _ (by unfold G3; omega) h2⟩)
   exact this
@[reducible] def pIs (l:List Nat):J2:=.sl l.length (Z6 l)
theorem k1x {m:List (List Rat)}{k:Nat}:(O5 m).take k=O5 (m.take k):=by simp [O5,List.map_take]
theorem G0y (n c B DB:Nat)(M:List (List Rat))(h:MOk c M)(hB1:MB B M)(hn:M.length=n)(H:EU n c 0 B DB M (nob n)):I4 E (fun _=>true) 13 [.p (pMq c M)] ([]) ([]) (.p (.tup [pMq c ((ech M (nob n) c).m.take (ech M (nob n) c).pv.length),pIs (ech M (nob n) c).pv,vZ 0])):=by
 refine n4 (xs:=[pMq c ((ech M (nob n) c).m.take (ech M (nob n) c).pv.length),pIs (ech M (nob n) c).pv,vZ 0]) Tryz.func13 rfl Tryz.ntmps13 Tryz.results13 sM fun F G=>?_
 have L:=@lti _ _ G.nt
 have hG:=G.g
 have hX:=G.x
 have hN:=W5 hG
 have P0:=G.p0
 have hb:=H.bl
 subst hn
 have hsp:=D7 H.rc H.rb c (Nat.le_refl _)
 refine exr (swb (R3 (k:=1) (n:=2) pa2 rfl rfl (P0 _ rfl) L) t1 t0 ⟨rfl,rfl⟩ (swb (T3 (k:=2) (n:=2) zv24 (.cons rfl (.cons rfl .nil)) rfl (P0 _ rfl) L) t0 t0 ⟨rfl,rfl⟩ (aV L rfl (aV L rfl (zn [(1,_),(2,_)] [(1,_),(2,_)] t2 t2 (R1 (exr (lp2 ag24 sz24 L rfl rfl (cK hG hX cl40 hN (D6 h hB1 oM) L t1 (sw (P3 L) t1 t0 (zn [(1,_),(2,_),(10,_)] [(1,_),(2,_)] t3 t2 ?_)))))))))))
 refine W3 rfl rfl ?_
 refine U1 (xq ?_)
 refine k0w (nsw (l6 ag24 sz24 rF (by exact al2) rfl L) t1 t1 ?_)
 refine nsU (pre:=[_,_]) (H:=bsT false (nob M.length)) G hN [1,2] [(1,.at_ 1 0 2),(2,.at_ 2 0 2)] [(1,_),(2,_)] (g0g false M.length c M (nob M.length) H.rc H.nl H.cl) L (C4 (ys:=[_,_]) cl50 rfl rfl) t2 P0c h0a (w5 _ _).nd g0y V0h N0h (fun h=>by cases h) rfl t2 rfl t2 rfl rfl rfl rfl ?_
 refine nsw (c_a L) t1 t0 ?_
 refine .nil ⟨[(1,_),(2,_),(5,_)],(1,_) :: (2,_) :: (999,_) :: (i5 false M (nob M.length)),t3,⟨rfl,rfl,rfl,(hbT [_,_,_] (f6 false M (nob M.length)) rfl)⟩,?_⟩
 refine k0w (nsw (c_m L) t1 t0 (nsU (pre:=[_,_]) (H:=[wU c M (bv false M.length)]++i5 false M (nob M.length)) G hN [1,2,999] [(1,.at_ 1 0 2),(2,.at_ 2 0 2),(5,.at_ 999 0 3)] [(1,_),(2,_)] (j0w false M.length c 0 B DB M (nob M.length) H) L (C4 (ys:=[_]) cl51 rfl rfl) t1 h0a h0a g0y g0y V0h (fun q h=>by cases h) K1p rfl t2 rfl t3 rfl rfl rfl rfl ?_))
 refine nsw (c_m L) t1 t0 (nsw (i4 rfl L) t1 t0 (nsw (i4 rfl L) t1 t0 (D1r (T3 (k:=7) (n:=4) zv47 (.cons rfl (.cons rfl (.cons rfl (.cons rfl .nil)))) rfl (P0 _ rfl) L) t0 t0 (frT [_,_,_] (f6 false (ech M (nob M.length) c).m (ech M (nob M.length) c).b) rfl rfl (by simp [F3,X2,Cells.free,PV.freeL,PV.free,X3,i3])) ?_)))
 refine nsw (c_a L) t1 t0 (nsb (U2 sz47 rF pa4 rfl pu4) t2 t1 ?_)
 refine .nil ⟨[(1,_),(2,_),(5,_),(6,_)],(1,_) :: (2,_) :: (999,_) :: (i5 false (ech M (nob M.length) c).m (ech M (nob M.length) c).b),t4,⟨rfl,rfl,rfl,(hbT [_,_,_,_,_] (f6 false (ech M (nob M.length) c).m (ech M (nob M.length) c).b) rfl)⟩,?_⟩
 refine d1z (pre:=[_,_]) (fun k=>by rw [G.lo]; rfl) rfl sM (fun h=>by cases h) ⟨⟨_,rfl,.same⟩,⟨_,rfl,.same⟩,⟨_,rfl,.same⟩,⟨_,rfl,.same⟩,trivial⟩ ?_
 have hle:=hsp.2.2.1.le
 have hml:=hsp.1.1
 refine exd rF ?_
 refine sw (Z1 un24 rfl sz3 dC rX L) t1 t1 ?_
 refine sw (Y1 ag3 rF rF L) t1 t1 ?_
 refine mV L rfl (sw (Z2 rX L) t1 t1 ?_)
 refine sw (Z1 un79 rfl sz77 dC rX L) t1 t1 ?_
 refine sw (Y1 ag77 rF rF L) t1 t1 ?_
 refine mV L rfl (sw (R2 un27 L) t1 t0 (mV L rfl (sw (R2 un27 L) t1 t0 (sw (V1y un77 sz40 (h:=(ech M (nob M.length) c).pv.length) rO oM (by rw [Nat.mul_one,k1x]) L) t3 t0 ?_))))
 refine sw (E6 (vs:=[_,_]) un24 zv24 (.cons rfl (.cons rfl .nil)) ((y2.cons sz3 (y2.cons sz22 y2.nil))).to rfl (.cons rfl (.atom rfl) rfl pu1 (.cons rfl .sl rfl (.skip pu1) .nil)) (.cons (.cons .nil)) L) t2 t0 (mV L rfl (sb (U2 sz24 rF pa2 rfl pu2) t2 t1 ?_))
 refine aV L rfl (aV L rfl ?_)
 refine O1 ⟨B5 [⟨[1],[1],[19],[]⟩,⟨[19],[1],[20],[]⟩,⟨[5],[],[21],[]⟩,⟨[21],[999],[22],[]⟩,⟨[22],[999],[23],[]⟩,⟨[23],[999],[24],[]⟩,⟨[6],[],[25],[]⟩,⟨[25],[],[26],[]⟩,⟨[6],[],[27],[]⟩,⟨[27],[],[28],[]⟩,⟨[24,26,28],[],[29],[]⟩,⟨[20,29],[],[30],[]⟩,⟨[6],[],[31],[]⟩,⟨[2,30],[2],[],[2]⟩,⟨[31],[],[3],[]⟩,⟨[],[],[4],[]⟩] rF rF dC,[(2,_),(3,_),(4,_)],[(2,_)],t3,t1,?_⟩
 refine V1 ?_
 refine ⟨.inr rfl,U4.cast (.cons (.agg rfl rfl rfl ag24 sz24 (.cons (.cons .nil))) (.cons (.tmp rfl) (.cons (.tmp rfl) .nil))) ?_,trivial⟩
 rw [pMq,J0,G1 oM]
theorem p1a {pv:List Nat}{i:Nat}(h:i<pv.length):(Z6 pv)[i]? = some (vZ (pv.getD i 0:Nat)):=by
 simp [Z6,h,f0]
@[reducible] def bK (pv:List Nat)(c:Nat):List (Nat×Blk):=[(5,⟨27,1,.mix [.p (pIs pv)]⟩),(8,⟨3,1,.mix [.p (vZ c)]⟩)]
theorem m1d (pv:List Nat)(c i:Nat)(hi:i<pv.length)(hl:pv.length<1000):I4 E (fun _=>true) 53 [.p (vZ i),.at_ 5 0 1,.at_ 8 0 1] (bK pv c) (bK pv c) (.p (bZ (decide (pv.getD i 0=c)))):=by
 refine n4 (xs:=[bZ (decide (pv.getD i 0=c))]) Tryz.func53 rfl Tryz.ntmps53 Tryz.results53 sM fun F G=>?_
 have L:=@lti _ _ G.nt
 have hG:=G.g
 have hX:=G.x
 have hN:=W5 hG
 have P0:=G.p0
 refine exr (aV L rfl (zn [(0,_),(1,_),(2,_)] [(5,_),(8,_)] t3 t2 (exd rF ?_)))
 refine sw (Y1 ag27 rF rF L) t1 t1 ?_
 refine mV L rfl (sw (ixJ un27 sz3 (j:=i) rO oM sM L) t2 t0 ?_)
 refine sw (v4 ag3 (p1a hi) L) t1 t0 (sw (Y1 ag3 rF rF L) t1 t1 ?_)
 refine sw (c_e L) t2 t0 (aV L rfl ?_)
 refine O1 ⟨B5 [⟨[1],[5],[5],[]⟩,⟨[0],[],[6],[]⟩,⟨[5,6],[],[7],[]⟩,⟨[7],[],[8],[]⟩,⟨[2],[8],[9],[]⟩,⟨[8,9],[],[10],[]⟩,⟨[10],[],[4],[]⟩] rF rF dC,[(4,_)],[(5,_),(8,_)],t1,t2,?_⟩
 refine V1 ?_
 refine ⟨.inr rfl,U4.cast (.cons (.tmp rfl) .nil) ?_,t2⟩
 rw [show decide ((pv.getD i 0:Int)=c)=decide (pv.getD i 0=c) from decide_eq_decide.2 oM]
theorem H0m {pv:List Nat}{c:Nat}:0≤L4 (fun i=>decide (pv.getD i 0=c)) 0 (pv.length - 0)↔c∈pv:=by
 constructor
 ·intro h
  obtain ⟨h1,h2,h3,h4⟩:=f0v (show ¬ L4 (fun i=>decide (pv.getD i 0=c)) 0 (pv.length - 0)<0 by omega)
  have h3:pv.getD (L4 (fun i=>decide (pv.getD i 0=c)) 0 (pv.length - 0)).toNat 0=c:=by simpa using h3
  rw [← h3]; exact e9 oM
 ·intro h
  apply Classical.byContradiction
  intro hn
  obtain ⟨i,hi,e⟩:=M1m h
  have:=b0s (show L4 (fun i=>decide (pv.getD i 0=c)) 0 (pv.length - 0)<0 by omega) i (Nat.zero_le _) oM
  simp only [decide_eq_false_iff_not] at this
  exact this e
theorem V1j {sl:List (Nat×PV)}{pre:List (Nat×Blk)}{xs:List J2}{e:TypeId}(hp:n6 pre=true)(hf:xs=[]→(F3 1003 sl && X2 1003 pre)=true):g0n ⟨sl,pre++pvB 1003 e xs⟩ (pvF 1003 xs):=by
 cases xs with
 | cons a l=>trivial
 | nil =>
  have h:=hf rfl
  simp only [j0] at h
  refine ⟨?_,?_⟩
  ·show (pre++_).lookup 1003=none
   rw [T1,q5 hp dC,l0]; rfl
  ·show (F3 1003 sl && X2 1003 (pre++_))=true
   rw [R4,h.1,h.2]; rfl
theorem Q1j {sl:List (Nat×PV)}{r:List (Nat×Blk)}{xs:List J2}{y:J2}{e:TypeId}:T5 ⟨sl,pvB 1003 e (xs++[y])++r⟩ (pvB 1003 e (xs++[y])):=by
 obtain ⟨C,hC⟩:=F0h (xs:=xs) (y:=y) (k:=1003) (e:=e)
 rw [hC]
 exact ⟨by show List.lookup 1003 _=_; simp,trivial⟩
theorem P1q {sl:List (Nat×PV)}{pre:List (Nat×Blk)}{xs:List J2}{e:TypeId}(hp:n6 pre=true):Cv (St.blk ⟨sl,pre++pvB 1003 e xs⟩) [1003] (pvV 1003 xs) (.p (.sl xs.length xs)):=by
 cases xs with
 | nil=>exact .p .nil
 | cons a l =>
  have hB:St.blk ⟨sl,pre++pvB 1003 e (a :: l)⟩ 1003=some ⟨e,1,.pure (a :: l)⟩:=by
   show (pre++_).lookup 1003=_
   rw [T1,q5 hp dC]; rfl
  exact Cv.ref (n:=(a :: l).length) (z:=[1003]) rfl hB rfl (Nat.mul_one _)
theorem j5:R5 []:=⟨fun _ _=>rfl,List.nodup_nil,fun _ _=>rfl,fun j B hj=>by cases hj⟩
theorem m1w {f:Nat}{pv:List Nat}{c:Nat}{m:List (List Rat)}:(R8 (f+1) pv).map (d0k c pv m)=(R8 f pv).map (d0k c pv m)++if f∈pv then [] else [d0k c pv m f]:=by
 rw [R8,List.range_succ,List.filter_append,List.map_append,← R8]
 congr 1
 by_cases h:f∈pv
 ·rw [if_pos h,List.filter_cons_of_neg (by simpa using h)]; rfl
 ·rw [if_neg h,List.filter_cons_of_pos (by simpa using h)]; rfl
theorem F0v (c:Int)(m:List (List RQ))(hm:MSm m)(h:isM c m=false):Y2 E 13 [pMR c m] (.tup [pMq 0 [],.sl 0 [],vZ 3]):=by
 refine j2 (xs:=[pMq 0 [],.sl 0 [],vZ 3]) Tryz.func13 rfl Tryz.ntmps13 Tryz.results13 sM fun F hG hX0 hnt hdf P0=>?_
 obtain ⟨L,hX,hN⟩:=pro hnt hX0 hG
 refine exr (swb (R3 (k:=1) (n:=2) pa2 rfl rfl (P0 _ rfl) L) t1 t0 ⟨rfl,rfl⟩ (swb (T3 (k:=2) (n:=2) zv24 (.cons rfl (.cons rfl .nil)) rfl (P0 _ rfl) L) t0 t0 ⟨rfl,rfl⟩ (aV L rfl (aV L rfl (zn [(1,_),(2,_)] [(1,_),(2,_)] t2 t2 (R1 (exr (lp2 ag24 sz24 L rfl rfl (cK hG hX cl40 hN (w6 c m hm) L t1 (sw (P3 L) t1 t0 (zn [(1,_),(2,_),(10,_)] [(1,_),(2,_)] t3 t2 ?_)))))))))))
 refine i6 rfl (by rw [h]; rfl) ?_
 refine exr (sw (Y7 (E6 (vs:=[]) un24 zv24 (.cons rfl (.cons rfl .nil)) ((y2.cons sz3 (y2.cons sz22 y2.nil))).to rfl .nil (.cons (.cons .nil)) L) (.agg (.cons .same (.cons .nil .nil)))) t0 t0 (sb (U2 sz24 rF pa2 rfl pu2) t2 t1 ?_))
 refine aV L rfl (aV L rfl (zn [(2,_),(3,_),(4,_)] [(2,_)] t3 t1 (G4 [] (sl:=[(2,_),(3,_),(4,_)]) (hb:=[(2,_)]) (M3 hX0) ⟨⟨_,rfl,.same⟩,⟨_,rfl,(.p .nil)⟩,⟨_,rfl,.same⟩,trivial⟩ ⟨⟨rfl,_,rfl,.same⟩,trivial⟩ (V1 ?_))))
 refine P1 (.agg rfl rfl rfl ag24 sz24 (.cons (.cons .nil))) (.tmp rfl) (.tmp rfl) ?_
 rfl
theorem f0s (n c B DB:Nat)(M:List (List Rat))(h:MOk c M)(hB1:MB B M)(hn:M.length=n)(H:EU n c 0 B DB M (nob n)):Y2 E 13 [pMq c M] (.tup [pMq c ((ech M (nob n) c).m.take (ech M (nob n) c).pv.length),pIs (ech M (nob n) c).pv,vZ 0]):=h0h (G0y n c B DB M h hB1 hn H)
theorem j1q (c:Int)(m:List (List RQ))(hm:MSm m)(h:isM c m=false):Y2 E 14 [pMR c m] (.tup [.sl 0 [],vZ 3]):=by
 refine j2 (xs:=[.sl 0 [],vZ 3]) Tryz.func14 rfl Tryz.ntmps14 Tryz.results14 sM fun F hG hX0 hnt hdf P0=>?_
 obtain ⟨L,hX,hN⟩:=pro hnt hX0 hG
 refine exr (swb (R3 (k:=1) (n:=2) pa2 rfl rfl (P0 _ rfl) L) t1 t0 ⟨rfl,rfl⟩ (aV L rfl (aV L rfl (zn [(1,_)] [(1,_)] t1 t1 (exr (lp2 ag24 sz24 L rfl rfl (cK hG hX cl13 hN (F0v c m hm h) L t1 (mV L rfl (sw (i4 rfl L) t1 t0 (sw (i4 rfl L) t1 t0 (sw (i4 rfl L) t1 t0 ?_)))))))))))
 refine swb (T3 (k:=4) (n:=2) zv24 (.cons rfl (.cons rfl .nil)) rfl (P0 _ rfl) L) t0 t0 ⟨rfl,rfl⟩ (swb (T3 (k:=5) (n:=1) zv27 (.cons rfl .nil) rfl (P0 _ rfl) L) t0 t0 ⟨rfl,rfl⟩ (sb (U2 sz24 rF pa2 rfl pu2) t2 t1 ?_))
 refine sb (U2 sz27 rF .sl rfl pu1) t2 t1 ?_
 refine aV L rfl (zn [(1,_),(4,_),(5,_),(6,_)] [(1,_),(4,_),(5,_)] t4 t3 (R1 (exr (mV L rfl (sw (c_n L) t2 t0 (zn [(1,_),(4,_),(5,_),(6,_),(19,_)] [(1,_),(4,_),(5,_)] t5 t3 (i6 rfl rfl (exr (mV L rfl (aV L rfl (aV L rfl ?_)))))))))))
 refine zn [(2,_),(3,_)] [] t2 trivial (G4 [] (sl:=[(2,_),(3,_)]) (hb:=[]) (M3 hX0) ⟨⟨_,rfl,(.p .nil)⟩,⟨_,rfl,.same⟩,trivial⟩ t0 (V1 ?_))
 refine Y0 (.tmp rfl) (.tmp rfl) ?_
 rfl
theorem p1m {c f:Nat}{pv:List Nat}{m:List (List Rat)}:(d0k c pv m f).length=c:=by simp [d0k]
theorem y1q {c f:Nat}{pv:List Nat}{m:List (List Rat)}(hf:f<1000):((R8 f pv).map (d0k c pv m)).length<1000:=by
 rw [O0,R8]
 have:=List.length_filter_le (fun g=>!pv.contains g) (List.range f)
 rw [List.length_range] at this; omega
theorem J1s {β:Nat→Option Blk}{z:List Nat}{k n:Nat}{v:List Rat}(hz:z.contains k=true)(hb:β k=some (q4 v))(hv:v.length=n):Cv β z (.ref k 0 n (n*4)) (.p (pV v)):=by
 subst hv
 exact .ref hz hb (I3 v) rfl
theorem F1k {sl:List (Nat×PV)}{pre pre' T:List (Nat×Blk)}{z:List Nat}(hT:R5 T)(hp:n6 pre=true)(hb:T5 ⟨[],pre⟩ pre')(hz:(z.all fun k=>Nat.blt k 1000)=true)(hz':(pre'.all fun p=>!z.contains p.1)=true):h0w ⟨sl,pre++T⟩ z (pre'++T):=by
 refine p0m fun p hp2=>?_
 rcases List.mem_append.1 hp2 with h | h
 ·rw [s0] at hz'
  refine ⟨by simpa using hz' p h,?_⟩
  show (pre++T).lookup p.1=_
  rw [T1,n0w hb h]; rfl
 ·have h1:=V5 (j:=p.1) (B:=p.2) hT.nd h
  have h3:=d0c hT p h
  refine ⟨?_,?_⟩
  ·cases e:z.contains p.1 with
   | false=>rfl
   | true =>
    rw [List.contains_iff_mem] at e
    rw [s0] at hz
    have:=hz _ e
    simp only [Nat.blt_eq] at this; omega
  ·show (pre++T).lookup p.1=_
   rw [T1,q5 hp h3,l0,h1]
theorem tPv {L:List (List Rat)}:R5 (pvB 1003 40 (O5 L)):=q1m dC _
theorem N1v {sl:List (Nat×PV)}{pre:List (Nat×Blk)}{e:TypeId}{xs:List J2}(hp:n6 pre=true):J6 ⟨sl,pre++pvB 1003 e xs⟩ (pvB 1003 e xs):=by
 have:=G1q (sl:=sl) (R:=[]) (k:=1003) (e:=e) (xs:=xs) pre hp dC
 rwa [List.append_nil] at this
theorem k1w {c f k:Nat}{pv:List Nat}{g:Nat→Rat}(hk:k<pv.length):(G0v pv g ((zsQ c).set f 1) k).set (pv.getD k 0) (g k)=G0v pv g ((zsQ c).set f 1) (k+1):=v0c.symm
theorem N0a (n c B DB:Nat)(M:List (List Rat))(h:MOk c M)(hB1:MB B M)(hn:M.length=n)(H:EU n c 0 B DB M (nob n)):I4 E (fun _=>true) 14 [.p (pMq c M)] ([]) ([]) (.p (.tup [.sl (Y0x c (ech M (nob n) c).pv ((ech M (nob n) c).m.take (ech M (nob n) c).pv.length)).length (O5 (Y0x c (ech M (nob n) c).pv ((ech M (nob n) c).m.take (ech M (nob n) c).pv.length))),vZ 0])):=by
 refine n4 (xs:=[.sl (Y0x c (ech M (nob n) c).pv ((ech M (nob n) c).m.take (ech M (nob n) c).pv.length)).length (O5 (Y0x c (ech M (nob n) c).pv ((ech M (nob n) c).m.take (ech M (nob n) c).pv.length))),vZ 0]) Tryz.func14 rfl Tryz.ntmps14 Tryz.results14 sM fun F G=>?_
 have L:=@lti _ _ G.nt
 have hG:=G.g
 have hX:=G.x
 have hN:=W5 hG
 have P0:∀ k,Nat.blt k 1000=true→F.pin k=none:=fun k hk=>G.p0 k (j5.low k hk)
 have hb:=H.bl
 have hcl:=H.cl
 have hsp:=D7 H.rc H.rb c (Nat.le_refl _)
 have hme:=H.me c (Nat.le_refl _)
 have hecho:=f0s n c B DB M h hB1 hn H
 obtain ⟨E',hE⟩:∃ E',E'=(ech M (nob n) c).m.take (ech M (nob n) c).pv.length:=⟨_,rfl⟩
 obtain ⟨pv,hpv⟩:∃ pv,pv=(ech M (nob n) c).pv:=⟨_,rfl⟩
 have hrc:=hsp.1
 have hR:=hsp.2.2.1
 have hEl:E'.length=pv.length:=by rw [hE,hpv,J0,hrc.1]; exact G1 hR.le
 have hEr:∀ i,i<pv.length→(E'.getD i []).length=c:=fun i hi=>by
  have hm:E'.getD i []∈E':=k0h oM
  rw [hE] at hm
  exact hrc.2 _ (by rw [hE]; exact List.mem_of_mem_take hm)
 have hEB:MB B E':=fun r hr a ha=>hme r (List.mem_of_mem_take (by rw [hE] at hr; exact hr)) a ha
 have hpl:pv.length<1000:=by have:=hR.le; have:=H.nl; rw [← hpv] at *; omega
 have hplt:∀ p∈pv,p<c:=by rw [hpv]; exact hR.lt
 rw [← hE,← hpv] at hecho ⊢
 have hlo:F.lo 1003=true:=by rw [G.lo]; rfl
 have hpin3:F.pin 1003=none:=G.p0 _ rfl
 refine exr (swb (R3 (k:=1) (n:=2) pa2 rfl rfl (P0 _ rfl) L) t1 t0 (frT [] j5 rfl rfl rfl) (aV L rfl (aV L rfl ?_)))
 refine O1 ⟨[(1,_)],(1,_) :: (([]:List (Nat×Blk))),t1,⟨rfl,(hbT [_] j5 rfl)⟩,?_⟩
 refine exr (lp2 ag24 sz24 L rfl rfl (cK hG hX cl13 hN hecho L t1 (mV L rfl (sw (i4 rfl L) t1 t0 (sw (i4 rfl L) t1 t0 (sw (i4 rfl L) t1 t0 (swb (T3 (k:=4) (n:=2) zv24 (.cons rfl (.cons rfl .nil)) rfl (P0 _ rfl) L) t0 t0 (frT [_] j5 rfl rfl rfl) (swb (T3 (k:=5) (n:=1) zv27 (.cons rfl .nil) rfl (P0 _ rfl) L) t0 t0 (frT [_,_] j5 rfl rfl rfl) (sb (U2 sz24 rF pa2 rfl pu2) t2 t1 ?_)))))))))
 refine sb (U2 sz27 rF .sl rfl pu1) t2 t1 ?_
 refine aV L rfl ?_
 refine O1 ⟨[(1,_),(4,_),(5,_),(6,_)],(1,_) :: (4,_) :: (5,_) :: (([]:List (Nat×Blk))),t4,⟨rfl,rfl,rfl,(hbT [_,_,_,_,_] j5 rfl)⟩,?_⟩
 refine R1 (exr (mV L rfl (sw (c_n L) t2 t0 ?_)))
 refine O1 ⟨[(1,_),(4,_),(5,_),(6,_),(19,_)],(1,_) :: (4,_) :: (5,_) :: (([]:List (Nat×Blk))),t5,⟨rfl,rfl,rfl,(hbT [_,_,_] j5 rfl)⟩,?_⟩
 refine W3 rfl rfl ?_
 refine U1 (xq ?_)
 refine exr (aV L rfl ?_)
 refine O1 ⟨[(1,_),(4,_),(5,_),(7,pvV 1003 (O5 []))],(1,_) :: (4,_) :: (5,_) :: ((pvB 1003 40 (O5 []))),t4,⟨rfl,rfl,rfl,(hbT [_,_,_] j5 rfl)⟩,?_⟩
 refine R1 (exr (sw (Z1 un24 rfl sz3 dC rX L) t1 t1 ?_))
 refine sw (Y1 ag3 rF rF L) t1 t1 ?_
 refine mV L rfl ?_
 refine O1 ⟨[(1,_),(4,_),(5,_),(7,_),(22,_),(23,_)],(1,_) :: (4,_) :: (5,_) :: ((pvB 1003 40 (O5 []))),t6,⟨rfl,rfl,rfl,(hbT [_,_,_] (tPv (L:=[])) rfl)⟩,?_⟩
 refine X1 ?_
 refine F0r (α:=Nat) (fun f=>[(23,vi (f:Int)),(7,pvV 1003 (O5 ((R8 f pv).map (d0k c pv E'))))]) (fun f=>[]) (fun f=>(pvB 1003 40 (O5 ((R8 f pv).map (d0k c pv E'))))) (fun f=>f≤c) (fun f=>c - f) (0) (sl:=[(1,_),(4,_),(5,_),(22,_)]) (hb:=[(1,_),(4,_),(5,_)]) ?_ ⟨oR,oR,rfl,rfl,rfl,rfl,trivial⟩ ⟨rfl,rfl,rfl,(hbT [_,_,_] (tPv (L:=[])) rfl)⟩ ?_
 ·exact Nat.zero_le _
 intro f hf
 refine exr (sw (d4 L) t2 t0 ?_)
 refine O1 ⟨[(1,_),(4,_),(5,_),(7,_),(22,_),(23,_),(24,_)],(1,_) :: (4,_) :: (5,_) :: ((pvB 1003 40 (O5 ((R8 f pv).map (d0k c pv E'))))),t7,⟨rfl,rfl,rfl,(hbT [_,_,_] (tPv (L:=(R8 f pv).map (d0k c pv E'))) rfl)⟩,?_⟩
 refine R1 ?_
 refine D2 rfl (fun hc=>?_) (fun hc=>?_)
 ·have hc:=dt hc
  have hfc:f<c:=by omega
  have hstep:=m1w (f:=f) (pv:=pv) (c:=c) (m:=E')
  have hlen:=y1q (c:=c) (f:=f) (pv:=pv) (m:=E') oM
  refine U1 (xq ?_)
  refine R1 (X1 (exr (mV L rfl (swb (T3 (k:=8) (n:=1) zv3 (.cons rfl .nil) rfl (P0 _ rfl) L) t0 t0 (frT [_,_,_] (tPv (L:=(R8 f pv).map (d0k c pv E'))) rfl rfl (by simp [F3,X2,Cells.free,PV.freeL,PV.free,X3,i3])) ?_))))
  refine sb (U2 sz3 rF (.atom rfl) rfl pu1) t2 t1 ?_
  refine O1 ⟨[(1,_),(4,_),(5,_),(7,_),(8,_),(22,_),(23,_)],(1,_) :: (4,_) :: (5,_) :: (8,_) :: ((pvB 1003 40 (O5 ((R8 f pv).map (d0k c pv E'))))),t7,⟨rfl,rfl,rfl,rfl,(hbT [_,_,_,_,_] (tPv (L:=(R8 f pv).map (d0k c pv E'))) rfl)⟩,?_⟩
  have f1:=f7 53 [.at_ 5 0 1,.at_ 8 0 1] (bK pv f) sM (o6 rfl) cl53 (fun i=>decide (pv.getD i 0=f)) 0 pv.length oM (fun i _ hi=>m1d pv f i hi hpl)
  refine R1 (exr (sw (Y1 ag27 rF rF L) t1 t1 ?_))
  refine sw (R2 un27 L) t1 t0 (sw (j0d (vs:=[]) (us:=[_,_]) rfl rfl L) t2 t0 (sw (s5 hG hX hN f1 rfl L (C4 (ys:=[_,_,_]) cl52 rfl rfl) sM (o6 rfl) (fun q h=>by cases h)) t3 t2 ?_))
  refine sw (b0p L) t2 t0 ?_
  refine O1 ⟨[(1,_),(4,_),(5,_),(7,_),(8,_),(22,_),(23,_),(30,_)],(1,_) :: (4,_) :: (5,_) :: (8,_) :: ((pvB 1003 40 (O5 ((R8 f pv).map (d0k c pv E'))))),t8,⟨rfl,rfl,rfl,rfl,(hbT [_,_,_,_] (tPv (L:=(R8 f pv).map (d0k c pv E'))) rfl)⟩,?_⟩
  refine D2 rfl (fun hg=>?_) (fun hg=>?_)
  ·have hg:f∈pv:=H0m.1 (dt hg)
   rw [if_pos hg,List.append_nil] at hstep
   refine L2 (xq ?_)
   refine y3 (sw (K3 L (w64 oM oM)) t2 t0 (mV L rfl (O1 ?_)))
   exact ⟨f+1,oM,by omega,E3 ⟨oR,(by rw [hstep]; rfl),rfl,rfl,rfl,rfl,trivial⟩ ⟨rfl,rfl,rfl,(by rw [hstep]; exact hbT [_,_,_,_] tPv rfl)⟩⟩
  ·have hg:f ∉ pv:=fun h=>(df hg) (H0m.2 h)
   rw [if_neg hg] at hstep
   obtain ⟨L0,hL0⟩:∃ L0,L0=(R8 f pv).map (d0k c pv E'):=⟨_,rfl⟩
   rw [← hL0] at hstep hlen ⊢
   refine U1 (xq ?_)
   refine exr (sw (Z1 un24 rfl sz3 dC rX L) t1 t1 ?_)
   refine sw (Y1 ag3 rF rF L) t1 t1 ?_
   refine swb (V0k (k:=33) hG hX cl54 rfl hN (g0v c oM) (P0 _ rfl) L) t1 t0 (frT [_,_,_,_] (tPv (L:=L0)) rfl rfl (by simp [F3,X2,Cells.free,PV.freeL,PV.free,X3,i3])) ?_
   refine aV L rfl ?_
   refine O1 ⟨[(1,_),(4,_),(5,_),(7,_),(8,_),(9,_),(22,_),(23,_)],(1,_) :: (4,_) :: (5,_) :: (8,_) :: (33,_) :: ((pvB 1003 40 (O5 L0))),t8,⟨rfl,rfl,rfl,rfl,rfl,(hbT [_,_,_,_,_] (tPv (L:=L0)) rfl)⟩,?_⟩
   refine exd rF ?_
   refine mV L rfl (sw (Y1 ag3 rF rF L) t1 t1 ?_)
   refine cK hG hX cl55 hN (R6 1 dC dC) L t1 (sw (p0v (sz:=4) un40 sz47 (by exact sM) (j:=f) rO oM L) t2 t1 ?_)
   refine sb (F0f (n:=4) sz47 (by exact sM) rfl oM) t2 t1 ?_
   refine O1 ⟨h0g [⟨[9],[],[34],[]⟩,⟨[8],[8],[35],[]⟩,⟨[],[],[36],[]⟩,⟨[34,35],[33],[37],[]⟩,⟨[37,36],[33],[],[33]⟩] (.cons (cf0 rfl) (.cons (cf0 rfl) (.cons (cf0 rfl) (.cons (cf0 rfl) (.cons (cf0 rfl)  .nil))))) rfl (frS [] [_,_,_,_,_] (tPv (L:=L0)) rfl (by simp [F3,X2,Cells.free,PV.freeL,PV.free,X3,i3])) dC,[(1,_),(4,_),(5,_),(7,_),(8,_),(9,_),(22,_),(23,_)],(1,_) :: (4,_) :: (5,_) :: (8,_) :: (33,_) :: ((pvB 1003 40 (O5 L0))),t8,⟨rfl,rfl,rfl,rfl,rfl,(hbT [_,_,_,_,_,_] (tPv (L:=L0)) rfl)⟩,?_⟩
   refine R1 (exr (sw (Y1 ag27 rF rF L) t1 t1 ?_))
   refine sw (R2 un27 L) t1 t0 (mV L rfl ?_)
   refine O1 ⟨[(1,_),(4,_),(5,_),(7,_),(8,_),(9,_),(22,_),(23,_),(38,_),(39,_),(40,_)],(1,_) :: (4,_) :: (5,_) :: (8,_) :: (33,_) :: ((pvB 1003 40 (O5 L0))),t11,⟨rfl,rfl,rfl,rfl,rfl,(hbT [_,_,_,_,_] (tPv (L:=L0)) rfl)⟩,?_⟩
   refine X1 ?_
   refine F0r (α:=Nat) (fun k=>[(40,vi (k:Int))]) (fun k=>[(33,q4 (G0v pv (fun i=>-(ent E' i f)) ((zsQ c).set f 1) k))]) (fun k=>(pvB 1003 40 (O5 L0))) (fun k=>k≤pv.length) (fun k=>pv.length - k) (0) (sl:=[(1,_),(4,_),(5,_),(7,_),(8,_),(9,_),(22,_),(23,_),(38,_),(39,_)]) (hb:=[(1,_),(4,_),(5,_),(8,_)]) ?_ ⟨oR,rfl,rfl,rfl,rfl,rfl,rfl,rfl,rfl,rfl,rfl,trivial⟩ ⟨obl rfl (n0f 1 sO),rfl,rfl,rfl,rfl,(hbT [_,_,_,_,_] (tPv (L:=L0)) rfl)⟩ ?_
   ·exact Nat.zero_le _
   intro k hk
   refine exr (sw (d4 L) t2 t0 ?_)
   refine O1 ⟨[(1,_),(4,_),(5,_),(7,_),(8,_),(9,_),(22,_),(23,_),(38,_),(39,_),(40,_),(41,_)],(1,_) :: (4,_) :: (5,_) :: (8,_) :: (33,_) :: ((pvB 1003 40 (O5 L0))),t12,⟨rfl,rfl,rfl,rfl,rfl,(hbT [_,_,_,_,_] (tPv (L:=L0)) rfl)⟩,?_⟩
   refine R1 ?_
   refine D2 rfl (fun he=>?_) (fun he=>?_)
   ·have he:=dt he
    have hk2:k<pv.length:=by omega
    have hpk:=hplt _ (e9 hk2)
    have hq:=f0w (i:=k) (j:=f) hEB H.b0
    refine U1 (xq ?_)
    refine R1 (X1 (exr (mV L rfl (sw (ixJ un27 sz3 (j:=k) rO oM sM L) t2 t0 ?_))))
    refine sw (v4 ag3 (p1a hk2) L) t1 t0 (aV L rfl (aV L rfl ?_))
    refine O1 ⟨[(1,_),(4,_),(5,_),(7,_),(8,_),(9,_),(10,_),(11,_),(22,_),(23,_),(38,_),(39,_),(40,_)],(1,_) :: (4,_) :: (5,_) :: (8,_) :: (33,_) :: ((pvB 1003 40 (O5 L0))),t13,⟨rfl,rfl,rfl,rfl,rfl,(hbT [_,_,_,_,_] (tPv (L:=L0)) rfl)⟩,?_⟩
    refine m0v rF ?_
    refine mV L rfl (mV L rfl (sw (Z1 un24 rfl sz22 dC rX L) t1 t1 ?_))
    refine sw (Y1 ag22 rF rF L) t1 t1 ?_
    refine mV L rfl (sw (ixJ un22 sz40 (j:=k) rO oM sM L) t2 t0 ?_)
    refine sw (v4 ag40 (W9 oM) L) t1 t0 (sw (Y1 ag3 rF rF L) t1 t1 ?_)
    refine sw (F2 un40 sz47 oM (by rw [hEr k hk2]; omega) sM dC L) t2 t0 ?_
    refine sw (F7 ag47 sz47 (V7 (by rw [hEr k hk2]; exact hfc)) rfl L) t1 t0 ?_
    refine cK hG hX cl56 hN (v0j (ent E' k f) oM) L t1 (sw (p0v (sz:=4) un40 sz47 (by exact sM) (j:=pv.getD k 0) rO (by simpa using hpk) L) t2 t1 ?_)
    refine sb (F0f (n:=4) sz47 (by exact sM) rfl oM) t2 t1 ?_
    refine O1 ⟨h0g [⟨[9],[],[45],[]⟩,⟨[11],[],[46],[]⟩,⟨[4],[4],[47],[]⟩,⟨[47],[4],[48],[]⟩,⟨[10],[],[49],[]⟩,⟨[48,49],[],[50],[]⟩,⟨[50],[],[51],[]⟩,⟨[8],[8],[52],[]⟩,⟨[51,52],[],[53],[]⟩,⟨[53],[],[54],[]⟩,⟨[54],[],[55],[]⟩,⟨[45,46],[33],[56],[]⟩,⟨[56,55],[33],[],[33]⟩] (.cons (cf0 rfl) (.cons (cf0 rfl) (.cons (cf0 rfl) (.cons (cf0 rfl) (.cons (cf0 rfl) (.cons (cf0 rfl) (.cons (cf0 rfl) (.cons (cf0 rfl) (.cons (cf0 rfl) (.cons (cf0 rfl) (.cons (cf0 rfl) (.cons (cf0 rfl) (.cons (cf0 rfl)  .nil))))))))))))) rfl (frS [] [_,_,_,_,_] (tPv (L:=L0)) rfl (by simp [F3,X2,Cells.free,PV.freeL,PV.free,X3,i3])) dC,(show l4 _ _ _ _ _ from exw (sl:=[(1,_),(4,_),(5,_),(7,_),(8,_),(9,_),(22,_),(23,_),(38,_),(39,_),(40,_)]) (hb:=(1,_) :: (4,_) :: (5,_) :: (8,_) :: (33,_) :: ((pvB 1003 40 (O5 L0)))) t11 ⟨rfl,rfl,rfl,rfl,rfl,(hbT [_,_,_,_,_,_] (tPv (L:=L0)) rfl)⟩ ?_)⟩
    refine y3 (sw (K3 L (w64 oM oM)) t2 t0 (mV L rfl (O1 ?_)))
    exact ⟨k+1,oM,by omega,E3 ⟨oR,rfl,rfl,rfl,rfl,rfl,rfl,rfl,rfl,rfl,rfl,trivial⟩ ⟨obl rfl ((n0f _ (by simpa using hpk)).trans (by rw [k1w hk2])),rfl,rfl,rfl,rfl,(hbT [_,_,_,_,_] (tPv (L:=L0)) rfl)⟩⟩
   ·have he:=df he
    have hkp:k=pv.length:=by omega
    subst hkp
    refine L2 (xq ?_)
    refine G4 [33] (sl:=[(1,_),(4,_),(5,_),(7,_),(9,.p (pV (d0k c pv E' f))),(22,_),(23,_)]) (hb:=[(1,_),(4,_),(5,_)]++pvB 1003 40 (O5 L0)) (g0c (by simp [G.lo])) ⟨⟨_,rfl,.same⟩,⟨_,rfl,.same⟩,⟨_,rfl,.same⟩,⟨_,rfl,.same⟩,⟨_,rfl,?_⟩,⟨_,rfl,.same⟩,⟨_,rfl,.same⟩,trivial⟩ (F1k (pre:=[_,_,_,_,_]) tPv rfl t3 rfl rfl) ?_
    ·exact (J1s rF rF p1m)
    refine y3 (mV L rfl (mV L rfl (sw (F4 (vs:=[_]) un22 ti40 rfl rfl dC dC rfl (M2 (.cons rfl .nil) rfl) rfl (.cons rfl .sl rfl pu1 .nil) (.cons .nil) L) t1 t0 (swA (H0n (k:=1003) un22 un22 ti40 rfl rfl rfl (by first | (simp [Tryz.t40]; done) | (simp [Tryz.t40]; omega)) sO hpin3 L) t2 ((N1v (pre:=[_,_,_]) rfl)) (V1j (pre:=[_,_,_]) rfl (fun e=>by rw [e]; rfl)) ?_))))
    refine aV L rfl ?_
    refine O1 (show l4 _ _ _ _ _ from exw (sl:=[(1,_),(4,_),(5,_),(7,pvV 1003 (O5 (L0++[d0k c pv E' f]))),(22,_),(23,_)]) (hb:=(1,_) :: (4,_) :: (5,_) :: ((pvB 1003 40 (O5 (L0++[d0k c pv E' f]))))) ⟨rfl,rfl,rfl,(by rw [G0a]; rfl),rfl,rfl,trivial⟩ ⟨(b1d (pre:=[_,_,_]) dC rfl),(b1d (pre:=[_,_,_]) dC rfl),(b1d (pre:=[_,_,_]) dC rfl),(by rw [G0a]; exact Q1j)⟩ ?_)
    refine y3 (sw (K3 L (w64 oM oM)) t2 t0 (mV L rfl (O1 ?_)))
    exact ⟨f+1,oM,by omega,E3 ⟨oR,(by rw [hstep]; rfl),rfl,rfl,rfl,rfl,trivial⟩ ⟨rfl,rfl,rfl,(by rw [hstep]; exact hbT [_,_,_] tPv rfl)⟩⟩
 ·have hc:=df hc
  have hfc:f=c:=by omega
  subst hfc
  obtain ⟨L0,hL0⟩:∃ L0,L0=(R8 f pv).map (d0k f pv E'):=⟨_,rfl⟩
  have hk:Y0x f pv E'=L0:=by rw [hL0]; rfl
  rw [← hL0,hk]
  refine L2 (xq ?_)
  refine exr (mV L rfl (aV L rfl (aV L rfl ?_)))
  refine O1 ⟨[(2,_),(3,_)],((pvB 1003 40 (O5 L0))),t2,(hbT [_,_,_] (tPv (L:=L0)) rfl),?_⟩
  refine G4 [1003] (sl:=[(2,.p (.sl (O5 L0).length (O5 L0))),(3,_)]) (hb:=[]) (g0c (by simp [G.lo])) ⟨⟨_,rfl,P1q (pre:=[]) rfl⟩,⟨_,rfl,.same⟩,trivial⟩ t0 ?_
  refine V1 ?_
  exact ⟨.inr rfl,.cons (.tmp (by rw [← E7 L0]; rfl)) (.cons (.tmp rfl) .nil),trivial⟩
end Go.Proofs.YtjagfionflbjbaaGreat.N
namespace Go.Proofs.YtjagfionflbjbaaGreat.SH
open Go Go.RowKit
def swN (a b k:Nat):Nat:=if k=a then b else if k=b then a else k
theorem y0p (a b k:Nat):swN a b (swN a b k)=k:=by
 unfold swN
 by_cases h1:k=a
 ·rw [if_pos h1]
  by_cases h2:b=a
  ·rw [if_pos h2,h1,h2]
  ·rw [if_neg h2,if_pos rfl,h1]
 ·rw [if_neg h1]
  by_cases h2:k=b
  ·rw [if_pos h2,if_pos rfl,h2]
  ·rw [if_neg h2,if_neg h1,if_neg h2]
theorem y1y {P:Program}{F:Fr}{c:Code}{Q:Exit→St→Prop}{S S':St}(a b:Nat)(hpa:F.pin a=none)(hpb:F.pin b=none)(hlo:F.lo a=F.lo b)
  (hs:∀ t v',S'.slot t=some v'→∃ v,S.slot t=some v∧v'=v.ren (swN a b)) (hb:∀ k B',S'.blk k=some B'→∃ B,S.blk (swN a b k)=some B∧B'=B.ren (swN a b)) (hn:l4 P F c S' Q):l4 P F c S Q:=by
 refine ⟨fun n a' w hS=>hn.run n a' w ?_⟩
 obtain ⟨ρ,h⟩:=hS
 have hne:∀ k,S'.blk k≠none→S.blk (swN a b k)≠none:=fun k hk=>by
  obtain ⟨B',hB'⟩:=j1.1 hk
  obtain ⟨B,h1,_⟩:=hb k B' hB'
  rw [h1]; simp
 have hcar:Carry (okI F S.blk ρ) (okI F S'.blk fun k=>ρ (swN a b k)) (hp w) (hp w):=fun x hx _=>⟨⟨hx.1,fun k hk e=>hx.2 _ (hne k hk) e⟩,rfl⟩
 have hre:∀ (v:PV) (u:Value),K2 S.blk ρ (okI F S.blk ρ) (hp w) v u→K2 S'.blk (fun k=>ρ (swN a b k)) (okI F S'.blk fun k=>ρ (swN a b k)) (hp w) (v.ren (swN a b)) u:=fun v u hr=>by
  have h1:=D0c (β:=S'.blk) (β0:=S.blk) (ρ:=fun k=>ρ (swN a b k)) (ρ0:=ρ) (ok:=okI F S.blk ρ) (Hp:=hp w) (κ:=swN a b) (K:=fun _=>True) (fun j _ B' hB'=>by
   obtain ⟨B,h2,h3⟩:=hb _ B' hB'
   rw [y0p] at h2
   refine ⟨B,h2,by rw [h3]; rfl,by rw [h3]; exact Cells.ren_len _ _,by simp only [y0p]⟩) v u (fun _ _=>trivial) hr
  exact K2.mono (K:=fun _=>True) hcar (fun k _ B hB=>⟨B,hB,rfl,Nat.le_refl _,fun _=>⟨rfl,fun c T fr hc=>⟨c,T,fr,hc,rfl⟩⟩⟩) _ u (fun _ _=>trivial) h1
 refine ⟨fun k=>ρ (swN a b k),fun t v' ht=>?_,fun k B' hk=>?_,fun k k' h1 h2 e=>?_,h.frame,h.nt,h.df,fun j x n hj hS=>?_⟩
 ·obtain ⟨v,hv,rfl⟩:=hs t v' ht
  obtain ⟨u,hu,hr⟩:=h.slots t v hv
  exact ⟨u,hu,hre v u hr⟩
 ·obtain ⟨B,h1,rfl⟩:=hb k B' hk
  obtain ⟨c,g1,g2,g3,g4⟩:=h.blks _ B h1
  refine ⟨c,g1,?_,by rw [show (B.ren (swN a b)).cs.len=B.cs.len from Cells.ren_len _ _]; exact g3,fun i x hx=>?_⟩
  ·rcases g2 with ⟨e1,e2⟩ | e1
   ·refine .inl ⟨e1,?_⟩
    unfold swN at e2
    split at e2
    ·rename_i e; rw [e,hlo]; exact e2
    ·split at e2
     ·rename_i e; rw [e,← hlo]; exact e2
     ·exact e2
   ·exact .inr e1
  ·have hx:(B.cs.ren (swN a b)).get i=some x:=hx
   rw [Cells.ren_get,M0] at hx
   obtain ⟨y,hy,rfl⟩:=hx
   obtain ⟨u,hu,ho,hr⟩:=g4 i y hy
   exact ⟨u,hu,ho,hre y u hr⟩
 ·have:=h.inj _ _ (hne k h1) (hne k' h2) e
  rw [← y0p a b k,this,y0p]
 ·have hja:j≠a:=fun e=>by rw [e,hpa] at hj; cases hj
  have hjb:j≠b:=fun e=>by rw [e,hpb] at hj; cases hj
  have e:swN a b j=j:=by rw [swN,if_neg hja,if_neg hjb]
  have:=h.pin j x n hj (by have:=hne j hS; rwa [e] at this)
  simp only [e]; exact this
end Go.Proofs.YtjagfionflbjbaaGreat.SH
set_option maxRecDepth 100000
set_option maxHeartbeats 4000000
namespace Go.Proofs.YtjagfionflbjbaaGreat.SH
open Go Go.RowKit
mutual
theorem PV.ren_only {κ:Nat→Nat}{ks:List Nat}(hk:∀ k∈ks,κ k=k):∀ x:PV,x.only ks=true→x.ren κ=x
 | .p _,_=>rfl
 | .at_ j _ _,h=>by
  have h:ks.contains j=true:=h
  rw [PV.ren,hk j (by simpa using h)]
 | .im _ _,_=>rfl
 | .ref j _ _ _,h=>by
  have h:ks.contains j=true:=h
  rw [PV.ren,hk j (by simpa using h)]
 | .agg xs,h=>by
  simp only [PV.only] at h
  rw [PV.ren,PV.renL_only hk xs h]
 | .tup xs,h=>by
  simp only [PV.only] at h
  rw [PV.ren,PV.renL_only hk xs h]
 | .clo f a b,h=>by
  simp only [PV.only,j0] at h
  rw [PV.ren,PV.renL_only hk a h.1,PV.renL_only hk b h.2]
 | .ifc t x,h=>by
  simp only [PV.only] at h
  rw [PV.ren,PV.ren_only hk x h]
 | .dead,_=>rfl
theorem PV.renL_only {κ:Nat→Nat}{ks:List Nat}(hk:∀ k∈ks,κ k=k):∀ xs:List PV,PV.onlyL ks xs=true→PV.renL κ xs=xs
 | [],_=>rfl
 | x :: xs,h=>by
  simp only [PV.onlyL,j0] at h
  rw [PV.renL,PV.ren_only hk x h.1,PV.renL_only hk xs h.2]
end
theorem Blk.ren_only {κ:Nat→Nat}{ks:List Nat}(hk:∀ k∈ks,κ k=k)(B:Blk)(h:B.cs.only ks=true):B.ren κ=B:=by
 obtain ⟨T,sz,cs⟩:=B
 cases cs with
 | pure xs=>rfl
 | mix vs =>
  have h:PV.onlyL ks vs=true:=h
  have:vs.map (PV.ren κ)=vs:=by rw [← d0z]; exact PV.renL_only hk vs h
  simp only [Blk.ren,Cells.ren,this]
end Go.Proofs.YtjagfionflbjbaaGreat.SH
namespace Go.Proofs.YtjagfionflbjbaaGreat.N
open Go Go.Proofs.YtjagfionflbjbaaGreat.SH Go.Proofs.YtjagfionflbjbaaGreat.NumA
theorem v1p {s:Nat}{m:List (List Rat)}{v:List Rat}:I2 s (m++[v])=(s+1001,⟨40,1,.mix (V4 s 0 m++[.ref (G3 s m.length) 0 v.length (v.length*4)])⟩) :: (U6 s 0 m++[(G3 s m.length,q4 v)]):=by
 rw [I2,hdB,k0p,v0n,F1]
theorem p1d {P:Program}{F:Fr}{c:Code}{Q:Exit→St→Prop}{S:St}{sl:List (Nat×PV)}{pre:List (Nat×Blk)}{m:List (List Rat)}{s a:Nat}{v:List Rat}(ks:List Nat)(hs2:s<9)(ha:a<1000)(hpa:F.pin a=none)(hpb:F.pin (G3 s m.length)=none)(hlo:F.lo a=F.lo (G3 s m.length))(hks:(ks.all fun k=>Nat.blt k 1100 && k != a)=true)
  (hS:e7 S sl) (hSo:(sl.all fun p=>p.2.only ks)=true) (hB:T5 S pre) (hBo:(pre.all fun p=>p.2.cs.only ks)=true) (hBk:(pre.all fun p=>Nat.blt p.1 1000 && p.1 != a)=true)
  (h1:S.blk (s+1001)=some ⟨40,1,.mix (V4 s 0 m++[.ref a 0 v.length (v.length*4)])⟩) (h2:S.blk a=some (q4 v)) (h3:∀ k B,(U6 s 0 m).lookup k=some B→S.blk k=some B)
  (hn:l4 P F c ⟨sl,pre++I2 s (m++[v])⟩ Q):l4 P F c S Q:=by
 have hfix:∀ k∈ks,swN a (G3 s m.length) k=k:=fun k hk=>by
  rw [s0] at hks
  have:=hks k hk
  simp only [j0,Nat.blt_eq,bne_iff_ne] at this
  rw [swN,if_neg this.2,if_neg (by unfold G3; omega)]
 rw [s0] at hSo hBo hBk
 refine y1y a (G3 s m.length) hpa hpb hlo (fun t v' ht=>?_) (fun k B' hk=>?_) hn
 ·have h4:=w8 (show sl.lookup t=some v' from ht)
  exact ⟨v',hS.all t v' ht,(PV.ren_only hfix v' (hSo _ h4)).symm⟩
 ·have hk:(pre++I2 s (m++[v])).lookup k=some B':=hk
  rw [T1] at hk
  cases e:pre.lookup k with
  | some C =>
   rw [e,K0] at hk
   injection hk with hk
   subst hk
   have h5:=hBk _ (O3 e)
   simp only [j0,Nat.blt_eq,bne_iff_ne] at h5
   refine ⟨C,?_,(Blk.ren_only hfix C (hBo _ (O3 e))).symm⟩
   rw [swN,if_neg h5.2,if_neg (by unfold G3; omega)]
   exact hB.all k C e
  | none =>
   rw [e,l0,v1p,i0] at hk
   have hrow:∀ j,j<m.length→swN a (G3 s m.length) (G3 s j)=G3 s j:=fun j hj=>by rw [swN,if_neg (by unfold G3; omega),if_neg (by unfold G3; omega)]
   by_cases e1:k=s+1001
   ·subst e1
    simp only [BEq.rfl,U0] at hk
    subst hk
    refine ⟨⟨40,1,.mix (V4 s 0 m++[.ref a 0 v.length (v.length*4)])⟩,by rw [swN,if_neg oM,if_neg (by unfold G3; omega)]; exact h1,?_⟩
    have hr:∀ (i:Nat) (q:List (List Rat)),i+q.length≤m.length→(V4 s i q).map (PV.ren (swN a (G3 s m.length)))=V4 s i q:=by
     intro i q
     induction q generalizing i with
     | nil=>intro _; rfl
     | cons w q ih =>
      intro hq
      simp only [D1] at hq
      simp only [V4,R0,PV.ren,hrow i oM,ih (i+1) oM]
    simp only [Blk.ren,Cells.ren,List.map_append,hr 0 m oM,R0,List.map_nil,PV.ren,swN,if_true]
   ·rw [show (k == s+1001)=false by simpa using e1,T1] at hk
    cases e2:(U6 s 0 m).lookup k with
    | some C =>
     rw [e2,K0] at hk
     injection hk with hk
     subst hk
     obtain ⟨j,hj,h6⟩:=M8 (G0.2 ⟨_,O3 e2,rfl⟩)
     simp only [F1] at h6
     refine ⟨C,by rw [h6,hrow j hj,← h6]; exact h3 k C e2,?_⟩
     rw [h6] at e2
     rw [Q0q,M0] at e2
     obtain ⟨w,_,rfl⟩:=e2
     rfl
    | none =>
     rw [e2,l0,i0] at hk
     by_cases e3:k=G3 s m.length
     ·subst e3
      simp only [BEq.rfl,U0] at hk
      subst hk
      refine ⟨q4 v,by rw [swN,if_neg (by unfold G3; omega),if_pos rfl]; exact h2,rfl⟩
     ·rw [show (k == G3 s m.length)=false by simpa using e3] at hk; cases hk
end Go.Proofs.YtjagfionflbjbaaGreat.N
namespace Go.Proofs.YtjagfionflbjbaaGreat.SH
open Go Go.RowKit
theorem v1z {P:Program}{F:Fr}{c:Code}{Q:Exit→St→Prop}{S S':St}(hs:∀ t v,S'.slot t=some v→S.slot t=some v)(hb:∀ k B',S'.blk k=some B'→∃ B,S.blk k=some B∧B'.T=B.T∧B'.sz=B.sz∧B'.cs.len=B.cs.len∧∀ i,B'.cs.get i=B.cs.get i)(hn:l4 P F c S' Q):l4 P F c S Q:=by
 refine ⟨fun n a w ⟨ρ,h⟩=>hn.run n a w ⟨ρ,?_⟩⟩
 have hn':∀ j,S'.blk j≠none→S.blk j≠none:=fun j hj=>by
  obtain ⟨B,hB⟩:=j1.1 hj
  obtain ⟨B0,h0,_⟩:=hb j B hB
  rw [h0]; simp
 have hcar:Carry (okI F S.blk ρ) (okI F S'.blk ρ) (hp w) (hp w):=fun b hb _=>⟨⟨hb.1,fun j hj=>hb.2 j (hn' j hj)⟩,rfl⟩
 have hkp:∀ K:Nat→Prop,b0q K S.blk S'.blk ρ ρ (hp w) (hp w):=fun K j _ B hB=>by
  obtain ⟨B0,h0,h1,h2,h3,_⟩:=hb j B hB
  exact ⟨B0,h0,h2,by omega,fun _=>⟨rfl,fun c T fr hc=>⟨c,T,fr,hc,rfl⟩⟩⟩
 refine ⟨fun t v ht=>?_,fun j B hB=>?_,fun j j' h1 h2 e=>h.inj j j' (hn' j h1) (hn' j' h2) e,h.frame,h.nt,h.df,fun j b n hj hS=>h.pin j b n hj (hn' j hS)⟩
 ·obtain ⟨u,hu,hr⟩:=h.slots t v (hs t v ht)
  exact ⟨u,hu,K2.mono (K:=fun _=>True) hcar (hkp _) v u (fun _ _=>trivial) hr⟩
 ·obtain ⟨B0,h0,h1,h2,h3,h4⟩:=hb j B hB
  obtain ⟨c,c1,c2,c3,c4⟩:=h.blks j B0 h0
  refine ⟨c,by rw [h1]; exact c1,c2,by omega,fun i x hx=>?_⟩
  obtain ⟨u,hu,ho,hr⟩:=c4 i x (by rw [← h4]; exact hx)
  exact ⟨u,hu,ho,K2.mono (K:=fun _=>True) hcar (hkp _) x u (fun _ _=>trivial) hr⟩
section
variable {P:Program} {F:Fr} {d:Nat} {T:TypeId} {pos:String} {aft:Array Edge} {g:Option (Nat×Bool)} {t tx:TypeId}
theorem J0r {x y:Operand}{k j n:Nat}{e:TypeId}{ie:TypeInfo}{z:Value}{cs:List PV}{u:PV}(hu:P.underlying t=some (.slice e))(hux:P.underlying tx=some (.slice e))(hi:∀ w,(typeInfo e).run P w = .ok ie w)(hz:ie.zero=some z)(hsz:ie.size=1)
  (hzl:z.cells.size=1) (hn:cs.length=n) (hby:2*(n+1)*ie.bytes≤281474976710656) (h63:n+1≤9223372036854775807) (hpk:F.pin k=none) (hlt:d<F.nt) :
  O2 P F ⟨some d,.call ⟨.builtin .append,#[x,y],#[t,tx]⟩,T,pos,aft,g⟩ ⟨[(x,.ref k 0 n n),(y,.ref j 0 1 1)],[(k,⟨e,1,.mix cs⟩),(j,⟨e,1,.mix [u]⟩)],none,[(d,.ref k 0 (n+1) (n+1))],[(k,⟨e,1,.mix (cs++[u])⟩)]⟩ :=
 y0z (m:=1) (sz:=1) (cs:=.mix cs) (us:=[u]) hu hi hz hsz hzl (by omega) hn (by simp) (K1b (B:=⟨e,1,.mix [u]⟩) (k:=j) (o:=0) hux rfl rfl rfl) rfl .mix rfl hby h63 hpk hlt
end
end Go.Proofs.YtjagfionflbjbaaGreat.SH
set_option maxRecDepth 100000
set_option maxHeartbeats 4000000
namespace Go.Proofs.YtjagfionflbjbaaGreat.N
open Go Go.Proofs.YtjagfionflbjbaaGreat.SH Go.Proofs.YtjagfionflbjbaaGreat.NumA
open Go.Proofs.Tryz renaming call103→cl103,call104→cl104,call11→cl11,call12→cl12,call132→cl132,call133→cl133,call13→cl13,call14→cl14,call15→cl15,call16→cl16,call17→cl17,call19→cl19,call22→cl22,call23→cl23,call24→cl24,call25→cl25,call27→cl27,call29→cl29,call30→cl30,call31→cl31,call33→cl33,call34→cl34,call35→cl35,call36→cl36,call37→cl37,call38→cl38,call39→cl39,call40→cl40,call41→cl41,call47→cl47,call48→cl48,call49→cl49,call50→cl50,call51→cl51,call52→cl52,call54→cl54,call55→cl55,call57→cl57,call58→cl58,call59→cl59,call60→cl60,call61→cl61,call62→cl62,call63→cl63,call64→cl64,call65→cl65,call66→cl66,call67→cl67,call68→cl68,call69→cl69,call70→cl70,call71→cl71,call72→cl72,call73→cl73,call74→cl74,call75→cl75,call76→cl76,call84→cl84,isAgg119→ag119,isAgg22→ag22,isAgg24→ag24,isAgg3→ag3,isAgg40→ag40,isAgg43→ag43,isAgg45→ag45,isAgg47→ag47,isAgg4→ag4,isAgg77→ag77,sizeOf119→sz119,sizeOf22→sz22,sizeOf24→sz24,sizeOf3→sz3,sizeOf40→sz40,sizeOf43→sz43,sizeOf45→sz45,sizeOf47→sz47,sizeOf4→sz4,sizeOf77→sz77,typeInfo3→ti3,typeInfo40→ti40,typeInfo47→ti47,underlying22→un22,underlying24→un24,underlying27→un27,underlying40→un40,underlying43→un43,underlying45→un45,underlying47→un47,underlying4→un4,underlying77→un77,underlying79→un79,zeroValue24→zv24,zeroValue47→zv47
theorem h1h {P:Program}{F:Fr}{c:Code}{Q:Exit→St→Prop}{S:St}{sl:List (Nat×PV)}{pre:List (Nat×Blk)}{s a t:Nat}(ks:List Nat)(hs2:s<9)(ha:a<1000)(hpa:F.pin a=none)(hpb:F.pin (s+1001)=none)(hlo:F.lo a=F.lo (s+1001))(hks:(ks.all fun k=>Nat.blt k 1000 && k != a)=true)
  (hS:e7 S sl) (hSo:(sl.all fun p=>p.2.only ks && p.1 != t)=true) (ht:S.slot t=some (.ref a 0 0 0)) (hB:T5 S pre) (hBo:(pre.all fun p=>p.2.cs.only ks)=true) (hBk:(pre.all fun p=>Nat.blt p.1 1000 && p.1 != a)=true)
  (h1:S.blk a=some ⟨40,1,.pure []⟩) (hn:l4 P F c ⟨(t,.ref (s+1001) 0 0 0) :: sl,pre++I2 s []⟩ Q):l4 P F c S Q:=by
 have hfix:∀ k∈ks,swN a (s+1001) k=k:=fun k hk=>by
  rw [s0] at hks
  have:=hks k hk
  simp only [j0,Nat.blt_eq,bne_iff_ne] at this
  rw [swN,if_neg this.2,if_neg oM]
 rw [s0] at hSo hBo hBk
 refine y1y (S':=⟨(t,.ref (s+1001) 0 0 0) :: sl,pre++[(s+1001,⟨40,1,.pure []⟩)]⟩) a (s+1001) hpa hpb hlo (fun t' v' ht'=>?_) (fun k B' hk=>?_) (v1z (S':=⟨(t,.ref (s+1001) 0 0 0) :: sl,pre++I2 s []⟩) (fun t v h=>h) (fun k B' hk=>?_) hn)
 ·have h2:List.lookup t' ((t,.ref (s+1001) 0 0 0) :: sl)=some v':=ht'
  rw [i0] at h2
  by_cases e:t'=t
  ·subst e
   simp only [BEq.rfl,U0] at h2
   subst h2
   exact ⟨_,ht,(by simp [PV.ren,swN])⟩
  ·rw [show (t' == t)=false by simpa using e] at h2
   have h4:=hSo _ (w8 h2)
   simp only [j0] at h4
   exact ⟨v',hS.all t' v' h2,(PV.ren_only hfix v' h4.1).symm⟩
 ·have hk:(pre++([(s+1001,⟨40,1,.pure []⟩)]:List (Nat×Blk))).lookup k=some B':=hk
  rw [T1] at hk
  cases e:pre.lookup k with
  | some C =>
   rw [e,K0] at hk
   injection hk with hk
   subst hk
   have h5:=hBk _ (O3 e)
   simp only [j0,Nat.blt_eq,bne_iff_ne] at h5
   refine ⟨C,?_,(Blk.ren_only hfix C (hBo _ (O3 e))).symm⟩
   rw [swN,if_neg h5.2,if_neg oM]
   exact hB.all k C e
  | none =>
   rw [e,l0,i0] at hk
   by_cases e1:k=s+1001
   ·subst e1
    simp only [BEq.rfl,U0] at hk
    subst hk
    exact ⟨_,(by rw [swN,if_neg oM,if_pos rfl]; exact h1),rfl⟩
   ·rw [show (k == s+1001)=false by simpa using e1] at hk; cases hk
 ·have hk:(pre++I2 s []).lookup k=some B':=hk
  show ∃ B,(pre++([(s+1001,⟨40,1,.pure []⟩)]:List (Nat×Blk))).lookup k=some B∧_
  rw [T1] at hk ⊢
  cases e:pre.lookup k with
  | some C =>
   rw [e,K0] at hk
   injection hk with hk
   subst hk
   exact ⟨C,rfl,rfl,rfl,rfl,fun _=>rfl⟩
  | none =>
   rw [e,l0,I2,i0] at hk
   by_cases e1:k=s+1001
   ·subst e1
    simp only [BEq.rfl,U0] at hk
    subst hk
    exact ⟨⟨40,1,.pure []⟩,(by rw [l0,List.lookup_cons_self]),rfl,rfl,rfl,fun _=>rfl⟩
   ·rw [show (k == s+1001)=false by simpa using e1] at hk; cases hk
theorem n1m {b:List Rat}{i:Nat}(h:i<b.length):(m5 b).take (i+1)=(m5 b).take i++[((zsQ (b.length+1)).set 0 (b.getD i 0)).set (i+1) 1]:=by
 rw [m0n (by simpa [m5] using h),y1w h]
theorem j9 {B:Nat}{b:List Rat}(hB:∀ a∈b,qw a≤B)(hb:B<1000000000)(hl:b.length<1000000000):Y2 E 64 [pV b] (bZ true):=by
 have:=O4 (b.map RQ.of) (by simpa using hl) (fun r hr=>by
  obtain ⟨a,ha,rfl⟩:=G0.1 hr
  have:=hB a ha
  exact RQ.sm_of oM)
 rwa [K0z,g0b] at this
theorem D1g {v:List Rat}{a c:Rat}{j:Nat}(h0:0<v.length)(hj:j<v.length):(⟨47,4,.pure ((((d6 v).take (0*4)++cQ a++(d6 v).drop (0*4+4)).take (j*4))++cQ c++(((d6 v).take (0*4)++cQ a++(d6 v).drop (0*4+4)).drop (j*4+4)))⟩:Blk)=q4 ((v.set 0 a).set j c):=by rw [K1v a h0,n0f c (by simpa using hj)]
theorem m1v {m:List (List Rat)}{k:Nat}:(O5 m).drop k=O5 (m.drop k):=by simp [O5,List.map_drop]
theorem p1f {p:Nat→Prop}{i:Nat}(h:∀ k,k<i→p k)(hi:p i):∀ k,k<i+1→p k:=fun k hk=>by
 by_cases e:k=i
 ·rw [e]; exact hi
 ·exact h k oM
theorem K0f:∀ {v:List Rat}{k:Nat},(d6 v).drop (k*4)=d6 (v.drop k)
 | v,0=>by simp
 | [],k+1=>by simp [d6]
 | a :: v,k+1=>by
  rw [show (k+1)*4=k*4+1+1+1+1 by omega]
  simp only [d6,cQ,L1,List.nil_append,List.drop_succ_cons]
  exact K0f
theorem v1n {u:List Rat}{a:Rat}{k:Nat}(h:k<u.length):(u.take (k+1)).map (· / a)=(u.take k).map (· / a)++[u.getD k 0 / a]:=by
 rw [I1,List.map_append]; congr 1; simp [f0,h]
def V1d (r:List Rat):List Rat:=(r.drop 1).map (· / r.getD 0 0)
theorem H0r {p:Nat→Bool}:∀ {n a i:Nat},(∀ k,k<i→p (a+k)=false)→p (a+i)=true→i<n→L4 p a n=((a+i:Nat):Int)
 | 0,_,_,_,_,h=>by omega
 | n+1,a,0,_,h1,_=>by rw [L4,if_pos (by simpa using h1)]; simp
 | n+1,a,i+1,h0,h1,h=>by
  have h2:=h0 0 oM
  rw [Nat.add_zero] at h2
  rw [L4,if_neg (by rw [h2]; simp),H0r (a:=a+1) (i:=i) (fun k hk=>by rw [Nat.add_assoc,Nat.add_comm 1 k]; exact h0 (k+1) oM) (by rw [Nat.add_assoc,Nat.add_comm 1 i]; exact h1) oM]
  rw [Nat.add_assoc,Nat.add_comm 1 i]
theorem J0m {p:Nat→Bool}:∀ {n a:Nat},(∀ k,k<n→p (a+k)=false)→L4 p a n = -1
 | 0,_,_=>rfl
 | n+1,a,h=>by
  have h2:=h 0 oM
  rw [Nat.add_zero] at h2
  rw [L4,if_neg (by rw [h2]; simp)]
  exact J0m fun k hk=>by rw [Nat.add_assoc,Nat.add_comm 1 k]; exact h (k+1) oM
def P0w (t:ESt)(n:Nat):Int:=L4 (nzI t.b 0) t.pv.length (n - t.pv.length)
def N0g (c:Nat)(t:ESt)(n:Nat):List Rat:=if P0w t n<0 then V1c c t.pv (fun i=>ent t.b i 0) else []
def V0v (t:ESt)(n:Nat):List Rat:=if P0w t n<0 then [] else V1d (t.b.getD (P0w t n).toNat [])
def G0r (t:ESt)(n:Nat):Int:=if P0w t n<0 then 0 else 4
theorem Q0p (n c B DB:Nat)(M:List (List Rat))(b:List Rat)(h:MOk c M)(hB1:MB B M)(hbB:∀ a∈b,qw a≤B)(hn:M.length=n)(hbn:b.length=n)(H:EU n c (n+1) B DB M (m5 b)):I4 E (fun _=>true) 24 [.p (pMq c M),.p (pV b)] ([]) ([]) (.p (.tup [pV (N0g c (ech M (m5 b) c) n),pV (V0v (ech M (m5 b) c) n),vZ (G0r (ech M (m5 b) c) n)])):=by
 refine n4 (xs:=[pV (N0g c (ech M (m5 b) c) n),pV (V0v (ech M (m5 b) c) n),vZ (G0r (ech M (m5 b) c) n)]) Tryz.func24 rfl Tryz.ntmps24 Tryz.results24 sM fun F G=>?_
 have L:=@lti _ _ G.nt
 have hG:=G.g
 have hX:=G.x
 have hN:=W5 hG
 have P0:∀ k,Nat.blt k 1000=true→F.pin k=none:=fun k hk=>G.p0 k (j5.low k hk)
 have hb:=H.bl
 have hcl:=H.cl
 have hnl:=H.nl
 have hsp:=D7 H.rc H.rb c (Nat.le_refl _)
 subst hbn
 have hpin:∀ k,F.pin k=none:=fun k=>G.p0 k rfl
 have hlo:∀ k,F.lo k=true:=fun k=>by rw [G.lo]; rfl
 refine exr (swb (R3 (k:=2) (n:=2) pa2 rfl rfl (P0 _ rfl) L) t1 t0 (frT [] j5 rfl rfl rfl) (aV L rfl (aV L rfl (aV L rfl ?_))))
 refine O1 ⟨[(1,_),(2,_),(5,_)],(2,_) :: (([]:List (Nat×Blk))),t3,⟨rfl,(hbT [_] j5 rfl)⟩,?_⟩
 refine R1 (exr (lp2 ag24 sz24 L rfl rfl (cK hG hX cl40 hN (D6 h hB1 oM) L t1 (sw (P3 L) t1 t0 (mV L rfl (gV (g:=25) rfl rfl L rfl rfl (swg (g:=25) rfl rfl (c_c hG hX cl64 rfl hN (j9 hbB oM oM) L) rfl t1 t0 (swg (g:=25) rfl rfl (P3 L) rfl t1 t0 (sw (V3 rfl L) t2 t0 ?_)))))))))
 refine O1 ⟨[(1,_),(2,_),(5,_),(29,_)],(2,_) :: (([]:List (Nat×Blk))),t4,⟨rfl,(hbT [_] j5 rfl)⟩,?_⟩
 refine W3 rfl rfl ?_
 refine U1 (xq ?_)
 refine R1 (exr (mV L rfl (sw (R2 un40 L) t1 t0 (sw (Z1 un24 rfl sz22 dC rX L) t1 t1 ?_))))
 refine sw (Y1 ag22 rF rF L) t1 t1 ?_
 refine sw (R2 un22 L) t1 t0 (sw (c_n L) t2 t0 ?_)
 refine O1 ⟨[(1,_),(2,_),(5,_),(35,_)],(2,_) :: (([]:List (Nat×Blk))),t4,⟨rfl,(hbT [_] j5 rfl)⟩,?_⟩
 refine W3 rfl sO ?_
 refine U1 (xq ?_)
 refine exr (mV L rfl (sw (R2 un40 L) t1 t0 (swb (v0b (k:=38) un77 ti40 rfl rfl rfl rfl (show (0:Int)=((0:Nat):Int) from rfl) rfl (Nat.zero_le _) (by simp [Tryz.t40]; omega) oM (P0 _ rfl) L) t2 t0 (frT [_] j5 rfl rfl rfl) ?_)))
 refine aV L rfl ?_
 refine O1 ⟨[(1,_),(2,_),(5,_),(7,_)],(2,_) :: (38,_) :: (([]:List (Nat×Blk))),t4,⟨rfl,rfl,(hbT [_,_] j5 rfl)⟩,?_⟩
 refine h1h (s:=1) (a:=38) (t:=7) [2] (sl:=[(1,_),(2,_),(5,_)]) (pre:=[(2,_)]) dC dC (hpin _) (hpin _) (by rw [hlo,hlo]) rfl t3 rfl rfl t1 rfl rfl rfl ?_
 refine R1 (exr (mV L rfl (sw (R2 un40 L) t1 t0 (mV L rfl ?_))))
 refine O1 ⟨[(1,_),(2,_),(5,_),(7,_),(39,_),(40,_),(41,_)],(2,_) :: ((I2 1 [])),t7,⟨rfl,(hbT [_] (i2 (s:=1) dC []) rfl)⟩,?_⟩
 refine X1 ?_
 refine F0r (α:=Nat) (fun i=>[(41,vi (i:Int)),(7,.ref 1002 0 i i)]) (fun i=>[]) (fun i=>(I2 1 ((m5 b).take i))) (fun i=>i≤b.length) (fun i=>b.length - i) (0) (sl:=[(1,_),(2,_),(5,_),(39,_),(40,_)]) (hb:=[(2,_)]) ?_ ⟨oR,oR,rfl,rfl,rfl,rfl,rfl,trivial⟩ ⟨rfl,(hbT [_] (i2 (s:=1) dC []) rfl)⟩ ?_
 ·exact Nat.zero_le _
 intro i hi
 have hbsl:(m5 b).length=b.length:=by simp [m5]
 have htl:((m5 b).take i).length=i:=by rw [J0]; omega
 refine exr (sw (d4 L) t2 t0 ?_)
 refine O1 ⟨[(1,_),(2,_),(5,_),(7,_),(39,_),(40,_),(41,_),(42,_)],(2,_) :: ((I2 1 ((m5 b).take i))),t8,⟨rfl,(hbT [_] (i2 (s:=1) dC ((m5 b).take i)) rfl)⟩,?_⟩
 refine R1 ?_
 refine D2 rfl (fun hc=>?_) (fun hc=>?_)
 ·have hc:=dt hc
  have hib:i<b.length:=by omega
  have hst:=n1m hib
  have hqb:=hbB _ (C5 hib)
  refine U1 (xq ?_)
  refine R1 (X1 (exr (mV L rfl (sw (F2 un40 sz47 oM oM sM dC L) t2 t0 ?_))))
  refine sw (F7 ag47 sz47 (V7 hib) rfl L) t1 t0 (swb (T3 (k:=9) (n:=4) zv47 (.cons rfl (.cons rfl (.cons rfl (.cons rfl .nil)))) rfl (P0 _ rfl) L) t0 t0 (frT [_] (i2 (s:=1) dC ((m5 b).take i)) rfl rfl (by simp [F3,X2,Cells.free,PV.freeL,PV.free,X3,i3])) ?_)
  refine aV L rfl (sb (U2 sz47 rF pa4 rfl pu4) t2 t1 ?_)
  refine O1 ⟨[(1,_),(2,_),(5,_),(7,_),(8,_),(9,_),(39,_),(40,_),(41,_)],(2,_) :: (9,_) :: ((I2 1 ((m5 b).take i))),t9,⟨rfl,rfl,(hbT [_,_,_] (i2 (s:=1) dC ((m5 b).take i)) rfl)⟩,?_⟩
  refine exr (mV L rfl (sw (R2 un40 L) t1 t0 (sw (K3 L (w64 oM oM)) t2 t0 (swb (V0k (k:=49) hG hX cl54 rfl hN (g0v (b.length+1) oM) (P0 _ rfl) L) t1 t0 (frT [_,_] (i2 (s:=1) dC ((m5 b).take i)) rfl rfl (by simp [F3,X2,Cells.free,PV.freeL,PV.free,X3,i3])) ?_))))
  refine aV L rfl ?_
  refine O1 ⟨[(1,_),(2,_),(5,_),(7,_),(8,_),(9,_),(10,_),(39,_),(40,_),(41,_)],(2,_) :: (9,_) :: (49,_) :: ((I2 1 ((m5 b).take i))),t10,⟨rfl,rfl,rfl,(hbT [_,_,_] (i2 (s:=1) dC ((m5 b).take i)) rfl)⟩,?_⟩
  refine exd rF ?_
  refine mV L rfl (mV L rfl (mV L rfl (sw (K3 L (w64 oM oM)) t2 t0 (lp4 ag47 sz47 L rfl rfl (cK hG hX cl55 hN (R6 1 dC dC) L t1 (sw (U9 un40 sz47 (by exact sM) dC oM L) t2 t1 ?_))))))
  refine sb (F0f (n:=4) sz47 (by exact sM) rfl sO) t2 t1 ?_
  refine sw (p0v (sz:=4) un40 sz47 (by exact (by first | (simp; done) | (simp; omega))) (j:=i+1) rO oM L) t2 t1 ?_
  refine sb (F0f (n:=4) sz47 (by exact (by first | (simp; done) | (simp; omega))) rfl oM) t2 t1 ?_
  refine O1 ⟨h0g [⟨[10],[],[50],[]⟩,⟨[10],[],[51],[]⟩,⟨[8],[],[52],[]⟩,⟨[52],[],[53],[]⟩,⟨[9],[9],[54],[]⟩,⟨[],[],[55],[]⟩,⟨[50],[49],[56],[]⟩,⟨[56,54],[49],[],[49]⟩,⟨[51,53],[49],[57],[]⟩,⟨[57,55],[49],[],[49]⟩] (.cons (cf0 rfl) (.cons (cf0 rfl) (.cons (cf0 rfl) (.cons (cf0 rfl) (.cons (cf0 rfl) (.cons (cf0 rfl) (.cons (cf0 rfl) (.cons (cf0 rfl) (.cons (cf0 rfl) (.cons (cf0 rfl)  .nil)))))))))) rfl (frS [] [_,_,_] (i2 (s:=1) dC ((m5 b).take i)) rfl (by simp [F3,X2,Cells.free,PV.freeL,PV.free,X3,i3])) dC,[(1,_),(2,_),(5,_),(7,_),(10,_),(39,_),(40,_),(41,_)],(2,_) :: (49,q4 (((zsQ (b.length+1)).set 0 (b.getD i 0)).set (i+1) 1)) :: ((I2 1 ((m5 b).take i))),t8,⟨rfl,obl rfl (D1g (v:=zq (b.length+1)) sM sO),(hbT [_,_,_,_,_] (i2 (s:=1) dC ((m5 b).take i)) rfl)⟩,?_⟩
  obtain ⟨ln,hln⟩:∃ ln,ln=((zsQ (b.length+1)).set 0 (b.getD i 0)).set (i+1) 1:=⟨_,rfl⟩
  have hlnl:ln.length=b.length+1:=by rw [hln]; simp
  rw [← hln] at hst ⊢
  rw [← hlnl]
  refine y3 (mV L rfl (mV L rfl (swb (N1j (k:=60) (vs:=[_]) un77 ti40 rfl rfl dC dC rfl (M2 (.cons rfl .nil) rfl) rfl (.cons rfl .ref rfl pu1 .nil) rfl rfl (P0 _ rfl) L) t1 t0 (frT [_,_] (i2 (s:=1) dC ((m5 b).take i)) rfl rfl rfl) ?_)))
  refine swb (J0r (k:=1002) (j:=60) (cs:=V4 1 0 ((m5 b).take i)) un77 un77 ti40 rfl rfl rfl (by rw [E2,htl]) (by simp [Tryz.t40]; omega) oM (hpin _) L) t2 ⟨?_,rfl,trivial⟩ t0 ?_
  ·exact rdT [_,_,_] (i2 (s:=1) dC _) rfl hdL
  refine aV L rfl ?_
  refine O1 (xq ?_)
  refine p1d (s:=1) (a:=49) (m:=(m5 b).take i) (v:=ln) [2,1002] (sl:=[(1,_),(2,_),(5,_),(7,.ref 1002 0 (i+1) (i+1)),(39,_),(40,_),(41,_)]) (pre:=[(2,_)]) dC dC (hpin _) (hpin _) (by rw [hlo,hlo]) rfl t7 rfl t1 rfl rfl rfl rfl (fun k B hk=>?_) ?_
  ·obtain ⟨j,_,hj⟩:=M8 (G0.2 ⟨_,O3 hk,rfl⟩)
   have hj:k=G3 1 (0+j):=hj
   have hk9:k≠1002∧k≠60∧k≠2∧k≠49:=by rw [hj]; unfold G3; omega
   show List.lookup k ((1002,_) :: (60,_) :: (2,_) :: (49,_) :: I2 1 ((m5 b).take i))=some B
   rw [m7 hk9.1,m7 hk9.2.1,m7 hk9.2.2.1,m7 hk9.2.2.2,I2,m7 hk9.1]; exact hk
  rw [← hst]
  refine y3 (sw (K3 L (w64 oM oM)) t2 t0 (mV L rfl (O1 ?_)))
  exact ⟨i+1,oM,by omega,E3 ⟨oR,oR,rfl,rfl,rfl,rfl,rfl,trivial⟩ ⟨rfl,(hbT [_] (i2 (s:=1) dC ((m5 b).take (i+1))) rfl)⟩⟩
 ·have hc:=df hc
  have hib:i=b.length:=by omega
  subst hib
  rw [show (m5 b).take b.length=m5 b from C0 oM]
  obtain ⟨t,ht⟩:∃ t,t=ech M (m5 b) c:=⟨_,rfl⟩
  have hech:=j0w true b.length c (b.length+1) B DB M (m5 b) H
  rw [← ht] at hech hsp
  obtain ⟨r1,r2,r3,-⟩:=hsp
  have hbe:=H.be c (Nat.le_refl _)
  rw [← ht] at hbe
  have hbeg:I4 E (fun _=>false) 50 [.p (.agg [vZ c,.sl M.length (O5 M)]),bv true b.length] (bsT true (m5 b)) ([wU c M (bv true b.length)]++i5 true M (m5 b)) (.at_ 999 0 3):=by rw [hn]; exact g0g true b.length c M (m5 b) H.rc H.nl H.cl
  refine L2 (xq ?_)
  refine k0w (nsw (l6 ag24 sz24 rF (by exact al2) rfl L) t1 t1 ?_)
  refine nsw (c_m L) t1 t0 (nsU (pre:=[_]) (H:=bsT true (m5 b)) G hN [2] [(1,_),(2,_),(5,_)] [(2,_)] hbeg L (C4 (ys:=[_,_]) cl50 rfl rfl) t2 P0c h0a (w5 _ _).nd g0y V0h N0h (fun h=>by cases h) rfl t1 rfl t3 rfl rfl rfl rfl ?_)
  refine nsw (c_a L) t1 t0 ?_
  refine .nil ⟨[(2,_),(5,_),(11,_)],(2,_) :: (999,_) :: (i5 true M (m5 b)),t3,⟨rfl,rfl,(hbT [_,_] (f6 true M (m5 b)) rfl)⟩,?_⟩
  refine k0w (nsw (c_m L) t1 t0 (nsU (pre:=[_]) (H:=[wU c M (bv true b.length)]++i5 true M (m5 b)) G hN [2,999] [(2,_),(5,_),(11,.at_ 999 0 3)] [(2,_)] hech L (C4 (ys:=[_]) cl51 rfl rfl) t1 h0a h0a g0y g0y V0h (fun q h=>by cases h) K1p rfl t1 rfl t3 rfl rfl rfl rfl ?_))
  refine nsw (c_m L) t1 t0 (nsw (i4 rfl L) t1 t0 (nsw (i4 rfl L) t1 t0 (D1r (T3 (k:=13) (n:=4) zv47 (.cons rfl (.cons rfl (.cons rfl (.cons rfl .nil)))) rfl (P0 _ rfl) L) t0 t0 (frT [_,_] (f6 true t.m t.b) rfl rfl (by simp [F3,X2,Cells.free,PV.freeL,PV.free,X3,i3])) ?_)))
  refine nsw (c_a L) t1 t0 (nsb (U2 sz47 rF pa4 rfl pu4) t2 t1 ?_)
  refine .nil ⟨[(2,_),(5,_),(11,_),(12,_)],(2,_) :: (999,_) :: (i5 true t.m t.b),t4,⟨rfl,rfl,(hbT [_,_,_,_] (f6 true t.m t.b) rfl)⟩,?_⟩
  refine d1z (pre:=[_]) hlo rfl sM (fun _=>r2.1) ⟨⟨_,rfl,.same⟩,⟨_,rfl,.same⟩,⟨_,rfl,.same⟩,⟨_,rfl,.same⟩,trivial⟩ ?_
  have hle:=r3.le
  obtain ⟨q,hq⟩:∃ q,q=t.pv.length:=⟨_,rfl⟩
  have hdl:(t.b.drop q).length=b.length - q:=by rw [List.length_drop,r2.1]
  show l4 _ _ _ ⟨_,[_]++[(999,⟨79,3,.mix [.p (.sl t.m.length (O5 t.m)),.p (vZ c),.p (.sl t.b.length (O5 t.b))]⟩)]⟩ _
  refine R1 (exr (mV L rfl (sw (Z2 rX L) t1 t1 ?_)))
  refine sw (Z1 un79 rfl sz77 dC rX L) t1 t1 ?_
  refine sw (Y1 ag77 rF rF L) t1 t1 ?_
  refine mV L rfl (sw (R2 un27 L) t1 t0 (sw (w1c un77 sz40 (l:=q) rO (by have:=r2.1; omega) (show t.b.length - q=(t.b.drop q).length by simp) sM (by rw [Nat.mul_one,m1v]) L) t2 t0 ?_))
  refine sw (R2 un77 L) t1 t0 (mV L rfl (zn [(2,_),(5,_),(11,_),(12,_),(77,_),(78,_),(79,_)] [(2,_),(999,_)] t7 t2 ?_))
  obtain ⟨D',hD⟩:∃ D',D'=t.b.drop q:=⟨_,rfl⟩
  rw [← hD] at hdl ⊢
  have hDg:∀ j,D'.getD j []=t.b.getD (q+j) []:=fun j=>by rw [hD,f0,f0,List.getElem?_drop]
  have hDl:∀ j,j<D'.length→(D'.getD j []).length=b.length+1:=fun j hj=>by rw [hDg]; exact r2.get oM
  have hDB:∀ j,∀ a∈D'.getD j [],qw a≤B:=fun j a ha=>by
   rw [hDg] at ha
   obtain ⟨k,rfl⟩:=g0r ha
   exact f0w hbe H.b0
  refine X1 ?_
  refine exl (α:=Nat) (fun i=>[(79,vi (i:Int))]) (fun i=>[]) (fun i=>i≤D'.length∧∀ k,k<i→(D'.getD k []).getD 0 0=0) (fun i=>D'.length - i) (0) (sl:=[(2,_),(5,_),(11,_),(12,_),(77,_),(78,_)]) (hb:=[(2,_),(999,_)]) ?_ ⟨oR,rfl,rfl,rfl,rfl,rfl,rfl,trivial⟩ t2 ?_
  ·exact ⟨Nat.zero_le _,fun k hk=>by omega⟩
  intro i hi
  obtain ⟨hi,hz⟩:=hi
  refine exr (sw (d4 L) t2 t0 (zn [(2,_),(5,_),(11,_),(12,_),(77,_),(78,_),(79,_),(80,_)] [(2,_),(999,_)] t8 t2 (R1 ?_)))
  refine D2 rfl (fun hc2=>?_) (fun hc2=>?_)
  ·have hc2:=dt hc2
   have hid:i<D'.length:=by omega
   have hl:=hDl i hid
   have hlB:=hDB i
   obtain ⟨r,hr⟩:∃ r,r=D'.getD i []:=⟨_,rfl⟩
   rw [← hr] at hl hlB
   have h0l:0<r.length:=by omega
   have hqa:=hlB _ (C5 h0l)
   refine U1 (xq ?_)
   refine R1 (X1 (exr (sw (ixJ un77 sz40 (j:=i) rO oM sM L) t2 t0 ?_)))
   refine sw (v4 ag40 (by rw [W9 hid,← hr]) L) t1 t0 ?_
   refine aV L rfl (zn [(2,_),(5,_),(11,_),(12,_),(15,_),(77,_),(78,_),(79,_)] [(2,_),(999,_)] t8 t2 (R1 (exr (mV L rfl (sw (F2 un40 sz47 dC oM sM dC L) t2 t0 ?_)))))
   refine sw (F7 ag47 sz47 (V7 (v:=r) (i:=0) h0l) rfl L) t1 t0 (cK hG hX cl65 hN (K6 (r.getD 0 0) oM) L t1 (zn [(2,_),(5,_),(11,_),(12,_),(15,_),(77,_),(78,_),(79,_),(86,_)] [(2,_),(999,_)] t9 t2 ?_))
   refine D2 rfl (fun hz0=>?_) (fun hz0=>?_)
   ·have hz0:=dt hz0
    refine L2 (xq ?_)
    refine y3 (sw (K3 L (w64 oM oM)) t2 t0 (mV L rfl (O1 ?_)))
    exact ⟨i+1,⟨by omega,p1f hz (by rw [← hr]; exact hz0)⟩,by omega,E3 ⟨oR,rfl,rfl,rfl,rfl,rfl,rfl,trivial⟩ t2⟩
   ·have hz0:=df hz0
    obtain ⟨r',hr'⟩:∃ r',r'=r.drop 1:=⟨_,rfl⟩
    have hl1:r'.length=b.length:=by rw [hr',List.length_drop,hl]; omega
    have hnb:0<b.length:=by omega
    have hB1':∀ a∈r',qw a≤B:=fun a ha=>hlB a (List.mem_of_mem_drop (by rw [hr'] at ha; exact ha))
    have hsy:∀ k,k<r'.length→(r'.take (k+1)).map (· / r.getD 0 0)=(r'.take k).map (· / r.getD 0 0)++[r'.getD k 0 / r.getD 0 0]:=fun k hk=>v1n hk
    refine U1 (xq ?_)
    refine R1 (exr (mV L rfl (sw (w1c un40 sz47 (l:=1) rfl oM (show r.length - 1=r'.length by rw [hl1,hl]; omega) sM (show (d6 r).drop (1*4)=d6 r' by rw [hr']; exact K0f) L) t2 t0 ?_)))
    refine sw (R2 un40 L) t1 t0 (mV L rfl (zn [(5,_),(15,_),(88,_),(89,_),(90,_)] [] t5 trivial (X1 ?_)))
    refine D1h (α:=Nat) (fun k=>[(90,vi (k:Int)),(5,.ref 105 0 k (k*4))]) (fun k=>[(105,q4 ((r'.take k).map (· / r.getD 0 0)))]) (fun k=>0<k∧k≤r'.length) (fun k=>r'.length - k) (r'.length+1) (sl:=[(15,_),(88,_),(89,_)]) (hb:=[]) t3 t0 ?_ ?_
    ·refine exr (sw (d4 L) t2 t0 (zn [(5,_),(15,_),(88,_),(89,_),(90,_),(91,_)] [] t6 trivial (R1 (i6 rfl sO ?_))))
     have hk0:0<r'.length:=by omega
     have hqk:=hB1' _ (C5 hk0)
     refine U1 (xq ?_)
     refine R1 (X1 (exr (sw (F2 un40 sz47 dC oM sM dC L) t2 t0 ?_)))
     refine sw (F7 ag47 sz47 (V7 (v:=r') (i:=0) hk0) rfl L) t1 t0 (swb (T3 (k:=17) (n:=4) zv47 (.cons rfl (.cons rfl (.cons rfl (.cons rfl .nil)))) rfl (P0 _ rfl) L) t0 t0 ⟨rfl,rfl⟩ (sb (U2 sz47 rF pa4 rfl pu4) t2 t1 ?_))
     refine zn [(5,_),(15,_),(17,_),(88,_),(89,_),(90,_)] [(17,_)] t6 t1 (exd rF ?_)
     refine lp4 ag47 sz47 L rfl rfl (mV L rfl (sw (F2 un40 sz47 dC oM sM dC L) t2 t0 ?_))
     refine sw (F7 ag47 sz47 (V7 (v:=r) (i:=0) h0l) rfl L) t1 t0 (cK hG hX cl66 hN (v0k (r'.getD 0 0) (r.getD 0 0) oM oM hz0) L t2 (mV L rfl (sw (i4 rfl L) t1 t0 (sw (i4 rfl L) t1 t0 (swb (T3 (k:=18) (n:=4) zv47 (.cons rfl (.cons rfl (.cons rfl (.cons rfl .nil)))) rfl (P0 _ rfl) L) t0 t0 ⟨rfl,rfl⟩ (sb (U2 sz47 rF pa4 rfl pu4) t2 t1 ?_))))))
     refine aV L rfl ?_
     refine O1 ⟨aok rfl rfl,[(5,_),(15,_),(18,_),(88,_),(89,_),(90,_)],[(18,_)],t6,t1,?_⟩
     refine y3 (mV L rfl (lp4 ag47 sz47 L rfl rfl (sw (F4 (vs:=[_]) un40 ti47 rfl rfl dC dC rfl (M2 (.cons rfl (.cons rfl (.cons rfl (.cons rfl .nil)))) rfl) rfl (.cons rfl pa4 rfl pu4 .nil) (.cons (.cons (.cons (.cons .nil)))) L) t1 t0 (swb (apN (k:=105) (sz:=4) un40 un40 ti47 rfl rfl rfl dC sM rfl (by first | (simp [Tryz.t47]; done) | (simp [Tryz.t47]; omega)) oM (P0 _ rfl) L) t2 t0 ⟨rfl,rfl⟩ ?_))))
     refine aV L rfl (O1 (y3 (sw (K3 L (w64 oM oM)) t2 t0 (mV L rfl (O1 ?_)))))
     exact ⟨1,⟨by omega,by omega⟩,oM,E3 ⟨oR,oR,rfl,rfl,rfl,trivial⟩ ⟨obl rfl (by rw [hsy 0 hk0]; rfl),trivial⟩⟩
    ·intro k hk
     obtain ⟨hk0,hk1⟩:=hk
     refine exr (sw (d4 L) t2 t0 (zn [(5,_),(15,_),(88,_),(89,_),(90,_),(91,_)] [(105,_)] t6 t1 (R1 ?_)))
     refine D2 rfl (fun hk2=>?_) (fun hk2=>?_)
     ·have hk2:=dt hk2
      have hkl:k<r'.length:=by omega
      have hqk:=hB1' _ (C5 hkl)
      refine U1 (xq ?_)
      refine R1 (X1 (exr (sw (F2 un40 sz47 oM oM sM dC L) t2 t0 ?_)))
      refine sw (F7 ag47 sz47 (V7 hkl) rfl L) t1 t0 (swb (T3 (k:=17) (n:=4) zv47 (.cons rfl (.cons rfl (.cons rfl (.cons rfl .nil)))) rfl (P0 _ rfl) L) t0 t0 ⟨rfl,rfl⟩ (sb (U2 sz47 rF pa4 rfl pu4) t2 t1 ?_))
      refine zn [(5,_),(15,_),(17,_),(88,_),(89,_),(90,_)] [(17,_),(105,_)] t6 t2 (exd rF ?_)
      refine lp4 ag47 sz47 L rfl rfl (mV L rfl (sw (F2 un40 sz47 dC oM sM dC L) t2 t0 ?_))
      refine sw (F7 ag47 sz47 (V7 (v:=r) (i:=0) h0l) rfl L) t1 t0 (cK hG hX cl66 hN (v0k (r'.getD k 0) (r.getD 0 0) oM oM hz0) L t2 (mV L rfl (sw (i4 rfl L) t1 t0 (sw (i4 rfl L) t1 t0 (swb (T3 (k:=18) (n:=4) zv47 (.cons rfl (.cons rfl (.cons rfl (.cons rfl .nil)))) rfl (P0 _ rfl) L) t0 t0 ⟨rfl,rfl⟩ (sb (U2 sz47 rF pa4 rfl pu4) t2 t1 ?_))))))
      refine aV L rfl ?_
      refine O1 ⟨aok rfl rfl,[(5,_),(15,_),(18,_),(88,_),(89,_),(90,_)],[(18,_),(105,_)],t6,t2,?_⟩
      refine y3 (mV L rfl (lp4 ag47 sz47 L rfl rfl (sw (F4 (vs:=[_]) un40 ti47 rfl rfl dC dC rfl (M2 (.cons rfl (.cons rfl (.cons rfl (.cons rfl .nil)))) rfl) rfl (.cons rfl pa4 rfl pu4 .nil) (.cons (.cons (.cons (.cons .nil)))) L) t1 t0 (swb (apP (sz:=4) un40 un40 ti47 rfl rfl rfl dC (by exact (by first | (simp; done) | (simp; omega))) oF sM rfl rfl rfl (by first | (simp [Tryz.t47]; done) | (simp [Tryz.t47]; omega)) oM (P0 _ rfl) L) t2 t1 t0 ?_))))
      refine aV L rfl (O1 (y3 (sw (K3 L (w64 oM oM)) t2 t0 (mV L rfl (O1 ?_)))))
      exact ⟨k+1,⟨by omega,by omega⟩,by omega,E3 ⟨oR,(ov rfl sO),rfl,rfl,rfl,trivial⟩ ⟨obl rfl ((g0x _ _).trans (by rw [hsy k hkl])),trivial⟩⟩
     ·have hk2:=df hk2
      have hkl:k=r'.length:=by omega
      subst hkl
      rw [I0]
      refine L2 (xq ?_)
      refine exr (mV L rfl (aV L rfl (aV L rfl (aV L rfl (zn [(4,_),(5,_),(6,_)] [(105,_)] t3 t1 ?_)))))
      have hF:P0w t b.length=((q+i:Nat):Int):=by
       rw [P0w,← hq]
       refine H0r (fun k hk=>?_) ?_ oM
       ·have:=hz k hk
        rw [hDg] at this
        rw [nzI,this]; rfl
       ·have h1:=hDg i
        rw [← hr] at h1
        simp only [nzI,← h1,Bool.not_eq_true',decide_eq_false_iff_not]
        exact hz0
      have hneg:¬ (((q+i:Nat):Int)<0):=by omega
      rw [← ht,N0g,V0v,G0r,hF,if_neg hneg,if_neg hneg,if_neg hneg,Int.toNat_natCast,← hDg,← hr,V1d,← hr']
      refine G4 [105] (sl:=[(4,_),(5,_),(6,_)]) (hb:=[]) (g0c (by simp [hlo])) ⟨⟨_,rfl,(.p .nil)⟩,⟨_,rfl,(.ref rfl rfl (by exact (by first | (simp; done) | (simp; omega))) (by first | rfl | omega))⟩,⟨_,rfl,.same⟩,trivial⟩ t0 ?_
      refine V1 ?_
      refine ⟨.inr rfl,U4.cast (.cons (.tmp rfl) (.cons (.tmp rfl) (.cons (.tmp rfl) .nil))) ?_,trivial⟩
      rw [pV,pV,O0]; rfl
  ·have hc2:=df hc2
   have hid:i=D'.length:=by omega
   refine L2 (xq ?_)
   refine exr (sw (Z1 un24 rfl sz3 dC rX L) t1 t1 ?_)
   refine sw (Y1 ag3 rF rF L) t1 t1 ?_
   refine swb (V0k (k:=111) hG hX cl54 rfl hN (g0v c oM) (P0 _ rfl) L) t1 t0 ⟨rfl,rfl⟩ (aV L rfl (zn [(4,_),(11,_),(12,_)] [(111,_),(999,_)] t3 t2 (R1 (exr (mV L rfl (sw (R2 un27 L) t1 t0 (mV L rfl (zn [(4,_),(11,_),(112,_),(113,_),(114,_)] [(111,_),(999,_)] t5 t2 (X1 ?_)))))))))
   refine exl (α:=Nat) (fun k=>[(114,vi (k:Int))]) (fun k=>[(111,q4 (G0v t.pv (fun j=>ent t.b j 0) (zsQ c) k))]) (fun k=>k≤t.pv.length) (fun k=>t.pv.length - k) (0) (sl:=[(4,_),(11,_),(112,_),(113,_)]) (hb:=[(999,_)]) ?_ ⟨oR,rfl,rfl,rfl,rfl,trivial⟩ t2 ?_
   ·exact Nat.zero_le _
   intro k hk
   refine exr (sw (d4 L) t2 t0 (zn [(4,_),(11,_),(112,_),(113,_),(114,_),(115,_)] [(111,_),(999,_)] t6 t2 (R1 ?_)))
   refine D2 rfl (fun hk2=>?_) (fun hk2=>?_)
   ·have hk2:=dt hk2
    have hkp:k<t.pv.length:=by have:=m8 t.pv; omega
    have hpk:=r3.lt _ (e9 hkp)
    have hkb:k<t.b.length:=by rw [r2.1]; omega
    have hkl:=r2.get (i:=k) oM
    refine U1 (xq ?_)
    refine R1 (X1 (exr (mV L rfl (sw (ixJ un27 sz3 (j:=k) rO oM sM L) t2 t0 ?_))))
    refine sw (v4 ag3 (p1a hkp) L) t1 t0 (aV L rfl (aV L rfl (zn [(4,_),(11,_),(20,_),(21,_),(112,_),(113,_),(114,_)] [(111,_),(999,_)] t7 t2 (y3 (mV L rfl (mV L rfl (mV L rfl (sw (Z2 rX L) t1 t1 ?_))))))))
    refine sw (Z1 un79 rfl sz77 dC rX L) t1 t1 ?_
    refine sw (Y1 ag77 rF rF L) t1 t1 ?_
    refine mV L rfl (sw (ixJ un77 sz40 (j:=k) rO oM sM L) t2 t0 ?_)
    refine sw (v4 ag40 (W9 hkb) L) t1 t0 (sw (F2 un40 sz47 dC oM sM dC L) t2 t0 ?_)
    refine sw (F7 ag47 sz47 (V7 (v:=t.b.getD k []) (i:=0) oM) rfl L) t1 t0 (sw (p0v (sz:=4) un40 sz47 (by exact sM) (j:=t.pv.getD k 0) rO (by simpa using hpk) L) t2 t1 ?_)
    refine sb (F0f (n:=4) sz47 (by exact sM) rfl oM) t2 t1 ?_
    refine O1 (y3 (sw (K3 L (w64 oM oM)) t2 t0 (mV L rfl (O1 ?_))))
    exact ⟨k+1,oM,by omega,E3 ⟨oR,rfl,rfl,rfl,rfl,trivial⟩ ⟨obl rfl ((n0f _ (by simpa using hpk)).trans (by rw [v0c]; rfl)),rfl,trivial⟩⟩
   ·have hk2:=df hk2
    have hkp:k=t.pv.length:=by have:=m8 t.pv; omega
    subst hkp
    refine L2 (xq ?_)
    refine exr (mV L rfl (aV L rfl (aV L rfl (aV L rfl (zn [(4,_),(5,_),(6,_)] [(111,_)] t3 t1 ?_)))))
    have hF:P0w t b.length = -1:=by
     rw [P0w,← hq]
     refine J0m fun k hk=>?_
     have:=hz k oM
     rw [hDg] at this
     rw [nzI,this]; rfl
    rw [← ht,N0g,V0v,G0r,hF,if_pos dC,if_pos dC,if_pos dC,V1c]
    refine G4 [111] (sl:=[(4,_),(5,_),(6,_)]) (hb:=[]) (g0c (by simp [hlo])) ⟨⟨_,rfl,(.ref rfl rfl (by exact sM) (by first | rfl | omega))⟩,⟨_,rfl,(.p .nil)⟩,⟨_,rfl,.same⟩,trivial⟩ t0 ?_
    refine V1 ?_
    refine ⟨.inr rfl,U4.cast (.cons (.tmp rfl) (.cons (.tmp rfl) (.cons (.tmp rfl) .nil))) ?_,trivial⟩
    rw [pV,w0f,d1g]; rfl
theorem b1z {n i:Nat}(h:i<n):(P4 n).take (i+1)=(P4 n).take i++[(zsQ n).set i 1]:=by
 rw [m0n (by simpa [P4] using h)]; congr 2; simp [P4,f0,h]
def y1x (n:Nat)(t:ESt):List (List Rat):=if t.pv.length<n then [] else t.b
def p1w (n:Nat)(t:ESt):Int:=if t.pv.length<n then 0 else n
def v1h (n:Nat)(t:ESt):Int:=if t.pv.length<n then 4 else 0
theorem G0w (n B DB:Nat)(M:List (List Rat))(h:MOk n M)(hB1:MB B M)(hn:M.length=n)(H:EU n n n B DB M (P4 n)):I4 E (fun _=>true) 42 [.p (pMq n M)] ([]) ([]) (.p (.tup [pMq (p1w n (ech M (P4 n) n)) (y1x n (ech M (P4 n) n)),vZ (v1h n (ech M (P4 n) n))])):=by
 refine n4 (xs:=[pMq (p1w n (ech M (P4 n) n)) (y1x n (ech M (P4 n) n)),vZ (v1h n (ech M (P4 n) n))]) Tryz.func42 rfl Tryz.ntmps42 Tryz.results42 sM fun F G=>?_
 have L:=@lti _ _ G.nt
 have hG:=G.g
 have hX:=G.x
 have hN:=W5 hG
 have P0:∀ k,Nat.blt k 1000=true→F.pin k=none:=fun k hk=>G.p0 k (j5.low k hk)
 have hb:=H.bl
 have hcl:=H.cl
 have hnl:=H.nl
 have hsp:=D7 H.rc H.rb n (Nat.le_refl _)
 have hpin:∀ k,F.pin k=none:=fun k=>G.p0 k rfl
 have hlo:∀ k,F.lo k=true:=fun k=>by rw [G.lo]; rfl
 refine exr (swb (R3 (k:=1) (n:=2) pa2 rfl rfl (P0 _ rfl) L) t1 t0 (frT [] j5 rfl rfl rfl) (swb (T3 (k:=2) (n:=2) zv24 (.cons rfl (.cons rfl .nil)) rfl (P0 _ rfl) L) t0 t0 (frT [_] j5 rfl rfl rfl) (aV L rfl ?_)))
 refine O1 ⟨[(1,_),(2,_)],(1,_) :: (2,_) :: (([]:List (Nat×Blk))),t2,⟨rfl,rfl,(hbT [_,_] j5 rfl)⟩,?_⟩
 refine R1 (exr (lp2 ag24 sz24 L rfl rfl (cK hG hX cl40 hN (D6 h hB1 oM) L t1 (sw (P3 L) t1 t0 ?_))))
 refine O1 ⟨[(1,_),(2,_),(12,_)],(1,_) :: (2,_) :: (([]:List (Nat×Blk))),t3,⟨rfl,rfl,(hbT [_,_] j5 rfl)⟩,?_⟩
 refine W3 rfl rfl ?_
 refine U1 (xq ?_)
 refine R1 (exr (sw (Z1 un24 rfl sz22 dC rX L) t1 t1 ?_))
 refine sw (Y1 ag22 rF rF L) t1 t1 ?_
 refine sw (R2 un22 L) t1 t0 (sw (Z1 un24 rfl sz3 dC rX L) t1 t1 ?_)
 refine sw (Y1 ag3 rF rF L) t1 t1 ?_
 refine sw (c_n L) t2 t0 ?_
 refine O1 ⟨[(1,_),(2,_),(19,_)],(1,_) :: (2,_) :: (([]:List (Nat×Blk))),t3,⟨rfl,rfl,(hbT [_,_] j5 rfl)⟩,?_⟩
 refine W3 rfl sO ?_
 refine U1 (xq ?_)
 refine exr (sw (Z1 un24 rfl sz3 dC rX L) t1 t1 ?_)
 refine sw (Y1 ag3 rF rF L) t1 t1 ?_
 refine swb (v0b (k:=23) un77 ti40 rfl rfl rfl rfl (show (0:Int)=((0:Nat):Int) from rfl) rfl (Nat.zero_le _) (by simp [Tryz.t40]; omega) oM (P0 _ rfl) L) t2 t0 (frT [_,_] j5 rfl rfl rfl) ?_
 refine aV L rfl ?_
 refine O1 ⟨[(1,_),(2,_),(4,_)],(1,_) :: (2,_) :: (23,_) :: (([]:List (Nat×Blk))),t3,⟨rfl,rfl,rfl,(hbT [_,_,_] j5 rfl)⟩,?_⟩
 refine h1h (s:=1) (a:=23) (t:=4) [1,2] (sl:=[(1,_),(2,_)]) (pre:=[(1,_),(2,_)]) dC dC (hpin _) (hpin _) (by rw [hlo,hlo]) rfl t2 rfl rfl t2 rfl rfl rfl ?_
 refine R1 (exr (sw (Z1 un24 rfl sz3 dC rX L) t1 t1 ?_))
 refine sw (Y1 ag3 rF rF L) t1 t1 ?_
 refine mV L rfl ?_
 refine O1 ⟨[(1,_),(2,_),(4,_),(25,_),(26,_)],(1,_) :: (2,_) :: ((I2 1 [])),t5,⟨rfl,rfl,(hbT [_,_] (i2 (s:=1) dC []) rfl)⟩,?_⟩
 refine X1 ?_
 refine F0r (α:=Nat) (fun i=>[(26,vi (i:Int)),(4,.ref 1002 0 i i)]) (fun i=>[]) (fun i=>(I2 1 ((P4 n).take i))) (fun i=>i≤n) (fun i=>n - i) (0) (sl:=[(1,_),(2,_),(25,_)]) (hb:=[(1,_),(2,_)]) ?_ ⟨oR,oR,rfl,rfl,rfl,trivial⟩ ⟨rfl,rfl,(hbT [_,_] (i2 (s:=1) dC []) rfl)⟩ ?_
 ·exact Nat.zero_le _
 intro i hi
 have hbsl:(P4 n).length=n:=by simp [P4]
 have htl:((P4 n).take i).length=i:=by rw [J0]; omega
 refine exr (sw (d4 L) t2 t0 ?_)
 refine O1 ⟨[(1,_),(2,_),(4,_),(25,_),(26,_),(27,_)],(1,_) :: (2,_) :: ((I2 1 ((P4 n).take i))),t6,⟨rfl,rfl,(hbT [_,_] (i2 (s:=1) dC ((P4 n).take i)) rfl)⟩,?_⟩
 refine R1 ?_
 refine D2 rfl (fun hc=>?_) (fun hc=>?_)
 ·have hc:=dt hc
  have hib:i<n:=by omega
  have hst:=b1z hib
  refine U1 (xq ?_)
  refine R1 (X1 (exr (mV L rfl (aV L rfl ?_))))
  refine O1 ⟨[(1,_),(2,_),(4,_),(5,_),(25,_),(26,_)],(1,_) :: (2,_) :: ((I2 1 ((P4 n).take i))),t6,⟨rfl,rfl,(hbT [_,_] (i2 (s:=1) dC ((P4 n).take i)) rfl)⟩,?_⟩
  refine exr (sw (Z1 un24 rfl sz3 dC rX L) t1 t1 ?_)
  refine sw (Y1 ag3 rF rF L) t1 t1 ?_
  refine swb (V0k (k:=31) hG hX cl54 rfl hN (g0v n oM) (P0 _ rfl) L) t1 t0 (frT [_,_] (i2 (s:=1) dC ((P4 n).take i)) rfl rfl (by simp [F3,X2,Cells.free,PV.freeL,PV.free,X3,i3])) ?_
  refine aV L rfl ?_
  refine O1 ⟨[(1,_),(2,_),(4,_),(5,_),(6,_),(25,_),(26,_)],(1,_) :: (2,_) :: (31,_) :: ((I2 1 ((P4 n).take i))),t7,⟨rfl,rfl,rfl,(hbT [_,_,_] (i2 (s:=1) dC ((P4 n).take i)) rfl)⟩,?_⟩
  refine exr (mV L rfl (mV L rfl (cK hG hX cl55 hN (R6 1 dC dC) L t1 (sw (p0v (sz:=4) un40 sz47 (by exact sM) (j:=i) rO oM L) t2 t1 ?_))))
  refine sb (F0f (n:=4) sz47 (by exact sM) rfl oM) t2 t1 ?_
  refine O1 ⟨[(1,_),(2,_),(4,_),(6,_),(25,_),(26,_)],(1,_) :: (2,_) :: (31,q4 ((zsQ n).set i 1)) :: ((I2 1 ((P4 n).take i))),t6,⟨rfl,rfl,obl rfl (n0f (v:=zq n) 1 (by simpa using hib)),(hbT [_,_,_,_] (i2 (s:=1) dC ((P4 n).take i)) rfl)⟩,?_⟩
  obtain ⟨ln,hln⟩:∃ ln,ln=(zsQ n).set i 1:=⟨_,rfl⟩
  have hlnl:ln.length=n:=by rw [hln]; simp
  rw [← hln] at hst ⊢
  have hrf:PV.ref 31 0 n (n*4)=PV.ref 31 0 ln.length (ln.length*4):=by rw [hlnl]
  rw [hrf]
  refine y3 (mV L rfl (mV L rfl (swb (N1j (k:=38) (vs:=[_]) un77 ti40 rfl rfl dC dC rfl (M2 (.cons rfl .nil) rfl) rfl (.cons rfl .ref rfl pu1 .nil) rfl rfl (P0 _ rfl) L) t1 t0 (frT [_,_,_] (i2 (s:=1) dC ((P4 n).take i)) rfl rfl rfl) ?_)))
  refine swb (J0r (k:=1002) (j:=38) (cs:=V4 1 0 ((P4 n).take i)) un77 un77 ti40 rfl rfl rfl (by rw [E2,htl]) (by simp [Tryz.t40]; omega) oM (hpin _) L) t2 ⟨?_,rfl,trivial⟩ t0 ?_
  ·exact rdT [_,_,_,_] (i2 (s:=1) dC _) rfl hdL
  refine aV L rfl ?_
  refine O1 (xq ?_)
  refine p1d (s:=1) (a:=31) (m:=(P4 n).take i) (v:=ln) [1,2,1002] (sl:=[(1,_),(2,_),(4,.ref 1002 0 (i+1) (i+1)),(25,_),(26,_)]) (pre:=[(1,_),(2,_)]) dC dC (hpin _) (hpin _) (by rw [hlo,hlo]) rfl t5 rfl t2 rfl rfl rfl rfl (fun k B hk=>?_) ?_
  ·obtain ⟨j,_,hj⟩:=M8 (G0.2 ⟨_,O3 hk,rfl⟩)
   have hj:k=G3 1 (0+j):=hj
   have hk9:k≠1002∧k≠38∧k≠1∧k≠2∧k≠31:=by rw [hj]; unfold G3; omega
   show List.lookup k ((1002,_) :: (38,_) :: (1,_) :: (2,_) :: (31,_) :: I2 1 ((P4 n).take i))=some B
   rw [m7 hk9.1,m7 hk9.2.1,m7 hk9.2.2.1,m7 hk9.2.2.2.1,m7 hk9.2.2.2.2,I2,m7 hk9.1]; exact hk
  rw [← hst]
  refine y3 (sw (K3 L (w64 oM oM)) t2 t0 (mV L rfl (O1 ?_)))
  exact ⟨i+1,oM,by omega,E3 ⟨oR,oR,rfl,rfl,rfl,trivial⟩ ⟨rfl,rfl,(hbT [_,_] (i2 (s:=1) dC ((P4 n).take (i+1))) rfl)⟩⟩
 ·have hc:=df hc
  have hib:i=n:=by omega
  subst hib
  rw [show (P4 i).take i=P4 i from C0 oM]
  obtain ⟨t,ht⟩:∃ t,t=ech M (P4 i) i:=⟨_,rfl⟩
  have hech:=j0w true i i i B DB M (P4 i) H
  rw [← ht] at hech hsp ⊢
  obtain ⟨r1,r2,r3,-⟩:=hsp
  have hbeg:I4 E (fun _=>false) 50 [.p (.agg [vZ i,.sl M.length (O5 M)]),bv true i] (bsT true (P4 i)) ([wU i M (bv true i)]++i5 true M (P4 i)) (.at_ 999 0 3):=by rw [hn]; exact g0g true i i M (P4 i) H.rc H.nl H.cl
  refine L2 (xq ?_)
  refine k0w (nsw (l6 ag24 sz24 rF (by exact al2) rfl L) t1 t1 ?_)
  refine nsw (c_m L) t1 t0 (nsU (pre:=[_,_]) (H:=bsT true (P4 i)) G hN [1,2] [(1,_),(2,_)] [(1,_),(2,_)] hbeg L (C4 (ys:=[_,_]) cl50 rfl rfl) t2 P0c h0a (w5 _ _).nd g0y V0h N0h (fun h=>by cases h) rfl t2 rfl t2 rfl rfl rfl rfl ?_)
  refine nsw (c_a L) t1 t0 ?_
  refine .nil ⟨[(1,_),(2,_),(7,_)],(1,_) :: (2,_) :: (999,_) :: (i5 true M (P4 i)),t3,⟨rfl,rfl,rfl,(hbT [_,_,_] (f6 true M (P4 i)) rfl)⟩,?_⟩
  refine R1 (k0w (nsw (c_m L) t1 t0 (nsU (pre:=[_,_]) (H:=[wU i M (bv true i)]++i5 true M (P4 i)) G hN [1,2,999] [(1,_),(2,_),(7,.at_ 999 0 3)] [(1,_),(2,_)] hech L (C4 (ys:=[_]) cl51 rfl rfl) t1 h0a h0a g0y g0y V0h (fun q h=>by cases h) K1p rfl t2 rfl t3 rfl rfl rfl rfl ?_)))
  refine nsw (c_m L) t1 t0 (nsw (i4 rfl L) t1 t0 (nsw (i4 rfl L) t1 t0 (D1r (T3 (k:=9) (n:=4) zv47 (.cons rfl (.cons rfl (.cons rfl (.cons rfl .nil)))) rfl (P0 _ rfl) L) t0 t0 (frT [_,_,_] (f6 true t.m t.b) rfl rfl (by simp [F3,X2,Cells.free,PV.freeL,PV.free,X3,i3])) ?_)))
  refine nsw (c_a L) t1 t0 (nsb (U2 sz47 rF pa4 rfl pu4) t2 t1 ?_)
  refine .nil ⟨[(1,_),(2,_),(7,_),(8,_)],(1,_) :: (2,_) :: (999,_) :: (i5 true t.m t.b),t4,⟨rfl,rfl,rfl,(hbT [_,_,_,_,_] (f6 true t.m t.b) rfl)⟩,?_⟩
  refine d1z (pre:=[_,_]) hlo rfl sM (fun _=>r2.1) ⟨⟨_,rfl,.same⟩,⟨_,rfl,.same⟩,⟨_,rfl,.same⟩,⟨_,rfl,.same⟩,trivial⟩ ?_
  have hle:=r3.le
  show l4 _ _ _ ⟨_,[_,_]++[(999,⟨79,3,.mix [.p (.sl t.m.length (O5 t.m)),.p (vZ i),.p (.sl t.b.length (O5 t.b))]⟩)]⟩ _
  refine exr (mV L rfl (sw (R2 un27 L) t1 t0 (sw (Z1 un24 rfl sz3 dC rX L) t1 t1 ?_)))
  refine sw (Y1 ag3 rF rF L) t1 t1 ?_
  refine sw (d4 L) t2 t0 (zn [(1,_),(2,_),(7,_),(53,_)] [(1,_),(2,_),(999,_)] t4 t3 ?_)
  refine D2 rfl (fun hk=>?_) (fun hk=>?_)
  ·have hk:=dt hk
   have hk:t.pv.length<i:=by omega
   rw [p1w,y1x,v1h,if_pos hk,if_pos hk,if_pos hk]
   refine exr (sw (Y7 (E6 (vs:=[]) un24 zv24 (.cons rfl (.cons rfl .nil)) ((y2.cons sz3 (y2.cons sz22 y2.nil))).to rfl .nil (.cons (.cons .nil)) L) (.agg (.cons .same (.cons .nil .nil)))) t0 t0 (sb (U2 sz24 rF pa2 rfl pu2) t2 t1 ?_))
   refine aV L rfl (zn [(2,_),(3,_)] [(2,_)] t2 t1 (V1 ?_))
   refine ⟨.inr rfl,U4.cast (.cons (.agg rfl rfl rfl ag24 sz24 (.cons (.cons .nil))) (.cons (.tmp rfl) .nil)) ?_,trivial⟩
   rfl
  ·have hk:=df hk
   have hk:¬ t.pv.length<i:=by omega
   rw [p1w,y1x,v1h,if_neg hk,if_neg hk,if_neg hk]
   refine U1 (xq ?_)
   refine exd rF ?_
   refine sw (Z1 un24 rfl sz3 dC rX L) t1 t1 ?_
   refine sw (Y1 ag3 rF rF L) t1 t1 ?_
   refine mV L rfl (sw (Z2 rX L) t1 t1 ?_)
   refine sw (Z1 un79 rfl sz77 dC rX L) t1 t1 ?_
   refine sw (Y1 ag77 rF rF L) t1 t1 ?_
   refine sw (E6 (vs:=[_,_]) un24 zv24 (.cons rfl (.cons rfl .nil)) ((y2.cons sz3 (y2.cons sz22 y2.nil))).to rfl (.cons rfl (.atom rfl) rfl pu1 (.cons rfl .sl rfl (.skip pu1) .nil)) (.cons (.cons .nil)) L) t2 t0 (sb (U2 sz24 rF pa2 rfl pu2) t2 t1 ?_)
   refine aV L rfl ?_
   refine O1 ⟨B5 [⟨[1],[1],[55],[]⟩,⟨[55],[1],[56],[]⟩,⟨[7],[],[57],[]⟩,⟨[57],[999],[58],[]⟩,⟨[58],[999],[59],[]⟩,⟨[59],[999],[60],[]⟩,⟨[56,60],[],[61],[]⟩,⟨[2,61],[2],[],[2]⟩,⟨[],[],[3],[]⟩] rF rF dC,[(2,_),(3,_)],[(2,_)],t2,t1,?_⟩
   refine V1 ?_
   refine ⟨.inr rfl,U4.cast (.cons (.agg rfl rfl rfl ag24 sz24 (.cons (.cons .nil))) (.cons (.tmp rfl) .nil)) ?_,trivial⟩
   rfl
def m0p (M:List (List Rat))(y:List Rat)(j k:Nat):List Rat:=(List.range k).map fun i=>y.getD i 0*ent M i j
theorem H0v {M:List (List Rat)}{y:List Rat}{j k:Nat}:m0p M y j (k+1)=m0p M y j k++[y.getD k 0*ent M k j]:=by simp [m0p,List.range_succ]
@[simp] theorem J1m {M:List (List Rat)}{y:List Rat}{j k:Nat}:(m0p M y j k).length=k:=by simp [m0p]
def W0p (M:List (List Rat))(y:List Rat)(c:Nat):Bool:=(List.range c).all fun j=>decide (C8 (m0p M y j M.length)=0)
def N0w (c:Nat)(M:List (List Rat))(b y:List Rat):Bool:=W0p M y c && decide (b0h y b=1)
def k1q (c:Int)(m:List (List RQ))(b y:List RQ):Bool:=isM c m && b.all RQ.is && y.all RQ.is && decide (b.length=m.length) && decide (y.length=m.length)
theorem w1w (c:Int)(m:List (List RQ))(b y:List RQ)(hm:MSm m)(hbl:b.length<1000000000)(hb:∀ r∈b,r.sm)(hyl:y.length<1000000000)(hy:∀ r∈y,r.sm)(h:k1q c m b y=false):Y2 E 25 [pMR c m,pVR b,pVR y] (bZ false):=by
 refine j2 (xs:=[bZ false]) Tryz.func25 rfl Tryz.ntmps25 Tryz.results25 sM fun F hG hX0 hnt hdf P0=>?_
 obtain ⟨L,hX,hN⟩:=pro hnt hX0 hG
 refine exr (swb (R3 (k:=3) (n:=2) pa2 rfl rfl (P0 _ rfl) L) t1 t0 ⟨rfl,rfl⟩ (aV L rfl (zn [(1,_),(2,_),(3,_)] [(3,_)] t3 t1 (R1 ?_))))
 refine exm (sl:=[(39,vb true)]) (sl0:=[(1,_),(2,_),(3,_)]) (hb:=[]) (hb0:=[(3,_)]) t3 t1 ?_ ?_
 ·rcases (by cases h1:isM c m; exact .inl rfl; cases h2:b.all RQ.is; exact .inr (.inl ⟨rfl,rfl⟩); cases h3:y.all RQ.is; exact .inr (.inr (.inl ⟨rfl,rfl,rfl⟩)); by_cases h4:b.length=m.length; exact .inr (.inr (.inr (.inr ⟨rfl,rfl,rfl,h4,fun h5=>by simp [k1q,h1,h2,h3,h4,h5] at h⟩))); exact .inr (.inr (.inr (.inl ⟨rfl,rfl,rfl,h4⟩))):isM c m=false∨(isM c m=true∧b.all RQ.is=false)∨(isM c m=true∧b.all RQ.is=true∧y.all RQ.is=false)∨(isM c m=true∧b.all RQ.is=true∧y.all RQ.is=true∧b.length≠m.length)∨(isM c m=true∧b.all RQ.is=true∧y.all RQ.is=true∧b.length=m.length∧y.length≠m.length)) with h1 | ⟨h1,h2⟩ | ⟨h1,h2,h3⟩ | ⟨h1,h2,h3,h4⟩ | ⟨h1,h2,h3,h4,h5⟩
  ·refine lp2 ag24 sz24 L rfl rfl (cK hG hX cl40 hN (w6 c m hm) L t1 (sw (P3 L) t1 t0 (mV L rfl (swn (g:=14) rfl (by rw [h1] <;> rfl) L rfl ?_))))
   refine swn (g:=14) rfl (by rw [h1] <;> rfl) L rfl ?_
   refine swn (g:=14) rfl (by rw [h1] <;> rfl) L rfl ?_
   refine sw (m4 (by rw [h1]; rfl) L) t2 t0 ?_
   refine mV L rfl (swn (g:=19) rfl rfl L rfl (swn (g:=19) rfl rfl L rfl (swn (g:=19) rfl rfl L rfl (sw (m4 rfl L) t2 t0 (mV L rfl (swn (g:=24) rfl rfl L rfl (swn (g:=24) rfl rfl L rfl (swn (g:=24) rfl rfl L rfl (swn (g:=24) rfl rfl L rfl (swn (g:=24) rfl rfl L rfl (swn (g:=24) rfl rfl L rfl ?_)))))))))))
   refine sw (m4 rfl L) t2 t0 (mV L rfl (swn (g:=32) rfl rfl L rfl (swn (g:=32) rfl rfl L rfl (swn (g:=32) rfl rfl L rfl (swn (g:=32) rfl rfl L rfl (swn (g:=32) rfl rfl L rfl (swn (g:=32) rfl rfl L rfl (sw (m4 rfl L) t2 t0 ?_))))))))
   exact O1 ⟨t4,t1⟩
  ·refine lp2 ag24 sz24 L rfl rfl (cK hG hX cl40 hN (w6 c m hm) L t1 (sw (P3 L) t1 t0 (mV L rfl (gV (g:=14) rfl (by rw [h1] <;> rfl) L rfl rfl ?_))))
   refine swg (g:=14) rfl (by rw [h1] <;> rfl) (c_c hG hX cl64 rfl hN (O4 b hbl hb) L) rfl t1 t0 ?_
   refine swg (g:=14) rfl (by rw [h1] <;> rfl) (P3 L) rfl t1 t0 ?_
   refine sw (V3 (by rw [h1]; rfl) L) t2 t0 ?_
   refine mV L rfl (swn (g:=19) rfl (by rw [h2] <;> rfl) L rfl ?_)
   refine swn (g:=19) rfl (by rw [h2] <;> rfl) L rfl ?_
   refine swn (g:=19) rfl (by rw [h2] <;> rfl) L rfl ?_
   refine sw (m4 (by rw [h2]; rfl) L) t2 t0 ?_
   refine mV L rfl (swn (g:=24) rfl rfl L rfl (swn (g:=24) rfl rfl L rfl (swn (g:=24) rfl rfl L rfl (swn (g:=24) rfl rfl L rfl (swn (g:=24) rfl rfl L rfl (swn (g:=24) rfl rfl L rfl (sw (m4 rfl L) t2 t0 (mV L rfl (swn (g:=32) rfl rfl L rfl (swn (g:=32) rfl rfl L rfl (swn (g:=32) rfl rfl L rfl ?_)))))))))))
   refine swn (g:=32) rfl rfl L rfl (swn (g:=32) rfl rfl L rfl (swn (g:=32) rfl rfl L rfl (sw (m4 rfl L) t2 t0 ?_)))
   exact O1 ⟨t4,t1⟩
  ·refine lp2 ag24 sz24 L rfl rfl (cK hG hX cl40 hN (w6 c m hm) L t1 (sw (P3 L) t1 t0 (mV L rfl (gV (g:=14) rfl (by rw [h1] <;> rfl) L rfl rfl ?_))))
   refine swg (g:=14) rfl (by rw [h1] <;> rfl) (c_c hG hX cl64 rfl hN (O4 b hbl hb) L) rfl t1 t0 ?_
   refine swg (g:=14) rfl (by rw [h1] <;> rfl) (P3 L) rfl t1 t0 ?_
   refine sw (V3 (by rw [h1]; rfl) L) t2 t0 ?_
   refine mV L rfl (gV (g:=19) rfl (by rw [h2] <;> rfl) L rfl rfl ?_)
   refine swg (g:=19) rfl (by rw [h2] <;> rfl) (c_c hG hX cl64 rfl hN (O4 y hyl hy) L) rfl t1 t0 ?_
   refine swg (g:=19) rfl (by rw [h2] <;> rfl) (P3 L) rfl t1 t0 ?_
   refine sw (V3 (by rw [h2]; rfl) L) t2 t0 ?_
   refine mV L rfl (swn (g:=24) rfl (by rw [h3] <;> rfl) L rfl ?_)
   refine swn (g:=24) rfl (by rw [h3] <;> rfl) L rfl ?_
   refine swn (g:=24) rfl (by rw [h3] <;> rfl) L rfl ?_
   refine swn (g:=24) rfl (by rw [h3] <;> rfl) L rfl ?_
   refine swn (g:=24) rfl (by rw [h3] <;> rfl) L rfl ?_
   refine swn (g:=24) rfl (by rw [h3] <;> rfl) L rfl ?_
   refine sw (m4 (by rw [h3]; rfl) L) t2 t0 ?_
   refine mV L rfl (swn (g:=32) rfl rfl L rfl (swn (g:=32) rfl rfl L rfl (swn (g:=32) rfl rfl L rfl (swn (g:=32) rfl rfl L rfl (swn (g:=32) rfl rfl L rfl (swn (g:=32) rfl rfl L rfl (sw (m4 rfl L) t2 t0 ?_)))))))
   exact O1 ⟨t4,t1⟩
  ·refine lp2 ag24 sz24 L rfl rfl (cK hG hX cl40 hN (w6 c m hm) L t1 (sw (P3 L) t1 t0 (mV L rfl (gV (g:=14) rfl (by rw [h1] <;> rfl) L rfl rfl ?_))))
   refine swg (g:=14) rfl (by rw [h1] <;> rfl) (c_c hG hX cl64 rfl hN (O4 b hbl hb) L) rfl t1 t0 ?_
   refine swg (g:=14) rfl (by rw [h1] <;> rfl) (P3 L) rfl t1 t0 ?_
   refine sw (V3 (by rw [h1]; rfl) L) t2 t0 ?_
   refine mV L rfl (gV (g:=19) rfl (by rw [h2] <;> rfl) L rfl rfl ?_)
   refine swg (g:=19) rfl (by rw [h2] <;> rfl) (c_c hG hX cl64 rfl hN (O4 y hyl hy) L) rfl t1 t0 ?_
   refine swg (g:=19) rfl (by rw [h2] <;> rfl) (P3 L) rfl t1 t0 ?_
   refine sw (V3 (by rw [h2]; rfl) L) t2 t0 ?_
   refine mV L rfl (gV (g:=24) rfl (by rw [h3] <;> rfl) L rfl rfl ?_)
   refine swg (g:=24) rfl (by rw [h3] <;> rfl) (R2 un40 L) rfl t1 t0 ?_
   refine swg (g:=24) rfl (by rw [h3] <;> rfl) (Z1 un24 rfl sz22 dC rX L) rfl t1 t1 ?_
   refine swg (g:=24) rfl (by rw [h3] <;> rfl) (Y1 ag22 rF rF L) rfl t1 t1 ?_
   refine swg (g:=24) rfl (by rw [h3] <;> rfl) (R2 un22 L) rfl t1 t0 ?_
   refine swg (g:=24) rfl (by rw [h3] <;> rfl) (c_n L) rfl t2 t0 ?_
   refine sw (V3 (by rw [h3]; rfl) L) t2 t0 ?_
   refine mV L rfl (swn (g:=32) rfl sO L rfl (swn (g:=32) rfl sO L rfl (swn (g:=32) rfl sO L rfl (swn (g:=32) rfl sO L rfl (swn (g:=32) rfl sO L rfl (swn (g:=32) rfl sO L rfl (sw (m4 sO L) t2 t0 ?_)))))))
   exact O1 ⟨t4,t1⟩
  ·refine lp2 ag24 sz24 L rfl rfl (cK hG hX cl40 hN (w6 c m hm) L t1 (sw (P3 L) t1 t0 (mV L rfl (gV (g:=14) rfl (by rw [h1] <;> rfl) L rfl rfl ?_))))
   refine swg (g:=14) rfl (by rw [h1] <;> rfl) (c_c hG hX cl64 rfl hN (O4 b hbl hb) L) rfl t1 t0 ?_
   refine swg (g:=14) rfl (by rw [h1] <;> rfl) (P3 L) rfl t1 t0 ?_
   refine sw (V3 (by rw [h1]; rfl) L) t2 t0 ?_
   refine mV L rfl (gV (g:=19) rfl (by rw [h2] <;> rfl) L rfl rfl ?_)
   refine swg (g:=19) rfl (by rw [h2] <;> rfl) (c_c hG hX cl64 rfl hN (O4 y hyl hy) L) rfl t1 t0 ?_
   refine swg (g:=19) rfl (by rw [h2] <;> rfl) (P3 L) rfl t1 t0 ?_
   refine sw (V3 (by rw [h2]; rfl) L) t2 t0 ?_
   refine mV L rfl (gV (g:=24) rfl (by rw [h3] <;> rfl) L rfl rfl ?_)
   refine swg (g:=24) rfl (by rw [h3] <;> rfl) (R2 un40 L) rfl t1 t0 ?_
   refine swg (g:=24) rfl (by rw [h3] <;> rfl) (Z1 un24 rfl sz22 dC rX L) rfl t1 t1 ?_
   refine swg (g:=24) rfl (by rw [h3] <;> rfl) (Y1 ag22 rF rF L) rfl t1 t1 ?_
   refine swg (g:=24) rfl (by rw [h3] <;> rfl) (R2 un22 L) rfl t1 t0 ?_
   refine swg (g:=24) rfl (by rw [h3] <;> rfl) (c_n L) rfl t2 t0 ?_
   refine sw (V3 (by rw [h3]; rfl) L) t2 t0 ?_
   refine mV L rfl (gV (g:=32) rfl sO L rfl rfl (swg (g:=32) rfl sO (R2 un40 L) rfl t1 t0 (swg (g:=32) rfl sO (Z1 un24 rfl sz22 dC rX L) rfl t1 t1 ?_)))
   refine swg (g:=32) rfl sO (Y1 ag22 rF rF L) rfl t1 t1 ?_
   refine swg (g:=32) rfl sO (R2 un22 L) rfl t1 t0 (swg (g:=32) rfl sO (c_n L) rfl t2 t0 (sw (V3 sO L) t2 t0 ?_))
   exact O1 ⟨⟨ob rfl sO,rfl,rfl,rfl,trivial⟩,t1⟩
 refine i6 rfl rfl (exr (aV L rfl (zn [(6,_)] [] t1 trivial (V1 ?_))))
 refine Q0 (.tmp rfl) ?_
 rfl
theorem M1x {a b:Rat}:q0d a b=0↔a=b:=by
 unfold q0d
 constructor
 ·intro h
  split at h
  ·cases h
  ·split at h
   ·cases h
   ·rename_i h1 h2; exact Rat.le_antisymm (Rat.not_lt.1 h2) (Rat.not_lt.1 h1)
 ·rintro rfl; simp [Rat.lt_irrefl]
theorem d1b {B C:Nat}{u v:List Rat}(hB:∀ a∈u,qw a≤B)(hC:∀ a∈v,qw a≤C):qw (b0h u v)≤u.length*(B+C+1)+1:=by
 have:=Y0w (M0w hB hC)
 have h2:=V0 (B+C+1) (k0c (u:=u) (v:=v))
 rw [b0h]; omega
theorem D1d {B:Nat}{M:List (List Rat)}{y:List Rat}{j k:Nat}(hB:MB B M)(hy:∀ a∈y,qw a≤B)(h0:0<B)(hk:k≤y.length):∀ a∈m0p M y j k,qw a≤B+B:=by
 intro a ha
 simp only [m0p,G0,List.mem_range] at ha
 obtain ⟨i,hi,rfl⟩:=ha
 have:=Z9 (y.getD i 0) (ent M i j)
 have:=hy _ (C5 (show i<y.length by omega))
 have:=f0w (i:=i) (j:=j) hB h0
 omega
theorem v0r {M:List (List Rat)}{y:List Rat}{c:Nat}:W0p M y (c+1)=(W0p M y c && decide (C8 (m0p M y c M.length)=0)):=by
 simp [W0p,List.range_succ]
theorem F0m {M:List (List Rat)}{y:List Rat}{j c:Nat}(hj:j<c)(h:¬ C8 (m0p M y j M.length)=0):W0p M y c=false:=by
 rw [W0p,List.all_eq_false]
 exact ⟨j,by simpa using hj,by simpa using h⟩
theorem D0y (c B:Nat)(M:List (List Rat))(b y:List Rat)(h:MOk c M)(hB:MB B M)(hbB:∀ a∈b,qw a≤B)(hyB:∀ a∈y,qw a≤B)(hbl:b.length=M.length)(hyl:y.length=M.length)(h0:0<B)(hs:M.length*(B+B+1)+1<900000000)(hbb:B<100000000):Y2 E 25 [pMq c M,pV b,pV y] (bZ (N0w c M b y)):=by
 refine j2 (xs:=[bZ (N0w c M b y)]) Tryz.func25 rfl Tryz.ntmps25 Tryz.results25 sM fun F hG hX0 hnt hdf P0=>?_
 obtain ⟨L,hX,hN⟩:=pro hnt hX0 hG
 have hr4:=h.rows
 have hc60:=h.cols
 refine exr (swb (R3 (k:=3) (n:=2) pa2 rfl rfl (P0 _ rfl) L) t1 t0 ⟨rfl,rfl⟩ (aV L rfl (zn [(1,_),(2,_),(3,_)] [(3,_)] t3 t1 (R1 (exr (lp2 ag24 sz24 L rfl rfl (cK hG hX cl40 hN (D6 h hB oM) L t1 (sw (P3 L) t1 t0 (mV L rfl (gV (g:=14) rfl rfl L rfl rfl (swg (g:=14) rfl rfl (c_c hG hX cl64 rfl hN (j9 hbB oM oM) L) rfl t1 t0 ?_)))))))))))
 refine swg (g:=14) rfl rfl (P3 L) rfl t1 t0 (sw (V3 rfl L) t2 t0 (mV L rfl (gV (g:=19) rfl rfl L rfl rfl (swg (g:=19) rfl rfl (c_c hG hX cl64 rfl hN (j9 hyB oM oM) L) rfl t1 t0 (swg (g:=19) rfl rfl (P3 L) rfl t1 t0 (sw (V3 rfl L) t2 t0 (mV L rfl (gV (g:=24) rfl rfl L rfl rfl (swg (g:=24) rfl rfl (R2 un40 L) rfl t1 t0 (swg (g:=24) rfl rfl (Z1 un24 rfl sz22 dC rX L) rfl t1 t1 ?_))))))))))
 refine swg (g:=24) rfl rfl (Y1 ag22 rF rF L) rfl t1 t1 ?_
 refine swg (g:=24) rfl rfl (R2 un22 L) rfl t1 t0 (swg (g:=24) rfl rfl (c_n L) rfl t2 t0 (sw (V3 rfl L) t2 t0 (mV L rfl (gV (g:=32) rfl sO L rfl rfl (swg (g:=32) rfl sO (R2 un40 L) rfl t1 t0 (swg (g:=32) rfl sO (Z1 un24 rfl sz22 dC rX L) rfl t1 t1 ?_))))))
 refine swg (g:=32) rfl sO (Y1 ag22 rF rF L) rfl t1 t1 ?_
 refine swg (g:=32) rfl sO (R2 un22 L) rfl t1 t0 (swg (g:=32) rfl sO (c_n L) rfl t2 t0 (sw (V3 sO L) t2 t0 (zn [(1,_),(2,_),(3,_),(39,_)] [(3,_)] t4 t1 (W3 rfl sO ?_))))
 refine U1 (xq ?_)
 refine R1 (exr (sw (Z1 un24 rfl sz3 dC rX L) t1 t1 ?_))
 refine sw (Y1 ag3 rF rF L) t1 t1 ?_
 refine mV L rfl (zn [(1,_),(2,_),(3,_),(41,_),(42,_)] [(3,_)] t5 t1 (X1 ?_))
 refine exl (α:=Nat) (fun j=>[(42,vi (j:Int))]) (fun j=>[]) (fun j=>j≤c∧W0p M y j=true) (fun j=>c - j) (0) (sl:=[(1,_),(2,_),(3,_),(41,_)]) (hb:=[(3,_)]) ?_ ⟨oR,rfl,rfl,rfl,rfl,trivial⟩ t1 ?_
 ·exact ⟨Nat.zero_le _,rfl⟩
 intro j hj
 obtain ⟨hj,hch⟩:=hj
 refine exr (sw (d4 L) t2 t0 (zn [(1,_),(2,_),(3,_),(41,_),(42,_),(43,_)] [(3,_)] t6 t1 (R1 ?_)))
 refine D2 rfl (fun hc=>?_) (fun hc=>?_)
 ·have hc:=dt hc
  have hjc:j<c:=by omega
  refine U1 (xq ?_)
  refine R1 (X1 (exr (mV L rfl (aV L rfl (zn [(1,_),(2,_),(3,_),(7,_),(41,_),(42,_)] [(3,_)] t6 t1 (exr (aV L rfl (zn [(1,_),(2,_),(3,_),(7,_),(8,_),(41,_),(42,_)] [(3,_)] t7 t1 (R1 (exr (sw (Z1 un24 rfl sz22 dC rX L) t1 t1 ?_)))))))))))
  refine sw (Y1 ag22 rF rF L) t1 t1 ?_
  refine sw (R2 un22 L) t1 t0 (mV L rfl (zn [(1,_),(2,_),(3,_),(7,_),(8,_),(41,_),(42,_),(46,_),(47,_),(48,_)] [(3,_)] t10 t1 (X1 ?_)))
  refine exl (α:=(Nat×List Rat)) (fun x=>[(48,vi (x.1:Int)),(8,n1k 64 x.2)]) (fun x=>[]++k1f 64 x.2) (fun x=>x.1≤M.length∧m0p M y j x.1=x.2) (fun x=>M.length - x.1) ((0,[])) (sl:=[(1,_),(2,_),(3,_),(7,_),(41,_),(42,_),(46,_),(47,_)]) (hb:=[(3,_)]) ?_ ⟨oR,oR,rfl,rfl,rfl,rfl,rfl,rfl,rfl,rfl,trivial⟩ (hbI (l':=[(3,_)]) rfl t1) ?_
  ·exact ⟨Nat.zero_le _,rfl⟩
  intro x hk
  obtain ⟨k,T⟩:=x
  obtain ⟨hk,hT⟩:=hk
  simp only at hk hT
  rcases T with _ | ⟨q,T⟩
  ·dsimp only [n1k,k1f,List.append_nil]
   refine exr (sw (d4 L) t2 t0 (zn [(1,_),(2,_),(3,_),(7,_),(8,_),(41,_),(42,_),(46,_),(47,_),(48,_),(49,_)] [(3,_)] t11 t1 (R1 ?_)))
   refine D2 rfl (fun hd=>?_) (fun hd=>?_)
   ·have hd:=dt hd
    have hkl:k<M.length:=by omega
    have hrl:=h.get hkl
    have ht:=H0v (M:=M) (y:=y) (j:=j) (k:=k)
    rw [hT] at ht
    have hq1:=hyB _ (C5 (show k<y.length by omega))
    have hq2:=f0w (i:=k) (j:=j) hB h0
    refine U1 (xq ?_)
    refine R1 (X1 (exr (mV L rfl (sw (ixJ un22 sz40 (j:=k) rO oM sM L) t2 t0 ?_))))
    refine sw (v4 ag40 (W9 hkl) L) t1 t0 (aV L rfl (aV L rfl (zn [(1,_),(2,_),(3,_),(7,_),(8,_),(9,_),(10,_),(41,_),(42,_),(46,_),(47,_),(48,_)] [(3,_)] t12 t1 (m0v rF ?_))))
    refine mV L rfl (mV L rfl (mV L rfl (sw (F2 un40 sz47 oM oM sM dC L) t2 t0 ?_)))
    refine sw (F7 ag47 sz47 (V7 (show k<y.length by omega)) rfl L) t1 t0 ?_
    refine mV L rfl (mV L rfl (sw (F2 un40 sz47 oM oM sM dC L) t2 t0 ?_))
    refine sw (F7 ag47 sz47 (V7 (show j<(M.getD k []).length by omega)) rfl L) t1 t0 ?_
    refine cK hG hX cl67 hN (y8 (y.getD k 0) (ent M k j) oM oM) L t2 (sw (F4 (vs:=[_]) un40 ti47 rfl rfl dC dC rfl (M2 (.cons rfl (.cons rfl (.cons rfl (.cons rfl .nil)))) rfl) rfl (.cons rfl pa4 rfl pu4 .nil) (.cons (.cons (.cons (.cons .nil)))) L) t1 t0 (swb (apN (k:=64) (sz:=4) un40 un40 ti47 rfl rfl rfl dC sM rfl (by simp [Tryz.t47]) oM (P0 _ rfl) L) t2 t0 ⟨rfl,rfl⟩ ?_))
    refine aV L rfl ?_
    refine O1 ⟨aok rfl rfl,?_⟩
    refine y3 (sw (K3 L (w64 oM oM)) t2 t0 (mV L rfl (O1 ?_)))
    exact ⟨(k+1,[y.getD k 0*ent M k j]),⟨by simp only; omega,ht⟩,(by simp only; omega),E3 ⟨oR,oR,rfl,rfl,rfl,rfl,rfl,rfl,rfl,rfl,trivial⟩ (hbI (l':=[(64,_),(3,_)]) rfl t2)⟩
   ·have hd:=df hd
    have hkl:k=M.length:=by omega
    rw [hkl] at hT
    refine L2 (xq ?_)
    refine G4 [] (sl:=[(1,_),(2,_),(3,_),(8,_),(41,_),(42,_)]) (hb:=[(3,_)]) (M3 hX0) ⟨⟨_,rfl,.same⟩,⟨_,rfl,.same⟩,⟨_,rfl,.same⟩,⟨_,rfl,(.p .nil)⟩,⟨_,rfl,.same⟩,⟨_,rfl,.same⟩,trivial⟩ ⟨⟨rfl,_,rfl,.same⟩,trivial⟩ (exr (mV L rfl (cK hG hX cl68 hN (p0n [] (B+B) sM sM sM) L t1 ?_)))
    refine cK hG hX cl65 hN (K6 (C8 []) (by rw [show C8 []=0 from rfl,P0b]; decide)) L t1 ?_
    refine sw (P3 L) t1 t0 (zn [(1,_),(2,_),(3,_),(41,_),(42,_),(69,_)] [(3,_)] t6 t1 (W3 rfl (by rw [show C8 []=0 from rfl]; rfl) ?_))
    refine U1 (xq ?_)
    refine y3 (sw (K3 L (w64 oM oM)) t2 t0 (mV L rfl (O1 ?_)))
    exact ⟨j+1,⟨by omega,by rw [v0r,hch,hT]; rfl⟩,by omega,E3 ⟨oR,rfl,rfl,rfl,rfl,trivial⟩ t1⟩
  ·dsimp only [n1k,k1f]
   have hTl:(q :: T).length=k:=by rw [← hT]; simp
   have hTl2:T.length+1=k:=hTl
   refine exr (sw (d4 L) t2 t0 (zn [(1,_),(2,_),(3,_),(7,_),(8,_),(41,_),(42,_),(46,_),(47,_),(48,_),(49,_)] [(3,_),(64,_)] t11 t2 (R1 ?_)))
   refine D2 rfl (fun hd=>?_) (fun hd=>?_)
   ·have hd:=dt hd
    have hkl:k<M.length:=by omega
    have hrl:=h.get hkl
    have ht:=H0v (M:=M) (y:=y) (j:=j) (k:=k)
    rw [hT] at ht
    have hq1:=hyB _ (C5 (show k<y.length by omega))
    have hq2:=f0w (i:=k) (j:=j) hB h0
    refine U1 (xq ?_)
    refine R1 (X1 (exr (mV L rfl (sw (ixJ un22 sz40 (j:=k) rO oM sM L) t2 t0 ?_))))
    refine sw (v4 ag40 (W9 hkl) L) t1 t0 (aV L rfl (aV L rfl (zn [(1,_),(2,_),(3,_),(7,_),(8,_),(9,_),(10,_),(41,_),(42,_),(46,_),(47,_),(48,_)] [(3,_),(64,_)] t12 t2 (m0v rF ?_))))
    refine mV L rfl (mV L rfl (mV L rfl (sw (F2 un40 sz47 oM oM sM dC L) t2 t0 ?_)))
    refine sw (F7 ag47 sz47 (V7 (show k<y.length by omega)) rfl L) t1 t0 ?_
    refine mV L rfl (mV L rfl (sw (F2 un40 sz47 oM oM sM dC L) t2 t0 ?_))
    refine sw (F7 ag47 sz47 (V7 (show j<(M.getD k []).length by omega)) rfl L) t1 t0 ?_
    refine cK hG hX cl67 hN (y8 (y.getD k 0) (ent M k j) oM oM) L t2 (sw (F4 (vs:=[_]) un40 ti47 rfl rfl dC dC rfl (M2 (.cons rfl (.cons rfl (.cons rfl (.cons rfl .nil)))) rfl) rfl (.cons rfl pa4 rfl pu4 .nil) (.cons (.cons (.cons (.cons .nil)))) L) t1 t0 (swb (apP (sz:=4) un40 un40 ti47 rfl rfl rfl dC (by exact sM) oF sM rfl rfl rfl (by simp [Tryz.t47]; omega) oM (P0 _ rfl) L) t2 t1 t0 ?_))
    refine aV L rfl ?_
    refine O1 ⟨B5 [⟨[8],[],[53],[]⟩,⟨[2],[],[54],[]⟩,⟨[9],[],[55],[]⟩,⟨[54,55],[],[56],[]⟩,⟨[56],[],[57],[]⟩,⟨[10],[],[58],[]⟩,⟨[7],[],[59],[]⟩,⟨[58,59],[],[60],[]⟩,⟨[60],[],[61],[]⟩,⟨[57,61],[],[62],[]⟩,⟨[62],[],[63],[]⟩,⟨[53,63],[64],[64],[64]⟩,⟨[64],[],[8],[]⟩] rF rF dC,?_⟩
    refine y3 (sw (K3 L (w64 oM oM)) t2 t0 (mV L rfl (O1 ?_)))
    exact ⟨(k+1,q :: T++[y.getD k 0*ent M k j]),⟨by simp only; omega,ht⟩,(by simp only; omega),E3 ⟨oR,(by exact ov rfl sO),rfl,rfl,rfl,rfl,rfl,rfl,rfl,rfl,trivial⟩ (hbI (l':=[(64,_),(3,_)]) rfl ⟨(obl rfl (g0x (q :: T) _)),rfl,trivial⟩)⟩
   ·have hd:=df hd
    have hkl:k=M.length:=by omega
    rw [hkl] at hT hTl
    have hbd:=D1d (M:=M) (y:=y) (j:=j) (k:=M.length) hB hyB h0 oM
    rw [hT] at hbd
    have hsq:=Y0w hbd
    rw [hTl] at hsq
    refine L2 (xq ?_)
    refine G4 [64] (sl:=[(1,_),(2,_),(3,_),(8,_),(41,_),(42,_)]) (hb:=[(3,_)]) (M3 hX0) ⟨⟨_,rfl,.same⟩,⟨_,rfl,.same⟩,⟨_,rfl,.same⟩,⟨_,rfl,(.ref rfl rfl (by exact sM) (by first | rfl | omega))⟩,⟨_,rfl,.same⟩,⟨_,rfl,.same⟩,trivial⟩ ⟨⟨rfl,_,rfl,.same⟩,trivial⟩ ?_
    refine exr (mV L rfl (cK hG hX cl68 hN (p0n (q :: T) (B+B) (by rw [hTl]; omega) hbd (by rw [hTl]; exact hs)) L t1 ?_))
    refine cK hG hX cl65 hN (K6 (C8 (q :: T)) oM) L t1 (sw (P3 L) t1 t0 (zn [(1,_),(2,_),(3,_),(41,_),(42,_),(69,_)] [(3,_)] t6 t1 ?_))
    refine D2 rfl (fun hz=>?_) (fun hz=>?_)
    ·have hz:¬ C8 (m0p M y j M.length)=0:=by rw [hT]; simpa using hz
     refine exr (aV L rfl (zn [(6,_)] [] t1 trivial (V1 ?_)))
     refine Q0 (.tmp rfl) ?_
     rw [N0w,F0m hjc hz]; rfl
    ·have hz:C8 (m0p M y j M.length)=0:=by rw [hT]; simpa using hz
     refine U1 (xq ?_)
     refine y3 (sw (K3 L (w64 oM oM)) t2 t0 (mV L rfl (O1 ?_)))
     exact ⟨j+1,⟨by omega,by rw [v0r,hch,hz]; rfl⟩,by omega,E3 ⟨oR,rfl,rfl,rfl,rfl,trivial⟩ t1⟩
 ·have hc:=df hc
  have hjc:j=c:=by omega
  subst hjc
  have hq:=d1b (u:=y) (v:=b) hyB hbB
  have hmul:y.length*(B+B+1)=M.length*(B+B+1):=by rw [hyl]
  refine L2 (xq ?_)
  refine exr (mV L rfl (mV L rfl (cK hG hX cl70 hN (D0v y b B B oM oM hyB hbB oM oM oM) L t2 (cK hG hX cl55 hN (R6 1 dC dC) L t1 (cK hG hX cl69 hN (k1y (b0h y b) 1 oM (by rw [F0g]; decide)) L t2 ?_)))))
  refine sw (c_e L) t2 t0 (aV L rfl (zn [(6,_)] [] t1 trivial (V1 ?_)))
  refine Q0 (.tmp rfl) ?_
  rw [N0w,hch,Bool.true_and,show decide (q0d (b0h y b) 1=0)=decide (b0h y b=1) from decide_eq_decide.2 M1x]
theorem q1c (c:Int)(m:List (List RQ))(b:List RQ)(hm:MSm m)(hbl:b.length<1000000000)(hb:∀ r∈b,r.sm)(h:(isM c m && b.all RQ.is)=false):Y2 E 24 [pMR c m,pVR b] (.tup [.sl 0 [],.sl 0 [],vZ 3]):=by
 refine j2 (xs:=[.sl 0 [],.sl 0 [],vZ 3]) Tryz.func24 rfl Tryz.ntmps24 Tryz.results24 sM fun F hG hX0 hnt hdf P0=>?_
 obtain ⟨L,hX,hN⟩:=pro hnt hX0 hG
 refine exr (swb (R3 (k:=2) (n:=2) pa2 rfl rfl (P0 _ rfl) L) t1 t0 ⟨rfl,rfl⟩ (aV L rfl (aV L rfl (aV L rfl (zn [(1,_),(2,_),(5,_)] [(2,_)] t3 t1 (R1 ?_))))))
 refine exm (sl:=[(29,vb true)]) (sl0:=[(1,_),(2,_),(5,_)]) (hb:=[]) (hb0:=[(2,_)]) t3 t1 ?_ ?_
 ·rcases (by cases h1:isM c m; exact .inl rfl; rw [h1] at h; exact .inr ⟨rfl,h⟩:isM c m=false∨(isM c m=true∧b.all RQ.is=false)) with h1 | ⟨h1,h2⟩
  ·refine lp2 ag24 sz24 L rfl rfl (cK hG hX cl40 hN (w6 c m hm) L t1 (sw (P3 L) t1 t0 (mV L rfl (swn (g:=25) rfl (by rw [h1] <;> rfl) L rfl ?_))))
   refine swn (g:=25) rfl (by rw [h1] <;> rfl) L rfl ?_
   refine swn (g:=25) rfl (by rw [h1] <;> rfl) L rfl ?_
   refine sw (m4 (by rw [h1]; rfl) L) t2 t0 ?_
   exact O1 ⟨t4,t1⟩
  ·refine lp2 ag24 sz24 L rfl rfl (cK hG hX cl40 hN (w6 c m hm) L t1 (sw (P3 L) t1 t0 (mV L rfl (gV (g:=25) rfl (by rw [h1] <;> rfl) L rfl rfl ?_))))
   refine swg (g:=25) rfl (by rw [h1] <;> rfl) (c_c hG hX cl64 rfl hN (O4 b hbl hb) L) rfl t1 t0 ?_
   refine swg (g:=25) rfl (by rw [h1] <;> rfl) (P3 L) rfl t1 t0 ?_
   refine sw (V3 (by rw [h1]; rfl) L) t2 t0 ?_
   exact O1 ⟨⟨ob rfl (by rw [h2]; rfl),rfl,rfl,rfl,trivial⟩,t1⟩
 refine i6 rfl rfl (exr (aV L rfl (aV L rfl (aV L rfl (zn [(4,_),(5,_),(6,_)] [] t3 trivial (G4 [] (sl:=[(4,_),(5,_),(6,_)]) (hb:=[]) (M3 hX0) ⟨⟨_,rfl,(.p .nil)⟩,⟨_,rfl,(.p .nil)⟩,⟨_,rfl,.same⟩,trivial⟩ t0 (V1 ?_)))))))
 refine P1 (.tmp rfl) (.tmp rfl) (.tmp rfl) ?_
 rfl
theorem j1m (c B:Nat)(M:List (List Rat))(b:List Rat)(h:MOk c M)(hB:MB B M)(hbB:∀ a∈b,qw a≤B)(hb:B<1000000000)(hl:b.length<1000000000)(hne:b.length≠M.length):Y2 E 24 [pMq c M,pV b] (.tup [.sl 0 [],.sl 0 [],vZ 1]):=by
 refine j2 (xs:=[.sl 0 [],.sl 0 [],vZ 1]) Tryz.func24 rfl Tryz.ntmps24 Tryz.results24 sM fun F hG hX0 hnt hdf P0=>?_
 obtain ⟨L,hX,hN⟩:=pro hnt hX0 hG
 refine exr (swb (R3 (k:=2) (n:=2) pa2 rfl rfl (P0 _ rfl) L) t1 t0 ⟨rfl,rfl⟩ (aV L rfl (aV L rfl (aV L rfl (zn [(1,_),(2,_),(5,_)] [(2,_)] t3 t1 (R1 (exr (lp2 ag24 sz24 L rfl rfl (cK hG hX cl40 hN (D6 h hB hb) L t1 (sw (P3 L) t1 t0 (mV L rfl ?_)))))))))))
 refine gV (g:=25) rfl rfl L rfl rfl (swg (g:=25) rfl rfl (c_c hG hX cl64 rfl hN (j9 hbB hb hl) L) rfl t1 t0 (swg (g:=25) rfl rfl (P3 L) rfl t1 t0 (sw (V3 rfl L) t2 t0 (zn [(1,_),(2,_),(5,_),(29,_)] [(2,_)] t4 t1 (W3 rfl rfl ?_)))))
 refine U1 (xq ?_)
 refine R1 (exr (mV L rfl (sw (R2 un40 L) t1 t0 (sw (Z1 un24 rfl sz22 dC rX L) t1 t1 ?_))))
 refine sw (Y1 ag22 rF rF L) t1 t1 ?_
 refine sw (R2 un22 L) t1 t0 (sw (c_n L) t2 t0 (zn [(1,_),(2,_),(5,_),(35,_)] [(2,_)] t4 t1 (i6 rfl sO (exr (aV L rfl (aV L rfl (aV L rfl (zn [(4,_),(5,_),(6,_)] [] t3 trivial (G4 [] (sl:=[(4,_),(5,_),(6,_)]) (hb:=[]) (M3 hX0) ⟨⟨_,rfl,(.p .nil)⟩,⟨_,rfl,(.p .nil)⟩,⟨_,rfl,.same⟩,trivial⟩ t0 (V1 ?_))))))))))
 refine P1 (.tmp rfl) (.tmp rfl) (.tmp rfl) ?_
 rfl
theorem g0j (n c B DB:Nat)(M:List (List Rat))(b:List Rat)(h:MOk c M)(hB1:MB B M)(hbB:∀ a∈b,qw a≤B)(hn:M.length=n)(hbn:b.length=n)(H:EU n c (n+1) B DB M (m5 b)):Y2 E 24 [pMq c M,pV b] (.tup [pV (N0g c (ech M (m5 b) c) n),pV (V0v (ech M (m5 b) c) n),vZ (G0r (ech M (m5 b) c) n)]):=h0h (Q0p n c B DB M b h hB1 hbB hn hbn H)
@[reducible] def b2 (vs:List (List RQ)):List (Nat×Blk):=[(2,⟨22,1,.mix [.p (.sl vs.length (i9 vs))]⟩)]
@[reducible] def b3 (vs:List (List RQ))(w:List RQ):List (Nat×Blk):=[(2,⟨22,1,.mix [.p (.sl vs.length (i9 vs))]⟩),(3,⟨40,1,.mix [.p (pVR w)]⟩)]
theorem q0k (vs:List (List RQ))(i:Nat)(hi:i<vs.length)(hm:MSm vs):I4 E (fun _=>true) 72 [.p (vZ i),.at_ 2 0 1] (b2 vs) (b2 vs) (.p (bZ (!(vs.getD i []).all RQ.is))):=by
 refine n4 (xs:=[bZ (!(vs.getD i []).all RQ.is)]) Tryz.func72 rfl Tryz.ntmps72 Tryz.results72 sM fun F G=>?_
 have L:=@lti _ _ G.nt
 have hG:=G.g
 have hX:=G.x
 have hN:=W5 hG
 have P0:=G.p0
 have hr:=hm.2 _ (gDL hi)
 refine exr (aV L rfl (zn [(0,_),(1,_)] [(2,_)] t2 t1 (exr (sw (Y1 ag22 rF rF L) t1 t1 ?_))))
 refine mV L rfl (sw (ixJ un22 sz40 (j:=i) rO oM sM L) t2 t0 ?_)
 refine sw (v4 ag40 (d0x hi) L) t1 t0 (cK hG hX cl64 hN (O4 (vs.getD i []) hr.1 hr.2) L t1 (sw (P3 L) t1 t0 (aV L rfl (zn [(3,_)] [(2,_)] t1 t1 (V1 ?_)))))
 refine ⟨.inr rfl,U4.cast (.cons (.tmp rfl) .nil) ?_,t1⟩
 rfl
theorem J0d (vs:List (List RQ))(w:List RQ)(i:Nat)(hi:i<vs.length):I4 E (fun _=>true) 73 [.p (vZ i),.at_ 2 0 1,.at_ 3 0 1] (b3 vs w) (b3 vs w) (.p (bZ (!decide ((vs.getD i []).length=w.length)))):=by
 refine n4 (xs:=[bZ (!decide ((vs.getD i []).length=w.length))]) Tryz.func73 rfl Tryz.ntmps73 Tryz.results73 sM fun F G=>?_
 have L:=@lti _ _ G.nt
 have hG:=G.g
 have hX:=G.x
 have hN:=W5 hG
 have P0:=G.p0
 refine exr (aV L rfl (zn [(0,_),(1,_),(2,_)] [(2,_),(3,_)] t3 t2 (exd rF ?_)))
 refine sw (Y1 ag22 rF rF L) t1 t1 ?_
 refine mV L rfl (sw (ixJ un22 sz40 (j:=i) rO oM sM L) t2 t0 ?_)
 refine sw (v4 ag40 (d0x hi) L) t1 t0 (sw (R2 un40 L) t1 t0 (sw (Y1 ag40 rF rF L) t1 t1 ?_))
 refine sw (R2 un40 L) t1 t0 (sw (c_n L) t2 t0 (aV L rfl ?_))
 refine O1 ⟨B5 [⟨[1],[2],[5],[]⟩,⟨[0],[],[6],[]⟩,⟨[5,6],[],[7],[]⟩,⟨[7],[],[8],[]⟩,⟨[8],[],[9],[]⟩,⟨[2],[3],[10],[]⟩,⟨[10],[],[11],[]⟩,⟨[9,11],[],[12],[]⟩,⟨[12],[],[4],[]⟩] rF rF dC,[(4,_)],[(2,_),(3,_)],t1,t2,?_⟩
 refine V1 ?_
 refine ⟨.inr rfl,U4.cast (.cons (.tmp rfl) .nil) ?_,t2⟩
 rw [show decide (((vs.getD i []).length:Int)=w.length)=decide ((vs.getD i []).length=w.length) from decide_eq_decide.2 oM]
theorem K0s {p:Nat→Bool}{n:Nat}:0≤L4 p 0 (n - 0)↔∃ i,i<n∧p i=true:=by
 constructor
 ·intro h
  obtain ⟨h1,h2,h3,h4⟩:=f0v (show ¬ L4 p 0 (n - 0)<0 by omega)
  exact ⟨_,by omega,h3⟩
 ·rintro ⟨i,hi,h⟩
  apply Classical.byContradiction
  intro hn
  have:=b0s (show L4 p 0 (n - 0)<0 by omega) i (Nat.zero_le _) oM
  rw [h] at this; cases this
@[reducible] def pMs (vs:List (List RQ)):J2:=.sl vs.length (i9 vs)
def K0m (vs:List (List RQ))(w:List RQ):Bool:=(vs.all fun r=>r.all RQ.is) && w.all RQ.is
theorem m0w {vs:List (List RQ)}:decide (0≤L4 (fun i=>!(vs.getD i []).all RQ.is) 0 (vs.length - 0)) = !(vs.all fun r=>r.all RQ.is):=by
 rw [Bool.eq_iff_iff,decide_eq_true_iff,K0s,Bool.not_eq_true',List.all_eq_false]
 constructor
 ·rintro ⟨i,hi,h⟩
  exact ⟨_,gDL hi,by simpa using h⟩
 ·rintro ⟨r,hr,h⟩
  obtain ⟨i,hi,rfl⟩:=List.getElem_of_mem hr
  refine ⟨i,hi,?_⟩
  have e:vs.getD i []=vs[i]:=by simp [f0,hi]
  rw [e]; simpa using h
theorem J0y {vs:List (List RQ)}{n:Nat}:decide (0≤L4 (fun i=>!decide ((vs.getD i []).length=n)) 0 (vs.length - 0)) = !(vs.all fun r=>decide (r.length=n)):=by
 rw [Bool.eq_iff_iff,decide_eq_true_iff,K0s,Bool.not_eq_true',List.all_eq_false]
 constructor
 ·rintro ⟨i,hi,h⟩
  exact ⟨_,gDL hi,by simpa using h⟩
 ·rintro ⟨r,hr,h⟩
  obtain ⟨i,hi,rfl⟩:=List.getElem_of_mem hr
  refine ⟨i,hi,?_⟩
  have e:vs.getD i []=vs[i]:=by simp [f0,hi]
  rw [e]; simpa using h
theorem Y0d (vs:List (List RQ))(w:List RQ)(hm:MSm vs)(hwl:w.length<1000000000)(hw:∀ r∈w,r.sm)(h:K0m vs w=false):Y2 E 30 [pMs vs,pVR w] (.tup [.sl 0 [],.sl 0 [],vZ 3]):=by
 refine j2 (xs:=[.sl 0 [],.sl 0 [],vZ 3]) Tryz.func30 rfl Tryz.ntmps30 Tryz.results30 sM fun F hG hX0 hnt hdf P0=>?_
 obtain ⟨L,hX,hN⟩:=pro hnt hX0 hG
 have f1:=f7 72 [.at_ 2 0 1] (b2 vs) sM (o6 rfl) cl72 (fun i=>!(vs.getD i []).all RQ.is) 0 vs.length (by have:=hm.1; omega) (fun i _ hi=>q0k vs i hi hm)
 have ff:=m0w (vs:=vs)
 refine exr (swb (R3 (k:=2) (n:=1) .sl rfl rfl (P0 _ rfl) L) t1 t0 ⟨rfl,rfl⟩ (swb (R3 (k:=3) (n:=1) .sl rfl rfl (P0 _ rfl) L) t1 t0 ⟨rfl,rfl⟩ (aV L rfl (aV L rfl (aV L rfl (zn [(2,_),(3,_)] [(2,_),(3,_)] t2 t2 (R1 ?_)))))))
 refine exm (sl:=[(21,vb true)]) (sl0:=[(2,_),(3,_)]) (hb:=[]) (hb0:=[(2,_),(3,_)]) t2 t2 ?_ ?_
 ·rcases (by cases h1:(vs.all fun r=>r.all RQ.is); exact .inl rfl; rw [K0m,h1] at h; exact .inr ⟨rfl,h⟩:(vs.all fun r=>r.all RQ.is)=false∨((vs.all fun r=>r.all RQ.is)=true∧w.all RQ.is=false)) with h1 | ⟨h1,h2⟩
  ·refine sw (Y1 ag22 rF rF L) t1 t1 ?_
   refine sw (R2 un22 L) t1 t0 (sw (j0d (vs:=[]) (us:=[_]) rfl rfl L) t1 t0 (sw (s5 hG hX hN f1 rfl L (C4 (ys:=[_,_,_]) cl52 rfl rfl) sM (o6 rfl) (fun q h=>by cases h)) t3 t1 ?_))
   refine sw (b0p L) t2 t0 (mV L rfl (swn (g:=17) rfl (by rw [ff,h1] <;> rfl) L rfl ?_))
   refine swn (g:=17) rfl (by rw [ff,h1] <;> rfl) L rfl ?_
   refine swn (g:=17) rfl (by rw [ff,h1] <;> rfl) L rfl ?_
   refine sw (m4 (by rw [ff,h1] <;> rfl) L) t2 t0 ?_
   exact O1 ⟨t3,t2⟩
  ·refine sw (Y1 ag22 rF rF L) t1 t1 ?_
   refine sw (R2 un22 L) t1 t0 (sw (j0d (vs:=[]) (us:=[_]) rfl rfl L) t1 t0 (sw (s5 hG hX hN f1 rfl L (C4 (ys:=[_,_,_]) cl52 rfl rfl) sM (o6 rfl) (fun q h=>by cases h)) t3 t1 ?_))
   refine sw (b0p L) t2 t0 (mV L rfl (swg (g:=17) rfl (by rw [ff,h1] <;> rfl) (Y1 ag40 rF rF L) rfl t1 t1 ?_))
   refine swg (g:=17) rfl (by rw [ff,h1] <;> rfl) (c_c hG hX cl64 rfl hN (O4 w hwl hw) L) rfl t1 t0 ?_
   refine swg (g:=17) rfl (by rw [ff,h1] <;> rfl) (P3 L) rfl t1 t0 ?_
   refine sw (V3 (by rw [ff,h1] <;> rfl) L) t2 t0 ?_
   exact O1 ⟨⟨ob rfl (by rw [h2]; rfl),rfl,rfl,trivial⟩,t2⟩
 refine i6 rfl rfl (exr (aV L rfl (aV L rfl (aV L rfl (zn [(4,_),(5,_),(6,_)] [] t3 trivial (G4 [] (sl:=[(4,_),(5,_),(6,_)]) (hb:=[]) (M3 hX0) ⟨⟨_,rfl,(.p .nil)⟩,⟨_,rfl,(.p .nil)⟩,⟨_,rfl,.same⟩,trivial⟩ t0 (V1 ?_)))))))
 refine P1 (.tmp rfl) (.tmp rfl) (.tmp rfl) ?_
 rfl
theorem V0x (vs:List (List RQ))(w:List RQ)(hm:MSm vs)(hwl:w.length<1000000000)(hw:∀ r∈w,r.sm)(h:K0m vs w=true)(h2:(vs.all fun r=>decide (r.length=w.length))=false):Y2 E 30 [pMs vs,pVR w] (.tup [.sl 0 [],.sl 0 [],vZ 1]):=by
 refine j2 (xs:=[.sl 0 [],.sl 0 [],vZ 1]) Tryz.func30 rfl Tryz.ntmps30 Tryz.results30 sM fun F hG hX0 hnt hdf P0=>?_
 obtain ⟨L,hX,hN⟩:=pro hnt hX0 hG
 have f1:=f7 72 [.at_ 2 0 1] (b2 vs) sM (o6 rfl) cl72 (fun i=>!(vs.getD i []).all RQ.is) 0 vs.length (by have:=hm.1; omega) (fun i _ hi=>q0k vs i hi hm)
 have f2:=f7 73 [.at_ 2 0 1,.at_ 3 0 1] (b3 vs w) sM (o6 rfl) cl73 (fun i=>!decide ((vs.getD i []).length=w.length)) 0 vs.length (by have:=hm.1; omega) (fun i _ hi=>J0d vs w i hi)
 have ff:=m0w (vs:=vs)
 have fg:=J0y (vs:=vs) (n:=w.length)
 rw [K0m,j0] at h
 obtain ⟨h1,h3⟩:=h
 refine exr (swb (R3 (k:=2) (n:=1) .sl rfl rfl (P0 _ rfl) L) t1 t0 ⟨rfl,rfl⟩ (swb (R3 (k:=3) (n:=1) .sl rfl rfl (P0 _ rfl) L) t1 t0 ⟨rfl,rfl⟩ (aV L rfl (aV L rfl (aV L rfl (zn [(2,_),(3,_)] [(2,_),(3,_)] t2 t2 (R1 (exr (sw (Y1 ag22 rF rF L) t1 t1 ?_)))))))))
 refine sw (R2 un22 L) t1 t0 (sw (j0d (vs:=[]) (us:=[_]) rfl rfl L) t1 t0 (sw (s5 hG hX hN f1 rfl L (C4 (ys:=[_,_,_]) cl52 rfl rfl) sM (o6 rfl) (fun q h=>by cases h)) t3 t1 ?_))
 refine sw (b0p L) t2 t0 (mV L rfl (swg (g:=17) rfl (by rw [ff,h1] <;> rfl) (Y1 ag40 rF rF L) rfl t1 t1 ?_))
 refine swg (g:=17) rfl (by rw [ff,h1] <;> rfl) (c_c hG hX cl64 rfl hN (O4 w hwl hw) L) rfl t1 t0 ?_
 refine swg (g:=17) rfl (by rw [ff,h1] <;> rfl) (P3 L) rfl t1 t0 ?_
 refine sw (V3 (by rw [ff,h1] <;> rfl) L) t2 t0 ?_
 refine zn [(2,_),(3,_),(21,_)] [(2,_),(3,_)] t3 t2 (W3 rfl (by rw [h3]; rfl) ?_)
 refine U1 (xq ?_)
 refine R1 (exr (sw (Y1 ag22 rF rF L) t1 t1 ?_))
 refine sw (R2 un22 L) t1 t0 (sw (j0d (vs:=[]) (us:=[_,_]) rfl rfl L) t2 t0 (sw (s5 hG hX hN f2 rfl L (C4 (ys:=[_,_,_]) cl52 rfl rfl) sM (o6 rfl) (fun q h=>by cases h)) t3 t2 ?_))
 refine sw (b0p L) t2 t0 (zn [(2,_),(3,_),(26,_)] [(2,_),(3,_)] t3 t2 (i6 rfl (by rw [fg,h2] <;> rfl) ?_))
 refine exr (aV L rfl (aV L rfl (aV L rfl (zn [(4,_),(5,_),(6,_)] [] t3 trivial (G4 [] (sl:=[(4,_),(5,_),(6,_)]) (hb:=[]) (M3 hX0) ⟨⟨_,rfl,(.p .nil)⟩,⟨_,rfl,(.p .nil)⟩,⟨_,rfl,.same⟩,trivial⟩ t0 (V1 ?_))))))
 refine P1 (.tmp rfl) (.tmp rfl) (.tmp rfl) ?_
 rfl
@[reducible] def pMl (V:List (List Rat)):J2:=.sl V.length (O5 V)
theorem K1j (V:List (List Rat)):pMs (V.map (List.map RQ.of))=pMl V:=by rw [pMs,pMl,h0m,O0]
theorem V1v (V:List (List Rat)):((V.map (List.map RQ.of)).all fun r=>r.all RQ.is)=true:=by
 rw [s0]; intro r hr
 obtain ⟨v,_,rfl⟩:=G0.1 hr
 exact K0z v
theorem Q1r {B:Nat}{V:List (List Rat)}(hB:MB B V)(hb:B<1000000000)(h1:V.length<1000000000)(h2:∀ r∈V,r.length<1000000000):MSm (V.map (List.map RQ.of)):=by
 refine ⟨by simpa using h1,fun r hr=>?_⟩
 obtain ⟨v,hv,rfl⟩:=G0.1 hr
 refine ⟨by simpa using h2 v hv,fun a ha=>?_⟩
 obtain ⟨q,hq,rfl⟩:=G0.1 ha
 have:=hB v hv q hq
 exact RQ.sm_of oM
theorem p0k (B DB:Nat)(V:List (List Rat))(w:List Rat)(hV:∀ r∈V,r.length=w.length)(hk:V.length≤60)(hwl:w.length≤400)(hB:MB B V)(hwB:∀ a∈w,qw a≤B)(H:EU w.length V.length (w.length+1) B DB (trM w.length V) (m5 w)):Y2 E 30 [pMl V,pV w] (.tup [pV (N0g V.length (ech (trM w.length V) (m5 w) V.length) w.length),pV (V0v (ech (trM w.length V) (m5 w) V.length) w.length),vZ (G0r (ech (trM w.length V) (m5 w) V.length) w.length)]):=by
 refine j2 (xs:=[pV (N0g V.length (ech (trM w.length V) (m5 w) V.length) w.length),pV (V0v (ech (trM w.length V) (m5 w) V.length) w.length),vZ (G0r (ech (trM w.length V) (m5 w) V.length) w.length)]) Tryz.func30 rfl Tryz.ntmps30 Tryz.results30 sM fun F hG hX0 hnt hdf P0=>?_
 obtain ⟨L,hX,hN⟩:=pro hnt hX0 hG
 have hb:=H.bl
 have hms:=Q1r hB oM oM (fun r hr=>by rw [hV r hr]; omega)
 have f1:=f7 72 [.at_ 2 0 1] (b2 (V.map (List.map RQ.of))) sM (o6 rfl) cl72 (fun i=>!((V.map (List.map RQ.of)).getD i []).all RQ.is) 0 (V.map (List.map RQ.of)).length sO (fun i _ hi=>q0k _ i hi hms)
 have f2:=f7 73 [.at_ 2 0 1,.at_ 3 0 1] (b3 (V.map (List.map RQ.of)) (w.map RQ.of)) sM (o6 rfl) cl73 (fun i=>!decide (((V.map (List.map RQ.of)).getD i []).length=(w.map RQ.of).length)) 0 (V.map (List.map RQ.of)).length sO (fun i _ hi=>J0d _ (w.map RQ.of) i hi)
 have ff:=m0w (vs:=V.map (List.map RQ.of))
 have fg:=J0y (vs:=V.map (List.map RQ.of)) (n:=(w.map RQ.of).length)
 have fv:((V.map (List.map RQ.of)).all fun r=>decide (r.length=(w.map RQ.of).length))=true:=by
  rw [s0]; intro r hr
  obtain ⟨v,hv,rfl⟩:=G0.1 hr
  simp [hV v hv]
 have hst:=g0j w.length V.length B DB (trM w.length V) w ⟨by simpa using hwl,hk,fun r hr=>by simp only [trM,G0] at hr; obtain ⟨j,_,rfl⟩:=hr; simp⟩ (fun r hr a ha=>by
  simp only [trM,G0,List.mem_range] at hr
  obtain ⟨j,hj,rfl⟩:=hr
  exact n1q hB hj hV a ha) hwB sM rfl H
 rw [V1v] at ff
 rw [fv] at fg
 obtain ⟨p1,hp1⟩:∃ p1,p1=L4 (fun i=>!((V.map (List.map RQ.of)).getD i []).all RQ.is) 0 ((V.map (List.map RQ.of)).length - 0):=⟨_,rfl⟩
 obtain ⟨p2,hp2⟩:∃ p2,p2=L4 (fun i=>!decide (((V.map (List.map RQ.of)).getD i []).length=(w.map RQ.of).length)) 0 ((V.map (List.map RQ.of)).length - 0):=⟨_,rfl⟩
 rw [← hp1] at f1 ff
 rw [← hp2] at f2 fg
 simp only [b2,b3,h0m,O0,g0b] at f1 f2
 refine exr (swb (R3 (k:=2) (n:=1) .sl rfl rfl (P0 _ rfl) L) t1 t0 ⟨rfl,rfl⟩ (swb (R3 (k:=3) (n:=1) .sl rfl rfl (P0 _ rfl) L) t1 t0 ⟨rfl,rfl⟩ (aV L rfl (aV L rfl (aV L rfl (zn [(2,_),(3,_)] [(2,_),(3,_)] t2 t2 (R1 (exr (sw (Y1 ag22 rF rF L) t1 t1 ?_)))))))))
 refine sw (R2 un22 L) t1 t0 (sw (j0d (vs:=[]) (us:=[_]) rfl rfl L) t1 t0 (sw (s5 hG hX hN f1 rfl L (C4 (ys:=[_,_,_]) cl52 rfl rfl) sM (o6 rfl) (fun q h=>by cases h)) t3 t1 ?_))
 refine sw (b0p L) t2 t0 (mV L rfl (swg (g:=17) rfl (by rw [ff] <;> rfl) (Y1 ag40 rF rF L) rfl t1 t1 ?_))
 refine swg (g:=17) rfl (by rw [ff] <;> rfl) (c_c hG hX cl64 rfl hN (j9 hwB oM oM) L) rfl t1 t0 ?_
 refine swg (g:=17) rfl (by rw [ff] <;> rfl) (P3 L) rfl t1 t0 ?_
 refine sw (V3 (by rw [ff] <;> rfl) L) t2 t0 ?_
 refine zn [(2,_),(3,_),(21,_)] [(2,_),(3,_)] t3 t2 (W3 rfl rfl ?_)
 refine U1 (xq ?_)
 refine R1 (exr (sw (Y1 ag22 rF rF L) t1 t1 ?_))
 refine sw (R2 un22 L) t1 t0 (sw (j0d (vs:=[]) (us:=[_,_]) rfl rfl L) t2 t0 (sw (s5 hG hX hN f2 rfl L (C4 (ys:=[_,_,_]) cl52 rfl rfl) sM (o6 rfl) (fun q h=>by cases h)) t3 t2 ?_))
 refine sw (b0p L) t2 t0 (zn [(2,_),(3,_),(26,_)] [(2,_),(3,_)] t3 t2 (W3 rfl (by rw [fg] <;> rfl) ?_))
 refine U1 (xq ?_)
 refine R1 (exr (sw (Y1 ag22 rF rF L) t1 t1 ?_))
 refine sw (R2 un22 L) t1 t0 (sw (X6 L) t2 t0 (mV L rfl (swg (g:=30) rfl sO (Y1 ag40 rF rF L) rfl t1 t1 ?_)))
 refine swg (g:=30) rfl sO (R2 un40 L) rfl t1 t0 (swg (g:=30) rfl sO (X6 L) rfl t2 t0 (sw (V3 sO L) t2 t0 (zn [(2,_),(3,_),(34,_)] [(2,_),(3,_)] t3 t2 (W3 rfl sO ?_))))
 refine U1 (xq ?_)
 refine exr (sw (Y1 ag22 rF rF L) t1 t1 ?_)
 refine sw (R2 un22 L) t1 t0 (sw (E6 (vs:=[_]) un24 zv24 (.cons rfl (.cons rfl .nil)) ((y2.cons sz3 (y2.cons sz22 y2.nil))).to rfl (.cons rfl (.atom rfl) rfl pu1 .nil) (.cons (.cons .nil)) L) t1 t0 (swb (T3 (k:=7) (n:=2) zv24 (.cons rfl (.cons rfl .nil)) rfl (P0 _ rfl) L) t0 t0 ⟨rfl,rfl⟩ (sb (U2 sz24 rF pa2 rfl pu2) t2 t1 ?_)))
 refine zn [(2,_),(3,_),(7,_)] [(2,_),(3,_),(7,_)] t3 t3 (R1 (exr (sw (Y1 ag40 rF rF L) t1 t1 ?_)))
 refine sw (R2 un40 L) t1 t0 (mV L rfl (zn [(2,_),(3,_),(7,_),(39,_),(40,_)] [(2,_),(3,_),(7,_)] t5 t3 (X1 ?_)))
 refine exl (α:=(Nat×List (List Rat))) (fun x=>[(40,vi (x.1:Int))]) (fun x=>[(7,⟨24,2,.mix [.p (vZ V.length),N0r 64 x.2]⟩)]++N0m 64 x.2) (fun x=>x.1≤w.length∧trM x.1 V=x.2) (fun x=>w.length - x.1) ((0,[])) (sl:=[(2,_),(3,_),(7,_),(39,_)]) (hb:=[(2,_),(3,_)]) ?_ ⟨oR,rfl,rfl,rfl,rfl,trivial⟩ (hbI (l':=[(7,_),(2,_),(3,_)]) rfl t3) ?_
 ·exact ⟨Nat.zero_le _,rfl⟩
 intro x hx
 obtain ⟨j,T⟩:=x
 obtain ⟨hj,hT⟩:=hx
 simp only at hj hT
 rcases T with _ | ⟨q,T⟩
 ·dsimp only [N0r,N0m,List.append_nil]
  refine exr (sw (d4 L) t2 t0 (zn [(2,_),(3,_),(7,_),(39,_),(40,_),(41,_)] [(2,_),(3,_),(7,_)] t6 t3 (R1 ?_)))
  refine D2 rfl (fun hc=>?_) (fun hc=>?_)
  ·have hc:=dt hc
   have hjc:j<w.length:=by omega
   have ht:=p0a j V
   rw [hT] at ht
   refine U1 (xq ?_)
   refine R1 (X1 (exr (mV L rfl (aV L rfl (zn [(2,_),(3,_),(7,_),(8,_),(39,_),(40,_)] [(2,_),(3,_),(7,_)] t6 t3 (exr (sw (Y1 ag22 rF rF L) t1 t1 ?_)))))))
   refine sw (R2 un22 L) t1 t0 (swb (M6 (sz:=4) (k:=45) un40 ti47 rfl rfl dC rfl rfl rfl (show (0:Int)=((0:Nat):Int) from rfl) rfl (Nat.zero_le _) (by simp [Tryz.t47]; omega) oM (P0 _ rfl) L) t2 t0 ⟨rfl,rfl⟩ ?_)
   refine aV L rfl ?_
   refine O1 ⟨[(2,_),(3,_),(7,_),(8,_),(9,.ref 45 0 0 0),(39,_),(40,_)],[(2,_),(3,_),(7,_),(45,q4 [])],t7,t4,?_⟩
   refine R1 (exr (sw (Y1 ag22 rF rF L) t1 t1 ?_))
   refine sw (R2 un22 L) t1 t0 (mV L rfl (zn [(2,_),(3,_),(7,_),(8,_),(9,_),(39,_),(40,_),(46,_),(47,_),(48,_)] [(2,_),(3,_),(7,_),(45,_)] t10 t4 (X1 ?_)))
   refine exl (α:=Nat) (fun k=>[(48,vi (k:Int)),(9,.ref 45 0 k (k*4))]) (fun k=>[(45,q4 (d7 (V.take k) j))]) (fun k=>k≤V.length) (fun k=>V.length - k) (0) (sl:=[(2,_),(3,_),(7,_),(8,_),(39,_),(40,_),(46,_),(47,_)]) (hb:=[(2,_),(3,_),(7,_)]) ?_ ⟨oR,oR,rfl,rfl,rfl,rfl,rfl,rfl,rfl,rfl,trivial⟩ t4 ?_
   ·exact Nat.zero_le _
   intro k hk
   refine exr (sw (d4 L) t2 t0 (zn [(2,_),(3,_),(7,_),(8,_),(9,_),(39,_),(40,_),(46,_),(47,_),(48,_),(49,_)] [(2,_),(3,_),(7,_),(45,_)] t11 t4 (R1 ?_)))
   refine D2 rfl (fun he=>?_) (fun he=>?_)
   ·have he:=dt he
    have hk2:k<V.length:=by omega
    have hrl:=hV _ (gDL hk2)
    refine U1 (xq ?_)
    refine R1 (X1 (exr (sw (ixJ un22 sz40 (j:=k) rO oM sM L) t2 t0 ?_)))
    refine sw (v4 ag40 (W9 hk2) L) t1 t0 (aV L rfl (zn [(2,_),(3,_),(7,_),(8,_),(9,_),(11,_),(39,_),(40,_),(46,_),(47,_),(48,_)] [(2,_),(3,_),(7,_),(45,_)] t11 t4 (y3 (mV L rfl (mV L rfl (mV L rfl (sw (F2 un40 sz47 oM oM sM dC L) t2 t0 ?_)))))))
    refine sw (F7 ag47 sz47 (V7 (show j<(V.getD k []).length by omega)) rfl L) t1 t0 ?_
    refine sw (F4 (vs:=[_]) un40 ti47 rfl rfl dC dC rfl (M2 (.cons rfl (.cons rfl (.cons rfl (.cons rfl .nil)))) rfl) rfl (.cons rfl pa4 rfl pu4 .nil) (.cons (.cons (.cons (.cons .nil)))) L) t1 t0 (swb (apP (sz:=4) un40 un40 ti47 rfl rfl rfl dC (by exact (by first | (simp; done) | (simp; omega))) oF sM rfl rfl rfl (by first | (simp [Tryz.t47]; done) | (simp [Tryz.t47]; omega)) oM (P0 _ rfl) L) t2 t1 t0 ?_)
    refine aV L rfl (O1 (y3 (sw (K3 L (w64 oM oM)) t2 t0 (mV L rfl (O1 ?_)))))
    exact ⟨k+1,oM,by omega,E3 ⟨oR,ov rfl sO,rfl,rfl,rfl,rfl,rfl,rfl,rfl,rfl,trivial⟩ ⟨obl rfl ((g0x _ _).trans (by rw [Z8 hk2])),rfl,rfl,rfl,trivial⟩⟩
   ·have he:=df he
    have hkM:k=V.length:=by omega
    subst hkM
    rw [I0]
    refine L2 (xq ?_)
    refine G4 [45] (sl:=[(2,_),(3,_),(7,_),(9,_),(39,_),(40,_)]) (hb:=[(2,_),(3,_),(7,_)]) (M3 hX0) ⟨⟨_,rfl,.same⟩,⟨_,rfl,.same⟩,⟨_,rfl,.same⟩,⟨_,rfl,(.ref rfl rfl (by exact (by first | (simp; done) | (simp; omega))) (by first | rfl | omega))⟩,⟨_,rfl,.same⟩,⟨_,rfl,.same⟩,trivial⟩ ⟨⟨rfl,_,rfl,.same⟩,⟨rfl,_,rfl,.same⟩,⟨rfl,_,rfl,.same⟩,trivial⟩ ?_
    refine y3 (sw (Z1 un24 rfl sz22 dC rX L) t1 t1 ?_)
    refine sw (Y1 ag22 rF rF L) t1 t1 ?_
    refine mV L rfl (sw (F4 (vs:=[_]) un22 ti40 rfl rfl dC dC rfl (M2 (.cons rfl .nil) rfl) rfl (.cons rfl .sl rfl pu1 .nil) (.cons .nil) L) t1 t0 (swb (apN (k:=64) (sz:=1) un22 un22 ti40 rfl rfl rfl dC sM rfl (by first | (simp [Tryz.t40]; done) | (simp [Tryz.t40]; omega)) oM (P0 _ rfl) L) t2 t0 ⟨rfl,rfl⟩ ?_))
    refine sw (Z1 un24 rfl sz22 dC rX L) t1 t1 ?_
    refine sb (U2 sz22 rF .ref rfl (.skip pu1)) t2 t1 ?_
    refine O1 (y3 (sw (K3 L (w64 oM oM)) t2 t0 (mV L rfl (O1 ?_))))
    exact ⟨(j+1,[d7 V j]),⟨by simp only; omega,ht⟩,(by simp only; omega),E3 ⟨oR,rfl,rfl,rfl,rfl,trivial⟩ (hbI (l':=[(7,_),(64,_),(2,_),(3,_)]) rfl ⟨rfl,obl rfl (by simp [O5]),rfl,rfl,trivial⟩)⟩
  ·have hc:=df hc
   have hjc:j=w.length:=by omega
   rw [hjc] at hT
   rw [hT] at hst ⊢
   refine L2 (xq ?_)
   refine G4 [] (sl:=[(3,_),(7,_)]) (hb:=[(3,_),(7,_)]) (M3 hX0) ⟨⟨_,rfl,.same⟩,⟨_,rfl,.same⟩,trivial⟩ ⟨⟨rfl,_,rfl,.same⟩,⟨rfl,_,rfl,(.mix (.cons .same (.cons (.p .nil) .nil)))⟩,trivial⟩ (exr (lp2 ag24 sz24 L rfl rfl (sw (Y1 ag40 rF rF L) t1 t1 ?_)))
   refine cK hG hX cl24 hN hst L t2 (sw (i4 rfl L) t1 t0 (sw (i4 rfl L) t1 t0 (sw (i4 rfl L) t1 t0 (aV L rfl (aV L rfl (aV L rfl (zn [(4,_),(5,_),(6,_)] [] t3 trivial (V1 ?_))))))))
   refine P1 (.tmp rfl) (.tmp rfl) (.tmp rfl) ?_
   rfl
 ·dsimp only [N0r,N0m]
  have hTl:(q :: T).length=j:=by rw [← hT,G0b]
  have hTl2:T.length+1=j:=hTl
  refine exr (sw (d4 L) t2 t0 (zn [(2,_),(3,_),(7,_),(39,_),(40,_),(41,_)] [(2,_),(3,_),(7,_),(64,_)] t6 t4 (R1 ?_)))
  refine D2 rfl (fun hc=>?_) (fun hc=>?_)
  ·have hc:=dt hc
   have hjc:j<w.length:=by omega
   have ht:=p0a j V
   rw [hT] at ht
   refine U1 (xq ?_)
   refine R1 (X1 (exr (mV L rfl (aV L rfl (zn [(2,_),(3,_),(7,_),(8,_),(39,_),(40,_)] [(2,_),(3,_),(7,_),(64,_)] t6 t4 (exr (sw (Y1 ag22 rF rF L) t1 t1 ?_)))))))
   refine sw (R2 un22 L) t1 t0 (swb (M6 (sz:=4) (k:=45) un40 ti47 rfl rfl dC rfl rfl rfl (show (0:Int)=((0:Nat):Int) from rfl) rfl (Nat.zero_le _) (by simp [Tryz.t47]; omega) oM (P0 _ rfl) L) t2 t0 ⟨rfl,rfl⟩ ?_)
   refine aV L rfl ?_
   refine O1 ⟨[(2,_),(3,_),(7,_),(8,_),(9,.ref 45 0 0 0),(39,_),(40,_)],[(2,_),(3,_),(7,_),(45,q4 []),(64,_)],t7,t5,?_⟩
   refine R1 (exr (sw (Y1 ag22 rF rF L) t1 t1 ?_))
   refine sw (R2 un22 L) t1 t0 (mV L rfl (zn [(2,_),(3,_),(7,_),(8,_),(9,_),(39,_),(40,_),(46,_),(47,_),(48,_)] [(2,_),(3,_),(7,_),(45,_),(64,_)] t10 t5 (X1 ?_)))
   refine exl (α:=Nat) (fun k=>[(48,vi (k:Int)),(9,.ref 45 0 k (k*4))]) (fun k=>[(45,q4 (d7 (V.take k) j))]) (fun k=>k≤V.length) (fun k=>V.length - k) (0) (sl:=[(2,_),(3,_),(7,_),(8,_),(39,_),(40,_),(46,_),(47,_)]) (hb:=[(2,_),(3,_),(7,_),(64,_)]) ?_ ⟨oR,oR,rfl,rfl,rfl,rfl,rfl,rfl,rfl,rfl,trivial⟩ t5 ?_
   ·exact Nat.zero_le _
   intro k hk
   refine exr (sw (d4 L) t2 t0 (zn [(2,_),(3,_),(7,_),(8,_),(9,_),(39,_),(40,_),(46,_),(47,_),(48,_),(49,_)] [(2,_),(3,_),(7,_),(45,_),(64,_)] t11 t5 (R1 ?_)))
   refine D2 rfl (fun he=>?_) (fun he=>?_)
   ·have he:=dt he
    have hk2:k<V.length:=by omega
    have hrl:=hV _ (gDL hk2)
    refine U1 (xq ?_)
    refine R1 (X1 (exr (sw (ixJ un22 sz40 (j:=k) rO oM sM L) t2 t0 ?_)))
    refine sw (v4 ag40 (W9 hk2) L) t1 t0 (aV L rfl (zn [(2,_),(3,_),(7,_),(8,_),(9,_),(11,_),(39,_),(40,_),(46,_),(47,_),(48,_)] [(2,_),(3,_),(7,_),(45,_),(64,_)] t11 t5 (y3 (mV L rfl (mV L rfl (mV L rfl (sw (F2 un40 sz47 oM oM sM dC L) t2 t0 ?_)))))))
    refine sw (F7 ag47 sz47 (V7 (show j<(V.getD k []).length by omega)) rfl L) t1 t0 ?_
    refine sw (F4 (vs:=[_]) un40 ti47 rfl rfl dC dC rfl (M2 (.cons rfl (.cons rfl (.cons rfl (.cons rfl .nil)))) rfl) rfl (.cons rfl pa4 rfl pu4 .nil) (.cons (.cons (.cons (.cons .nil)))) L) t1 t0 (swb (apP (sz:=4) un40 un40 ti47 rfl rfl rfl dC (by exact (by first | (simp; done) | (simp; omega))) oF sM rfl rfl rfl (by first | (simp [Tryz.t47]; done) | (simp [Tryz.t47]; omega)) oM (P0 _ rfl) L) t2 t1 t0 ?_)
    refine aV L rfl (O1 (y3 (sw (K3 L (w64 oM oM)) t2 t0 (mV L rfl (O1 ?_)))))
    exact ⟨k+1,oM,by omega,E3 ⟨oR,ov rfl sO,rfl,rfl,rfl,rfl,rfl,rfl,rfl,rfl,trivial⟩ ⟨obl rfl ((g0x _ _).trans (by rw [Z8 hk2])),rfl,rfl,rfl,rfl,trivial⟩⟩
   ·have he:=df he
    have hkM:k=V.length:=by omega
    subst hkM
    rw [I0]
    refine L2 (xq ?_)
    refine G4 [45] (sl:=[(2,_),(3,_),(7,_),(9,_),(39,_),(40,_)]) (hb:=[(2,_),(3,_),(7,_),(64,_)]) (M3 hX0) ⟨⟨_,rfl,.same⟩,⟨_,rfl,.same⟩,⟨_,rfl,.same⟩,⟨_,rfl,(.ref rfl rfl (by exact (by first | (simp; done) | (simp; omega))) (by first | rfl | omega))⟩,⟨_,rfl,.same⟩,⟨_,rfl,.same⟩,trivial⟩ ⟨⟨rfl,_,rfl,.same⟩,⟨rfl,_,rfl,.same⟩,⟨rfl,_,rfl,.same⟩,⟨rfl,_,rfl,.same⟩,trivial⟩ ?_
    refine y3 (sw (Z1 un24 rfl sz22 dC rX L) t1 t1 ?_)
    refine sw (Y1 ag22 rF rF L) t1 t1 ?_
    refine mV L rfl (sw (F4 (vs:=[_]) un22 ti40 rfl rfl dC dC rfl (M2 (.cons rfl .nil) rfl) rfl (.cons rfl .sl rfl pu1 .nil) (.cons .nil) L) t1 t0 (swb (apP (sz:=1) un22 un22 ti40 rfl rfl rfl dC (by exact (E7 _)) oF sM rfl rfl rfl (by first | (simp [Tryz.t40]; done) | (simp [Tryz.t40]; omega)) oM (P0 _ rfl) L) t2 t1 t0 ?_))
    refine sw (Z1 un24 rfl sz22 dC rX L) t1 t1 ?_
    refine sb (U2 sz22 rF .ref rfl (.skip pu1)) t2 t1 ?_
    refine O1 (y3 (sw (K3 L (w64 oM oM)) t2 t0 (mV L rfl (O1 ?_))))
    exact ⟨(j+1,q :: T++[d7 V j]),⟨by simp only; omega,ht⟩,(by simp only; omega),E3 ⟨oR,rfl,rfl,rfl,rfl,trivial⟩ (hbI (l':=[(7,_),(64,_),(2,_),(3,_)]) rfl ⟨obl rfl sM,obl rfl (y1h V.length (q :: T) (d7 V j) (J7 _ _)),rfl,rfl,trivial⟩)⟩
  ·have hc:=df hc
   have hjc:j=w.length:=by omega
   rw [hjc] at hT
   rw [hT] at hst ⊢
   refine L2 (xq ?_)
   refine G4 [64] (sl:=[(3,_),(7,_)]) (hb:=[(3,_),(7,_)]) (M3 hX0) ⟨⟨_,rfl,.same⟩,⟨_,rfl,.same⟩,trivial⟩ ⟨⟨rfl,_,rfl,.same⟩,⟨rfl,_,rfl,(.mix (.cons .same (.cons (.ref rfl rfl (by exact (E7 _)) (by first | rfl | omega)) .nil)))⟩,trivial⟩ ?_
   refine exr (lp2 ag24 sz24 L rfl rfl (sw (Y1 ag40 rF rF L) t1 t1 ?_))
   refine cK hG hX cl24 hN hst L t2 (sw (i4 rfl L) t1 t0 (sw (i4 rfl L) t1 t0 (sw (i4 rfl L) t1 t0 (aV L rfl (aV L rfl (aV L rfl (zn [(4,_),(5,_),(6,_)] [] t3 trivial (V1 ?_))))))))
   refine P1 (.tmp rfl) (.tmp rfl) (.tmp rfl) ?_
   rfl
theorem B1x {a:Rat}:((j3 a.num.natAbs).length:Int)=0↔a=0:=by
 have:=g1n (a:=a.num)
 unfold nw at this
 rw [← Rat.num_eq_zero,← this]; omega
theorem H1a (a:Rat):Y2 E 22 [pQ a] (bZ (decide (a=0))):=by
 refine j2 (xs:=[bZ (decide (a=0))]) Tryz.func22 rfl Tryz.ntmps22 Tryz.results22 sM fun F hG hX0 hnt hdf P0=>?_
 obtain ⟨L,hX,hN⟩:=pro hnt hX0 hG
 refine exr (swb (R3 (k:=1) (n:=4) pa4 rfl rfl (P0 _ rfl) L) t1 t0 ⟨rfl,rfl⟩ (aV L rfl (zn [(1,_)] [(1,_)] t1 t1 (exr (sw (Z1 un47 rfl sz45 dC rX L) t1 t1 ?_)))))
 refine sw (Z1 un45 rfl sz43 dC rX L) t1 t1 ?_
 refine sw (Y1 ag43 rF rF L) t1 t1 ?_
 refine sw (R2 un43 L) t1 t0 (sw (c_e L) t2 t0 (aV L rfl (zn [(2,_)] [] t1 trivial (V1 ?_))))
 refine Q0 (.tmp rfl) ?_
 rw [decide_eq_decide.2 (B1x (a:=a))]
theorem dnt {p:Prop}[Decidable p](h:(!decide p)=true):¬ p:=by simpa using h
theorem dnf {p:Prop}[Decidable p](h:(!decide p)=false):p:=by simpa using h
theorem P0n {p:Nat→Prop}{k:Nat}(h:∀ i,i<k→p i)(hk:p k):∀ i,i<k+1→p i:=fun i hi=>(Nat.lt_or_eq_of_le (Nat.le_of_lt_succ hi)).elim (h i) (fun e=>e ▸ hk)
theorem q1b {ws vs:List Int}(hl:ws.length=vs.length)(h:∀ k,k<ws.length→ws.getD k 0=vs.getD k 0):ws=vs:=by
 refine List.ext_getElem hl fun i h1 h2=>?_
 have:=h i h1
 simpa [f0,h1,h2] using this
theorem j0n (m n:Bool)(ws vs:List Int)(h1:ws.length<1000000000)(h2:vs.length<1000000000):Y2 E 74 [.agg [.a (.bool m),.sl ws.length (K4 ws)],.agg [.a (.bool n),.sl vs.length (K4 vs)]] (bZ (decide (m=n∧ws=vs))):=by
 refine j2 (xs:=[bZ (decide (m=n∧ws=vs))]) Tryz.func74 rfl Tryz.ntmps74 Tryz.results74 sM fun F hG hX0 hnt hdf P0=>?_
 obtain ⟨L,hX,hN⟩:=pro hnt hX0 hG
 refine exr (swb (R3 (k:=2) (n:=2) pa2 rfl rfl (P0 _ rfl) L) t1 t0 ⟨rfl,rfl⟩ (swb (R3 (k:=3) (n:=2) pa2 rfl rfl (P0 _ rfl) L) t1 t0 ⟨rfl,rfl⟩ (aV L rfl (zn [(2,_),(3,_)] [(2,_),(3,_)] t2 t2 (R1 ?_)))))
 refine exm (sl:=[(19,vb (decide (¬ (m=n∧ws.length=vs.length))))]) (sl0:=[(2,_),(3,_)]) (hb:=[]) (hb0:=[(2,_),(3,_)]) t2 t2 ?_ ?_
 ·by_cases h:m=n
  ·refine sw (Z1 un45 rfl sz4 dC rX L) t1 t1 ?_
   refine sw (Y1 ag4 rF rF L) t1 t1 ?_
   refine sw (Z1 un45 rfl sz4 dC rX L) t1 t1 ?_
   refine sw (Y1 ag4 rF rF L) t1 t1 ?_
   refine sw (v0h un4 L) t2 t0 (mV L rfl (swg (g:=11) rfl (by rw [h]; cases n <;> rfl) (Z1 un45 rfl sz43 dC rX L) rfl t1 t1 ?_))
   refine swg (g:=11) rfl (by rw [h]; cases n <;> rfl) (Y1 ag43 rF rF L) rfl t1 t1 ?_
   refine swg (g:=11) rfl (by rw [h]; cases n <;> rfl) (R2 un43 L) rfl t1 t0 ?_
   refine swg (g:=11) rfl (by rw [h]; cases n <;> rfl) (Z1 un45 rfl sz43 dC rX L) rfl t1 t1 ?_
   refine swg (g:=11) rfl (by rw [h]; cases n <;> rfl) (Y1 ag43 rF rF L) rfl t1 t1 ?_
   refine swg (g:=11) rfl (by rw [h]; cases n <;> rfl) (R2 un43 L) rfl t1 t0 ?_
   refine swg (g:=11) rfl (by rw [h]; cases n <;> rfl) (c_n L) rfl t2 t0 ?_
   refine sw (V3 (by rw [h]; cases n <;> rfl) L) t2 t0 ?_
   exact O1 ⟨⟨ob rfl (by simp [h]; omega),rfl,rfl,trivial⟩,t2⟩
  ·refine sw (Z1 un45 rfl sz4 dC rX L) t1 t1 ?_
   refine sw (Y1 ag4 rF rF L) t1 t1 ?_
   refine sw (Z1 un45 rfl sz4 dC rX L) t1 t1 ?_
   refine sw (Y1 ag4 rF rF L) t1 t1 ?_
   refine sw (v0h un4 L) t2 t0 (mV L rfl (swn (g:=11) rfl (by revert h; cases m <;> cases n <;> simp) L rfl ?_))
   refine swn (g:=11) rfl (by revert h; cases m <;> cases n <;> simp) L rfl ?_
   refine swn (g:=11) rfl (by revert h; cases m <;> cases n <;> simp) L rfl ?_
   refine swn (g:=11) rfl (by revert h; cases m <;> cases n <;> simp) L rfl ?_
   refine swn (g:=11) rfl (by revert h; cases m <;> cases n <;> simp) L rfl ?_
   refine swn (g:=11) rfl (by revert h; cases m <;> cases n <;> simp) L rfl ?_
   refine swn (g:=11) rfl (by revert h; cases m <;> cases n <;> simp) L rfl ?_
   refine sw (m4 (by revert h; cases m <;> cases n <;> simp) L) t2 t0 ?_
   exact O1 ⟨⟨ob rfl (by simp [h]),rfl,rfl,trivial⟩,t2⟩
 refine D2 rfl (fun hc=>?_) (fun hc=>?_)
 ·have hc:=dt hc
  refine exr (aV L rfl (zn [(4,_)] [] t1 trivial (V1 ?_)))
  refine Q0 (.tmp rfl) ?_
  rw [decide_eq_false (fun h=>hc ⟨h.1,by rw [h.2]⟩)]
 ·have hc:=df hc
  have hc:m=n∧ws.length=vs.length:=Classical.not_not.1 hc
  obtain ⟨rfl,hl⟩:=hc
  refine U1 (xq ?_)
  refine R1 (exr (aV L rfl (zn [(2,_),(3,_),(5,_)] [(2,_),(3,_)] t3 t2 (X1 ?_))))
  refine exl (α:=Nat) (fun k=>[(5,vi (k:Int))]) (fun k=>[]) (fun k=>k≤ws.length∧∀ i,i<k→ws.getD i 0=vs.getD i 0) (fun k=>ws.length - k) (0) (sl:=[(2,_),(3,_)]) (hb:=[(2,_),(3,_)]) ?_ ⟨oR,rfl,rfl,trivial⟩ t2 ?_
  ·exact ⟨Nat.zero_le _,fun i h=>absurd h (Nat.not_lt_zero i)⟩
  intro k hk
  obtain ⟨hk,hw⟩:=hk
  refine R1 (exr (mV L rfl (sw (Z1 un45 rfl sz43 dC rX L) t1 t1 ?_)))
  refine sw (Y1 ag43 rF rF L) t1 t1 ?_
  refine sw (R2 un43 L) t1 t0 (sw (d4 L) t2 t0 (zn [(2,_),(3,_),(5,_),(24,_)] [(2,_),(3,_)] t4 t2 ?_))
  refine D2 rfl (fun hc=>?_) (fun hc=>?_)
  ·have hc:=dt hc
   have hk2:k<ws.length:=by omega
   have hk3:k<vs.length:=by omega
   refine U1 (xq ?_)
   refine R1 (X1 (exd rF ?_))
   refine sw (Z1 un45 rfl sz43 dC rX L) t1 t1 ?_
   refine sw (Y1 ag43 rF rF L) t1 t1 ?_
   refine mV L rfl (sw (ixJ un43 sz119 (j:=k) rO oM sM L) t2 t0 ?_)
   refine sw (v4 ag119 (Z5 hk2) L) t1 t0 (sw (Z1 un45 rfl sz43 dC rX L) t1 t1 ?_)
   refine sw (Y1 ag43 rF rF L) t1 t1 ?_
   refine mV L rfl (sw (ixJ un43 sz119 (j:=k) rO oM sM L) t2 t0 ?_)
   refine sw (v4 ag119 (Z5 hk3) L) t1 t0 (sw (c_n L) t2 t0 ?_)
   refine O1 ⟨B5 [⟨[2],[2],[27],[]⟩,⟨[27],[2],[28],[]⟩,⟨[5],[],[29],[]⟩,⟨[28,29],[],[30],[]⟩,⟨[30],[],[31],[]⟩,⟨[3],[3],[32],[]⟩,⟨[32],[3],[33],[]⟩,⟨[5],[],[34],[]⟩,⟨[33,34],[],[35],[]⟩,⟨[35],[],[36],[]⟩,⟨[31,36],[],[37],[]⟩] rF rF dC,[(2,_),(3,_),(5,_),(37,_)],[(2,_),(3,_)],t4,t2,?_⟩
   refine D2 rfl (fun he=>?_) (fun he=>?_)
   ·have he:=dnt he
    refine exr (aV L rfl (zn [(4,_)] [] t1 trivial (V1 ?_)))
    refine Q0 (.tmp rfl) ?_
    rw [decide_eq_false (fun h=>he (by rw [h.2]))]
   ·have he:=dnf he
    refine U1 (xq ?_)
    refine y3 (mV L rfl (sw (K3 L (w64 oM oM)) t2 t0 (aV L rfl (O1 ?_))))
    exact ⟨k+1,⟨by omega,P0n hw he⟩,by omega,E3 ⟨oR,rfl,rfl,trivial⟩ t2⟩
  ·have hc:=df hc
   refine L2 (xq ?_)
   refine exr (aV L rfl (zn [(4,_)] [] t1 trivial (V1 ?_)))
   refine Q0 (.tmp rfl) ?_
   rw [decide_eq_true (⟨rfl,q1b hl (fun i hi=>hw i oM)⟩:m=m∧ws=vs)]
deriving instance DecidableEq for RQ
theorem J0z {α:Type}{d:α}{u v:List α}(hl:u.length=v.length)(h:∀ k,k<u.length→u.getD k d=v.getD k d):u=v:=by
 refine List.ext_getElem hl fun i h1 h2=>?_
 have:=h i h1
 simpa [f0,h1,h2] using this
theorem v0y (a b:RQ)(ha:a.sm)(hb:b.sm):Y2 E 33 [.agg (cR a),.agg (cR b)] (bZ (decide (a=b))):=by
 refine j2 (xs:=[bZ (decide (a=b))]) Tryz.func33 rfl Tryz.ntmps33 Tryz.results33 sM fun F hG hX0 hnt hdf P0=>?_
 obtain ⟨L,hX,hN⟩:=pro hnt hX0 hG
 have e:(a=b)=((a.m=b.m∧a.ws=b.ws)∧(a.n=b.n∧a.vs=b.vs)):=by
  cases a; cases b; simp only [RQ.mk.injEq,and_assoc]
 refine exr (swb (R3 (k:=2) (n:=4) pa4 rfl rfl (P0 _ rfl) L) t1 t0 ⟨rfl,rfl⟩ (swb (R3 (k:=3) (n:=4) pa4 rfl rfl (P0 _ rfl) L) t1 t0 ⟨rfl,rfl⟩ (aV L rfl (zn [(2,_),(3,_)] [(2,_),(3,_)] t2 t2 ?_))))
 refine exm (sl:=[(4,vb (decide (a=b)))]) (sl0:=[]) (hb:=[]) (hb0:=[]) t0 t0 ?_ ?_
 ·by_cases h:a.m=b.m∧a.ws=b.ws
  ·refine sw (Z1 un47 rfl sz45 dC rX L) t1 t1 ?_
   refine lp2 ag45 sz45 L rfl rfl (sw (Z1 un47 rfl sz45 dC rX L) t1 t1 ?_)
   refine lp2 ag45 sz45 L rfl rfl (cK hG hX cl74 hN (j0n a.m b.m a.ws b.ws ha.2.1 hb.2.1) L t2 (mV L rfl (swg (g:=10) rfl (by rw [decide_eq_true h] <;> rfl) (Z1 un47 rfl sz45 dC rX L) rfl t1 t1 ?_)))
   refine swg (g:=10) rfl (by rw [decide_eq_true h] <;> rfl) (l6 ag45 sz45 rF (by exact al2) rfl L) rfl t1 t1 ?_
   refine swg (g:=10) rfl (by rw [decide_eq_true h] <;> rfl) (Z1 un47 rfl sz45 dC rX L) rfl t1 t1 ?_
   refine swg (g:=10) rfl (by rw [decide_eq_true h] <;> rfl) (l6 ag45 sz45 rF (by exact al2) rfl L) rfl t1 t1 ?_
   refine swg (g:=10) rfl (by rw [decide_eq_true h] <;> rfl) (c_c hG hX cl74 rfl hN (j0n a.n b.n a.vs b.vs ha.2.2 hb.2.2) L) rfl t2 t0 ?_
   refine sw (m4 (by rw [decide_eq_true h] <;> rfl) L) t2 t0 ?_
   refine aV L rfl ?_
   exact O1 ⟨⟨ob rfl (by simp only [e,h,true_and,and_self]),trivial⟩,trivial⟩
  ·refine sw (Z1 un47 rfl sz45 dC rX L) t1 t1 ?_
   refine lp2 ag45 sz45 L rfl rfl (sw (Z1 un47 rfl sz45 dC rX L) t1 t1 ?_)
   refine lp2 ag45 sz45 L rfl rfl (cK hG hX cl74 hN (j0n a.m b.m a.ws b.ws ha.2.1 hb.2.1) L t2 (mV L rfl (swn (g:=10) rfl (by rw [decide_eq_false h] <;> rfl) L rfl ?_)))
   refine swn (g:=10) rfl (by rw [decide_eq_false h] <;> rfl) L rfl ?_
   refine swn (g:=10) rfl (by rw [decide_eq_false h] <;> rfl) L rfl ?_
   refine swn (g:=10) rfl (by rw [decide_eq_false h] <;> rfl) L rfl ?_
   refine swn (g:=10) rfl (by rw [decide_eq_false h] <;> rfl) L rfl ?_
   refine sw (V3 (by rw [decide_eq_false h] <;> rfl) L) t2 t0 ?_
   refine aV L rfl ?_
   exact O1 ⟨⟨ob rfl (by simp only [e,h,false_and,decide_false]),trivial⟩,trivial⟩
 refine V1 ?_
 refine Q0 (.tmp rfl) ?_
 rfl
theorem h0s (u v:List RQ)(hu:u.length<1000000000)(su:∀ r∈u,r.sm)(sv:∀ r∈v,r.sm):Y2 E 29 [pVR u,pVR v] (bZ (decide (u=v))):=by
 refine j2 (xs:=[bZ (decide (u=v))]) Tryz.func29 rfl Tryz.ntmps29 Tryz.results29 sM fun F hG hX0 hnt hdf P0=>?_
 obtain ⟨L,hX,hN⟩:=pro hnt hX0 hG
 refine exr (aV L rfl (zn [(0,_),(1,_)] [] t2 trivial (R1 (exr (mV L rfl (sw (R2 un40 L) t1 t0 (mV L rfl (sw (R2 un40 L) t1 t0 (sw (c_n L) t2 t0 (zn [(0,_),(1,_),(10,_)] [] t3 trivial ?_))))))))))
 refine D2 rfl (fun hc=>?_) (fun hc=>?_)
 ·have hc:=dnt hc
  refine exr (aV L rfl (zn [(4,_)] [] t1 trivial (V1 ?_)))
  refine Q0 (.tmp rfl) ?_
  rw [decide_eq_false (fun h=>hc (by rw [h]))]
 ·have hc:=dnf hc
  have hl:u.length=v.length:=by omega
  refine U1 (xq ?_)
  refine R1 (exr (aV L rfl (zn [(0,_),(1,_),(5,_)] [] t3 trivial (X1 ?_))))
  refine exl (α:=Nat) (fun k=>[(5,vi (k:Int))]) (fun k=>[]) (fun k=>k≤u.length∧∀ i,i<k→u.getD i default=v.getD i default) (fun k=>u.length - k) (0) (sl:=[(0,_),(1,_)]) (hb:=[]) ?_ ⟨oR,rfl,rfl,trivial⟩ t0 ?_
  ·exact ⟨Nat.zero_le _,fun i h=>absurd h (Nat.not_lt_zero i)⟩
  intro k hk
  obtain ⟨hk,hw⟩:=hk
  refine R1 (exr (mV L rfl (mV L rfl (sw (R2 un40 L) t1 t0 (sw (d4 L) t2 t0 (zn [(0,_),(1,_),(5,_),(14,_)] [] t4 trivial ?_))))))
  refine D2 rfl (fun hc=>?_) (fun hc=>?_)
  ·have hc:=dt hc
   have hk2:k<u.length:=by omega
   have hk3:k<v.length:=by omega
   refine U1 (xq ?_)
   refine R1 (X1 (exd rF ?_))
   refine mV L rfl (mV L rfl (sw (F2 un40 sz47 oM oM sM dC L) t2 t0 ?_))
   refine sw (F7 ag47 sz47 (Y0g hk2) rfl L) t1 t0 (mV L rfl (mV L rfl (sw (F2 un40 sz47 oM oM sM dC L) t2 t0 ?_)))
   refine sw (F7 ag47 sz47 (Y0g hk3) rfl L) t1 t0 (cK hG hX cl33 hN (v0y _ _ (su _ (gD hk2)) (sv _ (gD hk3))) L t2 (sw (P3 L) t1 t0 ?_))
   refine O1 ⟨B5 [⟨[0],[],[17],[]⟩,⟨[5],[],[18],[]⟩,⟨[17,18],[],[19],[]⟩,⟨[19],[],[20],[]⟩,⟨[1],[],[21],[]⟩,⟨[5],[],[22],[]⟩,⟨[21,22],[],[23],[]⟩,⟨[23],[],[24],[]⟩,⟨[20,24],[],[25],[]⟩,⟨[25],[],[26],[]⟩] rF rF dC,[(0,_),(1,_),(5,_),(26,_)],[],t4,trivial,?_⟩
   refine D2 rfl (fun he=>?_) (fun he=>?_)
   ·have he:=dnt he
    refine exr (aV L rfl (zn [(4,_)] [] t1 trivial (V1 ?_)))
    refine Q0 (.tmp rfl) ?_
    rw [decide_eq_false (fun h=>he (by rw [h]))]
   ·have he:=dnf he
    refine U1 (xq ?_)
    refine y3 (mV L rfl (sw (K3 L (w64 oM oM)) t2 t0 (aV L rfl (O1 ?_))))
    exact ⟨k+1,⟨by omega,P0n hw he⟩,by omega,E3 ⟨oR,rfl,rfl,trivial⟩ trivial⟩
  ·have hc:=df hc
   refine L2 (xq ?_)
   refine exr (aV L rfl (zn [(4,_)] [] t1 trivial (V1 ?_)))
   refine Q0 (.tmp rfl) ?_
   rw [decide_eq_true (J0z hl (fun i hi=>hw i oM))]
theorem w0b (u v:List (List RQ))(hu:MSm u)(hv:MSm v):Y2 E 19 [.sl u.length (i9 u),.sl v.length (i9 v)] (bZ (decide (u=v))):=by
 refine j2 (xs:=[bZ (decide (u=v))]) Tryz.func19 rfl Tryz.ntmps19 Tryz.results19 sM fun F hG hX0 hnt hdf P0=>?_
 obtain ⟨L,hX,hN⟩:=pro hnt hX0 hG
 have hul:=hu.1
 have hvl:=hv.1
 refine exr (aV L rfl (zn [(0,_),(1,_)] [] t2 trivial (R1 (exr (mV L rfl (sw (R2 un22 L) t1 t0 (mV L rfl (sw (R2 un22 L) t1 t0 (sw (c_n L) t2 t0 (zn [(0,_),(1,_),(10,_)] [] t3 trivial ?_))))))))))
 refine D2 rfl (fun hc=>?_) (fun hc=>?_)
 ·have hc:=dnt hc
  refine exr (aV L rfl (zn [(4,_)] [] t1 trivial (V1 ?_)))
  refine Q0 (.tmp rfl) ?_
  rw [decide_eq_false (fun h=>hc (by rw [h]))]
 ·have hc:=dnf hc
  have hl:u.length=v.length:=by omega
  refine U1 (xq ?_)
  refine R1 (exr (aV L rfl (zn [(0,_),(1,_),(5,_)] [] t3 trivial (X1 ?_))))
  refine exl (α:=Nat) (fun k=>[(5,vi (k:Int))]) (fun k=>[]) (fun k=>k≤u.length∧∀ i,i<k→u.getD i []=v.getD i []) (fun k=>u.length - k) (0) (sl:=[(0,_),(1,_)]) (hb:=[]) ?_ ⟨oR,rfl,rfl,trivial⟩ t0 ?_
  ·exact ⟨Nat.zero_le _,fun i h=>absurd h (Nat.not_lt_zero i)⟩
  intro k hk
  obtain ⟨hk,hw⟩:=hk
  refine R1 (exr (mV L rfl (mV L rfl (sw (R2 un22 L) t1 t0 (sw (d4 L) t2 t0 (zn [(0,_),(1,_),(5,_),(14,_)] [] t4 trivial ?_))))))
  refine D2 rfl (fun hc=>?_) (fun hc=>?_)
  ·have hc:=dt hc
   have hk2:k<u.length:=by omega
   have hk3:k<v.length:=by omega
   have m1:=hu.2 _ (gDL hk2)
   have m2:=hv.2 _ (gDL hk3)
   refine U1 (xq ?_)
   refine R1 (X1 (exd rF ?_))
   refine mV L rfl (mV L rfl (sw (ixJ un22 sz40 (j:=k) rO oM sM L) t2 t0 ?_))
   refine sw (v4 ag40 (d0x hk2) L) t1 t0 (mV L rfl (mV L rfl (sw (ixJ un22 sz40 (j:=k) rO oM sM L) t2 t0 ?_)))
   refine sw (v4 ag40 (d0x hk3) L) t1 t0 (cK hG hX cl29 hN (h0s _ _ m1.1 m1.2 m2.2) L t2 (sw (P3 L) t1 t0 ?_))
   refine O1 ⟨B5 [⟨[0],[],[17],[]⟩,⟨[5],[],[18],[]⟩,⟨[17,18],[],[19],[]⟩,⟨[19],[],[20],[]⟩,⟨[1],[],[21],[]⟩,⟨[5],[],[22],[]⟩,⟨[21,22],[],[23],[]⟩,⟨[23],[],[24],[]⟩,⟨[20,24],[],[25],[]⟩,⟨[25],[],[26],[]⟩] rF rF dC,[(0,_),(1,_),(5,_),(26,_)],[],t4,trivial,?_⟩
   refine D2 rfl (fun he=>?_) (fun he=>?_)
   ·have he:=dnt he
    refine exr (aV L rfl (zn [(4,_)] [] t1 trivial (V1 ?_)))
    refine Q0 (.tmp rfl) ?_
    rw [decide_eq_false (fun h=>he (by rw [h]))]
   ·have he:=dnf he
    refine U1 (xq ?_)
    refine y3 (mV L rfl (sw (K3 L (w64 oM oM)) t2 t0 (aV L rfl (O1 ?_))))
    exact ⟨k+1,⟨by omega,P0n hw he⟩,by omega,E3 ⟨oR,rfl,rfl,trivial⟩ trivial⟩
  ·have hc:=df hc
   refine L2 (xq ?_)
   refine exr (aV L rfl (zn [(4,_)] [] t1 trivial (V1 ?_)))
   refine Q0 (.tmp rfl) ?_
   rw [decide_eq_true (J0z hl (fun i hi=>hw i oM))]
theorem w0a (c d:Int)(u v:List (List RQ))(hu:MSm u)(hv:MSm v):Y2 E 17 [pMR c u,pMR d v] (bZ (decide (c=d∧u=v))):=by
 refine j2 (xs:=[bZ (decide (c=d∧u=v))]) Tryz.func17 rfl Tryz.ntmps17 Tryz.results17 sM fun F hG hX0 hnt hdf P0=>?_
 obtain ⟨L,hX,hN⟩:=pro hnt hX0 hG
 refine exr (swb (R3 (k:=2) (n:=2) pa2 rfl rfl (P0 _ rfl) L) t1 t0 ⟨rfl,rfl⟩ (swb (R3 (k:=3) (n:=2) pa2 rfl rfl (P0 _ rfl) L) t1 t0 ⟨rfl,rfl⟩ (aV L rfl (zn [(2,_),(3,_)] [(2,_),(3,_)] t2 t2 ?_))))
 refine exm (sl:=[(4,vb (decide (c=d∧u=v)))]) (sl0:=[]) (hb:=[]) (hb0:=[]) t0 t0 ?_ ?_
 ·by_cases h:c=d
  ·refine sw (Z1 un24 rfl sz3 dC rX L) t1 t1 ?_
   refine sw (Y1 ag3 rF rF L) t1 t1 ?_
   refine sw (Z1 un24 rfl sz3 dC rX L) t1 t1 ?_
   refine sw (Y1 ag3 rF rF L) t1 t1 ?_
   refine sw (c_e L) t2 t0 (mV L rfl (swg (g:=10) rfl (by simp [h]) (Z1 un24 rfl sz22 dC rX L) rfl t1 t1 ?_))
   refine swg (g:=10) rfl (by simp [h]) (Y1 ag22 rF rF L) rfl t1 t1 ?_
   refine swg (g:=10) rfl (by simp [h]) (Z1 un24 rfl sz22 dC rX L) rfl t1 t1 ?_
   refine swg (g:=10) rfl (by simp [h]) (Y1 ag22 rF rF L) rfl t1 t1 ?_
   refine swg (g:=10) rfl (by simp [h]) (c_c hG hX cl19 rfl hN (w0b u v hu hv) L) rfl t2 t0 ?_
   refine sw (m4 (by simp [h]) L) t2 t0 ?_
   refine aV L rfl ?_
   exact O1 ⟨⟨ob rfl (by simp only [h,true_and]),trivial⟩,trivial⟩
  ·refine sw (Z1 un24 rfl sz3 dC rX L) t1 t1 ?_
   refine sw (Y1 ag3 rF rF L) t1 t1 ?_
   refine sw (Z1 un24 rfl sz3 dC rX L) t1 t1 ?_
   refine sw (Y1 ag3 rF rF L) t1 t1 ?_
   refine sw (c_e L) t2 t0 (mV L rfl (swn (g:=10) rfl (by rw [decide_eq_false h] <;> rfl) L rfl ?_))
   refine swn (g:=10) rfl (by rw [decide_eq_false h] <;> rfl) L rfl ?_
   refine swn (g:=10) rfl (by rw [decide_eq_false h] <;> rfl) L rfl ?_
   refine swn (g:=10) rfl (by rw [decide_eq_false h] <;> rfl) L rfl ?_
   refine swn (g:=10) rfl (by rw [decide_eq_false h] <;> rfl) L rfl ?_
   refine sw (V3 (by rw [decide_eq_false h] <;> rfl) L) t2 t0 ?_
   refine aV L rfl ?_
   exact O1 ⟨⟨ob rfl (by simp only [h,false_and,decide_false]),trivial⟩,trivial⟩
 refine V1 ?_
 refine Q0 (.tmp rfl) ?_
 rfl
theorem n0r {α:Type}{p:α→Bool}{v:List α}{k:Nat}{d:α}(h:k<v.length)(h1:(v.take k).all p=true)(h2:p (v.getD k d)=true):(v.take (k+1)).all p=true:=by
 rw [I1,List.all_append,h1]
 simpa [f0,h] using h2
theorem F0y {α:Type}{p:α→Bool}{v:List α}{a:α}(h:a∈v)(h2:p a=false):v.all p=false:=by
 rw [Bool.eq_false_iff]; intro hh
 rw [s0] at hh
 rw [hh a h] at h2; cases h2
theorem T7 (v:List RQ)(hl:v.length<1000000000)(hs:∀ r∈v,r.sm):Y2 E 27 [pVR v] (bZ (v.all RQ.is)):=by
 refine j2 (xs:=[bZ (v.all RQ.is)]) Tryz.func27 rfl Tryz.ntmps27 Tryz.results27 sM fun F hG hX0 hnt hdf P0=>?_
 obtain ⟨L,hX,hN⟩:=pro hnt hX0 hG
 refine exr (aV L rfl (zn [(0,_)] [] t1 trivial (R1 (exr (aV L rfl (zn [(0,_),(3,_)] [] t2 trivial (X1 ?_)))))))
 refine exl (α:=Nat) (fun k=>[(3,vi (k:Int))]) (fun k=>[]) (fun k=>k≤v.length∧(v.take k).all RQ.is=true) (fun k=>v.length - k) (0) (sl:=[(0,_)]) (hb:=[]) ?_ ⟨oR,rfl,trivial⟩ t0 ?_
 ·exact ⟨Nat.zero_le _,rfl⟩
 intro k hk
 obtain ⟨hk,hw⟩:=hk
 refine R1 (exr (mV L rfl (mV L rfl (sw (R2 un40 L) t1 t0 (sw (d4 L) t2 t0 (zn [(0,_),(3,_),(7,_)] [] t3 trivial ?_))))))
 refine D2 rfl (fun hc=>?_) (fun hc=>?_)
 ·have hc:=dt hc
  have hk2:k<v.length:=by omega
  have hr:=hs _ (gD hk2)
  refine U1 (xq ?_)
  refine R1 (X1 (exr (mV L rfl (mV L rfl (sw (F2 un40 sz47 oM oM sM dC L) t2 t0 ?_)))))
  refine sw (F7 ag47 sz47 (Y0g hk2) rfl L) t1 t0 (cK hG hX cl36 hN (k1a hr.1 hr.2.1 hr.2.2) L t1 (sw (P3 L) t1 t0 (zn [(0,_),(3,_),(15,_)] [] t3 trivial ?_)))
  refine D2 rfl (fun he=>?_) (fun he=>?_)
  ·have he:(v.getD k default).is=false:=by simpa using he
   refine exr (aV L rfl (zn [(2,_)] [] t1 trivial (V1 ?_)))
   refine Q0 (.tmp rfl) ?_
   rw [F0y (gD hk2) he]
  ·have he:(v.getD k default).is=true:=by simpa using he
   refine U1 (xq ?_)
   refine y3 (mV L rfl (sw (K3 L (w64 oM oM)) t2 t0 (aV L rfl (O1 ?_))))
   exact ⟨k+1,⟨by omega,n0r hk2 hw he⟩,by omega,E3 ⟨oR,rfl,trivial⟩ trivial⟩
 ·have hc:=df hc
  refine L2 (xq ?_)
  refine exr (aV L rfl (zn [(2,_)] [] t1 trivial (V1 ?_)))
  refine Q0 (.tmp rfl) ?_
  rw [show k=v.length by omega,I0] at hw; rw [hw]
theorem M9 (c:Int)(m:List (List RQ))(hm:MSm m):Y2 E 15 [pMR c m] (bZ (isM c m)):=by
 refine j2 (xs:=[bZ (isM c m)]) Tryz.func15 rfl Tryz.ntmps15 Tryz.results15 sM fun F hG hX0 hnt hdf P0=>?_
 obtain ⟨L,hX,hN⟩:=pro hnt hX0 hG
 have hl:=hm.1
 refine exr (swb (R3 (k:=1) (n:=2) pa2 rfl rfl (P0 _ rfl) L) t1 t0 ⟨rfl,rfl⟩ (aV L rfl (zn [(1,_)] [(1,_)] t1 t1 (R1 ?_))))
 refine exm (sl:=[(17,vb (!decide (m.length≤400∧0≤c∧c≤60)))]) (sl0:=[(1,_)]) (hb:=[]) (hb0:=[(1,_)]) t1 t1 ?_ ?_
 ·rcases (by omega:c<0∨0≤c∧60<c∨0≤c∧c≤60) with h | h | h
  ·refine sw (Z1 un24 rfl sz3 dC rX L) t1 t1 ?_
   refine sw (Y1 ag3 rF rF L) t1 t1 ?_
   refine sw (d4 L) t2 t0 (mV L rfl (swn (g:=7) rfl sO L rfl (swn (g:=7) rfl sO L rfl (swn (g:=7) rfl sO L rfl (sw (m4 sO L) t2 t0 (mV L rfl (swn (g:=12) rfl rfl L rfl (swn (g:=12) rfl rfl L rfl (swn (g:=12) rfl rfl L rfl (swn (g:=12) rfl rfl L rfl (sw (m4 rfl L) t2 t0 ?_)))))))))))
   exact O1 ⟨⟨ob rfl sO,rfl,trivial⟩,t1⟩
  ·refine sw (Z1 un24 rfl sz3 dC rX L) t1 t1 ?_
   refine sw (Y1 ag3 rF rF L) t1 t1 ?_
   refine sw (d4 L) t2 t0 (mV L rfl (swg (g:=7) rfl sO (Z1 un24 rfl sz3 dC rX L) rfl t1 t1 ?_))
   refine swg (g:=7) rfl sO (Y1 ag3 rF rF L) rfl t1 t1 ?_
   refine swg (g:=7) rfl sO (X6 L) rfl t2 t0 (sw (V3 sO L) t2 t0 (mV L rfl (swn (g:=12) rfl sO L rfl (swn (g:=12) rfl sO L rfl (swn (g:=12) rfl sO L rfl (swn (g:=12) rfl sO L rfl (sw (m4 sO L) t2 t0 ?_)))))))
   exact O1 ⟨⟨ob rfl sO,rfl,trivial⟩,t1⟩
  ·refine sw (Z1 un24 rfl sz3 dC rX L) t1 t1 ?_
   refine sw (Y1 ag3 rF rF L) t1 t1 ?_
   refine sw (d4 L) t2 t0 (mV L rfl (swg (g:=7) rfl sO (Z1 un24 rfl sz3 dC rX L) rfl t1 t1 ?_))
   refine swg (g:=7) rfl sO (Y1 ag3 rF rF L) rfl t1 t1 ?_
   refine swg (g:=7) rfl sO (X6 L) rfl t2 t0 (sw (V3 sO L) t2 t0 (mV L rfl (swg (g:=12) rfl sO (Z1 un24 rfl sz22 dC rX L) rfl t1 t1 ?_)))
   refine swg (g:=12) rfl sO (Y1 ag22 rF rF L) rfl t1 t1 ?_
   refine swg (g:=12) rfl sO (R2 un22 L) rfl t1 t0 (swg (g:=12) rfl sO (X6 L) rfl t2 t0 (sw (V3 sO L) t2 t0 ?_))
   exact O1 ⟨⟨ob rfl (by rw [Bool.eq_iff_iff]; simp; omega),rfl,trivial⟩,t1⟩
 refine D2 rfl (fun hc=>?_) (fun hc=>?_)
 ·refine exr (aV L rfl (zn [(2,_)] [] t1 trivial (V1 ?_)))
  refine Q0 (.tmp rfl) ?_
  simp only [isM]; rw [show decide (m.length≤400∧0≤c∧c≤60)=false by simpa only [Bool.not_eq_true'] using hc]; rfl
 ·have hd:decide (m.length≤400∧0≤c∧c≤60)=true:=by simpa only [Bool.not_eq_false'] using hc
  refine U1 (xq ?_)
  refine R1 (exr (aV L rfl (zn [(1,_),(3,_)] [(1,_)] t2 t1 (X1 ?_))))
  refine exl (α:=Nat) (fun k=>[(3,vi (k:Int))]) (fun k=>[]) (fun k=>k≤m.length∧(m.take k).all (b0f c)=true) (fun k=>m.length - k) (0) (sl:=[(1,_)]) (hb:=[(1,_)]) ?_ ⟨oR,rfl,trivial⟩ t1 ?_
  ·exact ⟨Nat.zero_le _,rfl⟩
  intro k hk
  obtain ⟨hk,hw⟩:=hk
  refine R1 (exr (mV L rfl (sw (Z1 un24 rfl sz22 dC rX L) t1 t1 ?_)))
  refine sw (Y1 ag22 rF rF L) t1 t1 ?_
  refine sw (R2 un22 L) t1 t0 (sw (d4 L) t2 t0 (zn [(1,_),(3,_),(22,_)] [(1,_)] t3 t1 ?_))
  refine D2 rfl (fun hc=>?_) (fun hc=>?_)
  ·have hc:=dt hc
   have hk2:k<m.length:=by omega
   have hr:=hm.2 _ (gDL hk2)
   refine U1 (xq ?_)
   refine R1 (X1 ?_)
   refine P1f (sl:=[(42,vb (!b0f c (m.getD k [])))]) (sl0:=[(1,_),(3,_)]) (hb:=[]) (hb0:=[(1,_)]) rF t2 t1 ?_ ?_
   ·by_cases h:((m.getD k []).length:Int)=c
    ·refine sw (Z1 un24 rfl sz22 dC rX L) t1 t1 ?_
     refine sw (Y1 ag22 rF rF L) t1 t1 ?_
     refine mV L rfl (sw (ixJ un22 sz40 (j:=k) rO oM sM L) t2 t0 ?_)
     refine sw (v4 ag40 (d0x hk2) L) t1 t0 (sw (R2 un40 L) t1 t0 (sw (Z1 un24 rfl sz3 dC rX L) t1 t1 ?_))
     refine sw (Y1 ag3 rF rF L) t1 t1 ?_
     refine sw (c_n L) t2 t0 (mV L rfl (swg (g:=34) rfl (by rw [h]; simp) (Z1 un24 rfl sz22 dC rX L) rfl t1 t1 ?_))
     refine swg (g:=34) rfl (by rw [h]; simp) (Y1 ag22 rF rF L) rfl t1 t1 ?_
     refine gV (g:=34) rfl (by rw [h]; simp) L rfl rfl ?_
     refine swg (g:=34) rfl (by rw [h]; simp) (ixJ un22 sz40 (j:=k) rO oM sM L) rfl t2 t0 ?_
     refine swg (g:=34) rfl (by rw [h]; simp) (v4 ag40 (d0x hk2) L) rfl t1 t0 ?_
     refine swg (g:=34) rfl (by rw [h]; simp) (c_c hG hX cl27 rfl hN (T7 (m.getD k []) hr.1 hr.2) L) rfl t1 t0 ?_
     refine swg (g:=34) rfl (by rw [h]; simp) (P3 L) rfl t1 t0 ?_
     refine sw (V3 (by rw [h]; simp) L) t2 t0 ?_
     exact O1 ⟨B5 [⟨[1],[1],[25],[]⟩,⟨[25],[1],[26],[]⟩,⟨[3],[],[27],[]⟩,⟨[26,27],[],[28],[]⟩,⟨[28],[],[29],[]⟩,⟨[29],[],[30],[]⟩,⟨[1],[1],[31],[]⟩,⟨[31],[1],[32],[]⟩,⟨[30,32],[],[33],[]⟩,⟨[33],[],[34],[]⟩,⟨[34,1],[1],[35],[]⟩,⟨[34,35],[1],[36],[]⟩,⟨[34,3],[],[37],[]⟩,⟨[34,36,37],[],[38],[]⟩,⟨[34,38],[],[39],[]⟩,⟨[34,39],[],[40],[]⟩,⟨[34,40],[],[41],[]⟩,⟨[34,41],[],[42],[]⟩] rF rF dC,⟨ob rfl (by rw [b0f,h]; simp),rfl,rfl,trivial⟩,t1⟩
    ·refine sw (Z1 un24 rfl sz22 dC rX L) t1 t1 ?_
     refine sw (Y1 ag22 rF rF L) t1 t1 ?_
     refine mV L rfl (sw (ixJ un22 sz40 (j:=k) rO oM sM L) t2 t0 ?_)
     refine sw (v4 ag40 (d0x hk2) L) t1 t0 (sw (R2 un40 L) t1 t0 (sw (Z1 un24 rfl sz3 dC rX L) t1 t1 ?_))
     refine sw (Y1 ag3 rF rF L) t1 t1 ?_
     refine sw (c_n L) t2 t0 (mV L rfl (swn (g:=34) rfl (by rw [decide_eq_false h] <;> rfl) L rfl ?_))
     refine swn (g:=34) rfl (by rw [decide_eq_false h] <;> rfl) L rfl ?_
     refine swn (g:=34) rfl (by rw [decide_eq_false h] <;> rfl) L rfl ?_
     refine swn (g:=34) rfl (by rw [decide_eq_false h] <;> rfl) L rfl ?_
     refine swn (g:=34) rfl (by rw [decide_eq_false h] <;> rfl) L rfl ?_
     refine swn (g:=34) rfl (by rw [decide_eq_false h] <;> rfl) L rfl ?_
     refine swn (g:=34) rfl (by rw [decide_eq_false h] <;> rfl) L rfl ?_
     refine sw (m4 (by rw [decide_eq_false h] <;> rfl) L) t2 t0 ?_
     exact O1 ⟨B5 [⟨[1],[1],[25],[]⟩,⟨[25],[1],[26],[]⟩,⟨[3],[],[27],[]⟩,⟨[26,27],[],[28],[]⟩,⟨[28],[],[29],[]⟩,⟨[29],[],[30],[]⟩,⟨[1],[1],[31],[]⟩,⟨[31],[1],[32],[]⟩,⟨[30,32],[],[33],[]⟩,⟨[33],[],[34],[]⟩,⟨[34],[],[35],[]⟩,⟨[34],[],[36],[]⟩,⟨[34],[],[37],[]⟩,⟨[34],[],[38],[]⟩,⟨[34],[],[39],[]⟩,⟨[34],[],[40],[]⟩,⟨[34],[],[41],[]⟩,⟨[34],[],[42],[]⟩] rF rF dC,⟨ob rfl (by rw [b0f,decide_eq_false h]; rfl),rfl,rfl,trivial⟩,t1⟩
   refine D2 rfl (fun he=>?_) (fun he=>?_)
   ·have he:b0f c (m.getD k [])=false:=by simpa using he
    refine exr (aV L rfl (zn [(2,_)] [] t1 trivial (V1 ?_)))
    refine Q0 (.tmp rfl) ?_
    rw [isM,hd,F0y (gDL hk2) he]; rfl
   ·have he:b0f c (m.getD k [])=true:=by simpa using he
    refine U1 (xq ?_)
    refine y3 (mV L rfl (sw (K3 L (w64 oM oM)) t2 t0 (aV L rfl (O1 ?_))))
    exact ⟨k+1,⟨by omega,n0r hk2 hw he⟩,by omega,E3 ⟨oR,rfl,trivial⟩ t1⟩
  ·have hc:=df hc
   refine L2 (xq ?_)
   refine exr (aV L rfl (zn [(2,_)] [] t1 trivial (V1 ?_)))
   refine Q0 (.tmp rfl) ?_
   rw [show k=m.length by omega,I0] at hw; rw [isM,hd,hw]; rfl
def dtF (u v:List Rat)(k:Nat):Rat:=C8 ((List.zipWith (· * ·) u v).take k)
theorem w1n {u v:List Rat}{k:Nat}(h:k<u.length)(hv:u.length=v.length):(List.zipWith (· * ·) u v).getD k 0=u.getD k 0*v.getD k 0:=by
 have h2:k<v.length:=by omega
 simp [f0,List.getElem?_zipWith,h,h2]
theorem y1d {u v:List Rat}{k:Nat}(h:k<u.length)(hv:u.length=v.length):dtF u v (k+1)=dtF u v k+u.getD k 0*v.getD k 0:=by
 rw [dtF,K0j sO,w1n h hv]; rfl
theorem F1p {B C:Nat}{u v:List Rat}(hB:∀ a∈u,qw a≤B)(hC:∀ a∈v,qw a≤C):∀ a∈List.zipWith (· * ·) u v,qw a≤B+C:=by
 intro a ha
 rw [← List.map_uncurry_zip_eq_zipWith] at ha
 obtain ⟨p,h1,rfl⟩:=G0.1 ha
 have h2:=List.of_mem_zip (a:=p.1) (b:=p.2) h1
 have:=Z9 p.1 p.2
 have:=hB _ h2.1
 have:=hC _ h2.2
 simp only [Function.uncurry]; omega
def dtR (u v:List Rat):Rat:=C8 (List.zipWith (· * ·) u v)
theorem v0m (c:Rat):∀ v:List Rat,v.foldl (· + ·) c=c+v.foldl (· + ·) 0
 | []=>by simp [Rat.add_zero]
 | a :: v=>by
  rw [List.foldl_cons,List.foldl_cons,v0m (c+a),v0m (0+a),Rat.zero_add,Rat.add_assoc]
theorem K0h (a:Rat)(v:List Rat):C8 (a :: v)=a+C8 v:=by
 rw [C8,List.foldl_cons,v0m,Rat.zero_add]; rfl
theorem F0k:∀ u v:List Rat,b0h u v=dtR u v
 | [],_=>rfl
 | _ :: _,[]=>rfl
 | a :: u,b :: v=>by
  have ih:=F0k u v
  rw [dtR,List.zipWith_cons_cons,K0h,← dtR,← ih,b0h,G0q,List.zip_cons_cons]
  by_cases h:a≠0∧b≠0
  ·rw [List.filter_cons_of_pos (by simpa using h),R0,K0h]; rfl
  ·rw [List.filter_cons_of_neg (by simpa using h)]
   have e:a*b=0:=by
    rcases Classical.em (a=0) with h1 | h1
    ·rw [h1,Rat.zero_mul]
    ·rcases Classical.em (b=0) with h2 | h2
     ·rw [h2,Rat.mul_zero]
     ·exact absurd ⟨h1,h2⟩ h
   rw [e,Rat.zero_add]; rfl
theorem M1r {B C:Nat}{u v:List Rat}{k:Nat}(hv:u.length=v.length)(hB:∀ a∈u,qw a≤B)(hC:∀ a∈v,qw a≤C):qw (dtF u v k)≤u.length*(B+C+1)+1:=by
 have:=w0r (k:=k) (F1p hB hC)
 rwa [List.length_zipWith,hv,Nat.min_self,← hv] at this
theorem K0a (u v:List Rat)(B C:Nat)(huv:u.length=v.length)(hl:u.length<1000000000)(hB:∀ a∈u,qw a≤B)(hC:∀ a∈v,qw a≤C)(hBl:B<500000000)(hCl:C<500000000)(hb:u.length*(B+C+1)+1<900000000):Y2 E 63 [pV u,pV v] (pQ (b0h u v)):=by
 refine j2 (xs:=[pQ (b0h u v)]) Tryz.func63 rfl Tryz.ntmps63 Tryz.results63 sM fun F hG hX0 hnt hdf P0=>?_
 obtain ⟨L,hX,hN⟩:=pro hnt hX0 hG
 refine exr (swb (T3 (k:=4) (n:=4) zv47 (.cons rfl (.cons rfl (.cons rfl (.cons rfl .nil)))) rfl (P0 _ rfl) L) t0 t0 ⟨rfl,rfl⟩ (zn [(0,_),(1,_),(4,_)] [(4,_)] t3 t1 (exr (cK hG hX cl60 hN (Y0b) L t0 (swb (T3 (k:=5) (n:=4) zv47 (.cons rfl (.cons rfl (.cons rfl (.cons rfl .nil)))) rfl (P0 _ rfl) L) t0 t0 ⟨rfl,rfl⟩ (sb (U2 sz47 rF pa4 rfl pu4) t2 t1 ?_))))))
 refine zn [(0,_),(1,_),(4,_),(5,_)] [(4,_),(5,_)] t4 t2 (R1 (exr (aV L rfl (zn [(0,_),(1,_),(4,_),(5,_),(6,_)] [(4,_),(5,_)] t5 t2 (X1 ?_)))))
 refine exl (α:=Nat) (fun k=>[(6,vi (k:Int))]) (fun k=>[(5,bQ (dtF u v k))]) (fun k=>k≤u.length) (fun k=>u.length - k) (0) (sl:=[(0,_),(1,_),(4,_),(5,_)]) (hb:=[(4,_)]) ?_ ⟨oR,rfl,rfl,rfl,rfl,trivial⟩ t2 ?_
 ·exact Nat.zero_le _
 intro k hk
 refine R1 (exr (mV L rfl (mV L rfl (sw (R2 un40 L) t1 t0 (sw (d4 L) t2 t0 (zn [(0,_),(1,_),(4,_),(5,_),(6,_),(12,_)] [(4,_),(5,_)] t6 t2 ?_))))))
 refine D2 rfl (fun hc=>?_) (fun hc=>?_)
 ·have hc:=dt hc
  have hk2:k<u.length:=by omega
  have hk3:k<v.length:=by omega
  have b1:qw (u.getD k 0)≤B:=hB _ (C5 hk2)
  have b2:qw (v.getD k 0)≤C:=hC _ (C5 hk3)
  have b3:=M1r (k:=k) huv hB hC
  have b4:=Z9 (u.getD k 0) (v.getD k 0)
  refine U1 (xq ?_)
  refine R1 (X1 (exd rF ?_))
  refine mV L rfl (mV L rfl (sw (F2 un40 sz47 oM oM sM dC L) t2 t0 ?_))
  refine sw (F7 ag47 sz47 (V7 hk2) rfl L) t1 t0 (mV L rfl (mV L rfl (sw (F2 un40 sz47 oM oM sM dC L) t2 t0 ?_)))
  refine sw (F7 ag47 sz47 (V7 hk3) rfl L) t1 t0 (cK hG hX cl37 hN (Y0q (u.getD k 0) (v.getD k 0) oM oM) L t2 (swb (T3 (k:=7) (n:=4) zv47 (.cons rfl (.cons rfl (.cons rfl (.cons rfl .nil)))) rfl (P0 _ rfl) L) t0 t0 ⟨rfl,rfl⟩ (sb (U2 sz47 rF pa4 rfl pu4) t2 t1 ?_)))
  refine O1 ⟨aok rfl rfl,[(0,_),(1,_),(4,_),(5,_),(6,_),(7,_)],[(4,_),(5,_),(7,_)],t6,t3,?_⟩
  refine y3 (lp4 ag47 sz47 L rfl rfl (lp4 ag47 sz47 L rfl rfl (cK hG hX cl76 hN (f1d (dtF u v k) (u.getD k 0*v.getD k 0) oM oM) L t2 (sb (U2 sz47 rF pa4 rfl pu4) t2 t1 ?_))))
  refine O1 (y3 (mV L rfl (sw (K3 L (w64 oM oM)) t2 t0 (aV L rfl (O1 ?_)))))
  exact ⟨k+1,oM,by omega,E3 ⟨oR,rfl,rfl,rfl,rfl,trivial⟩ ⟨obl rfl (by rw [y1d hk2 huv]),rfl,trivial⟩⟩
 ·have hc:=df hc
  refine L2 (xq ?_)
  refine exr (lp4 ag47 sz47 L rfl rfl (sb (U2 sz47 rF pa4 rfl pu4) t2 t1 ?_))
  refine zn [(4,_)] [(4,_)] t1 t1 (V1 ?_)
  refine Q0 (.agg rfl rfl rfl ag47 sz47 (.cons (.cons (.cons (.cons .nil))))) ?_
  rw [dtF,C0 sO,← dtR,← F0k]
theorem n1n (c j:Nat)(M:List (List Rat))(hl:M.length<1000000000)(hr:∀ r∈M,r.length=c)(hj:j<c)(hc:c<1000000000):Y2 E 84 [pMq c M,vZ j] (pV (d7 M j)):=by
 refine j2 (xs:=[pV (d7 M j)]) Tryz.func84 rfl Tryz.ntmps84 Tryz.results84 sM fun F hG hX0 hnt hdf P0=>?_
 obtain ⟨L,hX,hN⟩:=pro hnt hX0 hG
 refine exr (swb (R3 (k:=2) (n:=2) pa2 rfl rfl (P0 _ rfl) L) t1 t0 ⟨rfl,rfl⟩ (aV L rfl (zn [(1,_),(2,_)] [(2,_)] t2 t1 (exr (sw (Z1 un24 rfl sz22 dC rX L) t1 t1 ?_)))))
 refine sw (Y1 ag22 rF rF L) t1 t1 ?_
 refine sw (R2 un22 L) t1 t0 (swb (M6 (sz:=4) (k:=10) un40 ti47 rfl rfl dC rfl rfl rfl (show (0:Int)=((0:Nat):Int) from rfl) rfl (Nat.zero_le _) (by simp [Tryz.t47]; omega) oM (P0 _ rfl) L) t2 t0 ⟨rfl,rfl⟩ ?_)
 refine aV L rfl ?_
 refine O1 ⟨[(1,_),(2,_),(5,.ref 10 0 0 0)],[(2,_),(10,q4 [])],t3,t2,?_⟩
 refine R1 (exr (aV L rfl (zn [(1,_),(2,_),(5,_),(6,_)] [(2,_),(10,_)] t4 t2 (X1 ?_))))
 refine exl (α:=Nat) (fun k=>[(6,vi (k:Int)),(5,.ref 10 0 k (k*4))]) (fun k=>[(10,q4 (d7 (M.take k) j))]) (fun k=>k≤M.length) (fun k=>M.length - k) (0) (sl:=[(1,_),(2,_)]) (hb:=[(2,_)]) ?_ ⟨oR,oR,rfl,rfl,trivial⟩ t2 ?_
 ·exact Nat.zero_le _
 intro k hk
 refine R1 (exr (mV L rfl (sw (Z1 un24 rfl sz22 dC rX L) t1 t1 ?_)))
 refine sw (Y1 ag22 rF rF L) t1 t1 ?_
 refine sw (R2 un22 L) t1 t0 (sw (d4 L) t2 t0 (zn [(1,_),(2,_),(5,_),(6,_),(15,_)] [(2,_),(10,_)] t5 t2 ?_))
 refine D2 rfl (fun he=>?_) (fun he=>?_)
 ·have he:=dt he
  have hk2:k<M.length:=by omega
  have hrl:=hr _ (gDL hk2)
  refine U1 (xq ?_)
  refine R1 (X1 (y3 (mV L rfl (sw (Z1 un24 rfl sz22 dC rX L) t1 t1 ?_))))
  refine sw (Y1 ag22 rF rF L) t1 t1 ?_
  refine mV L rfl (sw (ixJ un22 sz40 (j:=k) rO oM sM L) t2 t0 ?_)
  refine sw (v4 ag40 (W9 hk2) L) t1 t0 (mV L rfl (sw (F2 un40 sz47 oM oM sM dC L) t2 t0 ?_))
  refine sw (F7 ag47 sz47 (V7 (show j<(M.getD k []).length by omega)) rfl L) t1 t0 ?_
  refine sw (F4 (vs:=[_]) un40 ti47 rfl rfl dC dC rfl (M2 (.cons rfl (.cons rfl (.cons rfl (.cons rfl .nil)))) rfl) rfl (.cons rfl pa4 rfl pu4 .nil) (.cons (.cons (.cons (.cons .nil)))) L) t1 t0 (swb (apP (sz:=4) un40 un40 ti47 rfl rfl rfl dC (by exact (by first | (simp; done) | (simp; omega))) oF sM rfl rfl rfl (by first | (simp [Tryz.t47]; done) | (simp [Tryz.t47]; omega)) oM (P0 _ rfl) L) t2 t1 t0 ?_)
  refine aV L rfl (O1 (y3 (mV L rfl (sw (K3 L (w64 oM oM)) t2 t0 (aV L rfl (O1 ?_))))))
  exact ⟨k+1,oM,by omega,E3 ⟨oR,ov rfl sO,rfl,rfl,trivial⟩ ⟨obl rfl ((g0x _ _).trans (by rw [Z8 hk2])),rfl,trivial⟩⟩
 ·have he:=df he
  have hkM:k=M.length:=by omega
  subst hkM
  rw [I0]
  refine L2 (xq ?_)
  refine G4 [10] (sl:=[(5,_)]) (hb:=[]) (M3 hX0) ⟨⟨_,rfl,(.ref rfl rfl (by exact (by first | (simp; done) | (simp; omega))) (by first | rfl | omega))⟩,trivial⟩ t0 ?_
  refine exr (mV L rfl (aV L rfl (zn [(4,_)] [] t1 trivial (V1 ?_))))
  refine Q0 (.tmp rfl) ?_
  simp
theorem W0w (c B C:Nat)(y:List Rat)(M:List (List Rat))(hl:M.length<1000000000)(hr:∀ r∈M,r.length=c)(hy:y.length=M.length)(hc:c<1000000000)(hB:MB B M)(hC:∀ a∈y,qw a≤C)(hBl:B<500000000)(hCl:C<500000000)(hb:M.length*(C+B+1)+1<900000000):Y2 E 71 [pV y,pMq c M] (pV (d0q y M c)):=by
 refine j2 (xs:=[pV (d0q y M c)]) Tryz.func71 rfl Tryz.ntmps71 Tryz.results71 sM fun F hG hX0 hnt hdf P0=>?_
 obtain ⟨L,hX,hN⟩:=pro hnt hX0 hG
 refine exr (swb (R3 (k:=3) (n:=2) pa2 rfl rfl (P0 _ rfl) L) t1 t0 ⟨rfl,rfl⟩ (aV L rfl (zn [(0,_),(3,_)] [(3,_)] t2 t1 (exr (sw (Z1 un24 rfl sz3 dC rX L) t1 t1 ?_)))))
 refine sw (Y1 ag3 rF rF L) t1 t1 ?_
 refine swb (M6 (sz:=4) (k:=9) un40 ti47 rfl rfl dC rfl rfl rfl (show (0:Int)=((0:Nat):Int) from rfl) rfl (Nat.zero_le _) (by simp [Tryz.t47]; omega) oM (P0 _ rfl) L) t2 t0 ⟨rfl,rfl⟩ ?_
 refine aV L rfl ?_
 refine O1 ⟨[(0,_),(3,_),(5,.ref 9 0 0 0)],[(3,_),(9,q4 [])],t3,t2,?_⟩
 refine R1 (exr (aV L rfl (zn [(0,_),(3,_),(5,_),(6,_)] [(3,_),(9,_)] t4 t2 (X1 ?_))))
 refine exl (α:=Nat) (fun k=>[(6,vi (k:Int)),(5,.ref 9 0 k (k*4))]) (fun k=>[(9,q4 (d0q y M k))]) (fun k=>k≤c) (fun k=>c - k) (0) (sl:=[(0,_),(3,_)]) (hb:=[(3,_)]) ?_ ⟨oR,oR,rfl,rfl,trivial⟩ t2 ?_
 ·exact Nat.zero_le _
 intro k hk
 refine R1 (exr (mV L rfl (sw (Z1 un24 rfl sz3 dC rX L) t1 t1 ?_)))
 refine sw (Y1 ag3 rF rF L) t1 t1 ?_
 refine sw (d4 L) t2 t0 (zn [(0,_),(3,_),(5,_),(6,_),(13,_)] [(3,_),(9,_)] t5 t2 ?_)
 refine D2 rfl (fun he=>?_) (fun he=>?_)
 ·have he:=dt he
  have hk2:k<c:=by omega
  refine U1 (xq ?_)
  refine R1 (X1 (y3 (mV L rfl (mV L rfl (lp2 ag24 sz24 L rfl rfl (mV L rfl (cK hG hX cl84 hN (n1n c k M hl hr hk2 hc) L t2 (cK hG hX cl63 hN (K0a y (d7 M k) C B (by rw [J7]; exact hy) oM hC (n1q hB hk2 hr) hCl hBl (by rw [hy]; exact hb)) L t2 ?_))))))))
  refine sw (F4 (vs:=[_]) un40 ti47 rfl rfl dC dC rfl (M2 (.cons rfl (.cons rfl (.cons rfl (.cons rfl .nil)))) rfl) rfl (.cons rfl pa4 rfl pu4 .nil) (.cons (.cons (.cons (.cons .nil)))) L) t1 t0 (swb (apP (sz:=4) un40 un40 ti47 rfl rfl rfl dC (by exact (by first | (simp; done) | (simp; omega))) oF sM rfl rfl rfl (by first | (simp [Tryz.t47]; done) | (simp [Tryz.t47]; omega)) oM (P0 _ rfl) L) t2 t1 t0 ?_)
  refine aV L rfl (O1 (y3 (mV L rfl (sw (K3 L (w64 oM oM)) t2 t0 (aV L rfl (O1 ?_))))))
  exact ⟨k+1,oM,by omega,E3 ⟨oR,ov rfl sO,rfl,rfl,trivial⟩ ⟨obl rfl ((g0x _ _).trans (by rw [q0r])),rfl,trivial⟩⟩
 ·have he:=df he
  have hkM:k=c:=by omega
  subst hkM
  refine L2 (xq ?_)
  refine G4 [9] (sl:=[(5,_)]) (hb:=[]) (M3 hX0) ⟨⟨_,rfl,(.ref rfl rfl (by exact (by first | (simp; done) | (simp; omega))) (by first | rfl | omega))⟩,trivial⟩ t0 ?_
  refine exr (mV L rfl (aV L rfl (zn [(4,_)] [] t1 trivial (V1 ?_))))
  refine Q0 (.tmp rfl) ?_
  simp
theorem b1c {c B:Nat}{M:List (List Rat)}(h:MOk c M)(hB:MB B M)(hb:B<1000000000):Y2 E 15 [pMq c M] (bZ true):=by
 have:=M9 c _ (v1j h hB hb)
 rwa [v1x h,b0j] at this
@[reducible] def pMr (m:List (List Rat)):J2:=.sl m.length (O5 m)
theorem J1h {l:List Nat}{k:Nat}(h:k<l.length):(Z6 l)[k]? = some (vZ (l.getD k 0)):=by simp [Z6,f0,h]


theorem RQ.of_inj {a b:Rat}(h:RQ.of a=RQ.of b):a=b:=by
 have h1:=congrArg (fun r=>sg r.m (val r.ws)) h
 have h2:=congrArg (fun r=>sg r.n (val r.vs)) h
 simp only [RQ.of,H1z] at h1 h2
 exact Rat.ext h1 (by exact_mod_cast h2)
theorem RQ.of_iff {a b:Rat}:RQ.of a=RQ.of b↔a=b:=⟨RQ.of_inj,fun h=>by rw [h]⟩
theorem w0v (a b:Rat)(ha:qw a<1000000000)(hb:qw b<1000000000):Y2 E 33 [pQ a,pQ b] (bZ (decide (a=b))):=by
 have:=v0y (RQ.of a) (RQ.of b) (RQ.sm_of ha) (RQ.sm_of hb)
 rwa [decide_eq_decide.2 RQ.of_iff] at this
theorem Y0a {M:List (List Rat)}{y:List Rat}{j:Nat}(hy:y.length=M.length):C8 (m0p M y j M.length)=b0h y (d7 M j):=by
 rw [F0k,dtR]
 congr 1
 refine List.ext_getElem (by simp [hy]) fun i h1 h2=>?_
 have h3:i<y.length:=by simp at h1; omega
 have h4:i<M.length:=by omega
 simp [m0p,d7,ent,f0,h3,h4]
theorem j1v (c:Int)(m:List (List RQ))(b y:List RQ)(hm:MSm m)(hbl:b.length<1000000000)(hb:∀ r∈b,r.sm)(hyl:y.length<1000000000)(hy:∀ r∈y,r.sm)(h:k1q c m b y=false):Y2 E 26 [pMR c m,pVR b,pVR y] (bZ false):=by
 refine j2 (xs:=[bZ false]) Tryz.func26 rfl Tryz.ntmps26 Tryz.results26 sM fun F hG hX0 hnt hdf P0=>?_
 obtain ⟨L,hX,hN⟩:=pro hnt hX0 hG
 refine exr (swb (R3 (k:=3) (n:=2) pa2 rfl rfl (P0 _ rfl) L) t1 t0 ⟨rfl,rfl⟩ (aV L rfl (zn [(1,_),(2,_),(3,_)] [(3,_)] t3 t1 (R1 ?_))))
 refine exm (sl:=[(37,vb true)]) (sl0:=[(1,_),(2,_),(3,_)]) (hb:=[]) (hb0:=[(3,_)]) t3 t1 ?_ ?_
 ·rcases (by cases h1:isM c m; exact .inl rfl; cases h2:b.all RQ.is; exact .inr (.inl ⟨rfl,rfl⟩); cases h3:y.all RQ.is; exact .inr (.inr (.inl ⟨rfl,rfl,rfl⟩)); by_cases h4:b.length=m.length; exact .inr (.inr (.inr (.inr ⟨rfl,rfl,rfl,h4,fun h5=>by simp [k1q,h1,h2,h3,h4,h5] at h⟩))); exact .inr (.inr (.inr (.inl ⟨rfl,rfl,rfl,h4⟩))):isM c m=false∨(isM c m=true∧b.all RQ.is=false)∨(isM c m=true∧b.all RQ.is=true∧y.all RQ.is=false)∨(isM c m=true∧b.all RQ.is=true∧y.all RQ.is=true∧b.length≠m.length)∨(isM c m=true∧b.all RQ.is=true∧y.all RQ.is=true∧b.length=m.length∧y.length≠m.length)) with h1 | ⟨h1,h2⟩ | ⟨h1,h2,h3⟩ | ⟨h1,h2,h3,h4⟩ | ⟨h1,h2,h3,h4,h5⟩
  ·refine lp2 ag24 sz24 L rfl rfl (cK hG hX cl15 hN (M9 c m hm) L t1 (sw (P3 L) t1 t0 (mV L rfl (swn (g:=12) rfl (by rw [h1] <;> rfl) L rfl ?_))))
   refine swn (g:=12) rfl (by rw [h1] <;> rfl) L rfl ?_
   refine swn (g:=12) rfl (by rw [h1] <;> rfl) L rfl ?_
   refine sw (m4 (by rw [h1]; rfl) L) t2 t0 ?_
   refine mV L rfl (swn (g:=17) rfl rfl L rfl (swn (g:=17) rfl rfl L rfl (swn (g:=17) rfl rfl L rfl (sw (m4 rfl L) t2 t0 (mV L rfl (swn (g:=22) rfl rfl L rfl (swn (g:=22) rfl rfl L rfl (swn (g:=22) rfl rfl L rfl (swn (g:=22) rfl rfl L rfl (swn (g:=22) rfl rfl L rfl (swn (g:=22) rfl rfl L rfl ?_)))))))))))
   refine sw (m4 rfl L) t2 t0 (mV L rfl (swn (g:=30) rfl rfl L rfl (swn (g:=30) rfl rfl L rfl (swn (g:=30) rfl rfl L rfl (swn (g:=30) rfl rfl L rfl (swn (g:=30) rfl rfl L rfl (swn (g:=30) rfl rfl L rfl (sw (m4 rfl L) t2 t0 ?_))))))))
   exact O1 ⟨t4,t1⟩
  ·refine lp2 ag24 sz24 L rfl rfl (cK hG hX cl15 hN (M9 c m hm) L t1 (sw (P3 L) t1 t0 (mV L rfl (gV (g:=12) rfl (by rw [h1] <;> rfl) L rfl rfl ?_))))
   refine swg (g:=12) rfl (by rw [h1] <;> rfl) (c_c hG hX cl27 rfl hN (T7 b hbl hb) L) rfl t1 t0 ?_
   refine swg (g:=12) rfl (by rw [h1] <;> rfl) (P3 L) rfl t1 t0 ?_
   refine sw (V3 (by rw [h1]; rfl) L) t2 t0 ?_
   refine mV L rfl (swn (g:=17) rfl (by rw [h2] <;> rfl) L rfl ?_)
   refine swn (g:=17) rfl (by rw [h2] <;> rfl) L rfl ?_
   refine swn (g:=17) rfl (by rw [h2] <;> rfl) L rfl ?_
   refine sw (m4 (by rw [h2]; rfl) L) t2 t0 ?_
   refine mV L rfl (swn (g:=22) rfl rfl L rfl (swn (g:=22) rfl rfl L rfl (swn (g:=22) rfl rfl L rfl (swn (g:=22) rfl rfl L rfl (swn (g:=22) rfl rfl L rfl (swn (g:=22) rfl rfl L rfl (sw (m4 rfl L) t2 t0 (mV L rfl (swn (g:=30) rfl rfl L rfl (swn (g:=30) rfl rfl L rfl (swn (g:=30) rfl rfl L rfl ?_)))))))))))
   refine swn (g:=30) rfl rfl L rfl (swn (g:=30) rfl rfl L rfl (swn (g:=30) rfl rfl L rfl (sw (m4 rfl L) t2 t0 ?_)))
   exact O1 ⟨t4,t1⟩
  ·refine lp2 ag24 sz24 L rfl rfl (cK hG hX cl15 hN (M9 c m hm) L t1 (sw (P3 L) t1 t0 (mV L rfl (gV (g:=12) rfl (by rw [h1] <;> rfl) L rfl rfl ?_))))
   refine swg (g:=12) rfl (by rw [h1] <;> rfl) (c_c hG hX cl27 rfl hN (T7 b hbl hb) L) rfl t1 t0 ?_
   refine swg (g:=12) rfl (by rw [h1] <;> rfl) (P3 L) rfl t1 t0 ?_
   refine sw (V3 (by rw [h1]; rfl) L) t2 t0 ?_
   refine mV L rfl (gV (g:=17) rfl (by rw [h2] <;> rfl) L rfl rfl ?_)
   refine swg (g:=17) rfl (by rw [h2] <;> rfl) (c_c hG hX cl27 rfl hN (T7 y hyl hy) L) rfl t1 t0 ?_
   refine swg (g:=17) rfl (by rw [h2] <;> rfl) (P3 L) rfl t1 t0 ?_
   refine sw (V3 (by rw [h2]; rfl) L) t2 t0 ?_
   refine mV L rfl (swn (g:=22) rfl (by rw [h3] <;> rfl) L rfl ?_)
   refine swn (g:=22) rfl (by rw [h3] <;> rfl) L rfl ?_
   refine swn (g:=22) rfl (by rw [h3] <;> rfl) L rfl ?_
   refine swn (g:=22) rfl (by rw [h3] <;> rfl) L rfl ?_
   refine swn (g:=22) rfl (by rw [h3] <;> rfl) L rfl ?_
   refine swn (g:=22) rfl (by rw [h3] <;> rfl) L rfl ?_
   refine sw (m4 (by rw [h3]; rfl) L) t2 t0 ?_
   refine mV L rfl (swn (g:=30) rfl rfl L rfl (swn (g:=30) rfl rfl L rfl (swn (g:=30) rfl rfl L rfl (swn (g:=30) rfl rfl L rfl (swn (g:=30) rfl rfl L rfl (swn (g:=30) rfl rfl L rfl (sw (m4 rfl L) t2 t0 ?_)))))))
   exact O1 ⟨t4,t1⟩
  ·refine lp2 ag24 sz24 L rfl rfl (cK hG hX cl15 hN (M9 c m hm) L t1 (sw (P3 L) t1 t0 (mV L rfl (gV (g:=12) rfl (by rw [h1] <;> rfl) L rfl rfl ?_))))
   refine swg (g:=12) rfl (by rw [h1] <;> rfl) (c_c hG hX cl27 rfl hN (T7 b hbl hb) L) rfl t1 t0 ?_
   refine swg (g:=12) rfl (by rw [h1] <;> rfl) (P3 L) rfl t1 t0 ?_
   refine sw (V3 (by rw [h1]; rfl) L) t2 t0 ?_
   refine mV L rfl (gV (g:=17) rfl (by rw [h2] <;> rfl) L rfl rfl ?_)
   refine swg (g:=17) rfl (by rw [h2] <;> rfl) (c_c hG hX cl27 rfl hN (T7 y hyl hy) L) rfl t1 t0 ?_
   refine swg (g:=17) rfl (by rw [h2] <;> rfl) (P3 L) rfl t1 t0 ?_
   refine sw (V3 (by rw [h2]; rfl) L) t2 t0 ?_
   refine mV L rfl (gV (g:=22) rfl (by rw [h3] <;> rfl) L rfl rfl ?_)
   refine swg (g:=22) rfl (by rw [h3] <;> rfl) (R2 un40 L) rfl t1 t0 ?_
   refine swg (g:=22) rfl (by rw [h3] <;> rfl) (Z1 un24 rfl sz22 dC rX L) rfl t1 t1 ?_
   refine swg (g:=22) rfl (by rw [h3] <;> rfl) (Y1 ag22 rF rF L) rfl t1 t1 ?_
   refine swg (g:=22) rfl (by rw [h3] <;> rfl) (R2 un22 L) rfl t1 t0 ?_
   refine swg (g:=22) rfl (by rw [h3] <;> rfl) (c_n L) rfl t2 t0 ?_
   refine sw (V3 (by rw [h3]; rfl) L) t2 t0 ?_
   refine mV L rfl (swn (g:=30) rfl sO L rfl (swn (g:=30) rfl sO L rfl (swn (g:=30) rfl sO L rfl (swn (g:=30) rfl sO L rfl (swn (g:=30) rfl sO L rfl (swn (g:=30) rfl sO L rfl (sw (m4 sO L) t2 t0 ?_)))))))
   exact O1 ⟨t4,t1⟩
  ·refine lp2 ag24 sz24 L rfl rfl (cK hG hX cl15 hN (M9 c m hm) L t1 (sw (P3 L) t1 t0 (mV L rfl (gV (g:=12) rfl (by rw [h1] <;> rfl) L rfl rfl ?_))))
   refine swg (g:=12) rfl (by rw [h1] <;> rfl) (c_c hG hX cl27 rfl hN (T7 b hbl hb) L) rfl t1 t0 ?_
   refine swg (g:=12) rfl (by rw [h1] <;> rfl) (P3 L) rfl t1 t0 ?_
   refine sw (V3 (by rw [h1]; rfl) L) t2 t0 ?_
   refine mV L rfl (gV (g:=17) rfl (by rw [h2] <;> rfl) L rfl rfl ?_)
   refine swg (g:=17) rfl (by rw [h2] <;> rfl) (c_c hG hX cl27 rfl hN (T7 y hyl hy) L) rfl t1 t0 ?_
   refine swg (g:=17) rfl (by rw [h2] <;> rfl) (P3 L) rfl t1 t0 ?_
   refine sw (V3 (by rw [h2]; rfl) L) t2 t0 ?_
   refine mV L rfl (gV (g:=22) rfl (by rw [h3] <;> rfl) L rfl rfl ?_)
   refine swg (g:=22) rfl (by rw [h3] <;> rfl) (R2 un40 L) rfl t1 t0 ?_
   refine swg (g:=22) rfl (by rw [h3] <;> rfl) (Z1 un24 rfl sz22 dC rX L) rfl t1 t1 ?_
   refine swg (g:=22) rfl (by rw [h3] <;> rfl) (Y1 ag22 rF rF L) rfl t1 t1 ?_
   refine swg (g:=22) rfl (by rw [h3] <;> rfl) (R2 un22 L) rfl t1 t0 ?_
   refine swg (g:=22) rfl (by rw [h3] <;> rfl) (c_n L) rfl t2 t0 ?_
   refine sw (V3 (by rw [h3]; rfl) L) t2 t0 ?_
   refine mV L rfl (gV (g:=30) rfl sO L rfl rfl (swg (g:=30) rfl sO (R2 un40 L) rfl t1 t0 (swg (g:=30) rfl sO (Z1 un24 rfl sz22 dC rX L) rfl t1 t1 ?_)))
   refine swg (g:=30) rfl sO (Y1 ag22 rF rF L) rfl t1 t1 ?_
   refine swg (g:=30) rfl sO (R2 un22 L) rfl t1 t0 (swg (g:=30) rfl sO (c_n L) rfl t2 t0 (sw (V3 sO L) t2 t0 ?_))
   exact O1 ⟨⟨ob rfl sO,rfl,rfl,rfl,trivial⟩,t1⟩
 refine i6 rfl rfl (exr (aV L rfl (zn [(6,_)] [] t1 trivial (V1 ?_))))
 refine Q0 (.tmp rfl) ?_
 rfl
theorem M0f {B:Nat}{v:List Rat}(h:∀ a∈v,qw a≤B)(hb:B<1000000000):∀ r∈v.map RQ.of,r.sm:=fun r hr=>by
 obtain ⟨a,ha,rfl⟩:=G0.1 hr
 exact RQ.sm_of (Nat.lt_of_le_of_lt (h a ha) hb)
theorem B0v {B:Nat}{v:List Rat}(hl:v.length<1000000000)(h:∀ a∈v,qw a≤B)(hb:B<1000000000):Y2 E 27 [pV v] (bZ true):=by
 have:=T7 (v.map RQ.of) (by rw [O0]; exact hl) (M0f h hb)
 rwa [K0z,g0b] at this
theorem H1q {c B C:Nat}{y:List Rat}{M:List (List Rat)}(hB:MB B M)(hC:∀ a∈y,qw a≤C)(hr:∀ r∈M,r.length=c){j:Nat}(hj:j<c):qw (b0h y (d7 M j))≤y.length*(C+B+1)+1:=d1b hC (n1q hB hj hr)
theorem m1q {r:List Rat}{N:List (List Rat)}{c j:Nat}(h:j<c):(d0q r N c).getD j 0=b0h r (d7 N j):=by
 simp [d0q,f0,h]
theorem Q0y (c B C:Nat)(M:List (List Rat))(b y:List Rat)(h:MOk c M)(hB:MB B M)(hbB:∀ a∈b,qw a≤B)(hyB:∀ a∈y,qw a≤C)(hbl:b.length=M.length)(hyl:y.length=M.length)(hs:M.length*(C+B+1)+1<900000000)(hbb:B<100000000∧C<100000000):Y2 E 26 [pMq c M,pV b,pV y] (bZ (N0w c M b y)):=by
 refine j2 (xs:=[bZ (N0w c M b y)]) Tryz.func26 rfl Tryz.ntmps26 Tryz.results26 sM fun F hG hX0 hnt hdf P0=>?_
 obtain ⟨L,hX,hN⟩:=pro hnt hX0 hG
 have hr4:=h.rows
 have hc6:=h.cols
 have hmul:y.length*(C+B+1)=M.length*(C+B+1):=by rw [hyl]
 obtain ⟨hbb,hcc⟩:=hbb
 refine exr (swb (R3 (k:=3) (n:=2) pa2 rfl rfl (P0 _ rfl) L) t1 t0 ⟨rfl,rfl⟩ (aV L rfl (zn [(1,_),(2,_),(3,_)] [(3,_)] t3 t1 (R1 (exr (lp2 ag24 sz24 L rfl rfl (cK hG hX cl15 hN (b1c h hB oM) L t1 (sw (P3 L) t1 t0 (mV L rfl (gV (g:=12) rfl rfl L rfl rfl (swg (g:=12) rfl rfl (c_c hG hX cl27 rfl hN (B0v oM hbB oM) L) rfl t1 t0 ?_)))))))))))
 refine swg (g:=12) rfl rfl (P3 L) rfl t1 t0 (sw (V3 rfl L) t2 t0 (mV L rfl (gV (g:=17) rfl rfl L rfl rfl (swg (g:=17) rfl rfl (c_c hG hX cl27 rfl hN (B0v oM hyB oM) L) rfl t1 t0 (swg (g:=17) rfl rfl (P3 L) rfl t1 t0 (sw (V3 rfl L) t2 t0 (mV L rfl (gV (g:=22) rfl rfl L rfl rfl (swg (g:=22) rfl rfl (R2 un40 L) rfl t1 t0 (swg (g:=22) rfl rfl (Z1 un24 rfl sz22 dC rX L) rfl t1 t1 ?_))))))))))
 refine swg (g:=22) rfl rfl (Y1 ag22 rF rF L) rfl t1 t1 ?_
 refine swg (g:=22) rfl rfl (R2 un22 L) rfl t1 t0 (swg (g:=22) rfl rfl (c_n L) rfl t2 t0 (sw (V3 rfl L) t2 t0 (mV L rfl (gV (g:=30) rfl sO L rfl rfl (swg (g:=30) rfl sO (R2 un40 L) rfl t1 t0 (swg (g:=30) rfl sO (Z1 un24 rfl sz22 dC rX L) rfl t1 t1 ?_))))))
 refine swg (g:=30) rfl sO (Y1 ag22 rF rF L) rfl t1 t1 ?_
 refine swg (g:=30) rfl sO (R2 un22 L) rfl t1 t0 (swg (g:=30) rfl sO (c_n L) rfl t2 t0 (sw (V3 sO L) t2 t0 (zn [(1,_),(2,_),(3,_),(37,_)] [(3,_)] t4 t1 (W3 rfl sO ?_))))
 refine U1 (xq ?_)
 refine exr (mV L rfl (lp2 ag24 sz24 L rfl rfl (cK hG hX cl71 hN (W0w c B C y M oM h.len hyl oM hB hyB oM oM oM) L t2 (aV L rfl (zn [(1,_),(2,_),(7,_)] [] t3 trivial (R1 (exr (aV L rfl (zn [(1,_),(2,_),(7,_),(8,_)] [] t4 trivial (X1 ?_))))))))))
 refine exl (α:=Nat) (fun j=>[(8,vi (j:Int))]) (fun j=>[]) (fun j=>j≤c∧W0p M y j=true) (fun j=>c - j) (0) (sl:=[(1,_),(2,_),(7,_)]) (hb:=[]) ?_ ⟨oR,rfl,rfl,rfl,trivial⟩ t0 ?_
 ·exact ⟨Nat.zero_le _,rfl⟩
 intro j hj
 obtain ⟨hj,hch⟩:=hj
 refine R1 (exr (mV L rfl (mV L rfl (sw (R2 un40 L) t1 t0 (sw (d4 L) t2 t0 (zn [(1,_),(2,_),(7,_),(8,_),(44,_)] [] t5 trivial ?_))))))
 refine D2 rfl (fun hc=>?_) (fun hc=>?_)
 ·have hc:=dt hc
  simp only [X5] at hc
  have hjc:j<c:=by omega
  have hjm:j<(d0q y M c).length:=by rw [X5]; exact hjc
  have hq:=H1q hB hyB h.len hjc
  have hld:=V7 hjm
  rw [m1q hjc] at hld
  refine U1 (xq ?_)
  refine R1 (X1 (exr (mV L rfl (mV L rfl (sw (F2 un40 sz47 oM oM sM dC L) t2 t0 ?_)))))
  refine sw (F7 ag47 sz47 hld rfl L) t1 t0 (cK hG hX cl22 hN (H1a (b0h y (d7 M j))) L t1 (sw (P3 L) t1 t0 (zn [(1,_),(2,_),(7,_),(8,_),(52,_)] [] t5 trivial ?_)))
  refine D2 rfl (fun hz=>?_) (fun hz=>?_)
  ·have hz:=dnt hz
   refine exr (aV L rfl (zn [(6,_)] [] t1 trivial (V1 ?_)))
   refine Q0 (.tmp rfl) ?_
   rw [N0w,F0m hjc (by rw [Y0a hyl]; exact hz)]; rfl
  ·have hz:=dnf hz
   refine U1 (xq ?_)
   refine y3 (mV L rfl (sw (K3 L (w64 oM oM)) t2 t0 (aV L rfl (O1 ?_))))
   exact ⟨j+1,⟨by omega,by rw [v0r,hch,Y0a hyl,hz]; rfl⟩,by omega,E3 ⟨oR,rfl,rfl,rfl,trivial⟩ trivial⟩
 ·have hc:=df hc
  simp only [X5] at hc
  have hjc:j=c:=by omega
  subst hjc
  have hq:=d1b (u:=y) (v:=b) hyB hbB
  refine L2 (xq ?_)
  refine exr (mV L rfl (mV L rfl (cK hG hX cl63 hN (K0a y b C B oM oM hyB hbB oM oM oM) L t2 (cK hG hX cl61 hN (d1f) L t0 (cK hG hX cl33 hN (w0v (b0h y b) 1 oM (by rw [F0g]; decide)) L t2 ?_)))))
  refine aV L rfl (zn [(6,_)] [] t1 trivial (V1 ?_))
  refine Q0 (.tmp rfl) ?_
  rw [N0w,hch,Bool.true_and]
@[simp] theorem G1w {n:Nat}:(P4 n).length=n:=by simp [P4]

theorem p1r:∀ {v:List RQ}{i:Nat}(j:Nat),i<v.length→j<4→(d0n v)[i*4+j]? = (cR (v.getD i default))[j]?
 | [],i,j,h,_=>by simp at h
 | a :: v,0,j,_,h2=>by
  rw [d0n,Nat.zero_mul,F1,X0 (by simp [cR]; omega)]; rfl
 | a :: v,i+1,j,h,h2=>by
  have:=p1r (v:=v) (i:=i) j (by simpa using h) h2
  rw [d0n,D0 (by simp [cR]; omega),show (i+1)*4+j - (cR a).length=i*4+j by simp [cR]; omega,this]
  simp
theorem P1a {v:List RQ}{i:Nat}(h:i<v.length):(d0n v)[i*4+0+1]? = some (.sl (v.getD i default).ws.length (K4 (v.getD i default).ws)):=p1r 1 h dC
theorem P1k {v:List RQ}{i:Nat}(h:i<v.length):(d0n v)[i*4+2+1]? = some (.sl (v.getD i default).vs.length (K4 (v.getD i default).vs)):=p1r 3 h dC
def iV (l:List Int):List Rat:=l.map fun z:Int=>(z:Rat)
@[simp] theorem k0v (l:List Int):(iV l).length=l.length:=by simp [iV]
@[reducible] def pJ (l:List Int):J2:=.sl l.length (l.map vZ)
theorem W1b {l:List Int}{k:Nat}(h:k<l.length):(l.map vZ)[k]? = some (vZ (l.getD k 0)):=by simp [f0,h]
theorem D1w {l:List Int}{k:Nat}(h:k<l.length):iV (l.take (k+1))=iV (l.take k)++[((l.getD k 0:Int):Rat)]:=by
 rw [I1,iV,List.map_append]; simp [iV,f0,h]
theorem y1j (l:List Int)(hl:l.length<1000)(hb:∀ z∈l,-1000≤z∧z<1000):Y2 E 48 [pJ l] (pV (iV l)):=by
 refine j2 (xs:=[pV (iV l)]) Tryz.func48 rfl Tryz.ntmps48 Tryz.results48 sM fun F hG hX0 hnt hdf P0=>?_
 obtain ⟨L,hX,hN⟩:=pro hnt hX0 hG
 refine exr (aV L rfl (zn [(0,_)] [] t1 trivial (exr (swb (O9 (k:=5) (sz:=4) un40 ti47 (P0 _ rfl) L) t0 t0 ⟨rfl,rfl⟩ (aV L rfl ?_)))))
 refine O1 ⟨[(0,_),(3,.ref 5 0 0 0)],[(5,q4 [])],t2,t1,?_⟩
 refine R1 (exr (aV L rfl (zn [(0,_),(3,_),(4,_)] [(5,_)] t3 t1 (X1 ?_))))
 refine exl (α:=Nat) (fun k=>[(4,vi (k:Int)),(3,.ref 5 0 k (k*4))]) (fun k=>[(5,q4 (iV (l.take k)))]) (fun k=>k≤l.length) (fun k=>l.length - k) (0) (sl:=[(0,_)]) (hb:=[]) ?_ ⟨oR,oR,rfl,trivial⟩ t1 ?_
 ·exact Nat.zero_le _
 intro k hk
 refine R1 (exr (mV L rfl (mV L rfl (sw (R2 un27 L) t1 t0 (sw (d4 L) t2 t0 (zn [(0,_),(3,_),(4,_),(9,_)] [(5,_)] t4 t1 ?_))))))
 refine D2 rfl (fun hc=>?_) (fun hc=>?_)
 ·have hc:=dt hc
  have hk2:k<l.length:=by omega
  have hz:=hb (l.getD k 0) (by simp [f0,hk2])
  refine U1 (xq ?_)
  refine R1 (X1 (y3 (mV L rfl (mV L rfl (mV L rfl (sw (ixJ un27 sz3 (j:=k) rO oM sM L) t2 t0 ?_))))))
  refine sw (v4 ag3 (W1b hk2) L) t1 t0 (cK hG hX cl49 hN (d0j (l.getD k 0) oM oM) L t1 (sw (F4 (vs:=[_]) un40 ti47 rfl rfl dC dC rfl (M2 (.cons rfl (.cons rfl (.cons rfl (.cons rfl .nil)))) rfl) rfl (.cons rfl pa4 rfl pu4 .nil) (.cons (.cons (.cons (.cons .nil)))) L) t1 t0 (swb (apP (sz:=4) un40 un40 ti47 rfl rfl rfl dC (by exact (by first | (simp; omega) | (simp; done))) oF sM rfl rfl rfl (by first | (simp [Tryz.t47]; done) | (simp [Tryz.t47]; omega)) oM (P0 _ rfl) L) t2 t1 t0 ?_)))
  refine aV L rfl (O1 (y3 (mV L rfl (sw (K3 L (w64 oM oM)) t2 t0 (aV L rfl (O1 ?_))))))
  exact ⟨k+1,oM,by omega,E3 ⟨oR,ov rfl sO,rfl,trivial⟩ ⟨obl rfl ((g0x _ _).trans (by rw [D1w hk2])),trivial⟩⟩
 ·have hc:=df hc
  have hkl:k=l.length:=by omega
  rw [C0 oM]
  subst hkl
  refine L2 (xq ?_)
  refine G4 [5] (sl:=[(3,_)]) (hb:=[]) (M3 hX0) ⟨⟨_,rfl,(.ref rfl rfl (by exact (by first | (simp; omega) | (simp; done))) (by first | rfl | omega))⟩,trivial⟩ t0 ?_
  refine exr (mV L rfl (aV L rfl (zn [(2,_)] [] t1 trivial (V1 ?_))))
  refine Q0 (.tmp rfl) ?_
  simp
theorem v1y (c:Int)(M:List (List Rat)):Y2 E 47 [vZ c,pMr M] (.agg [vZ c,pMr M]):=by
 refine j2 (xs:=[.agg [vZ c,pMr M]]) Tryz.func47 rfl Tryz.ntmps47 Tryz.results47 sM fun F hG hX0 hnt hdf P0=>?_
 obtain ⟨L,hX,hN⟩:=pro hnt hX0 hG
 refine exr (swb (T3 (k:=4) (n:=2) zv24 (.cons rfl (.cons rfl .nil)) rfl (P0 _ rfl) L) t0 t0 ⟨rfl,rfl⟩ (zn [(0,_),(1,_),(4,_)] [(4,_)] t3 t1 (exr (mV L rfl (mV L rfl (sw (E6 (vs:=[_,_]) un24 zv24 (.cons rfl (.cons rfl .nil)) ((y2.cons sz3 (y2.cons sz22 y2.nil))).to rfl (.cons rfl (.atom rfl) rfl pu1 (.cons rfl .sl rfl (.skip pu1) .nil)) (.cons (.cons .nil)) L) t2 t0 (sb (U2 sz24 rF pa2 rfl pu2) t2 t1 ?_)))))))
 refine zn [(4,_)] [(4,_)] t1 t1 (V1 ?_)
 refine Q0 (.agg rfl rfl rfl ag24 sz24 (.cons (.cons .nil))) ?_
 rfl
def smW (k:Nat)(r:RQ):Bool:=decide (r.ws.length≤k∧r.vs.length≤k)
def smV (n:Nat)(v:List RQ):Bool:=decide (v.length≤n) && v.all (smW 6)
theorem or3 (p q:Prop):p∨(¬p∧q)∨(¬p∧¬q):=by
 rcases Classical.em p with h | h
 ·exact .inl h
 ·rcases Classical.em q with h2 | h2
  ·exact .inr (.inl ⟨h,h2⟩)
  ·exact .inr (.inr ⟨h,h2⟩)
def Y6 (n:Nat)(c:Int)(m:List (List RQ)):Bool:=decide (m.length≤n∧(c≤n∨60<c)) && m.all (smV n)
theorem H0h (X:Nat):(2:Nat) ^ X<4294967296 ^ (X / 32+1):=by
 rw [show (4294967296:Nat)=2 ^ 32 from rfl,← Nat.pow_mul]
 exact Nat.pow_lt_pow_right dC oM
theorem p32 (k:Nat):((4294967296 ^ k:Nat):Int)=(4294967296:Int) ^ k:=Int.natCast_pow _ _
theorem J1k {X:Nat}{a:Rat}(h:hsz X a):qw a≤X / 32+1:=by
 have key:∀ z:Int,z.natAbs≤2 ^ X→nw z≤X / 32+1:=fun z hz=>B0p (by
  rw [← p32 (X / 32+1)]
  exact Int.ofNat_lt.2 (Nat.lt_of_le_of_lt hz (H0h X)))
 exact Nat.max_le.2 ⟨key _ h.1,key _ (by simpa using h.2)⟩
theorem J1f {k:Nat}{a:Rat}(h:qw a≤k):hsz (32*k) a:=by
 have key:∀ z:Int,nw z≤k→z.natAbs≤2 ^ (32*k):=fun z hz=>by
  have h1:=J0f (a:=z)
  have h2:(4294967296:Nat) ^ nw z≤4294967296 ^ k:=Nat.pow_le_pow_right dC hz
  rw [show (4294967296:Nat) ^ k=2 ^ (32*k) by rw [Nat.pow_mul]] at h2
  rw [← p32 (nw z)] at h1
  exact Nat.le_of_lt (Nat.lt_of_lt_of_le (Int.ofNat_lt.1 h1) h2)
 exact ⟨key _ (Nat.le_trans (n5 a) h),by simpa using key _ (Nat.le_trans (I5 a) h)⟩
theorem Q1y {X:Nat}{m b:List (List Rat)}(h:CDM X m b):MB (X / 32+1) m∧MB (X / 32+1) b:=by
 have key:∀ {m:List (List Rat)},(∀ i j,hsz X (ent m i j))→MB (X / 32+1) m:=fun {m} hm r hr a ha=>by
  obtain ⟨i,hi,rfl⟩:=List.getElem_of_mem hr
  obtain ⟨j,hj,rfl⟩:=List.getElem_of_mem ha
  have:=J1k (hm i j)
  rwa [ent,show m.getD i []=m[i] by simp [f0,hi],show (m[i]).getD j 0=m[i][j] by simp [f0,hj]] at this
 exact ⟨key fun i j=>h.m i j,key fun i j=>h.b i j⟩
theorem B1h {n cc d B:Nat}{m b:List (List Rat)}(h:RC n cc m)(hb:RC n d b)(hB:∀ c,c≤cc→∀ i j,qw (ent (ech m b c).m i j)≤B):∀ c,c≤cc→qw (ech m b c).det≤1+(ech m b c).pv.length*B
 | 0,_=>by show qw 1≤_; rw [F0g]; omega
 | c+1,hc=>by
  have ih:=B1h h hb hB c oM
  rcases y1r h hb (show c<cc by omega) with e | ⟨_,e2,i,_,e | e⟩
  ·have hpv:(ech m b c).pv.length≤(ech m b (c+1)).pv.length:=by
    rw [m9]; unfold F9
    split
    ·split
     ·exact Nat.le_refl _
     ·rw [P0r,K1]; omega
    ·exact Nat.le_refl _
   have:=V0 B hpv
   rw [e]; omega
  ·have h1:=Z9 (ech m b c).det (ent (ech m b c).m i c)
   have h2:=hB c oM i c
   rw [e,e2,Nat.add_mul]; omega
  ·have h1:=Z9 (-(ech m b c).det) (ent (ech m b c).m i c)
   rw [M0r] at h1
   have h2:=hB c oM i c
   rw [e,e2,Nat.add_mul]; omega
@[reducible] def BB:Nat:=22000000
@[reducible] def DD:Nat:=310000000
theorem b1h {n c d X:Nat}{m b:List (List Rat)}(h:RC n c m)(hb:RC n d b)(hn:n≤14)(hc:c≤70)(hd:d≤70)(hC:CDM X m b)(hX:k0y X n≤700000000):EU n c d BB DD m b:=by
 have hB:∀ k,k≤c→CDM 700000000 (ech m b k).m (ech m b k).b:=fun k hk=>(G1s h hb hC hk (Nat.le_refl n)).mono hX
 have hM:=fun k hk=>Q1y (hB k hk)
 refine ⟨h,hb,by omega,by omega,by omega,by decide,by decide,by decide,fun k hk r hr a ha=>Nat.le_trans ((hM k hk).1 r hr a ha) dC,fun k hk r hr a ha=>Nat.le_trans ((hM k hk).2 r hr a ha) dC,fun k hk=>?_⟩
 have h1:=B1h (B:=BB) h hb (fun k hk i j=>Nat.le_trans (J1k ((hB k hk).m i j)) dC) k hk
 have h2:(ech m b k).pv.length≤n:=(D7 h hb k hk).2.2.1.le
 have h3:(ech m b k).pv.length*BB≤14*BB:=V0 _ oM
 exact Nat.le_trans h1 (Nat.le_trans (Nat.add_le_add_left h3 1) dC)
theorem J1v {k n c:Nat}{m b:List (List Rat)}{l:List Rat}(h:RC n c m)(hm:MB k m)(hl:∀ a∈l,qw a≤k)(hb:∀ i j,ent b i j=0∨ent b i j=1∨ent b i j∈l):CDM (32*k*(n*c+l.length)) m b:=by
 have h1:=cdl (b:=32*k) (l:=m.flatten++l) fun a ha=>by
  rcases List.mem_append.1 ha with ha | ha
  ·obtain ⟨r,hr,ha⟩:=List.mem_flatten.1 ha
   exact J1f (hm r hr a ha)
  ·exact J1f (hl a ha)
 rw [K1,B1q h] at h1
 refine K1c h1 (fun i j=>?_) fun i j=>?_
 ·rcases p0j (m:=m) (i:=i) (j:=j) with e | ⟨r,hr,ha⟩
  ·exact .inl e
  ·exact .inr (.inr (List.mem_append_left _ (List.mem_flatten.2 ⟨r,hr,ha⟩)))
 ·rcases hb i j with e | e | e
  ·exact .inl e
  ·exact .inr (.inl e)
  ·exact .inr (.inr (List.mem_append_right _ e))
theorem w0n (n c B DB:Nat)(M:List (List Rat))(h:MOk c M)(hB1:MB B M)(hn:M.length=n)(H:EU n c 0 B DB M (nob n)):Y2 E 14 [pMq c M] (.tup [pMr (Y0x c (ech M (nob n) c).pv ((ech M (nob n) c).m.take (ech M (nob n) c).pv.length)),vZ 0]):=h0h (N0a n c B DB M h hB1 hn H)
theorem H1b {n i j:Nat}:ent (nob n) i j=0:=by
 rcases p0j (m:=nob n) (i:=i) (j:=j) with e | ⟨r,hr,ha⟩
 ·exact e
 ·rw [v1w.2 r hr |> E0] at ha; cases ha
theorem n1z {n i j:Nat}:ent (P4 n) i j=0∨ent (P4 n) i j=1:=by
 rcases p0j (m:=P4 n) (i:=i) (j:=j) with e | ⟨r,hr,ha⟩
 ·exact .inl e
 ·simp only [P4,G0] at hr
  obtain ⟨k,_,rfl⟩:=hr
  rcases List.mem_or_eq_of_mem_set ha with h | h
  ·exact .inl (List.eq_of_mem_replicate h)
  ·exact .inr h
theorem G1z {b:List Rat}{i j:Nat}:ent (m5 b) i j=0∨ent (m5 b) i j=1∨ent (m5 b) i j∈b:=by
 rcases p0j (m:=m5 b) (i:=i) (j:=j) with e | ⟨r,hr,ha⟩
 ·exact .inl e
 ·simp only [m5,G0,List.mem_range] at hr
  obtain ⟨k,hk,rfl⟩:=hr
  rcases List.mem_or_eq_of_mem_set ha with h | h
  ·rcases List.mem_or_eq_of_mem_set h with h | h
   ·exact .inl (List.eq_of_mem_replicate h)
   ·exact .inr (.inr (h ▸ C5 hk))
  ·exact .inr (.inl h)
theorem MOk.rc {c:Nat}{M:List (List Rat)}(h:MOk c M):RC M.length c M:=⟨rfl,h.len⟩
theorem M0s {n c k:Nat}{M:List (List Rat)}(h:RC n c M)(hB:MB k M)(hn:n≤14)(hc:c≤70)(hX:k0y (32*k*(n*c+0)) n≤700000000):EU n c 0 BB DD M (nob n) :=
 b1h h v1w hn hc dC (J1v (l:=[]) h hB sM fun _ _=>.inl H1b) hX
theorem D1y {n k:Nat}{M:List (List Rat)}(h:RC n n M)(hB:MB k M)(hn:n≤14)(hX:k0y (32*k*(n*n+0)) n≤700000000):EU n n n BB DD M (P4 n) :=
 b1h h B1r hn oM oM (J1v (l:=[]) h hB sM fun _ _=>n1z.elim .inl fun e=>.inr (.inl e)) hX
theorem D0d {n c k:Nat}{M:List (List Rat)}{b:List Rat}(h:RC n c M)(hB:MB k M)(hbn:b.length=n)(hb:∀ a∈b,qw a≤k)(hn:n≤14)(hc:c≤70)(hX:k0y (32*k*(n*c+n)) n≤700000000):EU n c (n+1) BB DD M (m5 b) :=
 b1h h (G1b hbn) hn hc oM (J1v (l:=b) h hB hb fun _ _=>G1z) (by rw [hbn]; exact hX)
theorem B1v {c:Nat}{M:List (List Rat)}:RC c M.length (trM c M):=by
 refine ⟨by simp,fun r hr=>?_⟩
 simp only [trM,G0] at hr
 obtain ⟨j,_,rfl⟩:=hr
 simp
theorem w1x {c B:Nat}{M:List (List Rat)}(hl:∀ r∈M,r.length=c)(h:MB B M):MB B (trM c M):=by
 intro r hr a ha
 simp only [trM,G0,List.mem_range] at hr
 obtain ⟨j,hj,rfl⟩:=hr
 exact n1q h hj hl a ha
theorem MB.mono {B C:Nat}{M:List (List Rat)}(h:MB B M)(hBC:B≤C):MB C M:=fun r hr a ha=>Nat.le_trans (h r hr a ha) hBC
def mI (L:List (List Int)):List (List Rat):=L.map iV
def sI (l:List Int):Bool:=l.all fun z=>decide (-1000≤z∧z<1000)
theorem N1n {z:Int}(h : -1000≤z∧z<1000):qw (z:Rat)≤1:=by
 unfold qw
 rw [Rat.num_intCast,Rat.den_intCast]
 exact Nat.max_le.2 ⟨B0p oM,by rw [show ((1:Nat):Int)=1 from rfl,m0z]; exact Nat.le_refl _⟩
theorem m0a {l:List Int}(h:sI l=true):∀ a∈iV l,qw a≤1:=fun a ha=>by
 obtain ⟨z,hz,rfl⟩:=G0.1 ha
 exact N1n (by simpa using s0.1 h z hz)
theorem n9 {L:List (List Int)}(h:L.all sI=true):MB 1 (mI L):=fun r hr=>by
 obtain ⟨l,hl,rfl⟩:=G0.1 hr
 exact m0a (s0.1 h l hl)
theorem m0q {c:Nat}{L:List (List Int)}(h:(L.all fun l=>decide (l.length=c))=true):∀ r∈mI L,r.length=c:=fun r hr=>by
 obtain ⟨l,hl,rfl⟩:=G0.1 hr
 rw [k0v]; simpa using s0.1 h l hl
theorem w0s {c:Nat}{L:List (List Int)}(h1:L.length≤400)(hc:c≤60)(h:(L.all fun l=>decide (l.length=c))=true):MOk c (mI L):=⟨by simpa [mI] using h1,hc,m0q h⟩
theorem h1j {B:Nat}{M:List (List Rat)}(hl:M.length<1000000000)(hr:∀ r∈M,r.length<1000000000)(hB:MB B M)(hb:B<1000000000):MSm (M.map (List.map RQ.of)) :=
 ⟨by simpa using hl,fun r hr2=>by
  obtain ⟨v,hv,rfl⟩:=G0.1 hr2
  exact ⟨by simpa using hr v hv,M0f (hB v hv) hb⟩⟩
theorem p1z {B:Nat}{u:List Rat}(hl:u.length<1000000000)(hB:∀ a∈u,qw a≤B)(hb:B<1000000000):Y2 E 29 [pV u,pV u] (bZ true):=by
 have:=h0s (u.map RQ.of) (u.map RQ.of) (by simpa using hl) (M0f hB hb) (M0f hB hb)
 rwa [decide_eq_true rfl,g0b] at this
theorem j1k {B:Nat}{M:List (List Rat)}(hl:M.length<1000000000)(hr:∀ r∈M,r.length<1000000000)(hB:MB B M)(hb:B<1000000000):Y2 E 19 [pMr M,pMr M] (bZ true):=by
 have:=w0b _ _ (h1j hl hr hB hb) (h1j hl hr hB hb)
 rwa [decide_eq_true rfl,h0m,O0] at this
theorem p1h {B:Nat}{c:Int}{M:List (List Rat)}(hl:M.length<1000000000)(hr:∀ r∈M,r.length<1000000000)(hB:MB B M)(hb:B<1000000000):Y2 E 17 [pMq c M,pMq c M] (bZ true):=by
 have:=w0a c c _ _ (h1j hl hr hB hb) (h1j hl hr hB hb)
 rwa [decide_eq_true ⟨rfl,rfl⟩,pMR,h0m,O0] at this
theorem K1g:Y2 E 13 [pMq 3 (mI [[0,2,4],[1,1,1],[1,2,3]])] (.tup [pMq 3 (mI [[1,0,-1],[0,1,2]]),pIs [0,1],vZ 0]):=by
 have h:=f0s 3 3 BB DD (mI [[0,2,4],[1,1,1],[1,2,3]]) (w0s dC dC dC) ((n9 dC).mono dC) rfl (M0s ⟨rfl,m0q dC⟩ (n9 dC) dC dC dC)
 have e1:(ech (mI [[0,2,4],[1,1,1],[1,2,3]]) (nob 3) 3).pv=[0,1]:=by decide +kernel
 have e2:(ech (mI [[0,2,4],[1,1,1],[1,2,3]]) (nob 3) 3).m.take 2=mI [[1,0,-1],[0,1,2]]:=by decide +kernel
 rw [e1,show [0,1].length=2 from rfl,e2] at h
 exact h
theorem J1w:Y2 E 14 [pMq 3 (mI [[0,2,4],[1,1,1],[1,2,3]])] (.tup [pMr (mI [[1,-2,1]]),vZ 0]):=by
 have h:=w0n 3 3 BB DD (mI [[0,2,4],[1,1,1],[1,2,3]]) (w0s dC dC dC) ((n9 dC).mono dC) rfl (M0s ⟨rfl,m0q dC⟩ (n9 dC) dC dC dC)
 have e2:Y0x 3 (ech (mI [[0,2,4],[1,1,1],[1,2,3]]) (nob 3) 3).pv ((ech (mI [[0,2,4],[1,1,1],[1,2,3]]) (nob 3) 3).m.take (ech (mI [[0,2,4],[1,1,1],[1,2,3]]) (nob 3) 3).pv.length)=mI [[1,-2,1]]:=by decide +kernel
 rw [e2] at h
 exact h
theorem K1q:Y2 E 24 [pMq 2 (mI [[1,1],[1,-1]]),pV (iV [3,1])] (.tup [pV (iV [2,1]),pV [],vZ 0]):=by
 have h:=g0j 2 2 BB DD (mI [[1,1],[1,-1]]) (iV [3,1]) (w0s dC dC dC) ((n9 dC).mono dC) (fun a ha=>Nat.le_trans (m0a dC a ha) dC) rfl rfl (D0d ⟨rfl,m0q dC⟩ (n9 dC) rfl (m0a dC) dC dC dC)
 have e1:N0g 2 (ech (mI [[1,1],[1,-1]]) (m5 (iV [3,1])) 2) 2=iV [2,1]:=by decide +kernel
 have e2:V0v (ech (mI [[1,1],[1,-1]]) (m5 (iV [3,1])) 2) 2=[]:=by decide +kernel
 have e3:G0r (ech (mI [[1,1],[1,-1]]) (m5 (iV [3,1])) 2) 2=0:=by decide +kernel
 rw [e1,e2,e3] at h
 exact h
theorem K1f:∃ x y,Y2 E 24 [pMq 2 (mI [[1,1],[2,2]]),pV (iV [1,3])] (.tup [pV x,pV y,vZ 4]):=by
 have h:=g0j 2 2 BB DD (mI [[1,1],[2,2]]) (iV [1,3]) (w0s dC dC dC) ((n9 dC).mono dC) (fun a ha=>Nat.le_trans (m0a dC a ha) dC) rfl rfl (D0d ⟨rfl,m0q dC⟩ (n9 dC) rfl (m0a dC) dC dC dC)
 have e3:G0r (ech (mI [[1,1],[2,2]]) (m5 (iV [1,3])) 2) 2=4:=by decide +kernel
 rw [e3] at h
 exact ⟨_,_,h⟩
theorem y1s (l:List Int)(v:Bool)(hl:l.length=2)(hs:sI l=true)(h:N0w 2 (mI [[1,1],[2,2]]) (iV [1,3]) (iV l)=v):Y2 E 25 [pMq 2 (mI [[1,1],[2,2]]),pV (iV [1,3]),pV (iV l)] (bZ v):=by
 have:=D0y 2 1 (mI [[1,1],[2,2]]) (iV [1,3]) (iV l) (w0s dC dC dC) (n9 dC) (m0a dC) (m0a hs) rfl (by rw [k0v,hl]; rfl) dC dC dC
 rwa [h] at this
theorem M1b:Y2 E 41 [pMq 2 (mI [[1,2],[3,4]]),pMq 2 (mI [[0,1],[1,0]])] (.tup [pMq 2 (mI [[2,1],[4,3]]),vZ 0]):=by
 have h:=H0b 2 2 1 (mI [[1,2],[3,4]]) (mI [[0,1],[1,0]]) (w0s dC dC dC) (w0s dC dC dC) (n9 dC) (n9 dC) dC rfl
 have e:M0b 2 (mI [[1,2],[3,4]]) (mI [[0,1],[1,0]])=mI [[2,1],[4,3]]:=by decide +kernel
 rw [e] at h
 exact h
theorem K1a:Y2 E 31 [pMq 2 (mI [[2,1],[4,3]])] (.tup [pQ ((2:Int):Rat),vZ 0]):=by
 have h:=W0x 2 BB DD (mI [[2,1],[4,3]]) (w0s dC dC dC) ((n9 dC).mono dC) rfl (M0s ⟨rfl,m0q dC⟩ (n9 dC) dC dC dC)
 have e:n1b 2 (mI [[2,1],[4,3]]) (nob 2)=((2:Int):Rat):=by decide +kernel
 rw [e] at h
 exact h
theorem N1p:∃ y,Y2 E 30 [pMl (mI [[1,0,1],[2,0,2],[0,1,1]]),pV (iV [3,1,4])] (.tup [pV (iV [3,0,1]),pV y,vZ 0]):=by
 have hl:∀ r∈mI [[1,0,1],[2,0,2],[0,1,1]],r.length=3:=m0q dC
 have h:=p0k BB DD (mI [[1,0,1],[2,0,2],[0,1,1]]) (iV [3,1,4]) hl dC dC ((n9 dC).mono dC) (fun a ha=>Nat.le_trans (m0a dC a ha) dC) (D0d B1v (w1x hl (n9 dC)) rfl (m0a dC) dC dC dC)
 have e1:N0g 3 (ech (trM 3 (mI [[1,0,1],[2,0,2],[0,1,1]])) (m5 (iV [3,1,4])) 3) 3=iV [3,0,1]:=by decide +kernel
 have e3:G0r (ech (trM 3 (mI [[1,0,1],[2,0,2],[0,1,1]])) (m5 (iV [3,1,4])) 3) 3=0:=by decide +kernel
 rw [show (mI [[1,0,1],[2,0,2],[0,1,1]]).length=3 from rfl,show (iV [3,1,4]).length=3 from rfl,e1,e3] at h
 exact ⟨_,h⟩
theorem vI (l:List Int)(h:sI l=true)(hl:l.length<1000):Y2 E 48 [pJ l] (pV (iV l)):=y1j l hl fun z hz=>by simpa using s0.1 h z hz
theorem mtI (c:Int)(L:List (List Int)):Y2 E 47 [vZ c,pMr (mI L)] (pMq c (mI L)):=v1y c (mI L)
theorem g1v (c:Int)(L:List (List Int))(h1:L.length<1000)(h:(L.all fun l=>decide (l.length<1000))=true)(hb:L.all sI=true):Y2 E 17 [pMq c (mI L),pMq c (mI L)] (bZ true) :=
 p1h (B:=1) (by simp [mI]; omega) (fun r hr=>by
  obtain ⟨l,hl,rfl⟩:=G0.1 hr
  have:=s0.1 h l hl
  rw [k0v]; simp at this; omega) (n9 hb) dC
theorem F1v (L:List (List Int))(h1:L.length<1000)(h:(L.all fun l=>decide (l.length<1000))=true)(hb:L.all sI=true):Y2 E 19 [pMr (mI L),pMr (mI L)] (bZ true) :=
 j1k (B:=1) (by simp [mI]; omega) (fun r hr=>by
  obtain ⟨l,hl,rfl⟩:=G0.1 hr
  have:=s0.1 h l hl
  rw [k0v]; simp at this; omega) (n9 hb) dC
theorem g1q (l:List Int)(h:sI l=true)(hl:l.length<1000):Y2 E 29 [pV (iV l),pV (iV l)] (bZ true):=p1z (B:=1) sO (m0a h) dC
theorem H0w  : Y2 E 12 [] (bZ true):=by
 refine j2 (xs:=[bZ true]) Tryz.func12 rfl Tryz.ntmps12 Tryz.results12 sM fun F hG hX0 hnt hdf P0=>?_
 obtain ⟨L,hX,hN⟩:=pro hnt hX0 hG
 obtain ⟨nx,ny,hnon⟩:=K1f
 obtain ⟨cy,hcom⟩:=N1p
 have hc1:=y1s [-2,1] true rfl dC (by decide +kernel)
 have hc2:=y1s [2,-1] false rfl dC (by decide +kernel)
 refine exr (aV L rfl (zn [] [] trivial trivial (exr (sw (F4 (vs:=[_,_,_]) un27 ti3 rfl rfl dC dC rfl (M2 (.cons rfl .nil) rfl) rfl (.cons rfl (.atom rfl) rfl pu1 (.cons rfl (.atom rfl) rfl (.skip pu1) (.cons rfl (.atom rfl) rfl (.skip (.skip pu1)) .nil))) (.cons (.cons (.cons .nil))) L) t3 t0 (cK hG hX cl48 hN (vI [0,2,4] dC dC) L t1 (sw (F4 (vs:=[_,_,_]) un27 ti3 rfl rfl dC dC rfl (M2 (.cons rfl .nil) rfl) rfl (.cons rfl (.atom rfl) rfl pu1 (.cons rfl (.atom rfl) rfl (.skip pu1) (.cons rfl (.atom rfl) rfl (.skip (.skip pu1)) .nil))) (.cons (.cons (.cons .nil))) L) t3 t0 (cK hG hX cl48 hN (vI [1,1,1] dC dC) L t1 (sw (F4 (vs:=[_,_,_]) un27 ti3 rfl rfl dC dC rfl (M2 (.cons rfl .nil) rfl) rfl (.cons rfl (.atom rfl) rfl pu1 (.cons rfl (.atom rfl) rfl (.skip pu1) (.cons rfl (.atom rfl) rfl (.skip (.skip pu1)) .nil))) (.cons (.cons (.cons .nil))) L) t3 t0 (cK hG hX cl48 hN (vI [1,2,3] dC dC) L t1 (sw (F4 (vs:=[_,_,_]) un22 ti40 rfl rfl dC dC rfl (M2 (.cons rfl .nil) rfl) rfl (.cons rfl .sl rfl pu1 (.cons rfl .sl rfl (.skip pu1) (.cons rfl .sl rfl (.skip (.skip pu1)) .nil))) (.cons (.cons (.cons .nil))) L) t3 t0 (cK hG hX cl47 hN (mtI 3 [[0,2,4],[1,1,1],[1,2,3]]) L t2 ?_)))))))))))
 refine swb (T3 (k:=1) (n:=2) zv24 (.cons rfl (.cons rfl .nil)) rfl (P0 _ rfl) L) t0 t0 ⟨rfl,rfl⟩ (sb (U2 sz24 rF pa2 rfl pu2) t2 t1 ?_)
 refine zn [(1,_)] [(1,_)] t1 t1 (exr (lp2 ag24 sz24 L rfl rfl (cK hG hX cl13 hN K1g L t1 (mV L rfl (sw (i4 rfl L) t1 t0 (sw (i4 rfl L) t1 t0 (sw (i4 rfl L) t1 t0 (swb (T3 (k:=2) (n:=2) zv24 (.cons rfl (.cons rfl .nil)) rfl (P0 _ rfl) L) t0 t0 ⟨rfl,rfl⟩ (sb (U2 sz24 rF pa2 rfl pu2) t2 t1 ?_)))))))))
 refine aV L rfl (aV L rfl (zn [(1,_),(2,_),(3,_),(4,_)] [(1,_),(2,_)] t4 t2 (R1 (exd rF ?_))))
 refine mV L rfl (sw (c_n L) t2 t0 (mV L rfl (swg (g:=30) rfl rfl (l6 ag24 sz24 rF (by exact al2) rfl L) rfl t1 t1 ?_)))
 refine swg (g:=30) rfl rfl (F4 (vs:=[_,_,_]) un27 ti3 rfl rfl dC dC rfl (M2 (.cons rfl .nil) rfl) rfl (.cons rfl (.atom rfl) rfl pu1 (.cons rfl (.atom rfl) rfl (.skip pu1) (.cons rfl (.atom rfl) rfl (.skip (.skip pu1)) .nil))) (.cons (.cons (.cons .nil))) L) rfl t3 t0 (swg (g:=30) rfl rfl (c_c hG hX cl48 rfl hN (vI [1,0,-1] dC dC) L) rfl t1 t0 (swg (g:=30) rfl rfl (F4 (vs:=[_,_,_]) un27 ti3 rfl rfl dC dC rfl (M2 (.cons rfl .nil) rfl) rfl (.cons rfl (.atom rfl) rfl pu1 (.cons rfl (.atom rfl) rfl (.skip pu1) (.cons rfl (.atom rfl) rfl (.skip (.skip pu1)) .nil))) (.cons (.cons (.cons .nil))) L) rfl t3 t0 (swg (g:=30) rfl rfl (c_c hG hX cl48 rfl hN (vI [0,1,2] dC dC) L) rfl t1 t0 (swg (g:=30) rfl rfl (F4 (vs:=[_,_]) un22 ti40 rfl rfl dC dC rfl (M2 (.cons rfl .nil) rfl) rfl (.cons rfl .sl rfl pu1 (.cons rfl .sl rfl (.skip pu1) .nil)) (.cons (.cons .nil)) L) rfl t2 t0 (swg (g:=30) rfl rfl (c_c hG hX cl47 rfl hN (mtI 3 [[1,0,-1],[0,1,2]]) L) rfl t2 t0 (swg (g:=30) rfl rfl (c_c hG hX cl17 rfl hN (g1v 3 [[1,0,-1],[0,1,2]] dC dC dC) L) rfl t2 t0 (swg (g:=30) rfl rfl (P3 L) rfl t1 t0 (sw (V3 rfl L) t2 t0 (mV L rfl (gV (g:=41) rfl rfl L rfl rfl (swg (g:=41) rfl rfl (R2 un27 L) rfl t1 t0 ?_)))))))))))
 refine swg (g:=41) rfl rfl (c_n L) rfl t2 t0 (sw (V3 rfl L) t2 t0 (mV L rfl (gV (g:=46) rfl rfl L rfl rfl (swg (g:=46) rfl rfl (ixJ un27 sz3 (j:=0) rO dC sM L) rfl t2 t0 ?_))))
 refine swg (g:=46) rfl rfl (v4 ag3 (J1h (l:=[0,1]) (k:=0) dC) L) rfl t1 t0 (swg (g:=46) rfl rfl (c_n L) rfl t2 t0 (sw (V3 rfl L) t2 t0 (mV L rfl (gV (g:=52) rfl rfl L rfl rfl (swg (g:=52) rfl rfl (ixJ un27 sz3 (j:=1) rO dC sM L) rfl t2 t0 ?_)))))
 refine swg (g:=52) rfl rfl (v4 ag3 (J1h (l:=[0,1]) (k:=1) dC) L) rfl t1 t0 (swg (g:=52) rfl rfl (c_n L) rfl t2 t0 (sw (V3 rfl L) t2 t0 ?_))
 refine O1 ⟨B5 [⟨[4],[],[28],[]⟩,⟨[28],[],[29],[]⟩,⟨[29],[],[30],[]⟩,⟨[30,2],[2],[31],[]⟩,⟨[30],[],[32],[]⟩,⟨[30,32],[],[33],[]⟩,⟨[30],[],[34],[]⟩,⟨[30,34],[],[35],[]⟩,⟨[30,33,35],[],[36],[]⟩,⟨[30,36],[],[37],[]⟩,⟨[30,31,37],[],[38],[]⟩,⟨[30,38],[],[39],[]⟩,⟨[30,39],[],[40],[]⟩,⟨[40],[],[41],[]⟩,⟨[41,3],[],[42],[]⟩,⟨[41,42],[],[43],[]⟩,⟨[41,43],[],[44],[]⟩,⟨[41,44],[],[45],[]⟩,⟨[45],[],[46],[]⟩,⟨[46,3],[],[47],[]⟩,⟨[46,47],[],[48],[]⟩,⟨[46,48],[],[49],[]⟩,⟨[46,49],[],[50],[]⟩,⟨[46,50],[],[51],[]⟩,⟨[51],[],[52],[]⟩,⟨[52,3],[],[53],[]⟩,⟨[52,53],[],[54],[]⟩,⟨[52,54],[],[55],[]⟩,⟨[52,55],[],[56],[]⟩,⟨[52,56],[],[57],[]⟩] rF rF dC,[(1,_),(57,_)],[(1,_)],t2,t1,?_⟩
 refine W3 rfl rfl ?_
 refine U1 (xq ?_)
 refine exr (lp2 ag24 sz24 L rfl rfl (cK hG hX cl14 hN J1w L t1 (mV L rfl (sw (i4 rfl L) t1 t0 (sw (i4 rfl L) t1 t0 (aV L rfl (aV L rfl (zn [(4,_),(5,_)] [] t2 trivial (R1 (exr (mV L rfl ?_)))))))))))
 refine sw (c_n L) t2 t0 (mV L rfl (gV (g:=65) rfl rfl L rfl rfl (swg (g:=65) rfl rfl (F4 (vs:=[_,_,_]) un27 ti3 rfl rfl dC dC rfl (M2 (.cons rfl .nil) rfl) rfl (.cons rfl (.atom rfl) rfl pu1 (.cons rfl (.atom rfl) rfl (.skip pu1) (.cons rfl (.atom rfl) rfl (.skip (.skip pu1)) .nil))) (.cons (.cons (.cons .nil))) L) rfl t3 t0 (swg (g:=65) rfl rfl (c_c hG hX cl48 rfl hN (vI [1,-2,1] dC dC) L) rfl t1 t0 (swg (g:=65) rfl rfl (F4 (vs:=[_]) un22 ti40 rfl rfl dC dC rfl (M2 (.cons rfl .nil) rfl) rfl (.cons rfl .sl rfl pu1 .nil) (.cons .nil) L) rfl t1 t0 (swg (g:=65) rfl rfl (c_c hG hX cl19 rfl hN (F1v [[1,-2,1]] dC dC dC) L) rfl t2 t0 (swg (g:=65) rfl rfl (P3 L) rfl t1 t0 (sw (V3 rfl L) t2 t0 (zn [(72,_)] [] t1 trivial (W3 rfl rfl ?_))))))))))
 refine U1 (xq ?_)
 refine exr (sw (F4 (vs:=[_,_]) un27 ti3 rfl rfl dC dC rfl (M2 (.cons rfl .nil) rfl) rfl (.cons rfl (.atom rfl) rfl pu1 (.cons rfl (.atom rfl) rfl (.skip pu1) .nil)) (.cons (.cons .nil)) L) t2 t0 (cK hG hX cl48 hN (vI [1,1] dC dC) L t1 (sw (F4 (vs:=[_,_]) un27 ti3 rfl rfl dC dC rfl (M2 (.cons rfl .nil) rfl) rfl (.cons rfl (.atom rfl) rfl pu1 (.cons rfl (.atom rfl) rfl (.skip pu1) .nil)) (.cons (.cons .nil)) L) t2 t0 (cK hG hX cl48 hN (vI [1,-1] dC dC) L t1 (sw (F4 (vs:=[_,_]) un22 ti40 rfl rfl dC dC rfl (M2 (.cons rfl .nil) rfl) rfl (.cons rfl .sl rfl pu1 (.cons rfl .sl rfl (.skip pu1) .nil)) (.cons (.cons .nil)) L) t2 t0 (cK hG hX cl47 hN (mtI 2 [[1,1],[1,-1]]) L t2 (sw (F4 (vs:=[_,_]) un27 ti3 rfl rfl dC dC rfl (M2 (.cons rfl .nil) rfl) rfl (.cons rfl (.atom rfl) rfl pu1 (.cons rfl (.atom rfl) rfl (.skip pu1) .nil)) (.cons (.cons .nil)) L) t2 t0 (cK hG hX cl48 hN (vI [3,1] dC dC) L t1 (cK hG hX cl24 hN K1q L t2 (mV L rfl (sw (i4 rfl L) t1 t0 ?_)))))))))))
 refine sw (i4 rfl L) t1 t0 (sw (i4 rfl L) t1 t0 (aV L rfl (aV L rfl (aV L rfl (zn [(4,_),(6,_)] [] t2 trivial (R1 (exr (mV L rfl (sw (c_n L) t2 t0 (mV L rfl (gV (g:=88) rfl rfl L rfl rfl ?_)))))))))))
 refine swg (g:=88) rfl rfl (F4 (vs:=[_,_]) un27 ti3 rfl rfl dC dC rfl (M2 (.cons rfl .nil) rfl) rfl (.cons rfl (.atom rfl) rfl pu1 (.cons rfl (.atom rfl) rfl (.skip pu1) .nil)) (.cons (.cons .nil)) L) rfl t2 t0 (swg (g:=88) rfl rfl (c_c hG hX cl48 rfl hN (vI [2,1] dC dC) L) rfl t1 t0 (swg (g:=88) rfl rfl (c_c hG hX cl29 rfl hN (g1q [2,1] dC dC) L) rfl t2 t0 (swg (g:=88) rfl rfl (P3 L) rfl t1 t0 (sw (V3 rfl L) t2 t0 (zn [(94,_)] [] t1 trivial (W3 rfl rfl ?_))))))
 refine U1 (xq ?_)
 refine exr (sw (F4 (vs:=[_,_]) un27 ti3 rfl rfl dC dC rfl (M2 (.cons rfl .nil) rfl) rfl (.cons rfl (.atom rfl) rfl pu1 (.cons rfl (.atom rfl) rfl (.skip pu1) .nil)) (.cons (.cons .nil)) L) t2 t0 (cK hG hX cl48 hN (vI [1,1] dC dC) L t1 (sw (F4 (vs:=[_,_]) un27 ti3 rfl rfl dC dC rfl (M2 (.cons rfl .nil) rfl) rfl (.cons rfl (.atom rfl) rfl pu1 (.cons rfl (.atom rfl) rfl (.skip pu1) .nil)) (.cons (.cons .nil)) L) t2 t0 (cK hG hX cl48 hN (vI [2,2] dC dC) L t1 (sw (F4 (vs:=[_,_]) un22 ti40 rfl rfl dC dC rfl (M2 (.cons rfl .nil) rfl) rfl (.cons rfl .sl rfl pu1 (.cons rfl .sl rfl (.skip pu1) .nil)) (.cons (.cons .nil)) L) t2 t0 (cK hG hX cl47 hN (mtI 2 [[1,1],[2,2]]) L t2 (swb (T3 (k:=8) (n:=2) zv24 (.cons rfl (.cons rfl .nil)) rfl (P0 _ rfl) L) t0 t0 ⟨rfl,rfl⟩ (sb (U2 sz24 rF pa2 rfl pu2) t2 t1 ?_))))))))
 refine zn [(8,_)] [(8,_)] t1 t1 (exd rF ?_)
 refine lp2 ag24 sz24 L rfl rfl (sw (F4 (vs:=[_,_]) un27 ti3 rfl rfl dC dC rfl (M2 (.cons rfl .nil) rfl) rfl (.cons rfl (.atom rfl) rfl pu1 (.cons rfl (.atom rfl) rfl (.skip pu1) .nil)) (.cons (.cons .nil)) L) t2 t0 (cK hG hX cl48 hN (vI [1,3] dC dC) L t1 (cK hG hX cl24 hN hnon L t2 (mV L rfl (sw (i4 rfl L) t1 t0 (sw (i4 rfl L) t1 t0 (sw (i4 rfl L) t1 t0 (aV L rfl ?_))))))))
 refine O1 ⟨B5 [⟨[8],[8],[102],[]⟩,⟨[],[],[103],[]⟩,⟨[103],[],[104],[]⟩,⟨[102,104],[],[105],[]⟩,⟨[105],[],[101],[]⟩,⟨[101],[],[106],[]⟩,⟨[101],[],[107],[]⟩,⟨[101],[],[108],[]⟩,⟨[108],[],[4],[]⟩] rF rF dC,[(4,_),(8,_)],[(8,_)],t2,t1,?_⟩
 refine R1 (exd rF ?_)
 refine mV L rfl (sw (c_n L) t2 t0 (mV L rfl (swg (g:=111) rfl rfl (l6 ag24 sz24 rF (by exact al2) rfl L) rfl t1 t1 ?_)))
 refine swg (g:=111) rfl rfl (F4 (vs:=[_,_]) un27 ti3 rfl rfl dC dC rfl (M2 (.cons rfl .nil) rfl) rfl (.cons rfl (.atom rfl) rfl pu1 (.cons rfl (.atom rfl) rfl (.skip pu1) .nil)) (.cons (.cons .nil)) L) rfl t2 t0 (swg (g:=111) rfl rfl (c_c hG hX cl48 rfl hN (vI [1,3] dC dC) L) rfl t1 t0 (swg (g:=111) rfl rfl (F4 (vs:=[_,_]) un27 ti3 rfl rfl dC dC rfl (M2 (.cons rfl .nil) rfl) rfl (.cons rfl (.atom rfl) rfl pu1 (.cons rfl (.atom rfl) rfl (.skip pu1) .nil)) (.cons (.cons .nil)) L) rfl t2 t0 (swg (g:=111) rfl rfl (c_c hG hX cl48 rfl hN (vI [-2,1] dC dC) L) rfl t1 t0 (swg (g:=111) rfl rfl (c_c hG hX cl25 rfl hN hc1 L) rfl t3 t0 (swg (g:=111) rfl rfl (P3 L) rfl t1 t0 (sw (V3 rfl L) t2 t0 (mV L rfl (swg (g:=120) rfl rfl (l6 ag24 sz24 rF (by exact al2) rfl L) rfl t1 t1 ?_))))))))
 refine swg (g:=120) rfl rfl (F4 (vs:=[_,_]) un27 ti3 rfl rfl dC dC rfl (M2 (.cons rfl .nil) rfl) rfl (.cons rfl (.atom rfl) rfl pu1 (.cons rfl (.atom rfl) rfl (.skip pu1) .nil)) (.cons (.cons .nil)) L) rfl t2 t0 (swg (g:=120) rfl rfl (c_c hG hX cl48 rfl hN (vI [1,3] dC dC) L) rfl t1 t0 (swg (g:=120) rfl rfl (F4 (vs:=[_,_]) un27 ti3 rfl rfl dC dC rfl (M2 (.cons rfl .nil) rfl) rfl (.cons rfl (.atom rfl) rfl pu1 (.cons rfl (.atom rfl) rfl (.skip pu1) .nil)) (.cons (.cons .nil)) L) rfl t2 t0 (swg (g:=120) rfl rfl (c_c hG hX cl48 rfl hN (vI [2,-1] dC dC) L) rfl t1 t0 (swg (g:=120) rfl rfl (c_c hG hX cl25 rfl hN hc2 L) rfl t3 t0 (sw (V3 rfl L) t2 t0 ?_)))))
 refine O1 ⟨B5 [⟨[4],[],[109],[]⟩,⟨[109],[],[110],[]⟩,⟨[110],[],[111],[]⟩,⟨[111,8],[8],[112],[]⟩,⟨[111],[],[113],[]⟩,⟨[111,113],[],[114],[]⟩,⟨[111],[],[115],[]⟩,⟨[111,115],[],[116],[]⟩,⟨[111,112,114,116],[],[117],[]⟩,⟨[111,117],[],[118],[]⟩,⟨[111,118],[],[119],[]⟩,⟨[119],[],[120],[]⟩,⟨[120,8],[8],[121],[]⟩,⟨[120],[],[122],[]⟩,⟨[120,122],[],[123],[]⟩,⟨[120],[],[124],[]⟩,⟨[120,124],[],[125],[]⟩,⟨[120,121,123,125],[],[126],[]⟩,⟨[120,126],[],[127],[]⟩] rF rF dC,[(127,_)],[],t1,trivial,?_⟩
 refine W3 rfl rfl ?_
 refine U1 (xq ?_)
 refine exr (sw (F4 (vs:=[_,_]) un27 ti3 rfl rfl dC dC rfl (M2 (.cons rfl .nil) rfl) rfl (.cons rfl (.atom rfl) rfl pu1 (.cons rfl (.atom rfl) rfl (.skip pu1) .nil)) (.cons (.cons .nil)) L) t2 t0 (cK hG hX cl48 hN (vI [1,2] dC dC) L t1 (sw (F4 (vs:=[_,_]) un27 ti3 rfl rfl dC dC rfl (M2 (.cons rfl .nil) rfl) rfl (.cons rfl (.atom rfl) rfl pu1 (.cons rfl (.atom rfl) rfl (.skip pu1) .nil)) (.cons (.cons .nil)) L) t2 t0 (cK hG hX cl48 hN (vI [3,4] dC dC) L t1 (sw (F4 (vs:=[_,_]) un22 ti40 rfl rfl dC dC rfl (M2 (.cons rfl .nil) rfl) rfl (.cons rfl .sl rfl pu1 (.cons rfl .sl rfl (.skip pu1) .nil)) (.cons (.cons .nil)) L) t2 t0 (cK hG hX cl47 hN (mtI 2 [[1,2],[3,4]]) L t2 (sw (F4 (vs:=[_,_]) un27 ti3 rfl rfl dC dC rfl (M2 (.cons rfl .nil) rfl) rfl (.cons rfl (.atom rfl) rfl pu1 (.cons rfl (.atom rfl) rfl (.skip pu1) .nil)) (.cons (.cons .nil)) L) t2 t0 (cK hG hX cl48 hN (vI [0,1] dC dC) L t1 (sw (F4 (vs:=[_,_]) un27 ti3 rfl rfl dC dC rfl (M2 (.cons rfl .nil) rfl) rfl (.cons rfl (.atom rfl) rfl pu1 (.cons rfl (.atom rfl) rfl (.skip pu1) .nil)) (.cons (.cons .nil)) L) t2 t0 (cK hG hX cl48 hN (vI [1,0] dC dC) L t1 (sw (F4 (vs:=[_,_]) un22 ti40 rfl rfl dC dC rfl (M2 (.cons rfl .nil) rfl) rfl (.cons rfl .sl rfl pu1 (.cons rfl .sl rfl (.skip pu1) .nil)) (.cons (.cons .nil)) L) t2 t0 ?_)))))))))))
 refine cK hG hX cl47 hN (mtI 2 [[0,1],[1,0]]) L t2 (cK hG hX cl41 hN M1b L t2 (mV L rfl (sw (i4 rfl L) t1 t0 (sw (i4 rfl L) t1 t0 (swb (T3 (k:=9) (n:=2) zv24 (.cons rfl (.cons rfl .nil)) rfl (P0 _ rfl) L) t0 t0 ⟨rfl,rfl⟩ (sb (U2 sz24 rF pa2 rfl pu2) t2 t1 ?_))))))
 refine aV L rfl (zn [(4,_),(9,_)] [(9,_)] t2 t1 (R1 (exd rF ?_)))
 refine mV L rfl (sw (c_n L) t2 t0 (mV L rfl (swg (g:=146) rfl rfl (l6 ag24 sz24 rF (by exact al2) rfl L) rfl t1 t1 ?_)))
 refine swg (g:=146) rfl rfl (F4 (vs:=[_,_]) un27 ti3 rfl rfl dC dC rfl (M2 (.cons rfl .nil) rfl) rfl (.cons rfl (.atom rfl) rfl pu1 (.cons rfl (.atom rfl) rfl (.skip pu1) .nil)) (.cons (.cons .nil)) L) rfl t2 t0 (swg (g:=146) rfl rfl (c_c hG hX cl48 rfl hN (vI [2,1] dC dC) L) rfl t1 t0 (swg (g:=146) rfl rfl (F4 (vs:=[_,_]) un27 ti3 rfl rfl dC dC rfl (M2 (.cons rfl .nil) rfl) rfl (.cons rfl (.atom rfl) rfl pu1 (.cons rfl (.atom rfl) rfl (.skip pu1) .nil)) (.cons (.cons .nil)) L) rfl t2 t0 (swg (g:=146) rfl rfl (c_c hG hX cl48 rfl hN (vI [4,3] dC dC) L) rfl t1 t0 (swg (g:=146) rfl rfl (F4 (vs:=[_,_]) un22 ti40 rfl rfl dC dC rfl (M2 (.cons rfl .nil) rfl) rfl (.cons rfl .sl rfl pu1 (.cons rfl .sl rfl (.skip pu1) .nil)) (.cons (.cons .nil)) L) rfl t2 t0 (swg (g:=146) rfl rfl (c_c hG hX cl47 rfl hN (mtI 2 [[2,1],[4,3]]) L) rfl t2 t0 (swg (g:=146) rfl rfl (c_c hG hX cl17 rfl hN (g1v 2 [[2,1],[4,3]] dC dC dC) L) rfl t2 t0 (swg (g:=146) rfl rfl (P3 L) rfl t1 t0 (sw (V3 rfl L) t2 t0 ?_))))))))
 refine O1 ⟨B5 [⟨[4],[],[144],[]⟩,⟨[144],[],[145],[]⟩,⟨[145],[],[146],[]⟩,⟨[146,9],[9],[147],[]⟩,⟨[146],[],[148],[]⟩,⟨[146,148],[],[149],[]⟩,⟨[146],[],[150],[]⟩,⟨[146,150],[],[151],[]⟩,⟨[146,149,151],[],[152],[]⟩,⟨[146,152],[],[153],[]⟩,⟨[146,147,153],[],[154],[]⟩,⟨[146,154],[],[155],[]⟩,⟨[146,155],[],[156],[]⟩] rF rF dC,[(9,_),(156,_)],[(9,_)],t2,t1,?_⟩
 refine W3 rfl rfl ?_
 refine U1 (xq ?_)
 refine exr (lp2 ag24 sz24 L rfl rfl (cK hG hX cl31 hN K1a L t1 (mV L rfl (sw (i4 rfl L) t1 t0 (sw (i4 rfl L) t1 t0 (swb (T3 (k:=10) (n:=4) zv47 (.cons rfl (.cons rfl (.cons rfl (.cons rfl .nil)))) rfl (P0 _ rfl) L) t0 t0 ⟨rfl,rfl⟩ (sb (U2 sz47 rF pa4 rfl pu4) t2 t1 ?_)))))))
 refine aV L rfl (zn [(4,_),(10,_)] [(10,_)] t2 t1 (exr (sw (F4 (vs:=[_,_,_]) un27 ti3 rfl rfl dC dC rfl (M2 (.cons rfl .nil) rfl) rfl (.cons rfl (.atom rfl) rfl pu1 (.cons rfl (.atom rfl) rfl (.skip pu1) (.cons rfl (.atom rfl) rfl (.skip (.skip pu1)) .nil))) (.cons (.cons (.cons .nil))) L) t3 t0 (cK hG hX cl48 hN (vI [1,0,1] dC dC) L t1 (sw (F4 (vs:=[_,_,_]) un27 ti3 rfl rfl dC dC rfl (M2 (.cons rfl .nil) rfl) rfl (.cons rfl (.atom rfl) rfl pu1 (.cons rfl (.atom rfl) rfl (.skip pu1) (.cons rfl (.atom rfl) rfl (.skip (.skip pu1)) .nil))) (.cons (.cons (.cons .nil))) L) t3 t0 (cK hG hX cl48 hN (vI [2,0,2] dC dC) L t1 (sw (F4 (vs:=[_,_,_]) un27 ti3 rfl rfl dC dC rfl (M2 (.cons rfl .nil) rfl) rfl (.cons rfl (.atom rfl) rfl pu1 (.cons rfl (.atom rfl) rfl (.skip pu1) (.cons rfl (.atom rfl) rfl (.skip (.skip pu1)) .nil))) (.cons (.cons (.cons .nil))) L) t3 t0 (cK hG hX cl48 hN (vI [0,1,1] dC dC) L t1 (sw (F4 (vs:=[_,_,_]) un22 ti40 rfl rfl dC dC rfl (M2 (.cons rfl .nil) rfl) rfl (.cons rfl .sl rfl pu1 (.cons rfl .sl rfl (.skip pu1) (.cons rfl .sl rfl (.skip (.skip pu1)) .nil))) (.cons (.cons (.cons .nil))) L) t3 t0 (sw (F4 (vs:=[_,_,_]) un27 ti3 rfl rfl dC dC rfl (M2 (.cons rfl .nil) rfl) rfl (.cons rfl (.atom rfl) rfl pu1 (.cons rfl (.atom rfl) rfl (.skip pu1) (.cons rfl (.atom rfl) rfl (.skip (.skip pu1)) .nil))) (.cons (.cons (.cons .nil))) L) t3 t0 (cK hG hX cl48 hN (vI [3,1,4] dC dC) L t1 ?_)))))))))))
 refine cK hG hX cl30 hN hcom L t2 (mV L rfl (sw (i4 rfl L) t1 t0 (sw (i4 rfl L) t1 t0 (sw (i4 rfl L) t1 t0 (aV L rfl (aV L rfl (aV L rfl (zn [(4,_),(10,_),(11,_),(13,_)] [(10,_)] t4 t1 (exd rF ?_)))))))))
 refine mV L rfl (sw (c_e L) t2 t0 (mV L rfl (gV (g:=178) rfl rfl L rfl rfl (swg (g:=178) rfl rfl (c_e L) rfl t2 t0 (sw (m4 rfl L) t2 t0 (mV L rfl (swg (g:=182) rfl rfl (l6 ag47 sz47 rF (by exact al4) rfl L) rfl t1 t1 ?_)))))))
 refine swg (g:=182) rfl rfl (c_c hG hX cl49 rfl hN (d0j 2 dC dC) L) rfl t1 t0 (swg (g:=182) rfl rfl (c_c hG hX cl33 rfl hN (w0v ((2:Int):Rat) ((2:Int):Rat) (by decide +kernel) (by decide +kernel)) L) rfl t2 t0 ?_)
 refine sw (m4 rfl L) t2 t0 (mV L rfl (gV (g:=187) rfl rfl L rfl rfl (swg (g:=187) rfl rfl (F4 (vs:=[_,_,_]) un27 ti3 rfl rfl dC dC rfl (M2 (.cons rfl .nil) rfl) rfl (.cons rfl (.atom rfl) rfl pu1 (.cons rfl (.atom rfl) rfl (.skip pu1) (.cons rfl (.atom rfl) rfl (.skip (.skip pu1)) .nil))) (.cons (.cons (.cons .nil))) L) rfl t3 t0 (swg (g:=187) rfl rfl (c_c hG hX cl48 rfl hN (vI [3,0,1] dC dC) L) rfl t1 t0 (swg (g:=187) rfl rfl (c_c hG hX cl29 rfl hN (g1q [3,0,1] dC dC) L) rfl t2 t0 (sw (m4 rfl L) t2 t0 (aV L rfl ?_)))))))
 refine O1 ⟨B5 [⟨[4],[],[176],[]⟩,⟨[176],[],[177],[]⟩,⟨[177],[],[178],[]⟩,⟨[178,13],[],[179],[]⟩,⟨[178,179],[],[180],[]⟩,⟨[178,180],[],[181],[]⟩,⟨[181],[],[182],[]⟩,⟨[182,10],[10],[183],[]⟩,⟨[182],[],[184],[]⟩,⟨[182,183,184],[],[185],[]⟩,⟨[182,185],[],[186],[]⟩,⟨[186],[],[187],[]⟩,⟨[187,11],[],[188],[]⟩,⟨[187],[],[189],[]⟩,⟨[187,189],[],[190],[]⟩,⟨[187,188,190],[],[191],[]⟩,⟨[187,191],[],[192],[]⟩,⟨[192],[],[0],[]⟩] rF rF dC,[(0,_)],[],t1,trivial,?_⟩
 refine V1 ?_
 refine Q0 (.tmp rfl) ?_
 rfl
def WdM (m:List (List RQ)):Prop:=∀ r∈m,∀ q∈r,q.wd
theorem o7 {n:Nat}{c:Int}{m:List (List RQ)}(hn:n<1000)(hw:WdM m)(h:Y6 n c m=true):MSm m:=by
 rw [Y6,j0,decide_eq_true_iff,s0] at h
 refine ⟨by omega,fun r hr=>?_⟩
 have h1:=h.2 r hr
 rw [smV,j0,decide_eq_true_iff,s0] at h1
 refine ⟨by omega,fun a ha=>?_⟩
 have h2:=h1.2 a ha
 rw [smW,decide_eq_true_iff] at h2
 exact ⟨hw r hr a ha,by omega,by omega⟩
theorem F1j {n:Nat}{c:Int}{M:List (List Rat)}(h:Y6 n c (M.map (List.map RQ.of))=true):M.length≤n∧(∀ r∈M,r.length≤n)∧MB 6 M:=by
 rw [Y6,j0,decide_eq_true_iff,s0,O0] at h
 have key:∀ r∈M,r.length≤n∧∀ a∈r,qw a≤6:=fun r hr=>by
  have h1:=h.2 _ (List.mem_map_of_mem hr)
  rw [smV,j0,decide_eq_true_iff,s0,O0] at h1
  refine ⟨h1.1,fun a ha=>?_⟩
  have h2:=h1.2 _ (List.mem_map_of_mem ha)
  rw [smW,decide_eq_true_iff] at h2
  exact Nat.max_le.2 h2
 exact ⟨h.1.1,fun r hr=>(key r hr).1,fun r hr=>(key r hr).2⟩
theorem b1j {n:Nat}{c:Nat}{m:List (List RQ)}(h:Y6 n c m=true)(hc:c≤60):c≤n:=by
 rw [Y6,j0,decide_eq_true_iff] at h
 omega
theorem G8 {n:Nat}{c:Int}{m:List (List RQ)}(hn:n<1000)(hw:WdM m)(h:Y6 n c m=true)(hi:isM c m=true):∃ (k:Nat) (M:List (List Rat)),c=k∧m=M.map (List.map RQ.of)∧MOk k M∧k≤n∧M.length≤n∧MB 6 M:=by
 obtain ⟨k,M,rfl,rfl,hM⟩:=K1k (o7 hn hw h) hi
 have:=F1j h
 exact ⟨k,M,rfl,rfl,hM,b1j h hM.cols,this.1,this.2.2⟩
end Go.Proofs.YtjagfionflbjbaaGreat.N
namespace Go.Proofs.YtjagfionflbjbaaGreat.SH
open Go Go.RowKit Go.ChangeShapes Go.WideShapes Go.ChangeAt
variable {H:Type} {enc:TypeId×Value→H} {P:Program}
theorem m0c (hl:laidOutB P=true){W W':World}(hb:Below W.heap.size W W'):∀ {ts:List TypeId} {vs:List Value} {ds:List (DataW H)} {ps:List MemPlace},
  (ts.all fun t=>P.readableRec t && decide (t<P.types.size))=true→DataW.TrodAll enc P W 0 (fun _=>true) true ts vs ds ps→(∀ x∈ps,x.block<W.heap.size) →
  DataW.TrodAll enc P W' 0 (fun b=>decide (b<W.heap.size)) true ts vs ds ps
 | [],vs,ds,ps,_,h,_=>by
  obtain ⟨rfl,rfl,rfl⟩:=trodAll_nil h
  rfl
 | t :: ts,vs,ds,ps,hr,h,hlt=>by
  obtain ⟨v,vs',d,ds',p,q,rfl,rfl,rfl,h1,h2⟩:=trodAll_cons h
  simp only [List.all_cons,j0,decide_eq_true_eq] at hr
  exact trodAll_cons_mk (Below.trod hl hr.1.1 hr.1.2 h1 hb fun x hx=>hlt x (List.mem_append_left _ hx)) (m0c hl hb hr.2 h2 fun x hx=>hlt x (List.mem_append_right _ hx))
theorem v1g {fn:Func}{s:ChangeSpec}{w7 fresh handsOn:Bool}{W W':World}{args:Array Value}{ds gs:List (DataW H)}{before:List MemPlace}{tb:TypeId}(hl:laidOutB P=true)(hr:(fn.params.toList.all fun t=>P.readableRec t && decide (t<P.types.size))=true)(htb:P.underlying tb=some .bool)(hrt:fn.resultTypes = #[tb])(hv:s.vars=[])
  (hW:DataW.Whole enc P fn.params.toList s.vars w7 W args.toList ds gs before) (hb:Below W.heap.size W W') (hs:s.fn H (ds++gs)={ results:=[.lit (.bool true)],args:=ds }):s.post enc P fn w7 fresh handsOn false W args (.bool true) W':=by
 have hW':=hW
 obtain ⟨p,q,hA,hV,rfl,hfz,hnd⟩:=hW
 rw [hv] at hV
 obtain ⟨rfl,rfl⟩:=trodVars_none hV
 refine ⟨ds,[],p++[],[],p,[],hW',?_,?_,?_,hb.frame _,fun h=>by cases h⟩
 ·rw [hs,hrt]; exact trodAll_mk1 (shut_bool htb true)
 ·rw [hs]; exact m0c hl hb hr hA fun x hx=>hW'.lt x (List.mem_append_left _ hx)
 ·rw [hs,hv]; rfl
end Go.Proofs.YtjagfionflbjbaaGreat.SH
set_option maxRecDepth 100000
namespace Go.Proofs.YtjagfionflbjbaaGreat.N
open Go Go.Proofs.YtjagfionflbjbaaGreat.SH Go.Proofs.YtjagfionflbjbaaGreat.NumA Go.Proofs.YtjagfionflbjbaaGreat Go.RowKit Go.ChangeShapes Go.WideShapes Go.ChangeAt Go.Joins
theorem own:ownKnob Tryz.prog.godebug=none:=by kernel_rfl
theorem D1j:laidOutB Tryz.prog=true:=by kernel_rfl
theorem D0x:Tryz.prog.cellsOf 45=2:=by kernel_rfl
theorem W0j:Tryz.prog.cellsOf 47=4:=by kernel_rfl
theorem v1k:Tryz.prog.cellsOf 119=1:=by kernel_rfl
theorem m1y:Tryz.prog.cellsOf 43=1:=by kernel_rfl
theorem K1m:Tryz.prog.cellsOf 4=1:=by kernel_rfl
theorem y1p:Tryz.prog.cellsOf 3=1:=by kernel_rfl
theorem D1k:Tryz.prog.cellsOf 22=1:=by kernel_rfl
theorem F1a:Tryz.prog.cellsOf 40=1:=by kernel_rfl
theorem G1n:Tryz.prog.cellsOf 24=2:=by kernel_rfl
theorem P0s {w:World}{a:Addr}{k:IntKind}{zs:List Int}{n:Nat}(hcell:∀ i,i<zs.length→w.cell? (a.add i)=some (.int k (zs.getD i 0)))(hn:n≤zs.length) :
  I7 (fun _=>True) (hp w) ((zs.take n).map fun z=>.a (.int k z)) (some a):=by
 by_cases h0:n=0
 ·subst h0; trivial
 ·obtain ⟨b,off,rfl,hc⟩:=ints_at hcell (by omega)
  refine I7.of trivial (Y4.of fun i y hy=>?_)
  rw [List.getElem?_map,List.getElem?_take] at hy
  split at hy
  ·rename_i hi
   have hi':i<zs.length:=by omega
   rw [J1 hi'] at hy
   simp only [Option.map_some,U0] at hy
   subst hy
   refine ⟨.int k zs[i],?_,rfl,by simp [Rel]⟩
   rw [← y0k,hc i hi',f0,J1 hi']
   rfl
  ·cases hy
section
variable {H:Type} {enc:TypeId×Value→H} {W:World}
theorem H0f {n:Nat}{cs:List Value}{y:DataW H×List MemPlace}(h:DataW.trod enc Tryz.prog W 0 (fun _=>true) true n 45 cs=some y) :
  ∃ neg ws c0 c1,Wd ws∧cs=[c0,c1]∧Rel (fun _=>True) (hp W) (.a (.bool neg)) c0∧Rel (fun _=>True) (hp W) (.sl ws.length (K4 ws)) c1∧c0.oneCell'=true∧c1.oneCell'=true:=by
 obtain ⟨y0,y1,m,-,hl,h0,h1⟩:=trod_struct2 Tryz.underlying45 h
 rw [D0x] at hl
 match cs,hl with
 | [c0,c1],_ =>
  have h0':DataW.trod enc Tryz.prog W 0 (fun _=>true) true m 4 [c0]=some y0:=by simpa [K1m] using h0
  have h1':DataW.trod enc Tryz.prog W 0 (fun _=>true) true m 43 [c1]=some y1:=by simpa [m1y] using h1
  obtain ⟨b,hb,-⟩:=DataW.trod_bool Tryz.underlying4 h0'
  obtain rfl:c0 = .bool b:=by simpa using hb
  rcases open_ints Tryz.underlying43 Tryz.underlying119 v1k h1' with ⟨hcs,hx⟩ | ⟨a,len,cap,zs,hcs,_,hl,hm,hz,hx,hcell,hwz⟩
  ·obtain rfl:c1 = .slice none 0 0:=by simpa using hcs
   exact ⟨b,[],_,_,Wd.nil,rfl,by simp [Rel],⟨none,0,rfl,Nat.le_refl _,trivial⟩,rfl,rfl⟩
  ·obtain rfl:c1 = .slice (some a) len cap:=by simpa using hcs
   simp only [if_true] at hz
   have hlen:(zs.take len).length=len:=by rw [J0]; omega
   refine ⟨b,zs.take len,_,_,fun w hw=>?_,rfl,by simp [Rel],⟨some a,cap,by rw [hlen],by rw [hlen]; exact hl,P0s hcell (by omega)⟩,rfl,rfl⟩
   have:=hwz w (List.mem_of_mem_take hw)
   simp only [Lit.wf,j0,decide_eq_true_eq] at this
   exact ⟨this.1,Int.lt_of_le_of_lt this.2 (by decide)⟩
theorem m1g {n:Nat}{cs:List Value}{y:DataW H×List MemPlace}(h:DataW.trod enc Tryz.prog W 0 (fun _=>true) true n 47 cs=some y) :
  ∃ r:RQ,r.wd∧K5 (fun _=>True) (hp W) (cR r) cs∧∀ c∈cs,c.oneCell'=true:=by
 obtain ⟨y0,y1,m,-,hl,h0,h1⟩:=trod_struct2 Tryz.underlying47 h
 rw [W0j] at hl
 match cs,hl with
 | [c0,c1,c2,c3],_ =>
  have h0':DataW.trod enc Tryz.prog W 0 (fun _=>true) true m 45 [c0,c1]=some y0:=by simpa [D0x] using h0
  have h1':DataW.trod enc Tryz.prog W 0 (fun _=>true) true m 45 [c2,c3]=some y1:=by simpa [D0x] using h1
  obtain ⟨b,ws,d0,d1,w1,e1,a1,a2,o1,o2⟩:=H0f h0'
  obtain ⟨b',vs,d2,d3,w2,e2,a3,a4,o3,o4⟩:=H0f h1'
  simp only [List.cons.injEq,and_true] at e1 e2
  obtain ⟨rfl,rfl⟩:=e1
  obtain ⟨rfl,rfl⟩:=e2
  refine ⟨⟨b,ws,b',vs⟩,⟨w1,w2⟩,⟨_,_,rfl,a1,_,_,rfl,a2,_,_,rfl,a3,_,_,rfl,a4,rfl⟩,fun c hc=>?_⟩
  simp only [List.mem_cons,List.not_mem_nil,or_false] at hc
  rcases hc with rfl | rfl | rfl | rfl <;> assumption
theorem H0q {n:Nat}{v:Value}{y:DataW H×List MemPlace}(h:DataW.trod enc Tryz.prog W 0 (fun _=>true) true n 40 [v]=some y) :
  ∃ l:List RQ,(∀ r∈l,r.wd)∧Rel (fun _=>True) (hp W) (pVR l) v∧v.oneCell'=true:=by
 rcases DataW.trod_slice Tryz.underlying40 h with ⟨hcs,hx⟩ | ⟨a,len,cap,elems,rest,m,_,hcs,hx,_,hl,_,hlen,hel,_,_⟩
 ·obtain rfl:v = .slice none 0 0:=by simpa using hcs
  exact ⟨[],by simp,⟨none,0,rfl,Nat.le_refl _,trivial⟩,rfl⟩
 ·obtain rfl:v = .slice (some a) len cap:=by simpa using hcs
  have each:∀ i,i<len→∃ r:RQ,r.wd∧∀ j x,(cR r)[j]? = some x→∃ u,W.cell? ((a.add (i*4)).add j)=some u∧u.oneCell'=true∧Rel (fun _=>True) (hp W) x u:=fun i hi=>by
   have h1:=hel i hi
   rw [W0j,J1 (by omega),Option.bind_eq_some_iff] at h1
   obtain ⟨cs,h2,h3⟩:=h1
   obtain ⟨-,h4,h5⟩:=World.cells?_some h2
   obtain ⟨r,hw,hr,ho⟩:=m1g h3
   refine ⟨r,hw,fun j x hx=>?_⟩
   obtain ⟨u,hu,hru⟩:=hr.get hx
   have hj:j<4:=by have:=(i1.1 hu).1; omega
   refine ⟨u,?_,ho u (M1 hu),hru⟩
   rw [← hu,← h5 j hj]
  have build:∀ k,k≤len→∃ l:List RQ,l.length=k∧(∀ r∈l,r.wd)∧∀ i,i<k→∀ j x,(cR (l.getD i default))[j]? = some x→∃ u,W.cell? ((a.add (i*4)).add j)=some u∧u.oneCell'=true∧Rel (fun _=>True) (hp W) x u:=fun k=>by
   induction k with
   | zero=>exact fun _=>⟨[],rfl,by simp,fun i hi=>absurd hi (Nat.not_lt_zero _)⟩
   | succ k ih =>
    intro hk
    obtain ⟨l,h1,h2,h3⟩:=ih (by omega)
    obtain ⟨r,hw,hr⟩:=each k (by omega)
    refine ⟨l++[r],by simp [h1],fun q hq=>?_,fun i hi j x hx=>?_⟩
    ·rcases List.mem_append.1 hq with hq | hq
     ·exact h2 q hq
     ·rw [List.mem_singleton.1 hq]; exact hw
    ·by_cases e:i<k
     ·refine h3 i e j x ?_
      rw [f0,X0 (by omega),← f0] at hx
      exact hx
     ·obtain rfl:i=k:=by omega
      refine hr j x ?_
      rw [f0,D0 (by omega),h1,Nat.sub_self] at hx
      exact hx
  obtain ⟨l,h1,h2,h3⟩:=build len (Nat.le_refl _)
  refine ⟨l,h2,⟨some a,cap,by rw [h1],by rw [h1]; exact hl,?_⟩,rfl⟩
  by_cases h0:l.length=0
  ·rw [E0 h0]; trivial
  ·obtain ⟨u0,hu0,-⟩:=h3 0 (by omega) 0 _ rfl
   obtain ⟨b,off,spot⟩:=a
   have hspot:spot=none:=by simpa [Addr.add] using World.cell?_spot hu0
   subst hspot
   refine I7.of trivial (Y4.of fun i x hx=>?_)
   have hi:i<l.length*4:=by
    have:=(i1.1 hx).1
    rwa [w0h] at this
   have hg:=Y0g (v:=l) (i:=i / 4) (by omega)
   have hx':(cR (l.getD (i / 4) default))[i % 4]? = some x:=by
    rw [← hg,List.getElem?_take,if_pos (by omega),List.getElem?_drop,show i / 4*4+i % 4=i by omega]
    exact hx
   obtain ⟨u,hu,ho,hru⟩:=h3 (i / 4) (by omega) (i % 4) x hx'
   refine ⟨u,?_,ho,hru⟩
   rw [Go.WideShapes.add_plain,Go.WideShapes.add_plain,Nat.add_assoc,show i / 4*4+i % 4=i by omega] at hu
   rw [← y0k]; exact hu
theorem j1p {n:Nat}{v:Value}{y:DataW H×List MemPlace}(h:DataW.trod enc Tryz.prog W 0 (fun _=>true) true n 22 [v]=some y) :
  ∃ m:List (List RQ),WdM m∧Rel (fun _=>True) (hp W) (.sl m.length (i9 m)) v∧v.oneCell'=true:=by
 rcases DataW.trod_slice Tryz.underlying22 h with ⟨hcs,hx⟩ | ⟨a,len,cap,elems,rest,m,_,hcs,hx,_,hl,_,hlen,hel,_,_⟩
 ·obtain rfl:v = .slice none 0 0:=by simpa using hcs
  exact ⟨[],by simp [WdM],⟨none,0,rfl,Nat.le_refl _,trivial⟩,rfl⟩
 ·obtain rfl:v = .slice (some a) len cap:=by simpa using hcs
  have each:∀ i,i<len→∃ (l:List RQ) (u:Value),(∀ r∈l,r.wd)∧W.cell? (a.add i)=some u∧u.oneCell'=true∧Rel (fun _=>True) (hp W) (pVR l) u:=fun i hi=>by
   have h1:=hel i hi
   rw [F1a,J1 (by omega),Option.bind_eq_some_iff] at h1
   obtain ⟨cs,h2,h3⟩:=h1
   obtain ⟨-,h4,h5⟩:=World.cells?_some h2
   match cs,h4 with
   | [u],_ =>
    obtain ⟨l,hw,hr,ho⟩:=H0q h3
    refine ⟨l,u,hw,?_,ho,hr⟩
    have:=h5 0 (by decide)
    rw [Nat.mul_one] at this
    simpa [Addr.add] using this
  have build:∀ k,k≤len→∃ l:List (List RQ),l.length=k∧WdM l∧∀ i,i<k→∃ u,W.cell? (a.add i)=some u∧u.oneCell'=true∧Rel (fun _=>True) (hp W) (pVR (l.getD i [])) u:=fun k=>by
   induction k with
   | zero=>exact fun _=>⟨[],rfl,by simp [WdM],fun i hi=>absurd hi (Nat.not_lt_zero _)⟩
   | succ k ih =>
    intro hk
    obtain ⟨l,h1,h2,h3⟩:=ih (by omega)
    obtain ⟨r,u,hw,hc,ho,hr⟩:=each k (by omega)
    refine ⟨l++[r],by simp [h1],fun q hq=>?_,fun i hi=>?_⟩
    ·rcases List.mem_append.1 hq with hq | hq
     ·exact h2 q hq
     ·rw [List.mem_singleton.1 hq]; exact hw
    ·by_cases e:i<k
     ·obtain ⟨u,g1,g2,g3⟩:=h3 i e
      refine ⟨u,g1,g2,?_⟩
      rwa [f0,X0 (by omega),← f0]
     ·obtain rfl:i=k:=by omega
      refine ⟨u,hc,ho,?_⟩
      rwa [f0,D0 (by omega),h1,Nat.sub_self]
  obtain ⟨l,h1,h2,h3⟩:=build len (Nat.le_refl _)
  refine ⟨l,h2,⟨some a,cap,by rw [h1],by rw [h1]; exact hl,?_⟩,rfl⟩
  by_cases h0:l.length=0
  ·rw [E0 h0]; trivial
  ·obtain ⟨u0,hu0,-⟩:=h3 0 (by omega)
   obtain ⟨b,off,spot⟩:=a
   have hspot:spot=none:=by simpa [Addr.add] using World.cell?_spot hu0
   subst hspot
   refine I7.of trivial (Y4.of fun i x hx=>?_)
   have hi:i<l.length:=by
    have:=(i1.1 hx).1
    rwa [P0h] at this
   rw [d0x hi] at hx
   obtain rfl:=Option.some.inj hx
   obtain ⟨u,hu,ho,hru⟩:=h3 i (by omega)
   refine ⟨u,?_,ho,hru⟩
   rw [Go.WideShapes.add_plain] at hu
   rw [← y0k]; exact hu
theorem g1y {r:Reach}{b0:Nat}{v:Value}{d:DataW H}{p:List MemPlace}(hv:Value.okWide Tryz.prog W r b0 24 v)(h:DataW.Trod enc Tryz.prog W 0 (fun _=>true) true 24 v d p) :
  ∃ (c:Int) (m:List (List RQ)),WdM m∧(-9223372036854775808≤c∧c<9223372036854775808)∧Rel (fun _=>True) (hp W) (pMR c m) v:=by
 obtain ⟨cs,rfl,-⟩:=okWide_struct Tryz.underlying24 hv
 obtain ⟨n,h⟩:=h
 obtain ⟨y0,y1,m,-,hl,h0,h1⟩:=trod_struct2 Tryz.underlying24 h
 rw [G1n] at hl
 match hcs:(Value.agg cs).cells.toList,hl with
 | [c0,c1],_ =>
  rw [hcs] at h0 h1
  have h0':DataW.trod enc Tryz.prog W 0 (fun _=>true) true m 3 [c0]=some y0:=by simpa [y1p] using h0
  have h1':DataW.trod enc Tryz.prog W 0 (fun _=>true) true m 22 [c1]=some y1:=by simpa [y1p,D1k] using h1
  obtain ⟨k,hk,-,hwf⟩:=DataW.trod_int Tryz.underlying3 h0'
  obtain rfl:c0 = .int .i64 k:=by simpa using hk
  obtain ⟨l,hw,hr,ho⟩:=j1p h1'
  have e':cs.toList=[.int .i64 k,c1]:=by simpa [Value.cells] using hcs
  simp only [Lit.wf,j0,decide_eq_true_eq] at hwf
  refine ⟨k,l,hw,⟨hwf.1,Int.lt_of_le_of_lt hwf.2 (by decide)⟩,cs.toList,by simp,by rw [e']; exact ⟨_,_,rfl,by simp [Rel],_,_,rfl,hr,rfl⟩,?_⟩
  rw [e']
  intro c hc
  simp only [List.mem_cons,List.not_mem_nil,or_false] at hc
  rcases hc with rfl | rfl
  ·rfl
  ·exact ho
theorem P0z {r:Reach}{b0:Nat}{v:Value}{d:DataW H}{p:List MemPlace}(hv:Value.okWide Tryz.prog W r b0 40 v)(h:DataW.Trod enc Tryz.prog W 0 (fun _=>true) true 40 v d p) :
  ∃ l:List RQ,(∀ r∈l,r.wd)∧Rel (fun _=>True) (hp W) (pVR l) v:=by
 obtain ⟨a,k,c,rfl⟩:=okWide_slice Tryz.underlying40 hv
 obtain ⟨n,h⟩:=h
 obtain ⟨l,hw,hr,-⟩:=H0q h
 exact ⟨l,hw,hr⟩
end
end Go.Proofs.YtjagfionflbjbaaGreat.N
set_option maxRecDepth 100000
set_option maxHeartbeats 4000000
namespace Go.Proofs.YtjagfionflbjbaaGreat.N
open Go Go.Proofs.YtjagfionflbjbaaGreat.SH Go.Proofs.YtjagfionflbjbaaGreat.NumA
open Go.Proofs.Tryz renaming call11→cl11,call12→cl12,call13→cl13,call14→cl14,call15→cl15,call16→cl16,call17→cl17,call18→cl18,call19→cl19,call20→cl20,call21→cl21,call22→cl22,call23→cl23,call24→cl24,call25→cl25,call26→cl26,call27→cl27,call28→cl28,call29→cl29,call31→cl31,call32→cl32,call33→cl33,call34→cl34,call35→cl35,call36→cl36,call37→cl37,call40→cl40,call42→cl42,call43→cl43,isAgg22→ag22,isAgg24→ag24,isAgg3→ag3,isAgg40→ag40,isAgg47→ag47,sizeOf22→sz22,sizeOf24→sz24,sizeOf3→sz3,sizeOf40→sz40,sizeOf47→sz47,underlying22→un22,underlying24→un24,underlying27→un27,underlying40→un40,underlying4→un4,zeroValue24→zv24,zeroValue47→zv47
theorem M0v {X Y n N:Nat}(h:X≤Y)(hn:n≤N)(hY:k0y Y N≤700000000):k0y X n≤700000000:=by
 refine Nat.le_trans (H0x hn) (Nat.le_trans ?_ hY)
 unfold k0y
 have:=Nat.mul_le_mul_left (2 ^ N) (show X+1≤Y+1 by omega)
 omega
theorem B0c {n c:Nat}{M:List (List Rat)}(h:MOk c M)(hB:MB 6 M)(hn:M.length=n)(hn2:n≤14)(hc:c≤14):EU n c 0 BB DD M (nob n):=by
 subst hn
 have h1:M.length*c≤14*14:=Nat.mul_le_mul hn2 hc
 exact M0s h.rc hB hn2 oM (M0v (Y:=192*210) (N:=14) oM hn2 (by decide +kernel))


theorem b0b {n:Nat}{v:List RQ}(hn:n<1000)(hw:∀ r∈v,r.wd)(h:smV n v=true):v.length<1000000000∧∀ r∈v,r.sm:=by
 rw [smV,j0,decide_eq_true_iff,s0] at h
 refine ⟨by omega,fun a ha=>?_⟩
 have h2:=h.2 a ha
 rw [smW,decide_eq_true_iff] at h2
 exact ⟨hw a ha,by omega,by omega⟩
theorem y0j {n:Nat}{v:List RQ}(hn:n<1000)(hw:∀ r∈v,r.wd)(h:smV n v=true)(hi:v.all RQ.is=true):∃ l:List Rat,v=l.map RQ.of∧l.length≤n∧∀ a∈l,qw a≤6:=by
 obtain ⟨l,rfl⟩:=N1g (b0b hn hw h).2 hi
 rw [smV,j0,decide_eq_true_iff,s0,O0] at h
 refine ⟨l,rfl,h.1,fun a ha=>?_⟩
 have h2:=h.2 _ (List.mem_map_of_mem ha)
 rw [smW,decide_eq_true_iff] at h2
 exact Nat.max_le.2 h2
theorem Y0h {c:Int}{m:List (List RQ)}{b y:List RQ}(hm:WdM m)(hb:∀ r∈b,r.wd)(hy:∀ r∈y,r.wd)(h1:Y6 14 c m=true)(h2:smV 14 b=true)(h3:smV 14 y=true):∃ v,Y2 E 25 [pMR c m,pVR b,pVR y] (bZ v)∧Y2 E 26 [pMR c m,pVR b,pVR y] (bZ v):=by
 have s1:=o7 dC hm h1
 have s2:=b0b dC hb h2
 have s3:=b0b dC hy h3
 cases hf:k1q c m b y with
 | false=>exact ⟨false,w1w c m b y s1 s2.1 s2.2 s3.1 s3.2 hf,j1v c m b y s1 s2.1 s2.2 s3.1 s3.2 hf⟩
 | true =>
  simp only [k1q,j0,decide_eq_true_eq] at hf
  obtain ⟨⟨⟨⟨f1,f2⟩,f3⟩,f4⟩,f5⟩:=hf
  obtain ⟨k,M,rfl,rfl,hM,hk,hl,hB⟩:=G8 dC hm h1 f1
  obtain ⟨u,rfl,ul,ub⟩:=y0j dC hb h2 f2
  obtain ⟨z,rfl,zl,zb⟩:=y0j dC hy h3 f3
  simp only [O0] at f4 f5
  rw [b0j,g0b,g0b]
  have hs:M.length*(6+6+1)+1<900000000:=by omega
  exact ⟨_,D0y k 6 M u z hM hB ub zb f4 f5 dC hs dC,Q0y k 6 6 M u z hM hB ub zb f4 f5 hs dC⟩

theorem n1w {n:Nat}{vs:List (List RQ)}(hn:n<1000)(hw:WdM vs)(hl:vs.length<1000000000)(h:vs.all (smV n)=true):MSm vs :=
 ⟨hl,fun r hr=>b0b hn (hw r hr) (s0.1 h r hr)⟩
theorem N1m {n:Nat}{vs:List (List RQ)}(hn:n<1000)(hw:WdM vs)(h:vs.all (smV n)=true)(hi:(vs.all fun r=>r.all RQ.is)=true):∃ V:List (List Rat),vs=V.map (List.map RQ.of)∧MB 6 V∧∀ r∈V,r.length≤n:=by
 obtain ⟨V,rfl⟩:=M1z (fun r hr=>(b0b hn (hw r hr) (s0.1 h r hr)).2) hi
 have key:∀ r∈V,r.length≤n∧∀ a∈r,qw a≤6:=fun r hr=>by
  have h1:=s0.1 h _ (List.mem_map_of_mem hr)
  rw [smV,j0,decide_eq_true_iff,s0,O0] at h1
  refine ⟨h1.1,fun a ha=>?_⟩
  have h2:=h1.2 _ (List.mem_map_of_mem ha)
  rw [smW,decide_eq_true_iff] at h2
  exact Nat.max_le.2 h2
 exact ⟨V,rfl,fun r hr a ha=>(key r hr).2 a ha,fun r hr=>(key r hr).1⟩
theorem F1g {V:List (List Rat)}{w:List Rat}(hV:∀ r∈V,r.length=w.length)(hk:V.length≤14)(hw:w.length≤14)(hB:MB 6 V)(hwB:∀ a∈w,qw a≤6):EU w.length V.length (w.length+1) BB DD (trM w.length V) (m5 w) :=
 have h1:=Nat.mul_le_mul hw hk
 D0d B1v (w1x hV hB) rfl hwB hw oM (M0v (Y:=192*210) (N:=14) oM hw (by decide +kernel))
theorem M0m (n B DB:Nat)(M:List (List Rat))(h:MOk n M)(hB1:MB B M)(hn:M.length=n)(H:EU n n n B DB M (P4 n)):Y2 E 42 [pMq n M] (.tup [pMq (p1w n (ech M (P4 n) n)) (y1x n (ech M (P4 n) n)),vZ (v1h n (ech M (P4 n) n))]):=h0h (G0w n B DB M h hB1 hn H)
theorem Y0s (c:Int)(m:List (List RQ))(hm:MSm m)(h:isM c m=false):Y2 E 42 [pMR c m] (.tup [pMq 0 [],vZ 3]):=by
 refine j2 (xs:=[pMq 0 [],vZ 3]) Tryz.func42 rfl Tryz.ntmps42 Tryz.results42 sM fun F hG hX0 hnt hdf P0=>?_
 obtain ⟨L,hX,hN⟩:=pro hnt hX0 hG
 refine exr (swb (R3 (k:=1) (n:=2) pa2 rfl rfl (P0 _ rfl) L) t1 t0 ⟨rfl,rfl⟩ (swb (T3 (k:=2) (n:=2) zv24 (.cons rfl (.cons rfl .nil)) rfl (P0 _ rfl) L) t0 t0 ⟨rfl,rfl⟩ (aV L rfl (zn [(1,_),(2,_)] [(1,_),(2,_)] t2 t2 (R1 (exr (lp2 ag24 sz24 L rfl rfl (cK hG hX cl40 hN (w6 c m hm) L t1 (sw (P3 L) t1 t0 (zn [(1,_),(2,_),(12,_)] [(1,_),(2,_)] t3 t2 (i6 rfl (by rw [h]; rfl) ?_)))))))))))
 refine exr (sw (Y7 (E6 (vs:=[]) un24 zv24 (.cons rfl (.cons rfl .nil)) ((y2.cons sz3 (y2.cons sz22 y2.nil))).to rfl .nil (.cons (.cons .nil)) L) (.agg (.cons .same (.cons .nil .nil)))) t0 t0 (sb (U2 sz24 rF pa2 rfl pu2) t2 t1 ?_))
 refine aV L rfl (zn [(2,_),(3,_)] [(2,_)] t2 t1 (V1 ?_))
 refine Y0 (.agg rfl rfl rfl ag24 sz24 (.cons (.cons .nil))) (.tmp rfl) ?_
 rfl
theorem V0q (c B:Nat)(M:List (List Rat))(h:MOk c M)(hB:MB B M)(hb:B<1000000000)(hn:M.length≠c):Y2 E 42 [pMq c M] (.tup [pMq 0 [],vZ 1]):=by
 refine j2 (xs:=[pMq 0 [],vZ 1]) Tryz.func42 rfl Tryz.ntmps42 Tryz.results42 sM fun F hG hX0 hnt hdf P0=>?_
 obtain ⟨L,hX,hN⟩:=pro hnt hX0 hG
 refine exr (swb (R3 (k:=1) (n:=2) pa2 rfl rfl (P0 _ rfl) L) t1 t0 ⟨rfl,rfl⟩ (swb (T3 (k:=2) (n:=2) zv24 (.cons rfl (.cons rfl .nil)) rfl (P0 _ rfl) L) t0 t0 ⟨rfl,rfl⟩ (aV L rfl (zn [(1,_),(2,_)] [(1,_),(2,_)] t2 t2 (R1 (exr (lp2 ag24 sz24 L rfl rfl (cK hG hX cl40 hN (D6 h hB hb) L t1 (sw (P3 L) t1 t0 (zn [(1,_),(2,_),(12,_)] [(1,_),(2,_)] t3 t2 (W3 rfl rfl ?_)))))))))))
 refine U1 (xq ?_)
 refine R1 (exr (sw (Z1 un24 rfl sz22 dC rX L) t1 t1 ?_))
 refine sw (Y1 ag22 rF rF L) t1 t1 ?_
 refine sw (R2 un22 L) t1 t0 (sw (Z1 un24 rfl sz3 dC rX L) t1 t1 ?_)
 refine sw (Y1 ag3 rF rF L) t1 t1 ?_
 refine sw (c_n L) t2 t0 (zn [(1,_),(2,_),(19,_)] [(1,_),(2,_)] t3 t2 (i6 rfl sO (exr (sw (Y7 (E6 (vs:=[]) un24 zv24 (.cons rfl (.cons rfl .nil)) ((y2.cons sz3 (y2.cons sz22 y2.nil))).to rfl .nil (.cons (.cons .nil)) L) (.agg (.cons .same (.cons .nil .nil)))) t0 t0 (sb (U2 sz24 rF pa2 rfl pu2) t2 t1 ?_)))))
 refine aV L rfl (zn [(2,_),(3,_)] [(2,_)] t2 t1 (V1 ?_))
 refine Y0 (.agg rfl rfl rfl ag24 sz24 (.cons (.cons .nil))) (.tmp rfl) ?_
 rfl
theorem k1h {c:Int}{m:List (List RQ)}(hw:WdM m)(h:Y6 14 c m=true):∃ (k:Int) (M:List (List Rat)) (e:Int),Y2 E 38 [pMR c m] (.tup [pMq k M,vZ e]):=by
 cases hi:isM c m with
 | false=>exact ⟨0,[],3,q1x c m (o7 dC hw h) hi⟩
 | true =>
  obtain ⟨k,M,rfl,rfl,hM,hk,hl,hB⟩:=G8 dC hw h hi
  rw [b0j]
  exact ⟨_,_,_,f1f k 6 M hM hB dC oM⟩
theorem D1v {c d:Int}{m l:List (List RQ)}(hw:WdM m)(h:Y6 14 c m=true)(hwl:WdM l)(hl:Y6 14 d l=true):∃ (k:Int) (M:List (List Rat)) (e:Int),Y2 E 41 [pMR c m,pMR d l] (.tup [pMq k M,vZ e]):=by
 have s1:=o7 dC hw h
 have s2:=o7 dC hwl hl
 cases hi:isM c m with
 | false=>exact ⟨0,[],3,w1z c d m l s1 hi⟩
 | true =>
  cases hi2:isM d l with
  | false=>exact ⟨0,[],3,D1c c d m l s1 s2 hi hi2⟩
  | true =>
   obtain ⟨k,M,rfl,rfl,hM,_,_,hB⟩:=G8 dC hw h hi
   obtain ⟨j,N,rfl,rfl,hKN,_,_,hB2⟩:=G8 dC hwl hl hi2
   rw [b0j,b0j]
   by_cases e:k=N.length
   ·exact ⟨_,_,_,H0b k j 6 M N hM hKN hB hB2 dC e⟩
   ·exact ⟨_,_,_,v1v k j 6 M N hM hKN hB hB2 dC e⟩
theorem D1q {c:Int}{m:List (List RQ)}(hw:WdM m)(h:Y6 14 c m=true):∃ (k:Int) (M:List (List Rat)) (pv:List Nat) (e:Int),Y2 E 13 [pMR c m] (.tup [pMq k M,pIs pv,vZ e]):=by
 cases hi:isM c m with
 | false=>exact ⟨0,[],[],3,F0v c m (o7 dC hw h) hi⟩
 | true =>
  obtain ⟨k,M,rfl,rfl,hM,hk,hl,hB⟩:=G8 dC hw h hi
  rw [b0j]
  exact ⟨_,_,_,_,f0s M.length k BB DD M hM (hB.mono dC) rfl (B0c hM hB rfl oM oM)⟩
theorem G1c {c:Int}{m:List (List RQ)}(hw:WdM m)(h:Y6 14 c m=true):∃ (M:List (List Rat)) (e:Int),Y2 E 14 [pMR c m] (.tup [pMr M,vZ e]):=by
 cases hi:isM c m with
 | false=>exact ⟨[],3,j1q c m (o7 dC hw h) hi⟩
 | true =>
  obtain ⟨k,M,rfl,rfl,hM,hk,hl,hB⟩:=G8 dC hw h hi
  rw [b0j]
  exact ⟨_,_,w0n M.length k BB DD M hM (hB.mono dC) rfl (B0c hM hB rfl oM oM)⟩
theorem F1y {c:Int}{m:List (List RQ)}(hw:WdM m)(h:Y6 14 c m=true):∃ (r:RQ) (e:Int),Y2 E 31 [pMR c m] (.tup [.agg (cR r),vZ e]):=by
 cases hi:isM c m with
 | false=>exact ⟨⟨false,[],false,[]⟩,3,M1c c m (o7 dC hw h) hi⟩
 | true =>
  obtain ⟨k,M,rfl,rfl,hM,hk,hl,hB⟩:=G8 dC hw h hi
  rw [b0j]
  by_cases e:M.length=k
  ·exact ⟨RQ.of _,_,W0x k BB DD M hM (hB.mono dC) e (B0c hM hB e oM oM)⟩
  ·exact ⟨⟨false,[],false,[]⟩,1,H1p k 6 M hM hB dC e⟩
theorem D1s {c:Int}{m:List (List RQ)}(hw:WdM m)(h:Y6 14 c m=true):∃ (k:Int) (M:List (List Rat)) (e:Int),Y2 E 42 [pMR c m] (.tup [pMq k M,vZ e]):=by
 cases hi:isM c m with
 | false=>exact ⟨0,[],3,Y0s c m (o7 dC hw h) hi⟩
 | true =>
  obtain ⟨k,M,rfl,rfl,hM,hk,hl,hB⟩:=G8 dC hw h hi
  rw [b0j]
  by_cases e:M.length=k
  ·have hKX:32*6*(k*k+0)≤192*210:=by have:=Nat.mul_le_mul hk hk; omega
   exact ⟨_,_,_,M0m k BB DD M hM (hB.mono dC) e (D1y ⟨e,hM.len⟩ hB oM (M0v (Y:=192*210) (N:=14) hKX oM (by decide +kernel)))⟩
  ·exact ⟨_,_,_,V0q k 6 M hM hB dC e⟩
theorem j1a {c:Int}{m:List (List RQ)}{b:List RQ}(hw:WdM m)(hbw:∀ r∈b,r.wd)(h:Y6 14 c m=true)(hb:smV 14 b=true):∃ (x y:List Rat) (e:Int),Y2 E 24 [pMR c m,pVR b] (.tup [pV x,pV y,vZ e]):=by
 have hm:=o7 dC hw h
 have hbs:=b0b dC hbw hb
 cases hi:(isM c m && b.all RQ.is) with
 | false=>exact ⟨[],[],3,q1c c m b hm hbs.1 hbs.2 hi⟩
 | true =>
  rw [j0] at hi
  obtain ⟨k,M,rfl,rfl,hM,hk,hl,hB⟩:=G8 dC hw h hi.1
  obtain ⟨u,rfl,ul,ub⟩:=y0j dC hbw hb hi.2
  rw [b0j,g0b]
  by_cases e:u.length=M.length
  ·have hKX:192*(M.length*k+M.length)≤192*210:=by have:=Nat.mul_le_mul hl hk; omega
   exact ⟨_,_,_,g0j M.length k BB DD M u hM (hB.mono dC) (fun a ha=>Nat.le_trans (ub a ha) dC) rfl e (D0d hM.rc hB e ub hl oM (M0v (Y:=192*210) (N:=14) hKX hl (by decide +kernel)))⟩
  ·exact ⟨[],[],1,j1m k 6 M u hM hB ub dC oM e⟩
theorem y1v {vs:List (List RQ)}{w:List RQ}(hw:WdM vs)(hww:∀ r∈w,r.wd)(hl:vs.length≤14)(h:vs.all (smV 14)=true)(hb:smV 14 w=true):∃ (x y:List Rat) (e:Int),Y2 E 30 [pMs vs,pVR w] (.tup [pV x,pV y,vZ e]):=by
 have hm:=n1w dC hw oM h
 have hbs:=b0b dC hww hb
 cases hi:K0m vs w with
 | false=>exact ⟨[],[],3,Y0d vs w hm hbs.1 hbs.2 hi⟩
 | true =>
  cases hf:vs.all fun r=>decide (r.length=w.length) with
  | false=>exact ⟨[],[],1,V0x vs w hm hbs.1 hbs.2 hi hf⟩
  | true =>
   rw [K0m,j0] at hi
   obtain ⟨V,rfl,hB,_⟩:=N1m dC hw h hi.1
   obtain ⟨u,rfl,ul,ub⟩:=y0j dC hww hb hi.2
   have hV:∀ r∈V,r.length=u.length:=fun r hr=>by
    have:=s0.1 hf _ (List.mem_map_of_mem hr)
    simpa using this
   rw [O0] at hl
   rw [K1j,g0b]
   exact ⟨_,_,_,p0k BB DD V u hV oM oM (hB.mono dC) (fun a ha=>Nat.le_trans (ub a ha) dC) (F1g hV hl ul hB ub)⟩
end Go.Proofs.YtjagfionflbjbaaGreat.N
