/- Part D of the proof: lemmas for the walks of the given functions. No statement of its own. -/
import Derived.Laws.Cover3
import Derived.RecoverIn
import Derived.Test.YtjagfionflbjbaaGreatPC
set_option linter.unusedVariables false
set_option linter.unusedSimpArgs false
set_option linter.deprecated false
namespace Go.Proofs.YtjagfionflbjbaaGreat.SH
open Go Go.RowKit
theorem Y0w {n:Nat}{H:Nat→List (Nat×Blk)}(keys:∀ k,k<n→∀ q,(H (k+1)).lookup q≠none↔(H k).lookup q≠none)(same:∀ k,k<n→∀ q B B',(H k).lookup q=some B→(H (k+1)).lookup q=some B'→B'.sz=B.sz∧B'.cs.len=B.cs.len) :
  ∀ k,k≤n→∀ q,((H k).lookup q≠none↔(H 0).lookup q≠none)∧∀ B B',(H 0).lookup q=some B→(H k).lookup q=some B'→B'.sz=B.sz∧B'.cs.len=B.cs.len
 | 0,_,q=>⟨Iff.rfl,fun B B' h h'=>by rw [h] at h'; injection h' with h'; subst h'; exact ⟨rfl,rfl⟩⟩
 | k+1,hk,q=>by
  obtain ⟨h1,h2⟩:=Y0w keys same k (by omega) q
  have h3:=keys k (by omega) q
  refine ⟨h3.trans h1,fun B B' h h'=>?_⟩
  obtain ⟨B1,hB1⟩:=G3 (h3.1 (by simp [h']))
  obtain ⟨a1,a2⟩:=h2 B B1 h hB1
  obtain ⟨b1,b2⟩:=same k (by omega) q B1 B' hB1 h'
  exact ⟨b1.trans a1,b2.trans a2⟩
theorem y1z {E:Env}{F:Fr}{S:St}{Q:Exit→St→Prop}{tg p1 p2 gf n nI:Nat}{asx bd c:Code}{fn:Func}{caps:List PV}{Hc Hc':List (Nat×Blk)}(H:Nat→List (Nat×Blk))(encs:Nat→L2×L2){sl:List (Nat×PV)}
  (hG:E.G F.w0) (hX:∀ b,F.X b→E.ng≤b) (hng:E.ng≤F.w0.heap.size) (hro:F.ro=none) (htg:S.slot tg=some (.clo (.func gf) [] caps)) (hle:St.le ⟨sl,Hc++H 0⟩ S)
  (eg:∀ args w,(callFunc gf args).run E.P w = .ok (.enter gf args) w) (hf:E.P.funcs[gf]? = some fn) (hb:fn.body=some c) (hn:fn.ntmps=nI) (hr:fn.results = #[]) (hcl:caps.length+1≤nI) (hlt:p1<F.nt∧p2<F.nt)
  (hdis:∀ q,Hc.lookup q≠none→∀ k,k≤n→(H k).lookup q=none)
  (keys:∀ k,k<n→∀ q,(H (k+1)).lookup q≠none↔(H k).lookup q≠none) (same:∀ k,k<n→∀ q B B',(H k).lookup q=some B→(H (k+1)).lookup q=some B'→B'.sz=B.sz∧B'.cs.len=B.cs.len)
  (cont:∀ k,k≤n→∀ j B,(H k).lookup j=some B→∀ i x,B.cs.get i=some x→∀ q,x.free q=false→(H k).lookup q≠none)
  (keysc:∀ q,Hc'.lookup q≠none→Hc.lookup q≠none) (hsl:∀ t v,sl.lookup t=some v→∀ q,v.free q=false→(H 0).lookup q≠none)
  (hit:∀ l F',XFr E (Hc++H 0) nI F'→F'.ro=none→Yields E.P F' l n encs H→n4 E.P F' c ⟨(0,.clo (.yield l) [] []) :: i3 1 caps,Hc++H 0⟩ (fun e S'=>(e = .normal∨e = .ret)∧O5 S' (Hc'++H n)))
  (hround:∀ k,k<n→∃ S1,(∀ F',XFr E (H k) F.nt F'→n4 E.P F' asx ⟨(p2,.p (encs k).2) :: (p1,.p (encs k).1) :: sl,H k⟩ (fun e S'=>e = .normal∧S1.le S')) ∧
   (∀ F',XFr E (H k) F.nt F'→n4 E.P F' bd S1 (fun e S'=>e = .normal∧O5 S' (H (k+1)))))
  (hQ:Q .normal ⟨sl,Hc'++H n⟩):n4 E.P F (.rangeFunc (.tmp tg) #[p1,p2] asx bd) S Q:=by
 refine ⟨fun nn a w ⟨ρ,h⟩=>wpIn_rangeFunc ?_⟩
 intro fid _
 have hsa:=Y0w keys same
 obtain ⟨uT,huT,hrT⟩:=h.slots tg _ htg
 simp only [M2,D3] at hrT
 obtain ⟨fs,cs,rfl,rfl,hcs⟩:=hrT
 have htgv:a.eval (.tmp tg) = .func (.func gf) #[] cs.toArray:=by simp [Act.eval,Array.getD_eq_getD_getElem?,huT]
 have h0:=h.weakR hle
 let S0:St:=⟨sl,Hc++H 0⟩
 have hS0:∀ q,S0.blk q=(Hc.lookup q).or ((H 0).lookup q):=fun q=>T1 _ _ _
 have hS0H:∀ q B,(H 0).lookup q=some B→S0.blk q=some B:=fun q B hq=>by
  rw [hS0]
  cases e:Hc.lookup q with
  | none=>simp [hq]
  | some B'=>have:=hdis q (by simp [e]) 0 (by omega); rw [hq] at this; cases this
 obtain ⟨W1,hW1⟩:∃ W1,W1=(w.alloc (.deferred (some []))).alloc (.loop (mkL fid a.tmps p1 p2 asx bd w.heap.size .ready none)):=⟨_,rfl⟩
 have hsz1:W1.heap.size=w.heap.size+2:=by rw [hW1]; simp
 have hl1:W1.heap[w.heap.size+1]? = some (.loop (mkL fid a.tmps p1 p2 asx bd w.heap.size .ready none)):=by
  rw [hW1]; have:=World.alloc_heap_new (w.alloc (.deferred (some []))) (.loop (mkL fid a.tmps p1 p2 asx bd w.heap.size .ready none)); rwa [World.size_alloc] at this
 have hD1:W1.heap[w.heap.size]? = some (.deferred (some [])):=by
  rw [hW1]; exact (Below.heap_alloc _ _ _ (by simp)).trans (World.alloc_heap_new w _)
 have hold1:∀ b,b<w.heap.size→W1.heap[b]? = w.heap[b]?:=fun b hb=>by
  rw [hW1]; exact (Below.heap_alloc _ _ _ (by simp; omega)).trans (Below.heap_alloc _ _ _ hb)
 have hos1:W1.os=w.os∧W1.tape=w.tape∧W1.output=w.output:=by rw [hW1]; exact ⟨rfl,rfl,rfl⟩
 have hfsz:=h.frame.size
 have hne:∀ q,S0.blk q≠none→ρ q<w.heap.size:=fun q hq=>by
  obtain ⟨B,hB⟩:=j1.1 hq
  obtain ⟨c,e1,_⟩:=h0.blks q B hB; exact World.size_lt e1
 have hXng:∀ q,S0.blk q≠none→E.ng≤ρ q:=fun q hq=>by
  obtain ⟨B,hB⟩:=j1.1 hq
  obtain ⟨_,_,e2,_⟩:=h0.blks q B hB
  rcases e2 with e2 | e2
  ·exact hX _ e2.1
  ·omega
 obtain ⟨FI,hFI⟩:∃ FI:Fr,FI=⟨W1,fun b=>okI F S0.blk ρ b∧b<w.heap.size,fun b=>∃ q,S0.blk q≠none∧b=ρ q,nI,[],fun q=>if S0.blk q≠none then match hp w (ρ q) with | some (.cells c _ _)=>some (ρ q,c.size) | _=>none else none,none,fun _ _=>False,fun q=>(S0.blk q).isNone⟩:=⟨_,rfl⟩
 have iw:FI.w0=W1:=by rw [hFI]
 have ix:∀ b,FI.X b↔∃ q,S0.blk q≠none∧b=ρ q:=fun b=>by rw [hFI]
 have ik:∀ b,FI.okA b↔okI F S0.blk ρ b∧b<w.heap.size:=fun b=>by rw [hFI]
 have ipin:∀ q B c,S0.blk q=some B→hp w (ρ q)=some (.cells c B.T (0,0))→FI.pin q=some (ρ q,c.size):=fun q B c h1 h2=>by
  rw [hFI]; simp only; rw [if_pos (by rw [h1]; simp),h2]
 have iXlt:∀ b,FI.X b→b<w.heap.size:=fun b hb=>by obtain ⟨q,h1,h2⟩:=(ix b).1 hb; rw [h2]; exact hne q h1
 have hGw:E.G w:=E.stab F.w0 w hG fun b hb=>h.frame.block b (by omega) (fun hx'=>by have:=hX b hx'; omega)
 have hG1:E.G W1:=E.stab w W1 hGw fun b hb=>hold1 b (by omega)
 have iX:XFr E (Hc++H 0) nI FI:=⟨by rw [iw]; exact hG1,fun b hb=>by obtain ⟨q,h1,h2⟩:=(ix b).1 hb; rw [h2]; exact hXng q h1,by rw [hFI],by rw [hFI],fun q hq=>by
  rw [hFI]; simp only; rw [if_neg (by show ¬ (S0.blk q≠none); simp only [S0,St.blk]; simp [hq])],fun q=>by rw [hFI]; rfl,by rw [iw]; omega⟩
 have hcarW:∀ {ρ' S' a' W},b5 FI ρ' S' a' W→Carry (okI F S0.blk ρ) (okI FI S'.blk ρ') (hp w) (hp W):=fun {ρ' S' a' W} hs b hb hne'=>by
  have hbs:b<w.heap.size:=by obtain ⟨o,ho⟩:=j1.1 hne'; exact World.size_lt ho
  have hnX:¬ FI.X b:=fun hx'=>by obtain ⟨q,h1,h2⟩:=(ix b).1 hx'; exact hb.2 q h1 h2
  refine ⟨⟨.inl ((ik b).2 ⟨hb,hbs⟩),fun q hq e=>?_⟩,(hs.frame.block b (by rw [iw]; omega) hnX).trans (by rw [iw]; exact hold1 b hbs)⟩
  obtain ⟨B,hB⟩:=j1.1 hq
  obtain ⟨_,_,e2,_⟩:=hs.blks q B hB
  rw [← e] at e2
  rcases e2 with e2 | e2
  ·exact hnX e2.1
  ·rw [iw] at e2; omega
 have hpinW:∀ {ρ' S' a' W},b5 FI ρ' S' a' W→∀ q B,S0.blk q=some B→S'.blk q≠none→ρ' q=ρ q∧∀ c T,hp w (ρ q)=some (.cells c T (0,0))→∃ c' T',hp W (ρ q)=some (.cells c' T' (0,0))∧c'.size=c.size:=fun {ρ' S' a' W} hs q B hB hS'=>by
  obtain ⟨c,e1,_⟩:=h0.blks q B hB
  obtain ⟨q1,c',T',q2,q3⟩:=hs.pin q _ _ (ipin q B c hB e1) hS'
  refine ⟨q1,fun c2 T2 h2=>⟨c',T',q2,?_⟩⟩
  rw [e1] at h2; injection h2 with h2; injection h2 with h2; rw [q3,h2]
 have hkeepW:∀ {ρ' S' a' W} (β:Nat→Option Blk),b5 FI ρ' S' a' W→∀ k,k≤n→(∀ q B,(H k).lookup q=some B→S'.blk q=some B)→(∀ q,(H 0).lookup q≠none→∀ B,β q=some B→(H k).lookup q=some B)→b0y (fun q=>(H 0).lookup q≠none) S0.blk β ρ ρ' (hp w) (hp W):=fun {ρ' S' a' W} β hs k hk hH hβ q hq B' hB'=>by
  have hB':=hβ q hq B' hB'
  obtain ⟨B0,hB0⟩:=G3 hq
  obtain ⟨s1,s2⟩:=(hsa k hk q).2 B0 B' hB0 hB'
  have hb0:=hS0H q B0 hB0
  obtain ⟨q1,q2⟩:=hpinW hs q B0 hb0 (by rw [hH q B' hB']; simp)
  refine ⟨B0,hb0,s1,by omega,fun _=>⟨q1,fun c T fr hc=>?_⟩⟩
  obtain ⟨c0,e1,_⟩:=h0.blks q B0 hb0
  have hc':=hc
  rw [e1] at hc'; injection hc' with hc'; injection hc' with r1 r2 r3; subst r1
  obtain ⟨c',T',g1,g2⟩:=q2 _ _ e1
  exact ⟨c',T',(0,0),g1,g2⟩
 have hIt:W1x FI (w.heap.size+1) w.heap.size (mkL fid a.tmps p1 p2 asx bd w.heap.size .ready none) H n:=by
  refine ⟨by rw [hFI],by rw [iw]; exact hl1,fun hh=>by have:=iXlt _ hh; omega,fun hh=>by have:=((ik _).1 hh).2; omega,by rw [iw]; omega,fun k hk q B hq=>?_,keys,same,fun k hk q hq=>?_,cont⟩
  ·obtain ⟨B0,hB0⟩:=G3 ((hsa k hk q).1.1 (by simp [hq]))
   obtain ⟨c,e1,_⟩:=h0.blks q B0 (hS0H q B0 hB0)
   exact ⟨_,_,ipin q B0 c (hS0H q B0 hB0) e1⟩
  ·obtain ⟨B0,hB0⟩:=G3 ((hsa k hk q).1.1 hq)
   rw [hFI]; simp only; rw [hS0H q B0 hB0]; rfl
 have hY:Yields E.P FI (w.heap.size+1) n encs H:=by
  refine n1f (nt:=F.nt) (sl:=sl) hIt (by rw [iw]; exact hG1) iX.x iX.ng (by omega) h.nt hlt (fun k hk ρ' S' a' W hs hH t v ht=>?_) hround
  obtain ⟨u,hu,hr'⟩:=h0.slots t v ht
  refine ⟨u,hu,M2.mono (hcarW hs) (hkeepW (lk (H k)) hs k hk hH (fun q _ B hB=>hB)) v u (hsl t v ht) hr'⟩
 refine ⟨w.heap.size+1,[{ target:=.collected w.heap.size,args:=#[] }],W1,{ target:=.fn (.func gf) cs.toArray,args:=#[.func (.yield (w.heap.size+1)) #[] #[]] },W1,gf,#[.func (.yield (w.heap.size+1)) #[] #[]]++cs.toArray,W1,?_,?_,fun _ _=>trivial,?_,fun hh=>by simp [Fence.wide] at hh,?_⟩
 ·show (Instr.enterLoop fid a.tmps #[p1,p2] asx bd F.ro).run E.P w=_
  rw [hro,hW1]; exact run_enterLoop_outer _ _ _ _ _
 ·simp only [resolve,rangeCall,htgv]; simp [Deferred.ofValue,Act.eval]
 ·simp [invoke,eg]
 have hfw:fen F=Fence.wide:=by simp [fen,hro,Fence.wide]
 rw [hfw]
 refine callsIn_wide.2 ?_
 rw [show (#[Value.func (.yield (w.heap.size+1)) #[] #[]]++cs.toArray:Array Value)=(Value.func (.yield (w.heap.size+1)) #[] #[] :: cs).toArray by simp]
 have hcl':cs.length=caps.length:=B5 hcs
 have hSI:b5 FI ρ ⟨(0,.clo (.yield (w.heap.size+1)) [] []) :: i3 1 caps,Hc++H 0⟩ { tmps:=(Value.func (.yield (w.heap.size+1)) #[] #[] :: cs).toArray++Array.replicate (fn.ntmps - (Value.func (.yield (w.heap.size+1)) #[] #[] :: cs).toArray.size) undef,defers:=[] } W1:=by
  have hcar:Carry (okI F S.blk ρ) (okI FI (St.blk ⟨(0,.clo (.yield (w.heap.size+1)) [] []) :: i3 1 caps,Hc++H 0⟩) ρ) (hp w) (hp W1):=fun b hb hne'=>by
   have hbs:b<w.heap.size:=by obtain ⟨o,ho⟩:=j1.1 hne'; exact World.size_lt ho
   have hsub:∀ q,S0.blk q≠none→S.blk q≠none:=fun q hq=>by obtain ⟨B,hB⟩:=j1.1 hq; rw [hle.2 q B hB]; simp
   exact ⟨⟨.inl ((ik b).2 ⟨⟨hb.1,fun q hq=>hb.2 q (hsub q hq)⟩,hbs⟩),fun q hq=>hb.2 q (hsub q hq)⟩,hold1 b hbs⟩
  have hkp:b0y (fun _=>True) S.blk (St.blk ⟨(0,.clo (.yield (w.heap.size+1)) [] []) :: i3 1 caps,Hc++H 0⟩) ρ ρ (hp w) (hp W1):=fun q _ B hB=>⟨B,hle.2 q B hB,rfl,Nat.le_refl _,fun _=>⟨rfl,fun c T fr hc=>⟨c,T,fr,(hold1 _ (hne q (by have hB':S0.blk q=some B:=hB; simp [hB']))).trans hc,rfl⟩⟩⟩
  refine h.move (Kp:=fun _=>True) (by rw [hFI]; exact ⟨rfl,rfl,rfl,Nat.le_refl _,fun _ _ _=>rfl⟩) (by rw [iX.nt]; simp [hn,hcl']; omega) (h0j.nil iX.df) hcar hkp (fun q q' h1 h2 e=>h0.inj q q' h1 h2 e) (fun j b m hj hS=>?_) (fun t v ht=>.inr ?_) (fun q B hB=>.inl ⟨hle.2 q B hB,rfl,hold1 _ (hne q (by have hB':S0.blk q=some B:=hB; simp [hB'])),.inl ⟨(ix _).2 ⟨q,by have hB':S0.blk q=some B:=hB; simp [hB'],rfl⟩,by have hB':S0.blk q=some B:=hB; rw [hFI]; simp [hB']⟩,fun _ _ _ _ _=>trivial⟩)
  ·have hS':S0.blk j≠none:=hS
   obtain ⟨B,hB⟩:=j1.1 hS'
   obtain ⟨c,e1,_⟩:=h0.blks j B hB
   rw [ipin j B c hB e1] at hj
   injection hj with hj; injection hj with hj1 hj2
   subst hj1 hj2
   exact ⟨rfl,c,B.T,(hold1 _ (hne j hS')).trans e1,rfl⟩
  ·simp only [St.slot,i0] at ht
   split at ht
   ·rename_i e; injection ht with ht; subst ht
    obtain rfl:t=0:=by simpa using e
    exact ⟨.func (.yield (w.heap.size+1)) #[] #[],by rw [Array.getElem?_append_left (by simp)]; simp,by simp [M2,D3]⟩
   ·obtain ⟨j,rfl,hx⟩:=l8 ht
    obtain ⟨u,hu,hru⟩:=U6 hcs hx
    refine ⟨u,?_,M2.mono hcar hkp v u (fun _ _=>trivial) hru⟩
    have hjl:=(i1.1 hu).1
    rw [Array.getElem?_append_left (by simp; omega)]
    simp [Nat.add_comm 1 j,hu]
 refine e9 hf hb (by rw [hFI]) iX.df (by rw [hFI]; exact fun _ _ h=>h) ⟨ρ,hSI⟩ (hit _ FI iX (by rw [hFI]) hY) fun e SE hq=>⟨hq.1,fun ρE tmps W2 hE=>?_⟩
 have hHB:=hq.2
 refine ⟨.tuple #[],by unfold results; rw [hr]; simp,?_⟩
 have hSE:∀ q B,(Hc'++H n).lookup q=some B→SE.blk q=some B:=fun q B hq=>hHB.all q B hq
 have hl2:W2.heap[w.heap.size+1]? = some (.loop (mkL fid a.tmps p1 p2 asx bd w.heap.size .ready none)):=(hE.frame.block _ (by rw [iw]; omega) (fun hh=>by have:=iXlt _ hh; omega)).trans (by rw [iw]; exact hl1)
 have hD2:W2.heap[w.heap.size]? = some (.deferred (some [])):=(hE.frame.block _ (by rw [iw]; omega) (fun hh=>by have:=iXlt _ hh; omega)).trans (by rw [iw]; exact hD1)
 obtain ⟨W4,hW4⟩:∃ W4,W4=W2.putObj (w.heap.size+1) (.loop (mkL fid a.tmps p1 p2 asx bd w.heap.size .exhausted none)):=⟨_,rfl⟩
 have hend:(Instr.endLoop (w.heap.size+1)).run E.P W2 = .ok none W4:=by rw [hW4]; exact run_endLoop hl2 (by simp [mkL])
 refine ⟨none,W4,hend,?_⟩
 have hother:∀ b,b≠w.heap.size+1→W4.heap[b]? = W2.heap[b]?:=fun b hb=>by rw [hW4]; exact World.putObj_heap_other hb
 have hsz2:=hE.frame.size
 rw [iw] at hsz2
 have hown:∀ q,SE.blk q≠none→ρE q≠w.heap.size+1∧ρE q≠w.heap.size:=fun q hq=>by
  obtain ⟨B,hB⟩:=j1.1 hq
  obtain ⟨c2,q1,_⟩:=hE.blks q B hB
  refine ⟨fun e2=>?_,fun e2=>?_⟩
  ·rw [e2] at q1
   have:hp W2 (w.heap.size+1)=some (.loop (mkL fid a.tmps p1 p2 asx bd w.heap.size .ready none)):=hl2
   rw [this] at q1; cases q1
  ·rw [e2] at q1
   have:hp W2 w.heap.size=some (.deferred (some [])):=hD2
   rw [this] at q1; cases q1
 have hend0:∀ q B,(Hc'++H n).lookup q=some B→∃ B0,S0.blk q=some B0:=fun q B hq=>by
  rw [T1] at hq
  cases e:Hc'.lookup q with
  | some B1 =>
   obtain ⟨B0,hB0⟩:=G3 (keysc q (by simp [e]))
   exact ⟨B0,by rw [hS0,hB0]; rfl⟩
  | none =>
   rw [e,l0] at hq
   obtain ⟨B0,hB0⟩:=G3 ((hsa n (Nat.le_refl _) q).1.1 (by simp [hq]))
   exact ⟨B0,hS0H q B0 hB0⟩
 have hplace:∀ q B,(Hc'++H n).lookup q=some B→ρE q=ρ q:=fun q B hq=>by
  obtain ⟨B0,hB0⟩:=hend0 q B hq
  exact (hpinW hE q B0 hB0 (by rw [hSE q B hq]; simp)).1
 have hlI:∀ b,okI FI SE.blk ρE b→b≠w.heap.size+1:=fun b hb e=>by
  subst e
  rcases hb.1 with hb1 | hb1
  ·exact hIt.lok hb1
  ·rw [iw] at hb1; omega
 have hokE:∀ b,okI FI SE.blk ρE b→okI F (St.blk ⟨sl,Hc'++H n⟩) ρE b:=fun b hb=>by
  refine ⟨?_,fun q hq=>?_⟩
  ·rcases hb.1 with hb1 | hb1
   ·exact ((ik b).1 hb1).1.1
   ·rw [iw] at hb1; exact .inr (by omega)
  ·obtain ⟨B,hB⟩:=j1.1 hq
   exact hb.2 q (by rw [hSE q B hB]; simp)
 have hnX:∀ b,b<F.w0.heap.size→¬ F.X b→¬ FI.X b:=fun b hb hx' hh=>by
  obtain ⟨q,h1,h2⟩:=(ix b).1 hh
  obtain ⟨B,hB⟩:=j1.1 h1
  obtain ⟨_,_,e2,_⟩:=h0.blks q B hB
  rw [← h2] at e2
  rcases e2 with e2 | e2
  ·exact hx' e2.1
  ·omega
 refine .inl ⟨⟨sl,Hc'++H n⟩,hQ,ρE,?_⟩
 have hfr4:F0x F W4:=by
  have hfE:=hE.frame
  refine ⟨?_,?_,?_,?_,fun b hb hx'=>?_⟩
  ·rw [hW4]; show W2.os=_; rw [hfE.os,iw,hos1.1]; exact h.frame.os
  ·rw [hW4]; show W2.tape=_; rw [hfE.tape,iw,hos1.2.1]; exact h.frame.tape
  ·rw [hW4]; show W2.output=_; rw [hfE.output,iw,hos1.2.2]; exact h.frame.output
  ·rw [hW4]; simp; omega
  ·rw [hother b (by omega),hfE.block b (by rw [iw]; omega) (hnX b hb hx'),iw,hold1 b (by omega)]; exact h.frame.block b hb hx'
 obtain ⟨Ds,d1,d2,d3⟩:=h.df
 have hcar4:Carry (okI FI SE.blk ρE) (okI F (St.blk ⟨sl,Hc'++H n⟩) ρE) (hp W2) (hp W4):=fun b hb _=>⟨hokE b hb,hother b (hlI b hb)⟩
 have hkeep4:b0y (fun _=>True) SE.blk (St.blk ⟨sl,Hc'++H n⟩) ρE ρE (hp W2) (hp W4):=fun q _ B hB=>⟨B,hSE q B hB,rfl,Nat.le_refl _,fun _=>⟨rfl,fun c T fr hc=>⟨c,T,fr,(hother _ (hown q (by rw [hSE q B hB]; simp)).1).trans hc,rfl⟩⟩⟩
 have hsub:∀ q,St.blk ⟨sl,Hc'++H n⟩ q≠none→SE.blk q≠none:=fun q hq=>by
  obtain ⟨B,hB⟩:=j1.1 hq
  rw [hSE q B hB]; simp
 refine hE.move (Kp:=fun _=>True) hfr4 h.nt ⟨w.heap.size :: Ds,by rw [d1]; rfl,List.nodup_cons.2 ⟨fun hm=>?_,d2⟩,fun D' hD'=>?_⟩ hcar4 hkeep4 (fun q q' h1 h2 e=>hE.inj q q' (hsub q h1) (hsub q' h2) e) (fun j b m hj hS=>?_) (fun t v ht=>.inr ?_) (fun q B hB=>.inl ⟨hSE q B hB,rfl,hother _ (hown q (by rw [hSE q B hB]; simp)).1,?_,fun _ _ _ _ _=>trivial⟩)
 ·obtain ⟨_,q2⟩:=d3 _ hm; have:=World.size_lt q2; omega
 ·rcases List.mem_cons.1 hD' with rfl | hD'
  ·exact ⟨hfsz,(hother _ (by omega)).trans hD2⟩
  ·obtain ⟨q1,q2⟩:=d3 D' hD'
   have hlt':=World.size_lt q2
   refine ⟨q1,(hother _ (by omega)).trans ((hE.frame.block D' (by rw [iw]; omega) (fun hh=>?_)).trans (by rw [iw]; exact (hold1 _ hlt').trans q2))⟩
   obtain ⟨q,h1,h2⟩:=(ix _).1 hh
   obtain ⟨B,hB⟩:=j1.1 h1
   obtain ⟨c,e1,_⟩:=h0.blks q B hB
   have:hp w D'=some (.deferred (some [])):=q2
   rw [← h2,this] at e1; cases e1
 ·obtain ⟨B,hB⟩:=j1.1 hS
  obtain ⟨B0,hB0⟩:=hend0 j B hB
  obtain ⟨q1,c,T,q2,q3⟩:=h0.pin j b m hj (by show S0.blk j≠none; rw [hB0]; simp)
  obtain ⟨r1,r2⟩:=hpinW hE j B0 hB0 (by rw [hSE j B hB]; simp)
  rw [← q1] at q2
  obtain ⟨c',T',g1,g2⟩:=r2 c T q2
  refine ⟨r1.trans q1,c',T',?_,g2.trans q3⟩
  rw [← q1]
  exact (hother _ (by rw [← r1]; exact (hown j (by rw [hSE j B hB]; simp)).1)).trans g1
 ·obtain ⟨u,hu,hr'⟩:=h0.slots t v ht
  refine ⟨u,hu,?_⟩
  have m1:=M2.mono (hcarW hE) (hkeepW (fun q=>(Hc'++H n).lookup q) hE n (Nat.le_refl _) (fun q B hq=>?_) (fun q hq B hB=>?_)) v u (hsl t v ht) hr'
  ·exact M2.mono (K:=fun _=>True) hcar4 (fun q _ B hB=>⟨B,hB,rfl,Nat.le_refl _,fun _=>⟨rfl,fun c T fr hc=>⟨c,T,fr,(hother _ (hown q (by rw [hSE q B hB]; simp)).1).trans hc,rfl⟩⟩⟩) v u (fun _ _=>trivial) m1
  ·refine hSE q B ?_
   rw [T1]
   cases e:Hc'.lookup q with
   | none=>simp [hq]
   | some B1=>have:=hdis q (keysc q (by simp [e])) n (Nat.le_refl _); rw [hq] at this; cases this
  ·rw [T1] at hB
   cases e:Hc'.lookup q with
   | none=>rw [e,l0] at hB; exact hB
   | some B1=>exact absurd (hdis q (keysc q (by simp [e])) 0 (by omega)) hq
 ·obtain ⟨B0,hB0⟩:=hend0 q B hB
  rw [hplace q B hB]
  obtain ⟨_,_,e2,_⟩:=h0.blks q B0 hB0
  exact e2
end Go.Proofs.YtjagfionflbjbaaGreat.SH
namespace Go.Proofs.YtjagfionflbjbaaGreat.SH
open Go Go.RowKit
theorem d1k {H H':List (Nat×Blk)}(h:H'.map (·.1)=H.map (·.1))(j:Nat):H'.lookup j≠none↔H.lookup j≠none:=by
 have:∀ l:List (Nat×Blk),l.lookup j≠none↔j∈l.map (·.1):=by
  intro l
  induction l with
  | nil=>simp
  | cons p l ih =>
   obtain ⟨s,u⟩:=p
   rw [i0]
   by_cases e:j=s
   ·simp [e]
   ·rw [show (j == s)=false by simpa using e]
    simp only [R0,List.mem_cons,e,false_or]
    exact ih
 rw [this,this,h]
inductive m0k (κ:Nat→Nat):List (Nat×Blk)→List (Nat×Blk)→Prop
 | nil:m0k κ [] []
 | cons {j k:Nat} {B B':Blk} {H H':List (Nat×Blk)}:κ j=k→B'=B.ren κ→m0k κ H H'→m0k κ ((j,B) :: H) ((k,B') :: H')
theorem m0k.mem {κ:Nat→Nat}{H Hc:List (Nat×Blk)}(h:m0k κ H Hc):∀ j B,(j,B)∈H→(κ j,B.ren κ)∈Hc:=by
 induction h with
 | nil=>intro j B h; cases h
 | cons a b _ ih =>
  intro j B hm
  rcases List.mem_cons.1 hm with e | hm
  ·injection e with e1 e2; subst e1 e2; subst a b; simp
  ·exact List.mem_cons_of_mem _ (ih j B hm)
theorem m0k.lk {κ:Nat→Nat}{H Hc:List (Nat×Blk)}(h:m0k κ H Hc)(inj:∀ j j',H.lookup j≠none→H.lookup j'≠none→κ j=κ j'→j=j'):∀ j B,H.lookup j=some B→Hc.lookup (κ j)=some (B.ren κ):=by
 induction h with
 | nil=>intro j B h; simp at h
 | @cons i k B0 B1 H H' a b _ ih =>
  intro j B hj
  subst a b
  rw [i0] at hj ⊢
  by_cases e:j=i
  ·subst e
   simp only [BEq.rfl,U0] at hj ⊢
   rw [hj]
  ·rw [show (j == i)=false by simpa using e] at hj
   have hne:¬ κ j=κ i:=fun e2=>e (inj j i (by rw [i0,show (j == i)=false by simpa using e]; simp [hj]) (by rw [i0]; simp) e2)
   rw [show (κ j == κ i)=false by simpa using hne]
   refine ih (fun p p' h1 h2 e2=>?_) j B hj
   have ex:∀ q,H.lookup q≠none→List.lookup q ((i,B0) :: H)≠none:=fun q hq=>by rw [i0]; split <;> simp [hq]
   exact inj p p' (ex p h1) (ex p' h2) e2
theorem m0k.back {κ:Nat→Nat}{H Hc:List (Nat×Blk)}(h:m0k κ H Hc):∀ k B',Hc.lookup k=some B'→∃ j B,κ j=k∧(j,B)∈H∧B'=B.ren κ:=by
 induction h with
 | nil=>intro k B' h; simp at h
 | @cons i k0 B0 B1 H H' a b _ ih =>
  intro k B' hk
  rw [i0] at hk
  split at hk
  ·rename_i e; injection hk with hk; subst hk
   exact ⟨i,B0,by rw [a]; exact (by simpa using e:k=k0).symm,by simp,b⟩
  ·obtain ⟨j,B,h1,h2,h3⟩:=ih k B' hk
   exact ⟨j,B,h1,by simp [h2],h3⟩
structure GH (κ:Nat→Nat) (H H' Hc Hc':List (Nat×Blk)):Prop where
 ren:m0k κ H Hc
 ren':m0k κ H' Hc'
 inj:∀ j j',H.lookup j≠none→H.lookup j'≠none→κ j=κ j'→j=j'
 keys:H'.map (·.1)=H.map (·.1)
 nd:(H.map (·.1)).Nodup
 same:∀ j B B',H.lookup j=some B→H'.lookup j=some B'→B'.sz=B.sz∧B'.cs.len=B.cs.len
 cont:∀ j B,H'.lookup j=some B→∀ i x,B.cs.get i=some x→∀ q,x.free q=false→H'.lookup q≠none
theorem U5:∀ {H:List (Nat×Blk)},(H.map (·.1)).Nodup→∀ {j:Nat} {B:Blk},(j,B)∈H→H.lookup j=some B
 | [],_,j,B,h=>by cases h
 | (k,C) :: H,hn,j,B,h=>by
  rw [R0,List.nodup_cons] at hn
  rw [i0]
  rcases List.mem_cons.1 h with h0 | h0
  ·injection h0 with h1 h2; subst h1 h2; simp
  ·have:j≠k:=fun e=>by subst e; exact hn.1 (G0.2 ⟨(j,B),h0,rfl⟩)
   rw [show (j == k)=false by simpa using this]
   exact U5 hn.2 h0
theorem g1p {E:Env}{st:Nat→Bool}{F:Fr}(hG:E.G F.w0)(hX:∀ b,F.X b→E.ng≤b)(hng:E.ng≤F.w0.heap.size){d:Nat}{f:FuncId}{dst:Option Nat}{op:Op}{T:TypeId}{pos:String}{aft:Array Edge}{g:Option (Nat×Bool)}{rs:List (Operand×PV)}{xs:List PV}{H H' Hc Hc':List (Nat×Blk)}{r r':PV}(κ:Nat→Nat)(hst:∀ j,H.lookup j≠none→st j=true)(hs:R4 E st f xs H H' r)(hd:dst=some d)(hlt:d<F.nt)
  (hargs:∀ ρ S a w,b5 F ρ S a w→(∀ p∈rs,S.opd p.1=some p.2)→∃ vals:List Value,(execOp a.eval ⟨dst,op,T,pos,aft,g⟩).run E.P w = .ok (.enter f vals.toArray) w∧D3 S.blk ρ (okI F S.blk ρ) (hp w) (xs.map (PV.ren κ)) vals)
  (h:GH κ H H' Hc Hc') (hr':r'=r.ren κ) (hres:∀ q,r.free q=false→H'.lookup q≠none):O2 E.P F ⟨dst,op,T,pos,aft,g⟩ ⟨rs,Hc,none,[(d,r')],Hc'⟩:=by
 intro S a w hS hA Q K hK
 subst hr'
 have hkeys:=d1k h.keys
 have h1:∀ j B,H.lookup j=some B→S.blk (κ j)=some (B.ren κ):=fun j B hj=>hA.rb (κ j,B.ren κ) (h.ren.mem j B (L3 hj))
 have nd':(H'.map (·.1)).Nodup:=by rw [h.keys]; exact h.nd
 have hb':∀ k,(S.app ⟨rs,Hc,none,[(d,r.ren κ)],Hc'⟩).blk k=(Hc'.lookup k).or (S.blk k):=fun k=>St.app_blk _ _ _
 have inj':∀ j j',(H.lookup j≠none∨H'.lookup j≠none)→(H.lookup j'≠none∨H'.lookup j'≠none)→κ j=κ j'→j=j':=fun j j' a b e =>
  h.inj j j' (a.elim id (hkeys j).1) (b.elim id (hkeys j').1) e
 have hc':∀ j B,H'.lookup j=some B→Hc'.lookup (κ j)=some (B.ren κ):=h.ren'.lk fun j j' a b e=>inj' j j' (.inr a) (.inr b) e
 have hstay:∀ q,G0h st S (S.app ⟨rs,Hc,none,[(d,r.ren κ)],Hc'⟩) κ H H' q:=fun q=>by
  by_cases hq:∃ j,κ j=q∧H.lookup j≠none
  ·obtain ⟨j,rfl,hj⟩:=hq
   obtain ⟨B0,hB0⟩:=G3 hj
   obtain ⟨B1,hB1⟩:=G3 ((hkeys j).2 hj)
   obtain ⟨s1,s2⟩:=h.same j B0 B1 hB0 hB1
   exact .inr (.inr ⟨j,B0,B1,rfl,hst j hj,hB0,hB1,s1,s2⟩)
  ·have hq':∀ j,(H.lookup j≠none∨H'.lookup j≠none)→κ j≠q:=fun j hj e=>hq ⟨j,e,hj.elim id (hkeys j).1⟩
   refine .inr (.inl ⟨?_,hq'⟩)
   rw [hb']
   cases e:Hc'.lookup q with
   | none=>simp
   | some B' =>
    obtain ⟨j,B,e1,e2,_⟩:=h.ren'.back q B' e
    exact absurd e1 (hq' j (.inr (by rw [U5 nd' e2]; simp)))
 have C:G1h st F S (S.app ⟨rs,Hc,none,[(d,r.ren κ)],Hc'⟩) κ H H' r d:=by
  refine ⟨h1,inj',fun i j _ hj _ hf=>(by rw [hst j hj] at hf; cases hf),fun k B' hk=>?_,fun t v ht=>?_,hres,h.cont,fun j hj _=>⟨(hkeys j).1 hj,hst j ((hkeys j).1 hj)⟩⟩
  ·rw [hb'] at hk
   cases e:Hc'.lookup k with
   | some B1 =>
    rw [e,K0] at hk; injection hk with hk; subst hk
    obtain ⟨j,B,e1,e2,e3⟩:=h.ren'.back k B1 e
    exact .inl ⟨j,B,e1,U5 nd' e2,e3⟩
   | none =>
    rw [e,l0] at hk
    refine .inr ⟨hk,fun j hj e1=>?_,fun i x _ q _=>hstay q⟩
    obtain ⟨B,hB⟩:=G3 (hj.elim (hkeys j).2 id)
    rw [← e1,hc' j B hB] at e; cases e
  ·rw [St.app_slot] at ht
   simp only [i0,List.lookup_nil] at ht
   by_cases e:t=d
   ·subst e; simp only [BEq.rfl,K0,U0] at ht; exact .inl ⟨rfl,ht.symm⟩
   ·rw [show (t == d)=false by simpa using e,l0] at ht
    exact .inr ⟨e,ht,fun q _=>hstay q⟩
 exact Y0x hG hX hng κ hs (o:=⟨dst,op,T,pos,aft,g⟩) hd hlt (fun ρ a w hS=>by
  obtain ⟨vals,v1,v2⟩:=hargs ρ S a w hS hA.rs
  exact ⟨vals,v1,by rw [f0p]; exact v2⟩) C a w hS Q K hK
end Go.Proofs.YtjagfionflbjbaaGreat.SH
namespace Go.Proofs.YtjagfionflbjbaaGreat.SH
open Go Go.RowKit
mutual
theorem PV.ren_id:∀ x:PV,x.ren (fun j=>j)=x
 | .p _=>rfl
 | .at_ _ _ _=>rfl
 | .im _ _=>rfl
 | .ref _ _ _ _=>rfl
 | .agg xs=>by simp only [PV.ren]; rw [PV.renL_id xs]
 | .tup xs=>by simp only [PV.ren]; rw [PV.renL_id xs]
 | .clo _ a b=>by simp only [PV.ren]; rw [PV.renL_id a,PV.renL_id b]
 | .ifc _ x=>by simp only [PV.ren]; rw [PV.ren_id x]
 | .dead=>rfl
theorem PV.renL_id:∀ xs:List PV,PV.renL (fun j=>j) xs=xs
 | []=>rfl
 | x :: xs=>by simp only [PV.renL]; rw [PV.ren_id x,PV.renL_id xs]
end
theorem F0h (xs:List PV):xs.map (PV.ren fun j=>j)=xs:=by rw [← f0p,PV.renL_id]
theorem Blk.ren_id (B:Blk):B.ren (fun j=>j)=B:=by
 obtain ⟨T,sz,cs⟩:=B
 cases cs with
 | pure xs=>rfl
 | mix vs=>simp only [Blk.ren,Cells.ren,F0h]
theorem m0k.id:∀ H:List (Nat×Blk),m0k (fun j=>j) H H
 | []=>.nil
 | (j,B) :: H=>.cons rfl (Blk.ren_id B).symm (m0k.id H)
def Whole (H:List (Nat×Blk)):Prop:=∀ j B,H.lookup j=some B→∀ i x,B.cs.get i=some x→∀ q,x.free q=false→H.lookup q≠none
theorem o5 {E:Env}{F:Fr}(hG:E.G F.w0)(hX:∀ b,F.X b→E.ng≤b)(hng:E.ng≤F.w0.heap.size){d:Nat}{f:FuncId}{dst:Option Nat}{op:Op}{T:TypeId}{pos:String}{aft:Array Edge}{g:Option (Nat×Bool)}{rs:List (Operand×PV)}{xs:List PV}{H:List (Nat×Blk)}{r:PV}(hs:R4 E (fun _=>true) f xs H H r)(hd:dst=some d)(hlt:d<F.nt)
  (hargs:∀ ρ S a w,b5 F ρ S a w→(∀ p∈rs,S.opd p.1=some p.2)→∃ vals:List Value,(execOp a.eval ⟨dst,op,T,pos,aft,g⟩).run E.P w = .ok (.enter f vals.toArray) w∧D3 S.blk ρ (okI F S.blk ρ) (hp w) xs vals)
  (nd:(H.map (·.1)).Nodup) (hw:Whole H) (hres:∀ q,r.free q=false→H.lookup q≠none):O2 E.P F ⟨dst,op,T,pos,aft,g⟩ ⟨rs,H,none,[(d,r)],[]⟩:=by
 intro S a w hS hA Q K hK
 refine g1p hG hX hng (fun j=>j) (fun _ _=>rfl) hs hd hlt (by rw [F0h]; exact hargs) ⟨m0k.id H,m0k.id H,fun _ _ _ _ h=>h,rfl,nd,fun j B B' h h'=>by rw [h] at h'; injection h' with h'; subst h'; exact ⟨rfl,rfl⟩,hw⟩ (PV.ren_id r).symm hres S a w hS ⟨hA.rs,hA.rb,hA.fresh⟩ Q K fun a' w' hS'=>hK a' w' (hS'.congr (fun t=>?_) fun k=>?_)
 ·rw [St.app_slot,St.app_slot]
 ·rw [St.app_blk,St.app_blk]
  cases e:H.lookup k with
  | none=>simp
  | some B=>rw [hA.rb (k,B) (L3 e)]; simp
theorem N1b {E:Env}{st:Nat→Bool}{F:Fr}(hG:E.G F.w0)(hX:∀ b,F.X b→E.ng≤b)(hng:E.ng≤F.w0.heap.size){ops:Array Oper}{d:Nat}{f:FuncId}{op:Op}{T:TypeId}{pos:String}{aft:Array Edge}{xs:List PV}{S:St}{H H':List (Nat×Blk)}{r:PV}{rs:List (Operand×PV)}(ks:List Nat)(slR:List (Nat×PV))(hbR:List (Nat×Blk))(hs:R4 E st f xs H H' r)(hlt:d<F.nt)
  (hargs:∀ ρ S a w,b5 F ρ S a w→(∀ p∈rs,S.opd p.1=some p.2)→∃ vals:List Value,(execOp a.eval ⟨some d,op,T,pos,aft,none⟩).run E.P w = .ok (.enter f vals.toArray) w∧D3 S.blk ρ (okI F S.blk ρ) (hp w) xs vals)
  (hr:C8 S rs) (hH:O5 S H) (hsl:q7 S slR) (hR:O5 S hbR) (hd:slR.lookup d=none) (nd:(H.map (·.1)).Nodup) (nd':(H'.map (·.1)).Nodup) (dis:∀ k,hbR.lookup k≠none→H.lookup k=none∧H'.lookup k=none) (hw:Whole H') (hres:∀ q,r.free q=false→H'.lookup q≠none)
  (honly:(slR.all fun p=>p.2.only ks)=true) (hbonly:∀ k B,hbR.lookup k=some B→B.cs.only ks=true) (hks:∀ k∈ks,hbR.lookup k≠none∨∃ B0 B1,st k=true∧H.lookup k=some B0∧H'.lookup k=some B1∧B1.sz=B0.sz∧B1.cs.len=B0.cs.len)
  (hlo:∀ i j,H.lookup i≠none→H.lookup j≠none→st j=false→F.lo i=false→F.lo j=false) (hpin:∀ j,H'.lookup j≠none→F.pin j≠none→H.lookup j≠none∧st j=true):G0n E.P F ops ⟨some d,op,T,pos,aft,none⟩ S ⟨(d,r) :: slR,H'++hbR⟩:=by
 have hHl:∀ j B,H.lookup j=some B→S.blk j=some B:=fun j B hj=>hH.all j B hj
 have hb':∀ k,St.blk ⟨(d,r) :: slR,H'++hbR⟩ k=(H'.lookup k).or (hbR.lookup k):=fun k=>T1 _ _ _
 have hstay:∀ k∈ks,G0h st S ⟨(d,r) :: slR,H'++hbR⟩ (fun j=>j) H H' k:=fun k hk=>by
  rcases hks k hk with h | ⟨B0,B1,h⟩
  ·obtain ⟨h1,h2⟩:=dis k h
   obtain ⟨B,hB⟩:=G3 h
   refine .inr (.inl ⟨by rw [hb',h2,l0,hB,hR.all k B hB],fun j hj e=>?_⟩)
   subst e; exact hj.elim (fun h=>h h1) (fun h=>h h2)
  ·exact .inr (.inr ⟨k,B0,B1,rfl,h⟩)
 refine N1d hG hX hng (fun j=>j) hs rfl rfl hlt (fun ρ a w hS=>?_) ⟨fun j B hj=>by rw [Blk.ren_id]; exact hHl j B hj,fun _ _ _ _ h=>h,fun i j h1 h2 _ h4 h5=>hlo i j h1 h2 h4 h5,fun k B' hk=>?_,fun t v ht=>?_,hres,hw,hpin⟩
 ·rw [PV.renL_id]; exact hargs ρ S a w hS hr.all
 ·rw [hb'] at hk
  cases e:H'.lookup k with
  | some B=>rw [e,K0] at hk; injection hk with hk; subst hk; exact .inl ⟨k,B,rfl,e,(Blk.ren_id B).symm⟩
  | none =>
   rw [e,l0] at hk
   obtain ⟨h1,h2⟩:=dis k (by simp [hk])
   exact .inr ⟨hR.all k B' hk,fun j hj e2=>by subst e2; exact hj.elim (fun h=>h h1) (fun h=>h h2),fun i x hx q hq=>hstay q (PV.only_mem (Cells.only_get (hbonly k B' hk) hx) hq)⟩
 ·simp only [St.slot,i0] at ht
  by_cases e:t=d
  ·subst e; simp only [BEq.rfl,U0] at ht; exact .inl ⟨rfl,by rw [PV.ren_id]; exact ht.symm⟩
  ·rw [show (t == d)=false by simpa using e] at ht
   refine .inr ⟨e,hsl.all t v ht,fun q hq=>hstay q (PV.only_mem ?_ hq)⟩
   rw [s0] at honly
   have:(t,v)∈slR:=by
    have:∀ l:List (Nat×PV),l.lookup t=some v→(t,v)∈l:=by
     intro l
     induction l with
     | nil=>simp
     | cons p l ih =>
      obtain ⟨s,u⟩:=p
      intro h
      rw [i0] at h
      split at h
      ·rename_i e; injection h with h; subst h; simp [beq_iff_eq.1 e]
      ·simp [ih h]
    exact this slR ht
   exact honly _ this
structure R5 (T:List (Nat×Blk)):Prop where
 low:∀ k,Nat.blt k 1000=true→T.lookup k=none
 nd:(T.map (·.1)).Nodup
 free:∀ k,Nat.blt k 1000=true→X2 k T=true
 whole:Whole T
theorem v5:∀ {S:St}{l:List (Nat×Blk)},(l.map (·.1)).Nodup→(∀ k B,l.lookup k=some B→S.blk k=some B)→O5 S l
 | _,[],_,_=>trivial
 | S,(k,B) :: l,hn,h=>by
  rw [R0,List.nodup_cons] at hn
  refine ⟨h k B (by rw [i0]; simp),v5 hn.2 fun j C hj=>h j C ?_⟩
  have:j≠k:=fun e=>by subst e; exact hn.1 (G0.2 ⟨(j,C),L3 hj,rfl⟩)
  rw [i0,show (j == k)=false by simpa using this]; exact hj
theorem hbT {sl:List (Nat×PV)}{T:List (Nat×Blk)}(pre:List (Nat×Blk))(h:R5 T)(hp:(pre.all fun p=>Nat.blt p.1 1000)=true):O5 ⟨sl,pre++T⟩ T:=v5 h.nd fun k B hk=>by
 show (pre++T).lookup k=some B
 rw [T1]
 cases e:pre.lookup k with
 | none=>simpa using hk
 | some C =>
  rw [s0] at hp
  have:=hp _ (L3 e)
  rw [h.low k this] at hk; cases hk
theorem P4 {k:Nat}:∀ {l r:List (Nat×Blk)},X2 k (l++r)=(X2 k l && X2 k r)
 | [],r=>rfl
 | p :: l,r=>by simp only [L1,X2,P4,Bool.and_assoc]
theorem frT {sl:List (Nat×PV)}{T:List (Nat×Blk)}{d:Nat}(pre:List (Nat×Blk))(h:R5 T)(hd:Nat.blt d 1000=true)(h1:pre.lookup d=none)(h2:(J3 d sl && X2 d pre)=true):g0v ⟨sl,pre++T⟩ (some d):=by
 refine ⟨?_,?_⟩
 ·show (pre++T).lookup d=none
  rw [T1,h1,h.low d hd]; rfl
 ·simp only [j0] at h2
  show (J3 d sl && X2 d (pre++T))=true
  rw [P4,h2.1,h2.2,h.free d hd]; rfl
def cls (k:Nat):Nat:=if k<1000 then k else 1000
theorem w8 {xs ys:List Nat}:hit xs ys=false↔∀ x∈xs,x ∉ ys:=by simp [hit]
theorem h1f {cf:Nat→Nat}{l l':List (Nat×Blk)}{xs ys:List Nat}(h1:∀ p∈l,cf p.1∈xs)(h2:∀ p∈l',cf p.1∈ys)(h:hit xs ys=false):D7 l (l'.map (·.1))=false:=by
 rw [g0d,w8]
 intro x hx hy
 obtain ⟨p,hp,rfl⟩:=G0.1 hx
 obtain ⟨q,hq,e⟩:=G0.1 hy
 exact w8.1 h _ (h1 p hp) (e ▸ h2 q hq)
theorem J0n {P:Program}{F:Fr}{Q:Exit→St→Prop}{S:St}{c:Code}{α:Type}(ws:α→List (Nat×PV))(wb:α→List (Nat×Blk))(T:α→List (Nat×Blk))(ok:α→Prop)(μ:α→Nat)(x:α){sl:List (Nat×PV)}{hb:List (Nat×Blk)}(h0:ok x)(h1:q7 S (ws x++sl))(h2:O5 S (wb x++(hb++T x)))
  (round:∀ x,ok x→n4 P F c ⟨ws x++sl,wb x++(hb++T x)⟩ (J0q (fun S'=>∃ y,ok y∧μ y<μ x∧St.le ⟨ws y++sl,wb y++(hb++T y)⟩ S') Q)):n4 P F (.loop c) S Q :=
 P0y (fun x=>⟨ws x++sl,wb x++(hb++T x)⟩) ok μ x h0 (l3 h1 h2) round
end Go.Proofs.YtjagfionflbjbaaGreat.SH
namespace Go.Proofs.YtjagfionflbjbaaGreat.SH
open Go Go.RowKit
structure V0s (cf:Nat→Nat) (A:Ann) (sk:Sk):Prop where
 fresh:∀ k,A.fresh=some k→A.wb.any (fun p=>p.1 == k)=true
 rs:R7 A.rs=sk.rs
 rb:∀ p∈A.rb,cf p.1∈sk.rb
 ws:A.ws.map (·.1)=sk.ws
 wb:∀ p∈A.wb,cf p.1∈sk.wb
inductive b0h (cf:Nat→Nat):List Ann→List Sk→Prop
 | nil:b0h cf [] []
 | cons {A:Ann} {sk:Sk} {As:List Ann} {sks:List Sk}:V0s cf A sk→b0h cf As sks→b0h cf (A :: As) (sk :: sks)
theorem k1z {cf:Nat→Nat}{A B:Ann}{a b:Sk}(hA:V0s cf A a)(hB:V0s cf B b)(h1:hit a.wb b.rb=false)(h2:hit a.wb b.wb=false):D7 A.wb B.rbk=false:=by
 rw [g0d,w8]
 intro x hx hy
 obtain ⟨p,hp,rfl⟩:=G0.1 hx
 simp only [Ann.rbk,List.mem_append,Option.mem_toList] at hy
 rcases hy with hy | hy
 ·have:=hB.fresh _ hy
  rw [List.any_eq_true] at this
  obtain ⟨q,hq,e⟩:=this
  have e:q.1=p.1:=by simpa using e
  exact w8.1 h2 _ (hA.wb p hp) (e ▸ hB.wb q hq)
 ·obtain ⟨q,hq,e⟩:=G0.1 hy
  exact w8.1 h1 _ (hA.wb p hp) (e ▸ hB.rb q hq)
def y0b (A B:Ann):Bool:=(A.fresh.all fun k=>B.free k) && (B.fresh.all fun k=>A.free k)
theorem D0r {cf:Nat→Nat}{A B:Ann}{a b:Sk}(hA:V0s cf A a)(hB:V0s cf B b)(hf:y0b A B=true)(h:F0b a b=true):E7 A B=true:=by
 simp only [F0b,j0,Bool.not_eq_true'] at h
 obtain ⟨⟨⟨⟨⟨h1,h2⟩,h3⟩,h4⟩,h5⟩,h6⟩:=h
 simp only [y0b,j0] at hf
 simp only [E7,j0,Bool.not_eq_true']
 have h6':hit b.wb a.wb=false:=by rw [w8] at h6 ⊢; exact fun x hx hy=>h6 x hy hx
 refine ⟨⟨⟨⟨⟨⟨⟨?_,?_⟩,?_⟩,?_⟩,?_⟩,?_⟩,hf.1⟩,hf.2⟩
 ·rw [g0d,hA.ws,hB.rs]; exact h1
 ·rw [g0d,hB.ws,hA.rs]; exact h2
 ·rw [g0d,hA.ws,hB.ws]; exact h3
 ·exact k1z hA hB h4 h6
 ·exact k1z hB hA h5 h6'
 ·exact h1f hA.wb hB.wb h6
theorem M0p {cf:Nat→Nat}{As:List Ann}{sks:List Sk}(h:b0h cf As sks):∀ (i:Nat) (A:Ann),As[i]? = some A→∃ sk,sks[i]? = some sk∧V0s cf A sk:=by
 induction h with
 | nil=>intro i A h; simp at h
 | cons hc _ ih =>
  intro i A hA
  cases i with
  | zero =>
    obtain rfl := by simpa using hA
    exact ⟨_,rfl,hc⟩
  | succ i=>simpa using ih i A (by simpa using hA)
theorem M0z {cf:Nat→Nat}{As As':List Ann}{sks sks':List Sk}(h:b0h cf As sks)(h':b0h cf As' sks'):b0h cf (As++As') (sks++sks'):=by
 induction h with
 | nil=>exact h'
 | cons hc _ ih=>exact .cons hc ih
def F0d:List Ann→List Ann→Bool
 | [],_=>true
 | B :: As,done=>(done.all fun A=>y0b A B) && F0d As (done++[B])
theorem F0j {cf:Nat→Nat}:∀ (os:List Oper) (As:List Ann) (sks:List Sk) (ms:List Nat) (done:List Ann) (dsk:List Sk),b0h cf As sks→b0h cf done dsk→done.length=ms.length→F0d As done=true→b8 os sks ms dsk=true→Y7 os As ms done=true
 | [],[],[],_,_,_,_,_,_,_,_=>rfl
 | o :: os,B :: As,b :: sks,ms,done,dsk,h,h',hl,hf,hh=>by
  cases h with
  | cons hB hAs =>
   simp only [b8,j0] at hh
   simp only [F0d,j0] at hf
   obtain ⟨⟨h1,h2⟩,h3⟩:=hh
   simp only [Y7,j0]
   refine ⟨⟨h1,?_⟩,F0j os As sks _ _ _ hAs (M0z h' (.cons hB .nil)) (by simp [hl]) hf.2 h3⟩
   rw [s0] at h2 ⊢
   intro i hi
   have hi':i<done.length:=by simpa using hi
   have:=h2 i (by simpa [← hl] using hi')
   rw [Bool.or_eq_true] at this ⊢
   rcases this with h | h
   ·exact .inl h
   ·refine .inr ?_
    obtain ⟨A,hA⟩:∃ A,done[i]? = some A:=⟨done[i],by simp [hi']⟩
    obtain ⟨sk,hs,hc⟩:=M0p h' i A hA
    rw [hs] at h
    rw [hA]
    have hff:=hf.1
    rw [s0] at hff
    exact D0r hc hB (hff A (M1 hA)) h
 | [],_ :: _,_ :: _,_,_,_,_,_,_,_,hh=>by simp [b8] at hh
 | _ :: _,[],[],_,_,_,_,_,_,_,hh=>by simp [b8] at hh
 | _ :: _,_ :: _,[],_,_,_,h,_,_,_,_=>by cases h
 | _,[],_ :: _,_,_,_,h,_,_,_,_=>by cases h
 | [],_ :: _,[],_,_,_,h,_,_,_,_=>by cases h
def m7:List Ann→List Nat
 | []=>[]
 | A :: As=>A.fresh.toList++m7 As
theorem b0g {S:St}:∀ {As:List Ann},(∀ k∈m7 As,S.free k=true)→Z5 S As=true
 | [],_=>rfl
 | A :: As,h=>by
  simp only [Z5,j0]
  refine ⟨?_,b0g fun k hk=>h k (by simp [m7,hk])⟩
  cases e:A.fresh with
  | none=>rfl
  | some k=>exact h k (by simp [m7,e])
theorem frS {sl:List (Nat×PV)}{T:List (Nat×Blk)}{As:List Ann}(ns:List Nat)(pre:List (Nat×Blk))(h:R5 T)(hn:m7 As=ns)(h1:(ns.all fun k=>Nat.blt k 1000 && (J3 k sl && X2 k pre))=true):∀ k∈m7 As,St.free ⟨sl,pre++T⟩ k=true:=by
 subst hn
 intro k hk
 rw [s0] at h1
 have:=h1 k hk
 simp only [j0] at this
 show (J3 k sl && X2 k (pre++T))=true
 rw [P4,this.2.1,this.2.2,h.free k this.1]; rfl
theorem N1x (cf:Nat→Nat){os:List Oper}{As:List Ann}{S:St}(sks:List Sk)(h1:b0h cf As sks)(hf:F0d As []=true)(hS:∀ k∈m7 As,S.free k=true)(h2:b8 os sks [] []=true):(Y7 os As [] [] && Z5 S As)=true:=by
 rw [F0j os As sks [] [] [] h1 .nil rfl hf h2,b0g hS]; rfl
theorem h0n {os:List Oper}{As:List Ann}{S:St}(sks:List Sk)(h1:b0h cls As sks)(hf:F0d As []=true)(hS:∀ k∈m7 As,S.free k=true)(h2:b8 os sks [] []=true):(Y7 os As [] [] && Z5 S As)=true:=N1x cls sks h1 hf hS h2
theorem cf0 {cf:Nat→Nat}{A:Ann}{sk:Sk}(h:((A.fresh.all fun k=>A.wb.any fun p=>p.1 == k) && decide (R7 A.rs=sk.rs) && decide (A.ws.map (·.1)=sk.ws) && (A.rb.all fun p=>sk.rb.contains (cf p.1)) && (A.wb.all fun p=>sk.wb.contains (cf p.1)))=true):V0s cf A sk:=by
 simp only [j0,decide_eq_true_eq,s0,List.contains_eq_mem] at h
 refine ⟨fun k hk=>?_,h.1.1.1.2,fun p hp=>h.1.2 p hp,h.1.1.2,fun p hp=>h.2 p hp⟩
 have:=h.1.1.1.1
 rw [hk] at this
 simpa using this
theorem cfT {cf:Nat→Nat}{A:Ann}{sk:Sk}(h0:A.fresh=none)(hr:R7 A.rs=sk.rs)(h1:∀ p∈A.rb,cf p.1∈sk.rb)(hw:A.ws.map (·.1)=sk.ws)(h2:∀ p∈A.wb,cf p.1∈sk.wb):V0s cf A sk:=⟨fun k hk=>(by rw [h0] at hk; cases hk),hr,h1,hw,h2⟩
theorem J0f {k:Nat}(h:1000≤k):cls k=1000:=by unfold cls; rw [if_neg (by omega)]
theorem K1h {l r:List (Nat×Blk)}{ks:List Nat}(h1:(l.all fun p=>ks.contains (cls p.1))=true)(h2:∀ p∈r,1000≤p.1)(h3:ks.contains 1000=true):∀ p∈l++r,cls p.1∈ks:=by
 intro p hp
 rcases List.mem_append.1 hp with hp | hp
 ·rw [s0] at h1; simpa using h1 p hp
 ·rw [J0f (h2 p hp)]; simpa using h3
theorem d0d {T:List (Nat×Blk)}(h:R5 T):∀ p∈T,1000≤p.1:=by
 intro p hp
 obtain ⟨k,B⟩:=p
 by_cases hk:Nat.blt k 1000=true
 ·have:=h.low k hk
  rw [U5 h.nd hp] at this; cases this
 ·simp [Nat.blt_eq] at hk; exact hk
theorem rdT {sl:List (Nat×PV)}{T:List (Nat×Blk)}{k:Nat}{B:Blk}(pre:List (Nat×Blk))(h:R5 T)(hp:(pre.all fun p=>Nat.blt p.1 1000)=true)(hk:T.lookup k=some B):St.blk ⟨sl,pre++T⟩ k=some B:=by
 show (pre++T).lookup k=some B
 rw [T1]
 cases e:pre.lookup k with
 | none=>simpa using hk
 | some C =>
  rw [s0] at hp
  have:=hp _ (L3 e)
  rw [h.low k this] at hk; cases hk
theorem V8 {k:Nat}{B:Blk}{ks:List Nat}(h:1000≤k)(h2:ks.contains 1000=true:=by rfl):∀ p∈[(k,B)],cls p.1∈ks:=by
 intro p hp
 obtain rfl:=List.mem_singleton.1 hp
 rw [J0f h]; simpa using h2
theorem W7 {S:St}:∀ {l:List (Nat×Blk)},O5 S l→P6 S l
 | [],_=>trivial
 | _ :: _,h=>⟨h.1,W7 h.2⟩
theorem n0j {P:Program}{F:Fr}{d:Nat}{t T:TypeId}{pos:String}{aft:Array Edge}{g:Option (Nat×Bool)}{x y:Operand}{k n tot j sz:Nat}{B:Blk}{e:TypeId}{kd:IntKind}{i:Int}(hu:P.underlying t=some (.slice e))(hsz:∀ w,(sizeOf e).run P w = .ok sz w)(hl:B.cs.len=tot)(hi:i=(j:Int))(h1:j<n)(hlt:d<F.nt) :
  O2 P F ⟨some d,.indexAddr t x y,T,pos,aft,g⟩ { rs:=[(x,.ref k 0 n tot),(y,.p (.a (.int kd i)))],rb:=[(k,B)],ws:=[(d,.at_ k (j*sz) tot)] }:=by
 subst hi
 have:=b0s (P:=P) (F:=F) (d:=d) (t:=t) (T:=T) (pos:=pos) (aft:=aft) (g:=g) (x:=x) (y:=y) (kd:=kd) (off:=0) (k:=k) (n:=n) hu hsz hl (i:=j) (by omega) (by omega) hlt
 simpa using this
end Go.Proofs.YtjagfionflbjbaaGreat.SH
set_option maxRecDepth 100000
set_option maxHeartbeats 4000000
namespace Go.Proofs.YtjagfionflbjbaaGreat.N
open Go Go.Proofs.YtjagfionflbjbaaGreat.SH Go.Proofs.YtjagfionflbjbaaGreat.NumA
open Go.Proofs.Tryz renaming call100→cl100,call101→cl101,call106→cl106,call107→cl107,call108→cl108,call112→cl112,call127→cl127,call40→cl40,call52→cl52,call55→cl55,call64→cl64,call65→cl65,call67→cl67,call68→cl68,call70→cl70,call85→cl85,isAgg22→ag22,isAgg24→ag24,isAgg3→ag3,isAgg40→ag40,isAgg47→ag47,sizeOf22→sz22,sizeOf24→sz24,sizeOf3→sz3,sizeOf40→sz40,sizeOf47→sz47,typeInfo40→ti40,typeInfo47→ti47,underlying22→un22,underlying24→un24,underlying40→un40,underlying77→un77,zeroValue24→zv24,zeroValue47→zv47
@[reducible] def cQ (a:Rat):List L2:=[.a (.bool (decide (a.num<0))),.sl (y3 a.num.natAbs).length (J4 (y3 a.num.natAbs)),.a (.bool (decide ((a.den:Int)<0))),.sl (y3 (a.den:Int).natAbs).length (J4 (y3 (a.den:Int).natAbs))]
def L5:List Rat→List L2
 | []=>[]
 | a :: v=>cQ a++L5 v
@[simp] theorem Y2:∀ v:List Rat,(L5 v).length=v.length*4
 | []=>rfl
 | a :: v=>by simp only [L5,K1,Y2 v,cQ,D1,List.length_nil]; omega
theorem q0c:∀ v u:List Rat,L5 (v++u)=L5 v++L5 u
 | [],u=>rfl
 | a :: v,u=>by simp only [L1,L5,q0c v u,List.append_assoc]
theorem M6:∀ {v:List Rat}{i:Nat},i<v.length→((L5 v).drop (i*4)).take 4=cQ (v.getD i 0)
 | [],i,h=>by simp at h
 | a :: v,0,_=>by simp [L5,cQ]
 | a :: v,i+1,h=>by
  have:=M6 (v:=v) (i:=i) (by simpa using h)
  rw [show (i+1)*4=i*4+1+1+1+1 by omega]
  simp only [L5,cQ,L1,List.nil_append,List.drop_succ_cons,List.getD_cons_succ]
  exact this
theorem P1q:∀ {v:List Rat}{i:Nat}(b:Rat),i<v.length→(L5 v).take (i*4)++cQ b++(L5 v).drop (i*4+4)=L5 (v.set i b)
 | [],i,_,h=>by simp at h
 | a :: v,0,b,_=>by simp [L5,cQ]
 | a :: v,i+1,b,h=>by
  have:=P1q (v:=v) (i:=i) b (by simpa using h)
  rw [show (i+1)*4=i*4+1+1+1+1 by omega,show i*4+1+1+1+1+4=i*4+4+1+1+1+1 by omega]
  simp only [List.set_cons_succ,L5,← this]
  simp only [cQ,L1,List.nil_append,List.drop_succ_cons,List.take_succ_cons]
@[reducible] def pV (v:List Rat):L2:=.sl v.length (L5 v)
def M5 (m:List (List Rat)):List L2:=m.map pV
@[simp] theorem G5 (m:List (List Rat)):(M5 m).length=m.length:=by simp [M5]
theorem b7 {m:List (List Rat)}{i:Nat}(h:i<m.length):(M5 m)[i]? = some (pV (m.getD i [])):=by
 simp [M5,h,f0]
def I3 (s i:Nat):Nat:=2*i+s+1100
@[reducible] def T3 (v:List Rat):Blk:=⟨47,4,.pure (L5 v)⟩
theorem k0c {v:List Rat}{k:Nat}(b:Rat)(h:k<v.length):(⟨47,4,.pure ((L5 v).take (k*4)++cQ b++(L5 v).drop (k*4+4))⟩:Blk)=T3 (v.set k b):=by rw [P1q b h]
def d7 (s:Nat):Nat→List (List Rat)→List (Nat×Blk)
 | _,[]=>[]
 | i,v :: m=>(I3 s i,T3 v) :: d7 s (i+1) m
def V4 (s:Nat):Nat→List (List Rat)→List PV
 | _,[]=>[]
 | i,v :: m=>.ref (I3 s i) 0 v.length (v.length*4) :: V4 s (i+1) m
@[simp] theorem E2 (s:Nat):∀ (i:Nat) (m:List (List Rat)),(V4 s i m).length=m.length
 | _,[]=>rfl
 | i,v :: m=>by simp [V4,E2 s (i+1) m]
theorem j0q {s:Nat}:∀ {i j:Nat} {m:List (List Rat)},(V4 s i m)[j]? = (m[j]?).map fun v=>.ref (I3 s (i+j)) 0 v.length (v.length*4)
 | i,j,[]=>by simp [V4]
 | i,0,v :: m=>by simp [V4]
 | i,j+1,v :: m=>by
  simp only [V4,List.getElem?_cons_succ]
  rw [j0q (i:=i+1) (j:=j) (m:=m),show i+1+j=i+(j+1) by omega]
theorem g0g {s:Nat}:∀ {i j:Nat} {m:List (List Rat)},(d7 s i m).lookup (I3 s (i+j))=(m[j]?).map T3
 | i,j,[]=>by simp [d7]
 | i,0,v :: m=>by simp [d7]
 | i,j+1,v :: m=>by
  simp only [d7,i0,List.getElem?_cons_succ]
  rw [show (I3 s (i+(j+1)) == I3 s i)=false by simp [I3]; omega,show i+(j+1)=i+1+j by omega]
  exact g0g
theorem p0x {s:Nat}:∀ {i k:Nat} {m:List (List Rat)},(∀ j,j<m.length→k≠I3 s (i+j))→(d7 s i m).lookup k=none
 | i,k,[],_=>rfl
 | i,k,v :: m,h=>by
  simp only [d7,i0]
  rw [show (k == I3 s i)=false by simpa using h 0 sM]
  exact p0x fun j hj=>by have:=h (j+1) (by simpa using hj); rwa [show i+1+j=i+(j+1) by omega]
theorem D9 {s:Nat}:∀ {i k:Nat} {m:List (List Rat)},k∈(d7 s i m).map (·.1)→∃ j,j<m.length∧k=I3 s (i+j)
 | i,k,[],h=>by simp [d7] at h
 | i,k,v :: m,h=>by
  simp only [d7,R0,List.mem_cons] at h
  rcases h with h | h
  ·exact ⟨0,by simp,h⟩
  ·obtain ⟨j,h1,h2⟩:=D9 h
   exact ⟨j+1,by simpa using h1,by rw [h2,show i+1+j=i+(j+1) by omega]⟩
theorem m1y {s:Nat}:∀ (i:Nat) (m:List (List Rat)),((d7 s i m).map (·.1)).Nodup
 | i,[]=>List.nodup_nil
 | i,v :: m=>by
  simp only [d7,R0]
  refine List.nodup_cons.2 ⟨fun h=>?_,m1y (i+1) m⟩
  obtain ⟨j,_,h2⟩:=D9 h
  simp only [I3] at h2; omega
theorem f0j {s k:Nat}:∀ (i:Nat) (m:List (List Rat)),X2 k (d7 s i m)=true
 | _,[]=>rfl
 | i,v :: m=>by simp [d7,X2,Cells.free,f0j (i+1) m]
theorem v0s {s k:Nat}(h:k<1100):∀ (i:Nat) (m:List (List Rat)),PV.freeL k (V4 s i m)=true
 | _,[]=>rfl
 | i,v :: m=>by
  simp only [V4,PV.freeL,PV.free,j0]
  exact ⟨by simp [I3]; omega,v0s h (i+1) m⟩
theorem G0b {s:Nat}:∀ {i j q:Nat} {m:List (List Rat)} {x:PV},(V4 s i m)[j]? = some x→x.free q=false→∃ v,m[j]? = some v∧q=I3 s (i+j):=by
 intro i j q m x h hq
 rw [j0q,M0] at h
 obtain ⟨v,hv,rfl⟩:=h
 simp only [PV.free,bne_eq_false_iff_eq] at hq
 exact ⟨v,hv,hq.symm⟩
@[reducible] def hdB (s:Nat)(m:List (List Rat)):Blk:=⟨40,1,.mix (V4 s 0 m)⟩
def I2 (s:Nat)(m:List (List Rat)):List (Nat×Blk):=(s+1001,hdB s m) :: d7 s 0 m
theorem y2 {s:Nat}(h2:s<9)(m:List (List Rat)):R5 (I2 s m):=by
 have hno:∀ k,k<1100→(d7 s 0 m).lookup k=none:=fun k hk=>p0x fun j _=>by simp only [I3]; omega
 refine ⟨fun k hk=>?_,?_,fun k hk=>?_,fun j B hj i x hx q hq=>?_⟩
 ·simp only [Nat.blt_eq] at hk
  rw [I2,i0,show (k == s+1001)=false by simp; omega]
  exact hno k oM
 ·simp only [I2,R0]
  refine List.nodup_cons.2 ⟨fun hm=>?_,m1y 0 m⟩
  obtain ⟨j,_,h3⟩:=D9 hm
  simp only [I3] at h3; omega
 ·simp only [Nat.blt_eq] at hk
  simp only [I2,X2,Cells.free,j0]
  exact ⟨v0s oM 0 m,f0j 0 m⟩
 ·rw [I2,i0] at hj
  split at hj
  ·injection hj with hj; subst hj
   obtain ⟨v,hv,rfl⟩:=G0b hx hq
   rw [I2,i0,show (I3 s (0+i) == s+1001)=false by simp [I3]; omega,g0g,hv]; simp
  ·obtain ⟨j',_,rfl⟩:=D9 (G0.2 ⟨_,L3 hj,rfl⟩)
   rw [g0g,M0] at hj
   obtain ⟨v,hv,rfl⟩:=hj
   simp only [Cells.get,M0] at hx
   obtain ⟨y,_,rfl⟩:=hx
   simp [PV.free] at hq
theorem K0s {s i:Nat}{m:List (List Rat)}(h:i<m.length):(Cells.mix (V4 s 0 m)).get i=some (.ref (I3 s i) 0 (m.getD i []).length ((m.getD i []).length*4)):=by
 show (V4 s 0 m)[i]? = _
 rw [j0q]; simp [h,f0]
theorem hdL {s:Nat}{m:List (List Rat)}:(I2 s m).lookup (s+1001)=some (hdB s m):=by simp [I2]
theorem rwL {s i:Nat}{m:List (List Rat)}(hh:s<9)(hi:i<m.length):(I2 s m).lookup (I3 s i)=some (T3 (m.getD i [])):=by
 rw [I2,i0,show (I3 s i == s+1001)=false by simp [I3]; omega]
 have:=g0g (s:=s) (i:=0) (j:=i) (m:=m)
 rw [F1] at this
 rw [this]; simp [hi,f0]
theorem rwS {s i:Nat}{m:List (List Rat)}{r:List Rat}(hh:s<9)(hi:i<m.length):(I2 s (m.set i r)).lookup (I3 s i)=some (T3 r):=by
 have:=rwL (s:=s) (i:=i) (m:=m.set i r) hh (by simpa using hi)
 rw [this,f0,List.getElem?_set_self hi]; rfl
theorem rwO {s i j:Nat}{m:List (List Rat)}{r:List Rat}(hh:s<9)(hj:j<m.length)(hne:i≠j):(I2 s (m.set i r)).lookup (I3 s j)=some (T3 (m.getD j [])):=by
 have:=rwL (s:=s) (i:=j) (m:=m.set i r) hh (by simpa using hj)
 rw [this,f0,f0,List.getElem?_set_ne hne]
theorem W0j {s:Nat}:∀ {i j:Nat} {m:List (List Rat)} {r r':List Rat},r'.length=r.length→V4 s i (m.set j r')=V4 s i (m.set j r)
 | i,j,[],r,r',_=>rfl
 | i,0,v :: m,r,r',h=>by simp [V4,h]
 | i,j+1,v :: m,r,r',h=>by simp only [List.set_cons_succ,V4,W0j (i:=i+1) (j:=j) h]
theorem F0s {s i j:Nat}:I3 s i=I3 s j↔i=j:=by simp only [I3]; omega
theorem hbS {sl:List (Nat×PV)}{s i:Nat}{m:List (List Rat)}{r r':List Rat}{B:Blk}(pre:List (Nat×Blk))(hp:(pre.all fun p=>Nat.blt p.1 1000)=true)(h2:s<9)(hi:i<m.length)(hB:B=T3 r')(hl:r'.length=r.length):O5 ⟨sl,(I3 s i,B) :: (pre++I2 s (m.set i r))⟩ (I2 s (m.set i r')):=by
 subst hB
 refine v5 (y2 h2 _).nd fun k C hk=>?_
 show List.lookup k _=some C
 rw [i0]
 have hno:∀ k,k<1000→(I2 s (m.set i r')).lookup k=none:=fun k hk=>(y2 h2 _).low k (by simpa [Nat.blt_eq] using hk)
 have hpre:pre.lookup k=none:=by
  cases e:pre.lookup k with
  | none=>rfl
  | some D =>
   rw [s0] at hp
   have:=hp _ (L3 e)
   rw [(y2 h2 _).low k this] at hk; cases hk
 by_cases e:k=I3 s i
 ·subst e
  rw [rwS h2 hi] at hk
  simpa using hk
 ·rw [show (k == I3 s i)=false by simpa using e,T1,hpre,l0]
  rw [I2,i0] at hk ⊢
  by_cases e1:k=s+1001
  ·subst e1
   simp only [BEq.rfl,U0] at hk ⊢
   rw [← hk,hdB,hdB,W0j hl]
  ·rw [show (k == s+1001)=false by simpa using e1] at hk ⊢
   obtain ⟨j,hj,e2⟩:=D9 (G0.2 ⟨_,L3 hk,rfl⟩)
   simp only [F1] at e2
   subst e2
   have hne:i≠j:=fun h=>e (by rw [h])
   have h3:=g0g (s:=s) (i:=0) (j:=j) (m:=m.set i r')
   have h4:=g0g (s:=s) (i:=0) (j:=j) (m:=m.set i r)
   rw [F1,List.getElem?_set_ne hne] at h3 h4
   rw [h4,← h3]; exact hk
theorem f1n {s i:Nat}{m:List (List Rat)}{r:List Rat}{n:Nat}(h:i<m.length)(hr:r.length=n):(Cells.mix (V4 s 0 (m.set i r))).get i=some (.ref (I3 s i) 0 n (n*4)):=by
 subst hr
 have:=K0s (s:=s) (i:=i) (m:=m.set i r) (by simpa using h)
 rwa [f0,List.getElem?_set_self h] at this
theorem C5 (s i:Nat):1000≤I3 s i:=by simp only [I3]; omega
theorem B6 (s:Nat):1000≤s+1001:=by omega
theorem m1b (s:Nat)(m:List (List Rat))(i c:Nat)(h2:s<9)(hi:i<m.length)(hc:c<(m.getD i []).length):R4 E (fun _=>true) 91 [.ref (s+1001) 0 m.length m.length,.p (vZ i),.p (vZ c)] (I2 s m) (I2 s m) (.p (pQ ((m.getD i []).getD c 0))):=by
 refine v4 (xs:=[pQ ((m.getD i []).getD c 0)]) Tryz.func91 rfl Tryz.ntmps91 Tryz.results91 sM fun F G=>?_
 have L:=@lti _ _ G.nt
 have hG:=G.g
 have hX:=G.x
 have hN:=Y5 hG
 have P0:∀ k,Nat.blt k 1000=true→F.pin k=none:=fun k hk=>G.p0 k ((y2 h2 m).low k hk)
 refine exr (swb (R3 (k:=6) (n:=4) zv47 (.cons rfl (.cons rfl (.cons rfl (.cons rfl .nil)))) rfl (P0 _ rfl) L) t0 t0 (frT [] (y2 h2 m) rfl rfl rfl) ?_)
 refine O1 ⟨[(0,_),(1,_),(2,_),(6,_)],(6,_) :: ((I2 s m)),t4,⟨rfl,(hbT [_] (y2 h2 m) rfl)⟩,?_⟩
 refine exr (mV L rfl (mV L rfl (sw (y6 un77 sz40 (by first | exact E2 _ _ _ | exact (E2 _ _ _).trans sM | simp [Cells.len]) (j:=i) rO oM L) t2 ⟨rdT [_] (y2 h2 m) rfl hdL,trivial⟩ ?_)))
 refine sw (Y1 ag40 (by first | exact E2 _ _ _ | exact (E2 _ _ _).trans sM) (K0s hi) L) t1 ⟨rdT [_] (y2 h2 m) rfl hdL,trivial⟩ ?_
 refine mV L rfl (sw (n0j un40 sz47 (by first | exact Y2 _ | exact (Y2 _).trans oM) (j:=c) rO oM L) t2 ⟨rdT [_] (y2 h2 m) rfl (rwL h2 hi),trivial⟩ ?_)
 refine sw (J1b ag47 sz47 (by first | exact Y2 _ | exact (Y2 _).trans oM) (M6 oM) rfl L) t1 ⟨rdT [_] (y2 h2 m) rfl (rwL h2 hi),trivial⟩ ?_
 refine sb (U2 sz47 rF pa4 rfl pu4) t2 t1 ?_
 refine O1 ⟨[(6,_)],(6,_) :: ((I2 s m)),t1,⟨rfl,(hbT [_,_] (y2 h2 m) rfl)⟩,?_⟩
 refine X1 ?_
 refine ⟨.inr rfl,X4.cast (.cons (.agg rfl rfl rfl ag47 sz47 (.cons (.cons (.cons (.cons .nil))))) .nil) ?_,(hbT [_] (y2 h2 m) rfl)⟩
 rfl
def scl (v:List Rat)(c:Rat)(k:Nat):List Rat:=(v.take k).map (· * c)++v.drop k
@[simp] theorem h1n (v:List Rat)(c:Rat)(k:Nat):(scl v c k).length=v.length:=by simp [scl]; omega
theorem j1f {v:List Rat}{c:Rat}{k:Nat}(h:k<v.length):(scl v c k).getD k 0=v.getD k 0:=by
 simp [scl,f0,D0,G1 (Nat.le_of_lt h)]
theorem D1r {v:List Rat}{c:Rat}{k:Nat}(h:k<v.length):(scl v c k).set k ((scl v c k).getD k 0*c)=scl v c (k+1):=by
 rw [j1f h,scl,scl,List.set_append,if_neg sO]
 have e:k - (List.map (· * c) (v.take k)).length=0:=by simp; omega
 rw [e,I1,List.map_append,List.append_assoc]
 have e2:(List.drop k v).set 0 (v.getD k 0*c)=(v.getD k 0*c) :: List.drop (k+1) v:=by
  rw [List.drop_eq_getElem_cons h,List.set_cons_zero]
 have e3:List.map (· * c) v[k]?.toList=[v.getD k 0*c]:=by simp [f0,h]
 rw [e2,e3]; rfl
theorem J1x {v:List Rat}{c:Rat}:scl v c v.length=v.map (· * c):=by simp [scl]
theorem G1a {v:List Rat}{c:Rat}:scl v c 0=v:=by simp [scl]
theorem F0n {m:List (List Rat)}{i:Nat}:m.set i (m.getD i [])=m:=by
 by_cases h:i<m.length
 ·rw [f0,J1 h]; simp
 ·rw [List.set_eq_of_length_le oM]
theorem j4 {v:List Rat}{k:Nat}(h:k<v.length):v.getD k 0∈v:=by simp [f0,h]
theorem f1b (s:Nat)(m:List (List Rat))(i:Nat)(c:Rat)(h2:s<9)(hi:i<m.length)(hl:(m.getD i []).length<1000000000)(hs:∀ a∈m.getD i [],qw a<1000000000)(hc:qw c<1000000000):R4 E (fun _=>true) 96 [.ref (s+1001) 0 m.length m.length,.p (vZ i),.p (pQ c)] (I2 s m) (I2 s (m.set i ((m.getD i []).map (· * c)))) (.p (.tup [])):=by
 refine v4 (xs:=[]) Tryz.func96 rfl Tryz.ntmps96 Tryz.results96 sM fun F G=>?_
 have L:=@lti _ _ G.nt
 have hG:=G.g
 have hX:=G.x
 have hN:=Y5 hG
 have P0:∀ k,Nat.blt k 1000=true→F.pin k=none:=fun k hk=>G.p0 k ((y2 h2 m).low k hk)
 refine exr (swb (U3 (k:=5) (n:=4) pa4 rfl rfl (P0 _ rfl) L) t1 t0 (frT [] (y2 h2 m) rfl rfl rfl) ?_)
 refine O1 ⟨[(0,_),(1,_),(5,_)],(5,_) :: ((I2 s m)),t3,⟨rfl,(hbT [_] (y2 h2 m) rfl)⟩,?_⟩
 refine exr (mV L rfl (mV L rfl (sw (y6 un77 sz40 (by first | exact E2 _ _ _ | exact (E2 _ _ _).trans sM | simp [Cells.len]) (j:=i) rO oM L) t2 ⟨rdT [_] (y2 h2 m) rfl hdL,trivial⟩ ?_)))
 refine sw (Y1 ag40 (by first | exact E2 _ _ _ | exact (E2 _ _ _).trans sM) (K0s hi) L) t1 ⟨rdT [_] (y2 h2 m) rfl hdL,trivial⟩ ?_
 refine sw (p0m un40 (by first | exact Y2 _ | exact (Y2 _).trans oM) L) t1 ⟨rdT [_] (y2 h2 m) rfl (rwL h2 hi),trivial⟩ ?_
 refine mV L rfl ?_
 refine O1 ⟨[(0,_),(1,_),(5,_),(11,_),(12,_),(13,_)],(5,_) :: ((I2 s m)),t6,⟨rfl,(hbT [_] (y2 h2 m) rfl)⟩,?_⟩
 obtain ⟨v,hv⟩:∃ v,v=m.getD i []:=⟨_,rfl⟩
 rw [← hv] at hl hs ⊢
 refine V1 ?_
 refine J0n (α:=Nat) (fun k=>[(13,vi (k:Int))]) (fun k=>[]) (fun k=>(I2 s (m.set i (scl v c k)))) (fun k=>k≤v.length) (fun k=>v.length - k) (0) (sl:=[(0,_),(1,_),(5,_),(11,_),(12,_)]) (hb:=[(5,_)]) ?_ ⟨oR,rfl,rfl,rfl,rfl,rfl,trivial⟩ ⟨rfl,(by rw [G1a,hv,F0n]; exact hbT [_] (y2 h2 m) rfl)⟩ ?_
 ·exact Nat.zero_le _
 intro k hk
 have hlen:=h1n v c k
 refine exr (sw (P3 L) t2 t0 ?_)
 refine O1 ⟨[(0,_),(1,_),(5,_),(11,_),(12,_),(13,_),(14,_)],(5,_) :: ((I2 s (m.set i (scl v c k)))),t7,⟨rfl,(hbT [_] (y2 h2 (m.set i (scl v c k))) rfl)⟩,?_⟩
 refine R1 ?_
 refine j2 rfl (fun hc2=>?_) (fun hc2=>?_)
 ·have hc2:=dt hc2
  have hk2:k<v.length:=by omega
  refine U1 (xq ?_)
  refine R1 (V1 (exr (mV L rfl (sw (n0j un40 sz47 (by first | exact Y2 _ | exact (Y2 _).trans oM) (j:=k) rO oM L) t2 ⟨rdT [_] (y2 h2 (m.set i (scl v c k))) rfl (rwS h2 hi),trivial⟩ ?_))))
  refine sw (J1b ag47 sz47 (by first | exact Y2 _ | exact (Y2 _).trans oM) (M6 oM) rfl L) t1 ⟨rdT [_] (y2 h2 (m.set i (scl v c k))) rfl (rwS h2 hi),trivial⟩ ?_
  refine swb (R3 (k:=7) (n:=4) zv47 (.cons rfl (.cons rfl (.cons rfl (.cons rfl .nil)))) rfl (P0 _ rfl) L) t0 t0 (frT [_] (y2 h2 (m.set i (scl v c k))) rfl rfl rfl) (aV L rfl (sb (U2 sz47 rF pa4 rfl pu4) t2 t1 ?_))
  refine O1 ⟨[(0,_),(1,_),(5,_),(6,_),(7,_),(11,_),(12,_),(13,_)],(5,_) :: (7,_) :: ((I2 s (m.set i (scl v c k)))),t8,⟨rfl,rfl,(hbT [_,_,_] (y2 h2 (m.set i (scl v c k))) rfl)⟩,?_⟩
  refine b0z rF ?_
  refine mV L rfl (mV L rfl (sw (y6 un77 sz40 (by first | exact E2 _ _ _ | exact (E2 _ _ _).trans sM | simp [Cells.len]) (j:=i) rO oM L) t2 ⟨rdT [_,_] (y2 h2 (m.set i (scl v c k))) rfl hdL,trivial⟩ ?_))
  refine sw (Y1 ag40 (by first | exact E2 _ _ _ | exact (E2 _ _ _).trans sM) (f1n hi hlen) L) t1 ⟨rdT [_,_] (y2 h2 (m.set i (scl v c k))) rfl hdL,trivial⟩ ?_
  refine mV L rfl (lp4 ag47 sz47 L rfl rfl (lp4 ag47 sz47 L rfl rfl (cK hG hX cl67 hN (q8 ((scl v c k).getD k 0) c (by rw [j1f hk2]; exact hs _ (j4 hk2)) hc) L t2 ?_)))
  refine sw (n0j un40 sz47 (by first | exact Y2 _ | exact (Y2 _).trans oM) (j:=k) rO oM L) t2 ⟨rdT [_,_] (y2 h2 (m.set i (scl v c k))) rfl (rwS h2 hi),trivial⟩ ?_
  refine sb (B0v (n:=4) sz47 (by first | exact Y2 _ | exact (Y2 _).trans oM) rfl oM) t2 ⟨rdT [_,_] (y2 h2 (m.set i (scl v c k))) rfl (rwS h2 hi),trivial⟩ ?_
  refine O1 ⟨h0n [⟨[0],[],[18],[]⟩,⟨[1],[],[19],[]⟩,⟨[18,19],[1000],[20],[]⟩,⟨[20],[1000],[21],[]⟩,⟨[6],[],[22],[]⟩,⟨[7],[7],[23],[]⟩,⟨[5],[5],[24],[]⟩,⟨[23,24],[],[25],[]⟩,⟨[21,22],[1000],[26],[]⟩,⟨[26,25],[1000],[],[1000]⟩] (.cons (cf0 rfl) (.cons (cf0 rfl) (.cons (cfT rfl rfl (V8 (by first | exact B6 _ | exact C5 _ _)) rfl (fun _ h=>by cases h)) (.cons (cfT rfl rfl (V8 (by first | exact B6 _ | exact C5 _ _)) rfl (fun _ h=>by cases h)) (.cons (cf0 rfl) (.cons (cf0 rfl) (.cons (cf0 rfl) (.cons (cf0 rfl) (.cons (cfT rfl rfl (V8 (by first | exact B6 _ | exact C5 _ _)) rfl (fun _ h=>by cases h)) (.cons (cfT rfl rfl (V8 (by first | exact B6 _ | exact C5 _ _)) rfl (V8 (by first | exact B6 _ | exact C5 _ _)))  .nil)))))))))) rfl (frS [] [_,_] (y2 h2 (m.set i (scl v c k))) rfl rfl) dC,(show n4 _ _ _ _ _ from exw (sl:=[(0,_),(1,_),(5,_),(11,_),(12,_),(13,_)]) (hb:=(5,_) :: ((I2 s (m.set i (scl v c (k+1)))))) t6 ⟨rfl,(hbS [_,_] rfl h2 hi ((k0c ((scl v c k).getD k 0*c) oM).trans (by rw [D1r hk2])) sM)⟩ ?_)⟩
  refine j3 (sw (B3 L (w64 oM oM)) t2 t0 (mV L rfl (O1 ?_)))
  exact ⟨k+1,oM,by omega,l3 ⟨oR,rfl,rfl,rfl,rfl,rfl,trivial⟩ ⟨rfl,(hbT [_] (y2 h2 (m.set i (scl v c (k+1)))) rfl)⟩⟩
 ·have hc2:=df hc2
  refine G2 ?_
  refine ⟨.inl rfl,X4.cast .nil ?_,(by rw [← J1x,show v.length=k by omega]; exact hbT [_] (y2 h2 _) rfl)⟩
  rfl
def tak (v u:List Rat)(c:Rat)(k:Nat):List Rat:=(List.zipWith (fun a b=>a - c*b) v u).take k++v.drop k
theorem n0s {v u:List Rat}(c:Rat)(k:Nat)(h:u.length=v.length):(tak v u c k).length=v.length:=by simp [tak]; omega
theorem K1m {v u:List Rat}{c:Rat}{k:Nat}(h:k<v.length)(hu:u.length=v.length):(tak v u c k).getD k 0=v.getD k 0:=by
 simp only [tak,f0]
 rw [D0 sO]
 congr 1; simp; congr 1; omega
theorem W0z {v u:List Rat}{c:Rat}{k:Nat}(h:k<v.length)(hu:u.length=v.length):(tak v u c k).set k ((tak v u c k).getD k 0 - c*u.getD k 0)=tak v u c (k+1):=by
 rw [K1m h hu,tak,tak,List.set_append,if_neg sO]
 have e:k - ((List.zipWith (fun a b=>a - c*b) v u).take k).length=0:=by simp; omega
 rw [e,I1,List.append_assoc]
 have e2:(List.drop k v).set 0 (v.getD k 0 - c*u.getD k 0)=(v.getD k 0 - c*u.getD k 0) :: List.drop (k+1) v:=by
  rw [List.drop_eq_getElem_cons h,List.set_cons_zero]
 have e3:(List.zipWith (fun a b=>a - c*b) v u)[k]?.toList=[v.getD k 0 - c*u.getD k 0]:=by
  have h2:k<u.length:=by omega
  simp [List.getElem?_zipWith,f0,h,h2]
 rw [e2,e3]; rfl
theorem D1j {v u:List Rat}{c:Rat}{k:Nat}(h:k<v.length)(hu:u.length=v.length)(h0:u.getD k 0=0):tak v u c k=tak v u c (k+1):=by
 rw [← W0z h hu,h0,Rat.mul_zero,show ∀ x:Rat,x - 0=x from fun x=>by grind]
 have hl:=n0s (v:=v) (u:=u) c k hu
 simp [f0,show k<(tak v u c k).length by omega]
theorem K1r {v u:List Rat}{c:Rat}(hu:u.length=v.length):tak v u c v.length=List.zipWith (fun a b=>a - c*b) v u:=by
 simp [tak,C0,hu]
theorem F1n {v u:List Rat}{c:Rat}:tak v u c 0=v:=by simp [tak]
theorem P1g (a:Rat):n0b a 0=0↔a=0:=by
 unfold n0b
 constructor
 ·intro h
  split at h
  ·cases h
  ·split at h
   ·cases h
   ·rename_i h1 h2; exact Rat.le_antisymm (Rat.not_lt.1 h2) (Rat.not_lt.1 h1)
 ·rintro rfl; simp [Rat.lt_irrefl]
theorem T6 (a:Rat)(ha:qw a<1000000000):v3 E 65 [pQ a] (bZ (decide (a=0))):=by
 refine D2 (xs:=[bZ (decide (a=0))]) Tryz.func65 rfl Tryz.ntmps65 Tryz.results65 sM fun F hG hX0 hnt hdf P0=>?_
 obtain ⟨L,hX,hN⟩:=pro hnt hX0 hG
 refine exr (swb (U3 (k:=1) (n:=4) pa4 rfl rfl (P0 _ rfl) L) t1 t0 ⟨rfl,rfl⟩ (aV L rfl (zn [(1,_)] [(1,_)] t1 t1 (exr (lp4 ag47 sz47 L rfl rfl (cK hG hX cl108 hN (G0a a ha) L t1 (sw (c_e L) t2 t0 (aV L rfl (zn [(2,_)] [] t1 trivial (X1 ?_))))))))))
 refine Q0 (.tmp rfl) ?_
 rw [show decide (n0b a 0=0)=decide (a=0) from decide_eq_decide.2 (P1g a)]
theorem l7 (n:Int)(h : -9223372036854775808≤n)(h1:n<9223372036854775808):v3 E 55 [vZ n] (pQ (n:Rat)):=by
 refine D2 (xs:=[pQ (n:Rat)]) Tryz.func55 rfl Tryz.ntmps55 Tryz.results55 sM fun F hG hX0 hnt hdf P0=>?_
 obtain ⟨L,hX,hN⟩:=pro hnt hX0 hG
 refine exr (swb (R3 (k:=2) (n:=4) zv47 (.cons rfl (.cons rfl (.cons rfl (.cons rfl .nil)))) rfl (P0 _ rfl) L) t0 t0 ⟨rfl,rfl⟩ (zn [(0,_),(2,_)] [(2,_)] t2 t1 (exr (mV L rfl (cK hG hX cl101 hN (P0w n h h1) L t1 (cK hG hX cl100 hN (B0k n) L t1 (sb (U2 sz47 rF pa4 rfl pu4) t2 t1 ?_)))))))
 refine zn [(2,_)] [(2,_)] t1 t1 (X1 ?_)
 refine Q0 (.agg rfl rfl rfl ag47 sz47 (.cons (.cons (.cons (.cons .nil))))) ?_
 rfl
@[reducible] def bQ (a:Rat):Blk:=⟨47,4,.mix [.p (.a (.bool (decide (a.num<0)))),.p (.sl (y3 a.num.natAbs).length (J4 (y3 a.num.natAbs))),.p (.a (.bool (decide ((a.den:Int)<0)))),.p (.sl (y3 (a.den:Int).natAbs).length (J4 (y3 (a.den:Int).natAbs)))]⟩
def H8 (v:List Rat):Rat:=v.foldl (· + ·) 0
theorem N0a (v:List Rat)(a:Rat):H8 (v++[a])=H8 v+a:=by simp [H8]
theorem N0c {v:List Rat}{k:Nat}(h:k<v.length):H8 (v.take (k+1))=H8 (v.take k)+v.getD k 0:=by
 rw [I1,show v[k]?.toList=[v.getD k 0] by simp [f0,h],N0a]
theorem g1c {B:Nat}:∀ {v:List Rat},(∀ a∈v,qw a≤B)→qw (H8 v)≤v.length*(B+1)+1:=by
 intro v
 suffices h:∀ (n:Nat) (l:List Rat),l.length=n→(∀ a∈l,qw a≤B)→qw (H8 l)≤l.length*(B+1)+1 from h _ v rfl
 intro n
 induction n with
 | zero=>intro l hl _; rw [E0 hl]; simp [H8,d0m]
 | succ n ih =>
  intro l hl hB
  obtain ⟨l',a,rfl⟩:∃ l' a,l=l'++[a]:=⟨l.dropLast,l.getLast (by intro e; simp [e] at hl),(List.dropLast_concat_getLast _).symm⟩
  simp only [K1,D1,List.length_nil] at hl
  have h1:=ih l' oM (fun b hb=>hB b (by simp [hb]))
  have h2:=hB a sM
  have h3:=B1j (H8 l') a
  rw [N0a,K1,D1,List.length_nil,Nat.add_mul]
  omega
theorem y0v {B:Nat}{v:List Rat}{k:Nat}(h:∀ a∈v,qw a≤B):qw (H8 (v.take k))≤v.length*(B+1)+1:=by
 have h1:=g1c (v:=v.take k) (B:=B) fun a ha=>h a (List.mem_of_mem_take ha)
 have h2:(v.take k).length*(B+1)≤v.length*(B+1):=V0 _ sO
 omega
theorem q0w (v:List Rat)(B:Nat)(hl:v.length<1000000000)(hB:∀ a∈v,qw a≤B)(hb:v.length*(B+1)+1<900000000):v3 E 68 [pV v] (pQ (H8 v)):=by
 refine D2 (xs:=[pQ (H8 v)]) Tryz.func68 rfl Tryz.ntmps68 Tryz.results68 sM fun F hG hX0 hnt hdf P0=>?_
 obtain ⟨L,hX,hN⟩:=pro hnt hX0 hG
 have hBB:∀ a∈v,qw a<1000000000:=fun a ha=>by
  have h1:=hB a ha
  have h2:0<v.length:=List.length_pos_of_mem ha
  have h3:1*(B+1)≤v.length*(B+1):=V0 _ h2
  omega
 refine exr (swb (R3 (k:=2) (n:=4) zv47 (.cons rfl (.cons rfl (.cons rfl (.cons rfl .nil)))) rfl (P0 _ rfl) L) t0 t0 ⟨rfl,rfl⟩ (zn [(0,_),(2,_)] [(2,_)] t2 t1 (exr (cK hG hX cl55 hN (l7 0 dC dC) L t1 (swb (R3 (k:=3) (n:=4) zv47 (.cons rfl (.cons rfl (.cons rfl (.cons rfl .nil)))) rfl (P0 _ rfl) L) t0 t0 ⟨rfl,rfl⟩ (sb (U2 sz47 rF pa4 rfl pu4) t2 t1 ?_))))))
 refine zn [(0,_),(2,_),(3,_)] [(2,_),(3,_)] t3 t2 (R1 (exr (mV L rfl (sw (R2 un40 L) t1 t0 (mV L rfl (zn [(2,_),(3,_),(7,_),(8,_),(9,_)] [(2,_),(3,_)] t5 t2 (V1 ?_)))))))
 refine exl (α:=Nat) (fun k=>[(9,vi (k:Int))]) (fun k=>[(3,bQ (H8 (v.take k)))]) (fun k=>k≤v.length) (fun k=>v.length - k) (0) (sl:=[(2,_),(3,_),(7,_),(8,_)]) (hb:=[(2,_)]) ?_ ⟨oR,rfl,rfl,rfl,rfl,trivial⟩ t2 ?_
 ·exact Nat.zero_le _
 intro k hk
 refine exr (sw (P3 L) t2 t0 (zn [(2,_),(3,_),(7,_),(8,_),(9,_),(10,_)] [(2,_),(3,_)] t6 t2 (R1 ?_)))
 refine j2 rfl (fun hc=>?_) (fun hc=>?_)
 ·have hc:=dt hc
  have hkl:k<v.length:=by omega
  have hq:=y0v (k:=k) hB
  refine U1 (xq ?_)
  refine R1 (V1 (exr (sw (Z1 un40 sz47 oM oM sM dC L) t2 t0 ?_)))
  refine sw (L6 ag47 sz47 (M6 hkl) rfl L) t1 t0 (swb (R3 (k:=5) (n:=4) zv47 (.cons rfl (.cons rfl (.cons rfl (.cons rfl .nil)))) rfl (P0 _ rfl) L) t0 t0 ⟨rfl,rfl⟩ (sb (U2 sz47 rF pa4 rfl pu4) t2 t1 ?_))
  refine zn [(2,_),(3,_),(5,_),(7,_),(8,_),(9,_)] [(2,_),(3,_),(5,_)] t6 t3 (j3 (lp4 ag47 sz47 L rfl rfl (lp4 ag47 sz47 L rfl rfl (cK hG hX cl112 hN (K0d (H8 (v.take k)) (v.getD k 0) oM (hBB _ (j4 hkl))) L t2 (sb (U2 sz47 rF pa4 rfl pu4) t2 t1 ?_)))))
  refine O1 (j3 (sw (B3 L (w64 oM oM)) t2 t0 (mV L rfl (O1 ?_))))
  exact ⟨k+1,oM,by omega,l3 ⟨oR,rfl,rfl,rfl,rfl,trivial⟩ ⟨obl rfl (by rw [N0c hkl]),rfl,trivial⟩⟩
 ·have hc:=df hc
  refine G2 (xq ?_)
  refine exr (lp4 ag47 sz47 L rfl rfl (sb (U2 sz47 rF pa4 rfl pu4) t2 t1 ?_))
  refine zn [(2,_)] [(2,_)] t1 t1 (X1 ?_)
  refine Q0 (.agg rfl rfl rfl ag47 sz47 (.cons (.cons (.cons (.cons .nil))))) ?_
  rw [C0 oM]
theorem hbI {S:St}{l l':List (Nat×Blk)}(e:l=l')(h:O5 S l'):O5 S l:=e ▸ h
@[reducible] def q1y (k:Nat):List Rat→PV
 | []=>.p (.a (.slice none 0 0))
 | a :: v=>.ref k 0 (a :: v).length ((a :: v).length*4)
@[reducible] def q1k (k:Nat):List Rat→List (Nat×Blk)
 | []=>[]
 | a :: v=>[(k,⟨47,4,.pure (L5 (a :: v))⟩)]
theorem L9 (v:List Rat)(a:Rat):(⟨47,4,.pure (L5 v++cQ a)⟩:Blk)=T3 (v++[a]):=by rw [T3,q0c]; simp [L5]
def J0p (u v:List Rat):List Rat:=((List.zip u v).filter fun p=>decide (p.1≠0∧p.2≠0)).map fun p=>p.1*p.2
def O9 (u v:List Rat):Rat:=H8 (J0p u v)
theorem k0r {u v:List Rat}:(J0p u v).length≤u.length:=by
 unfold J0p; rw [O0]
 refine Nat.le_trans (List.length_filter_le _ _) ?_
 simp; omega
theorem M0w {u v:List Rat}{k:Nat}(h:k<u.length)(hv:u.length=v.length):J0p (u.take (k+1)) v=J0p (u.take k) v++(if u.getD k 0≠0∧v.getD k 0≠0 then [u.getD k 0*v.getD k 0] else []):=by
 have h2:k<v.length:=by omega
 have e:List.zip (u.take (k+1)) v=List.zip (u.take k) v++[(u.getD k 0,v.getD k 0)]:=by
  apply List.ext_getElem?
  intro i
  rw [List.getElem?_append]
  simp only [List.zip,List.getElem?_zipWith,List.length_zipWith,J0,List.getElem?_take]
  by_cases h3:i<k
  ·rw [if_pos oM,if_pos oM,if_pos oM]
  ·rw [if_neg (show ¬ i<min (min k u.length) v.length by omega)]
   by_cases h4:i=k
   ·subst h4
    rw [if_pos oM]
    have:i - min (min i u.length) v.length=0:=by omega
    rw [this]; simp [f0,h,h2]
   ·rw [if_neg oM]
    obtain ⟨m,hm⟩:∃ m,i - min (min k u.length) v.length=m+1:=⟨i - min (min k u.length) v.length - 1,by omega⟩
    rw [hm]; rfl
 unfold J0p
 rw [e,List.filter_append,List.map_append]
 congr 1
 by_cases hc:u.getD k 0≠0∧v.getD k 0≠0
 ·rw [if_pos hc,List.filter_cons_of_pos (by simpa using hc)]; rfl
 ·rw [if_neg hc,List.filter_cons_of_neg (by simpa using hc)]; rfl
theorem V0c {B C:Nat}{u v:List Rat}(hB:∀ a∈u,qw a≤B)(hC:∀ a∈v,qw a≤C):∀ a∈J0p u v,qw a≤B+C:=by
 intro a ha
 simp only [J0p,G0,List.mem_filter] at ha
 obtain ⟨p,⟨h1,-⟩,rfl⟩:=ha
 have h2:=List.of_mem_zip (a:=p.1) (b:=p.2) h1
 have:=d9 p.1 p.2
 have:=hB _ h2.1
 have:=hC _ h2.2
 omega
theorem G0x (u v:List Rat)(B C:Nat)(huv:u.length=v.length)(hl:u.length<1000000000)(hB:∀ a∈u,qw a≤B)(hC:∀ a∈v,qw a≤C)(hBl:B<1000000000)(hCl:C<1000000000)(hb:u.length*(B+C+1)+1<900000000):v3 E 70 [pV u,pV v] (pQ (O9 u v)):=by
 refine D2 (xs:=[pQ (O9 u v)]) Tryz.func70 rfl Tryz.ntmps70 Tryz.results70 sM fun F hG hX0 hnt hdf P0=>?_
 obtain ⟨L,hX,hN⟩:=pro hnt hX0 hG
 refine exr (swb (R3 (k:=4) (n:=4) zv47 (.cons rfl (.cons rfl (.cons rfl (.cons rfl .nil)))) rfl (P0 _ rfl) L) t0 t0 ⟨rfl,rfl⟩ (zn [(0,_),(1,_),(4,_)] [(4,_)] t3 t1 (exr (aV L rfl (zn [(0,_),(1,_),(4,_),(5,_)] [(4,_)] t4 t1 (R1 (exr (mV L rfl (sw (R2 un40 L) t1 t0 (mV L rfl (zn [(1,_),(4,_),(5,_),(8,_),(9,_),(10,_)] [(4,_)] t6 t1 ?_)))))))))))
 refine V1 ?_
 refine exl (α:=(Nat×List Rat)) (fun x=>[(10,vi (x.1:Int)),(5,q1y 34 x.2)]) (fun x=>[]++q1k 34 x.2) (fun x=>x.1≤u.length∧J0p (u.take x.1) v=x.2) (fun x=>u.length - x.1) ((0,[])) (sl:=[(1,_),(4,_),(8,_),(9,_)]) (hb:=[(4,_)]) ?_ ⟨oR,oR,rfl,rfl,rfl,rfl,trivial⟩ (hbI (l':=[(4,_)]) rfl t1) ?_
 ·exact ⟨Nat.zero_le _,rfl⟩
 intro x hk
 obtain ⟨k,T⟩:=x
 obtain ⟨hk,hT⟩:=hk
 simp only at hk hT
 rcases T with _ | ⟨q,T⟩
 ·dsimp only [q1y,q1k,List.append_nil]
  refine exr (sw (P3 L) t2 t0 (zn [(1,_),(4,_),(5,_),(8,_),(9,_),(10,_),(11,_)] [(4,_)] t7 t1 (R1 ?_)))
  refine j2 rfl (fun hc=>?_) (fun hc=>?_)
  ·have hc:=dt hc
   have hk2:k<u.length:=by omega
   have hk3:k<v.length:=by omega
   have ht:=M0w hk2 huv
   have b1:qw (u.getD k 0)≤B:=hB _ (j4 hk2)
   have b2:qw (v.getD k 0)≤C:=hC _ (j4 hk3)
   refine U1 (xq ?_)
   refine R1 (V1 (exr (mV L rfl (sw (Z1 un40 sz47 oM oM sM dC L) t2 t0 ?_))))
   refine sw (L6 ag47 sz47 (M6 hk2) rfl L) t1 t0 (swb (R3 (k:=7) (n:=4) zv47 (.cons rfl (.cons rfl (.cons rfl (.cons rfl .nil)))) rfl (P0 _ rfl) L) t0 t0 ⟨rfl,rfl⟩ (aV L rfl (sb (U2 sz47 rF pa4 rfl pu4) t2 t1 ?_)))
   refine zn [(1,_),(4,_),(5,_),(6,_),(7,_),(8,_),(9,_),(10,_)] [(4,_),(7,_)] t8 t2 ?_
   refine exm (sl:=[(25,vb (decide (u.getD k 0≠0∧v.getD k 0≠0)))]) (sl0:=[(1,_),(4,_),(5,_),(6,_),(7,_),(8,_),(9,_),(10,_)]) (hb:=[]) (hb0:=[(4,_),(7,_)]) t8 t2 ?_ ?_
   ·by_cases h0:u.getD k 0=0
    ·refine lp4 ag47 sz47 L rfl rfl (cK hG hX cl65 hN (T6 (u.getD k 0) oM) L t1 (sw (C4 L) t1 t0 (mV L rfl (swn (g:=18) rfl (by rw [h0]; rfl) L rfl ?_))))
     refine swn (g:=18) rfl (by rw [h0]; rfl) L rfl ?_
     refine swn (g:=18) rfl (by rw [h0]; rfl) L rfl ?_
     refine swn (g:=18) rfl (by rw [h0]; rfl) L rfl ?_
     refine swn (g:=18) rfl (by rw [h0]; rfl) L rfl ?_
     refine swn (g:=18) rfl (by rw [h0]; rfl) L rfl ?_
     refine sw (y4 (by rw [h0]; rfl) L) t2 t0 ?_
     exact O1 ⟨⟨ob rfl (by simp only [h0]; rfl),rfl,rfl,rfl,rfl,rfl,rfl,rfl,rfl,trivial⟩,t2⟩
    ·refine lp4 ag47 sz47 L rfl rfl (cK hG hX cl65 hN (T6 (u.getD k 0) oM) L t1 (sw (C4 L) t1 t0 (mV L rfl (gV (g:=18) rfl (by simp only [h0]; rfl) L rfl rfl ?_))))
     refine gV (g:=18) rfl (by simp only [h0]; rfl) L rfl rfl ?_
     refine swg (g:=18) rfl (by simp only [h0]; rfl) (Z1 un40 sz47 oM oM sM dC L) rfl t2 t0 ?_
     refine swg (g:=18) rfl (by simp only [h0]; rfl) (L6 ag47 sz47 (M6 hk3) rfl L) rfl t1 t0 ?_
     refine swg (g:=18) rfl (by simp only [h0]; rfl) (c_c hG hX cl65 rfl hN (T6 (v.getD k 0) oM) L) rfl t1 t0 ?_
     refine swg (g:=18) rfl (by simp only [h0]; rfl) (C4 L) rfl t1 t0 ?_
     refine sw (O4 (by simp only [h0]; rfl) L) t2 t0 ?_
     exact O1 ⟨⟨ob rfl (by rw [decide_eq_decide.2 (show (¬ (v.getD k 0=0))↔(u.getD k 0≠0∧v.getD k 0≠0) from ⟨fun h=>⟨h0,h⟩,fun h=>h.2⟩).symm]; exact (decide_not).symm),rfl,rfl,rfl,rfl,rfl,rfl,rfl,rfl,trivial⟩,t2⟩
   refine j2 rfl (fun h1=>?_) (fun h1=>?_)
   ·have h1:=dt h1
    rw [if_pos h1,hT] at ht
    refine b0z rF ?_
    refine mV L rfl (lp4 ag47 sz47 L rfl rfl (mV L rfl (mV L rfl (sw (Z1 un40 sz47 oM oM sM dC L) t2 t0 ?_))))
    refine sw (L6 ag47 sz47 (M6 hk3) rfl L) t1 t0 (cK hG hX cl67 hN (q8 (u.getD k 0) (v.getD k 0) oM oM) L t2 (sw (q4 (vs:=[_]) un40 ti47 rfl rfl dC dC rfl (K2 (.cons rfl (.cons rfl (.cons rfl (.cons rfl .nil)))) rfl) rfl (.cons rfl pa4 rfl pu4 .nil) (.cons (.cons (.cons (.cons .nil)))) L) t1 t0 (swb (apN (k:=34) (sz:=4) un40 un40 ti47 rfl rfl rfl dC sM rfl (by first | (simp [Tryz.t47]; done) | (simp [Tryz.t47]; omega)) oM (P0 _ rfl) L) t2 t0 ⟨rfl,rfl⟩ ?_)))
    refine aV L rfl ?_
    refine O1 ⟨aok rfl rfl,?_⟩
    refine j3 (sw (B3 L (w64 oM oM)) t2 t0 (mV L rfl (O1 ?_)))
    exact ⟨(k+1,[u.getD k 0*v.getD k 0]),⟨by simp only; omega,ht⟩,(by simp only; omega),l3 ⟨oR,oR,rfl,rfl,rfl,rfl,trivial⟩ (hbI (l':=[(34,_),(4,_)]) rfl t2)⟩
   ·have h1:=df h1
    rw [if_neg h1,hT,List.append_nil] at ht
    refine U1 (xq ?_)
    refine j3 (sw (B3 L (w64 oM oM)) t2 t0 (mV L rfl (O1 ?_)))
    exact ⟨(k+1,[]),⟨by simp only; omega,ht⟩,(by simp only; omega),l3 ⟨oR,oR,rfl,rfl,rfl,rfl,trivial⟩ (hbI (l':=[(4,_)]) rfl t1)⟩
  ·have hc:=df hc
   have hku:k=u.length:=by omega
   rw [hku,I0] at hT
   refine G2 (xq ?_)
   refine s4 [] (sl:=[(4,_),(5,_)]) (hb:=[(4,_)]) (F3 hX0) ⟨⟨_,rfl,.same⟩,⟨_,rfl,(.p .nil)⟩,trivial⟩ ⟨⟨rfl,_,rfl,.same⟩,trivial⟩ (exr (mV L rfl (cK hG hX cl68 hN (q0w [] (B+C) (by rw [← hT]; have:=k0r (u:=u) (v:=v); omega) (by rw [← hT]; exact V0c hB hC) (by rw [← hT]; have:=V0 (B+C+1) (k0r (u:=u) (v:=v)); omega)) L t1 ?_)))
   refine sb (U2 sz47 rF pa4 rfl pu4) t2 t1 ?_
   refine zn [(4,_)] [(4,_)] t1 t1 (X1 ?_)
   refine Q0 (.agg rfl rfl rfl ag47 sz47 (.cons (.cons (.cons (.cons .nil))))) ?_
   rw [O9,hT]
 ·dsimp only [q1y,q1k]
  have hTl:T.length+1≤u.length:=by
   have h1:=k0r (u:=u.take k) (v:=v)
   rw [hT] at h1; simp at h1; omega
  have hTl2:(q :: T).length≤u.length:=hTl
  refine exr (sw (P3 L) t2 t0 (zn [(1,_),(4,_),(5,_),(8,_),(9,_),(10,_),(11,_)] [(4,_),(34,_)] t7 t2 (R1 ?_)))
  refine j2 rfl (fun hc=>?_) (fun hc=>?_)
  ·have hc:=dt hc
   have hk2:k<u.length:=by omega
   have hk3:k<v.length:=by omega
   have ht:=M0w hk2 huv
   have b1:qw (u.getD k 0)≤B:=hB _ (j4 hk2)
   have b2:qw (v.getD k 0)≤C:=hC _ (j4 hk3)
   refine U1 (xq ?_)
   refine R1 (V1 (exr (mV L rfl (sw (Z1 un40 sz47 oM oM sM dC L) t2 t0 ?_))))
   refine sw (L6 ag47 sz47 (M6 hk2) rfl L) t1 t0 (swb (R3 (k:=7) (n:=4) zv47 (.cons rfl (.cons rfl (.cons rfl (.cons rfl .nil)))) rfl (P0 _ rfl) L) t0 t0 ⟨rfl,rfl⟩ (aV L rfl (sb (U2 sz47 rF pa4 rfl pu4) t2 t1 ?_)))
   refine zn [(1,_),(4,_),(5,_),(6,_),(7,_),(8,_),(9,_),(10,_)] [(4,_),(7,_),(34,_)] t8 t3 ?_
   refine exm (sl:=[(25,vb (decide (u.getD k 0≠0∧v.getD k 0≠0)))]) (sl0:=[(1,_),(4,_),(5,_),(6,_),(7,_),(8,_),(9,_),(10,_)]) (hb:=[]) (hb0:=[(4,_),(7,_),(34,_)]) t8 t3 ?_ ?_
   ·by_cases h0:u.getD k 0=0
    ·refine lp4 ag47 sz47 L rfl rfl (cK hG hX cl65 hN (T6 (u.getD k 0) oM) L t1 (sw (C4 L) t1 t0 (mV L rfl (swn (g:=18) rfl (by rw [h0]; rfl) L rfl ?_))))
     refine swn (g:=18) rfl (by rw [h0]; rfl) L rfl ?_
     refine swn (g:=18) rfl (by rw [h0]; rfl) L rfl ?_
     refine swn (g:=18) rfl (by rw [h0]; rfl) L rfl ?_
     refine swn (g:=18) rfl (by rw [h0]; rfl) L rfl ?_
     refine swn (g:=18) rfl (by rw [h0]; rfl) L rfl ?_
     refine sw (y4 (by rw [h0]; rfl) L) t2 t0 ?_
     exact O1 ⟨⟨ob rfl (by simp only [h0]; rfl),rfl,rfl,rfl,rfl,rfl,rfl,rfl,rfl,trivial⟩,t3⟩
    ·refine lp4 ag47 sz47 L rfl rfl (cK hG hX cl65 hN (T6 (u.getD k 0) oM) L t1 (sw (C4 L) t1 t0 (mV L rfl (gV (g:=18) rfl (by simp only [h0]; rfl) L rfl rfl ?_))))
     refine gV (g:=18) rfl (by simp only [h0]; rfl) L rfl rfl ?_
     refine swg (g:=18) rfl (by simp only [h0]; rfl) (Z1 un40 sz47 oM oM sM dC L) rfl t2 t0 ?_
     refine swg (g:=18) rfl (by simp only [h0]; rfl) (L6 ag47 sz47 (M6 hk3) rfl L) rfl t1 t0 ?_
     refine swg (g:=18) rfl (by simp only [h0]; rfl) (c_c hG hX cl65 rfl hN (T6 (v.getD k 0) oM) L) rfl t1 t0 ?_
     refine swg (g:=18) rfl (by simp only [h0]; rfl) (C4 L) rfl t1 t0 ?_
     refine sw (O4 (by simp only [h0]; rfl) L) t2 t0 ?_
     exact O1 ⟨⟨ob rfl (by rw [decide_eq_decide.2 (show (¬ (v.getD k 0=0))↔(u.getD k 0≠0∧v.getD k 0≠0) from ⟨fun h=>⟨h0,h⟩,fun h=>h.2⟩).symm]; exact (decide_not).symm),rfl,rfl,rfl,rfl,rfl,rfl,rfl,rfl,trivial⟩,t3⟩
   refine j2 rfl (fun h1=>?_) (fun h1=>?_)
   ·have h1:=dt h1
    rw [if_pos h1,hT] at ht
    refine b0z rF ?_
    refine mV L rfl (lp4 ag47 sz47 L rfl rfl (mV L rfl (mV L rfl (sw (Z1 un40 sz47 sM (by simp; trace_state; omega) sM dC L) t2 t0 ?_))))
    refine sw (L6 ag47 sz47 (M6 hk3) rfl L) t1 t0 (cK hG hX cl67 hN (q8 (u.getD k 0) (v.getD k 0) oM oM) L t2 (sw (q4 (vs:=[_]) un40 ti47 rfl rfl dC dC rfl (K2 (.cons rfl (.cons rfl (.cons rfl (.cons rfl .nil)))) rfl) rfl (.cons rfl pa4 rfl pu4 .nil) (.cons (.cons (.cons (.cons .nil)))) L) t1 t0 (swb (apP (sz:=4) un40 un40 ti47 rfl rfl rfl dC (by exact sM) oF sM rfl rfl rfl (by first | (simp [Tryz.t47]; done) | (simp [Tryz.t47]; omega)) oM (P0 _ rfl) L) t2 t1 t0 ?_)))
    refine aV L rfl ?_
    refine O1 ⟨d5 [⟨[5],[],[26],[]⟩,⟨[7],[7],[27],[]⟩,⟨[1],[],[28],[]⟩,⟨[6],[],[29],[]⟩,⟨[28,29],[],[30],[]⟩,⟨[30],[],[31],[]⟩,⟨[27,31],[],[32],[]⟩,⟨[32],[],[33],[]⟩,⟨[26,33],[34],[34],[34]⟩,⟨[34],[],[5],[]⟩] rF rF dC,?_⟩
    refine j3 (sw (B3 L (w64 oM oM)) t2 t0 (mV L rfl (O1 ?_)))
    exact ⟨(k+1,q :: T++[u.getD k 0*v.getD k 0]),⟨by simp only; omega,ht⟩,(by simp only; omega),l3 ⟨oR,(by exact ov rfl sO),rfl,rfl,rfl,rfl,trivial⟩ (hbI (l':=[(34,_),(4,_)]) rfl ⟨(obl rfl (L9 (q :: T) _)),rfl,trivial⟩)⟩
   ·have h1:=df h1
    rw [if_neg h1,hT,List.append_nil] at ht
    refine U1 (xq ?_)
    refine j3 (sw (B3 L (w64 oM oM)) t2 t0 (mV L rfl (O1 ?_)))
    exact ⟨(k+1,q :: T),⟨by simp only; omega,ht⟩,(by simp only; omega),l3 ⟨oR,oR,rfl,rfl,rfl,rfl,trivial⟩ (hbI (l':=[(34,_),(4,_)]) rfl t2)⟩
  ·have hc:=df hc
   have hku:k=u.length:=by omega
   rw [hku,I0] at hT
   refine G2 (xq ?_)
   refine s4 [34] (sl:=[(4,_),(5,_)]) (hb:=[(4,_)]) (F3 hX0) ⟨⟨_,rfl,.same⟩,⟨_,rfl,(.ref rfl rfl (by exact sM) (by first | rfl | omega))⟩,trivial⟩ ⟨⟨rfl,_,rfl,.same⟩,trivial⟩ ?_
   refine exr (mV L rfl (cK hG hX cl68 hN (q0w (q :: T) (B+C) (by rw [← hT]; have:=k0r (u:=u) (v:=v); omega) (by rw [← hT]; exact V0c hB hC) (by rw [← hT]; have:=V0 (B+C+1) (k0r (u:=u) (v:=v)); omega)) L t1 ?_))
   refine sb (U2 sz47 rF pa4 rfl pu4) t2 t1 ?_
   refine zn [(4,_)] [(4,_)] t1 t1 (X1 ?_)
   refine Q0 (.agg rfl rfl rfl ag47 sz47 (.cons (.cons (.cons (.cons .nil))))) ?_
   rw [O9,hT]
theorem Y0h (v:List Rat)(hl:v.length<1000000000):y0r E 89 [pV v] 47 4 v.length (L5 v):=by
 refine p0s (k:=3) (tot:=v.length*4) Tryz.func89 rfl Tryz.ntmps89 Tryz.results89 sM fun F hG hX0 hnt hdf P0=>?_
 obtain ⟨L,hX,hN⟩:=pro hnt hX0 hG
 refine exr (aV L rfl (zn [(0,_)] [] t1 trivial (exr (swb (f9 (k:=3) (sz:=4) un40 ti47 (P0 _ rfl) L) t0 t0 ⟨rfl,rfl⟩ (mV L rfl (swb (apP (sz:=4) un40 un40 ti47 rfl rfl rfl dC rX oF sM rfl rfl rfl (by simp [Tryz.t47]; omega) oM (P0 _ rfl) L) t2 t1 t0 ?_))))))
 refine aV L rfl ?_
 refine O1 ⟨[(2,.ref 3 0 v.length (v.length*4))],[(3,_)],⟨ov rfl sM,trivial⟩,t1,?_⟩
 refine X1 ?_
 refine ⟨.inr rfl,rfl,_,rfl,by simp,?_,by simp⟩
 rw [C0 sM]; rfl
def zq (n:Nat):List Rat:=List.replicate n 0
@[simp] theorem b0b (n:Nat):(zq n).length=n:=by simp [zq]
theorem P0j (n:Nat):zq (n+1)=zq n++[0]:=by simp [zq,List.replicate_succ']
def zc0:List L2:=[.a (.bool false),.a (.slice none 0 0),.a (.bool false),.a (.slice none 0 0)]
theorem n1v (n:Nat)(z:List L2):Z8 (n+1) z=z++Z8 n z:=by simp [Z8,List.replicate_succ]
theorem v0v {v:List Rat}{n k:Nat}(hv:v.length=k)(h:k<n)(a:Rat):(L5 v++Z8 (n - k) zc0).take (k*4)++cQ a++(L5 v++Z8 (n - k) zc0).drop (k*4+4)=L5 (v++[a])++Z8 (n - (k+1)) zc0:=by
 have e:(L5 v).length=k*4:=by rw [Y2,hv]
 obtain ⟨m,hm⟩:∃ m,n - k=m+1:=⟨n - k - 1,by omega⟩
 rw [hm,show n - (k+1)=m by omega,n1v]
 rw [List.take_append_of_le_length oM,C0 oM,← List.append_assoc (L5 v),List.drop_append,List.drop_eq_nil_of_le (by rw [K1,e]; simp [zc0])]
 have e2:k*4+4 - (L5 v++zc0).length=0:=by rw [K1,e]; simp [zc0]
 rw [e2,q0c]
 simp [L5]
theorem W6 {v:List Rat}{n k:Nat}(hv:v.length=k)(h:k≤n):(L5 v++Z8 (n - k) zc0).length=n*4:=by
 rw [K1,Y2,n9,hv]; simp only [zc0,D1,List.length_nil]; omega
theorem m0x (n:Nat)(hn:n<1000000000):y0r E 54 [vZ n] 47 4 n (L5 (zq n)):=by
 refine p0s (k:=6) (tot:=n*4) Tryz.func54 rfl Tryz.ntmps54 Tryz.results54 sM fun F hG hX0 hnt hdf P0=>?_
 obtain ⟨L,hX,hN⟩:=pro hnt hX0 hG
 refine exr (aV L rfl (zn [(0,_)] [] t1 trivial (exr (mV L rfl (swb (o6 (sz:=4) (k:=6) un40 ti47 rfl rfl dC rfl rfl rfl rfl rfl (Nat.le_refl _) (by simp [Tryz.t47]; omega) oM (P0 _ rfl) L) t2 t0 ⟨rfl,rfl⟩ ?_)))))
 refine aV L rfl (zn [(3,_)] [(6,_)] t1 t1 (R1 (exr (mV L rfl (sw (p0m un40 (by exact (n9 _ _)) L) t1 t1 ?_)))))
 refine mV L rfl (zn [(3,_),(8,_),(9,_)] [(6,_)] t3 t1 (V1 ?_))
 refine exl (α:=Nat) (fun k=>[(9,vi (k:Int))]) (fun k=>[(6,⟨47,4,.pure (L5 (zq k)++Z8 (n - k) zc0)⟩)]) (fun k=>k≤n) (fun k=>n - k) (0) (sl:=[(3,_),(8,_)]) (hb:=[]) ?_ ⟨oR,rfl,rfl,trivial⟩ t1 ?_
 ·exact Nat.zero_le _
 intro k hk
 refine exr (sw (P3 L) t2 t0 (zn [(3,_),(8,_),(9,_),(10,_)] [(6,_)] t4 t1 (R1 ?_)))
 refine j2 rfl (fun hc=>?_) (fun hc=>?_)
 ·have hc:=dt hc
  refine U1 (xq ?_)
  refine R1 (V1 (exr (mV L rfl (aV L rfl (zn [(3,_),(4,_),(8,_),(9,_)] [(6,_)] t4 t1 (j3 (mV L rfl (mV L rfl (cK hG hX cl55 hN (l7 0 dC dC) L t1 (sw (n0j (sz:=4) un40 sz47 (by exact (W6 (b0b _) hk)) (j:=k) rO oM L) t2 t1 ?_))))))))))
  refine sb (B0v (n:=4) sz47 (by exact (W6 (b0b _) hk)) rfl oM) t2 t1 ?_
  refine O1 (j3 (sw (B3 L (w64 oM oM)) t2 t0 (mV L rfl (O1 ?_))))
  exact ⟨k+1,oM,by omega,l3 ⟨oR,rfl,rfl,trivial⟩ ⟨obl rfl (congrArg (fun c=>(⟨47,4,.pure c⟩:Blk)) ((v0v (b0b k) (show k<n by omega) 0).trans (by rw [P0j]))),trivial⟩⟩
 ·have hc:=df hc
  refine G2 (xq ?_)
  refine exr (mV L rfl (aV L rfl (zn [(2,_)] [(6,_)] t1 t1 (X1 ?_))))
  refine ⟨.inr rfl,rfl,_,rfl,(W6 (b0b _) hk),?_,by simp⟩
  have e:k=n:=by omega
  subst e
  simp [Z8,C0]
theorem V0w {p:Nat→Bool}{i b:Nat}(h:i<b):l4 p i (b - i)=if p i=true then (i:Int) else l4 p (i+1) (b - (i+1)):=by
 obtain ⟨m,hm⟩:∃ m,b - i=m+1:=⟨b - i - 1,by omega⟩
 rw [hm,show b - (i+1)=m by omega]; rfl
theorem n7 (g:FuncId)(caps:List PV)(H:List (Nat×Blk))(hnd:(H.map (·.1)).Nodup)(hw:Whole H)(hcall:∀ args w,(callFunc g args).run E.P w = .ok (.enter g args) w)(p:Nat→Bool)(a b:Nat)(hb:b<9000000000000)(hg:∀ i:Nat,a≤i→i<b→R4 E (fun _=>true) g (List.cons (.p (vZ i)) caps) H H (.p (bZ (p i)))):R4 E (fun _=>true) 52 [.p (vZ a),.p (vZ b),.clo (.func g) [] caps] (H) (H) (.p (vZ (l4 p a (b - a)))):=by
 refine v4 (xs:=[vZ (l4 p a (b - a))]) Tryz.func52 rfl Tryz.ntmps52 Tryz.results52 sM fun F G=>?_
 have L:=@lti _ _ G.nt
 have hG:=G.g
 have hX:=G.x
 have hN:=Y5 hG
 refine exr (aV L rfl ?_)
 refine O1 ⟨[(0,_),(1,_),(2,_)],H,t3,(v5 (l:=H) hnd (fun _ _ h=>h)),?_⟩
 refine R1 (exr (mV L rfl (aV L rfl ?_)))
 refine O1 ⟨[(1,_),(2,_),(7,_)],H,t3,(v5 (l:=H) hnd (fun _ _ h=>h)),?_⟩
 refine V1 ?_
 refine J0n (α:=Nat) (fun i=>[(7,vi (i:Int))]) (fun i=>[]) (fun i=>H) (fun i=>a≤i∧l4 p i (b - i)=l4 p a (b - a)) (fun i=>b - i) (a) (sl:=[(1,_),(2,_)]) (hb:=[]) ?_ ⟨oR,rfl,rfl,trivial⟩ (v5 (l:=H) hnd (fun _ _ h=>h)) ?_
 ·exact ⟨Nat.le_refl _,rfl⟩
 intro i hi
 obtain ⟨hi,hI⟩:=hi
 refine R1 (exr (mV L rfl (mV L rfl (sw (P3 L) t2 t0 ?_))))
 refine O1 ⟨[(1,_),(2,_),(7,_),(11,_)],H,t4,(v5 (l:=H) hnd (fun _ _ h=>h)),?_⟩
 refine j2 rfl (fun hc=>?_) (fun hc=>?_)
 ·have hc:=dt hc
  have hib:i<b:=by omega
  rw [V0w hib] at hI
  refine U1 (xq ?_)
  refine R1 (V1 (exr (mV L rfl (mV L rfl (sw (o5 hG hX hN (hg i hi hib) rfl L (w7 (fst:=[]) (ys:=[_]) (cap:=caps) hcall rfl rfl) hnd hw (fun q h=>by cases h)) t2 (W7 (v5 hnd fun _ _ h=>h)) ?_)))))
  refine O1 ⟨[(1,_),(2,_),(7,_),(16,_)],H,t4,(v5 (l:=H) hnd (fun _ _ h=>h)),?_⟩
  refine j2 rfl (fun hp=>?_) (fun hp=>?_)
  ·rw [if_pos hp] at hI
   refine exr (mV L rfl (aV L rfl ?_))
   refine O1 ⟨[(6,_)],H,t1,(v5 (l:=H) hnd (fun _ _ h=>h)),?_⟩
   refine X1 ?_
   refine ⟨.inr rfl,X4.cast (.cons (.tmp rfl) .nil) ?_,(v5 (l:=H) hnd (fun _ _ h=>h))⟩
   rw [← hI]
  ·rw [hp,if_neg Bool.false_ne_true] at hI
   refine U1 (xq ?_)
   refine j3 (mV L rfl (sw (B3 L (w64 oM oM)) t2 t0 (aV L rfl (O1 ?_))))
   exact ⟨i+1,⟨by omega,hI⟩,by omega,l3 ⟨oR,rfl,rfl,trivial⟩ (v5 (l:=H) hnd (fun _ _ h=>h))⟩
 ·have hc:=df hc
  have e:b - i=0:=by omega
  rw [e] at hI
  refine G2 (xq ?_)
  refine exr (aV L rfl ?_)
  refine O1 ⟨[(6,_)],H,t1,(v5 (l:=H) hnd (fun _ _ h=>h)),?_⟩
  refine X1 ?_
  refine ⟨.inr rfl,X4.cast (.cons (.tmp rfl) .nil) ?_,(v5 (l:=H) hnd (fun _ _ h=>h))⟩
  rw [← hI]; rfl
structure RQ where
 m:Bool
 ws:List Int
 n:Bool
 vs:List Int
instance:Inhabited RQ:=⟨⟨false,[],false,[]⟩⟩
def RQ.of (a:Rat):RQ:=⟨decide (a.num<0),y3 a.num.natAbs,decide ((a.den:Int)<0),y3 (a.den:Int).natAbs⟩
def RQ.is (r:RQ):Bool:=P2 r.m r.ws && (P2 r.n r.vs && decide (0<sg r.n (val r.vs)∧(Int.gcd (sg r.m (val r.ws)) (sg r.n (val r.vs)):Int)=1))
def RQ.wd (r:RQ):Prop:=Wd r.ws∧Wd r.vs
theorem M1z (n:Int):sg (decide (n<0)) (val (y3 n.natAbs))=n:=by
 rw [T4]; unfold sg; split <;> rename_i h <;> simp at h <;> omega
theorem RQ.is_of (a:Rat):(RQ.of a).is=true:=by
 simp only [RQ.is,RQ.of,K3,M1z,Bool.true_and,decide_eq_true_eq]
 refine ⟨by exact_mod_cast a.den_pos,?_⟩
 have:=a.reduced
 unfold Nat.Coprime at this
 unfold Int.gcd
 exact_mod_cast this
theorem RQ.of_is {r:RQ}(h:r.wd)(hi:r.is=true):∃ a:Rat,r=RQ.of a:=by
 obtain ⟨m,ws,n,vs⟩:=r
 simp only [RQ.is,j0,decide_eq_true_eq] at hi
 obtain ⟨h1,h2,h3,h4⟩:=hi
 obtain ⟨e1,e2⟩:=f0z h.1 h1
 obtain ⟨e3,e4⟩:=f0z h.2 h2
 simp only at e1 e2 e3 e4
 refine ⟨⟨sg m (val ws),(sg n (val vs)).natAbs,by omega,?_⟩,?_⟩
 ·unfold Int.gcd at h4; exact_mod_cast h4
 ·have e5:(((sg n (val vs)).natAbs:Nat):Int)=sg n (val vs):=by omega
  simp only [RQ.of,e5,e1,e2,e3,e4]
@[reducible] def cR (r:RQ):List L2:=[.a (.bool r.m),.sl r.ws.length (J4 r.ws),.a (.bool r.n),.sl r.vs.length (J4 r.vs)]
def p0z:List RQ→List L2
 | []=>[]
 | a :: v=>cR a++p0z v
@[simp] theorem B0b:∀ v:List RQ,(p0z v).length=v.length*4
 | []=>rfl
 | a :: v=>by simp only [p0z,K1,B0b v,cR,D1,List.length_nil]; omega
theorem n1c:∀ {v:List RQ}{i:Nat},i<v.length→((p0z v).drop (i*4)).take 4=cR (v.getD i default)
 | [],i,h=>by simp at h
 | a :: v,0,_=>by simp [p0z,cR]
 | a :: v,i+1,h=>by
  have:=n1c (v:=v) (i:=i) (by simpa using h)
  rw [show (i+1)*4=i*4+1+1+1+1 by omega]
  simp only [p0z,cR,L1,List.nil_append,List.drop_succ_cons,List.getD_cons_succ]
  exact this
theorem j1w:∀ v:List Rat,p0z (v.map RQ.of)=L5 v
 | []=>rfl
 | a :: v=>by simp only [R0,p0z,L5,j1w v]; rfl
@[reducible] def pVR (v:List RQ):L2:=.sl v.length (p0z v)
theorem v0p (v:List Rat):pVR (v.map RQ.of)=pV v:=by rw [pVR,pV,j1w,O0]
theorem y1h {r:RQ}(hw:r.wd)(hl:r.ws.length<1000000000)(hl2:r.vs.length<1000000000):v3 E 107 [.agg (cR r)] (bZ r.is):=by
 obtain ⟨m,ws,n,vs⟩:=r
 by_cases h:P2 m ws=true∧P2 n vs=true
 ·obtain ⟨e1,e2⟩:=f0z hw.1 h.1
  obtain ⟨e3,e4⟩:=f0z hw.2 h.2
  have:=W1r (sg m (val ws)) (sg n (val vs)) (by unfold nw; simp only at e2 hl; rw [e2]; exact hl) (by unfold nw; simp only at e4 hl2; rw [e4]; exact hl2)
  rw [pN,e1,e2,e3,e4] at this
  rw [RQ.is,show P2 (RQ.mk m ws n vs).m (RQ.mk m ws n vs).ws=true from h.1,show P2 (RQ.mk m ws n vs).n (RQ.mk m ws n vs).vs=true from h.2]
  exact this
 ·have:=P1c m n ws vs hl hl2 h
  have e:(RQ.mk m ws n vs).is=false:=by
   rw [RQ.is,Bool.eq_false_iff]; simp only [j0,ne_eq]; exact fun hh=>h ⟨hh.1,hh.2.1⟩
  rw [e]; exact this
theorem n1p {r:RQ}(hw:r.wd)(hl:r.ws.length<1000000000)(hl2:r.vs.length<1000000000):v3 E 36 [.agg (cR r)] (bZ r.is):=by
 obtain ⟨m,ws,n,vs⟩:=r
 by_cases h:P2 m ws=true∧P2 n vs=true
 ·obtain ⟨e1,e2⟩:=f0z hw.1 h.1
  obtain ⟨e3,e4⟩:=f0z hw.2 h.2
  have:=V1m (sg m (val ws)) (sg n (val vs)) (by unfold nw; simp only at e2 hl; rw [e2]; exact hl) (by unfold nw; simp only at e4 hl2; rw [e4]; exact hl2)
  rw [pN,e1,e2,e3,e4] at this
  rw [RQ.is,show P2 (RQ.mk m ws n vs).m (RQ.mk m ws n vs).ws=true from h.1,show P2 (RQ.mk m ws n vs).n (RQ.mk m ws n vs).vs=true from h.2]
  exact this
 ·have:=M1p m n ws vs hl hl2 h
  have e:(RQ.mk m ws n vs).is=false:=by
   rw [RQ.is,Bool.eq_false_iff]; simp only [j0,ne_eq]; exact fun hh=>h ⟨hh.1,hh.2.1⟩
  rw [e]; exact this
def RQ.sm (r:RQ):Prop:=r.wd∧r.ws.length<1000000000∧r.vs.length<1000000000
theorem RQ.sm_of {a:Rat}(h:qw a<1000000000):(RQ.of a).sm:=by
 have h1:=L4 a
 have h2:=l5 a
 exact ⟨⟨M3 _,M3 _⟩,by show nw a.num<_; omega,by show nw (a.den:Int)<_; omega⟩
theorem gD {v:List RQ}{i:Nat}(h:i<v.length):v.getD i default∈v:=by simp [f0,h]
@[reducible] def bV (v:List RQ):List (Nat×Blk):=[(1,⟨40,1,.mix [.p (pVR v)]⟩)]
theorem B0y (v:List RQ)(i:Nat)(hi:i<v.length)(hl:v.length<1000000000)(hs:∀ r∈v,r.sm):R4 E (fun _=>true) 106 [.p (vZ i),.at_ 1 0 1] (bV v) (bV v) (.p (bZ (!(v.getD i default).is))):=by
 refine v4 (xs:=[bZ (!(v.getD i default).is)]) Tryz.func106 rfl Tryz.ntmps106 Tryz.results106 sM fun F G=>?_
 have L:=@lti _ _ G.nt
 have hG:=G.g
 have hX:=G.x
 have hN:=Y5 hG
 have P0:=G.p0
 have hr:=hs _ (gD hi)
 refine exr (aV L rfl (zn [(0,_),(1,_)] [(1,_)] t2 t1 (exr (sw (Y1 ag40 rF rF L) t1 t1 ?_))))
 refine mV L rfl (sw (Z1 un40 sz47 oM oM sM dC L) t2 t0 ?_)
 refine sw (L6 ag47 sz47 (n1c hi) rfl L) t1 t0 (cK hG hX cl107 hN (y1h hr.1 hr.2.1 hr.2.2) L t1 (sw (C4 L) t1 t0 (aV L rfl (zn [(3,_)] [(1,_)] t1 t1 (X1 ?_)))))
 refine ⟨.inr rfl,X4.cast (.cons (.tmp rfl) .nil) ?_,t1⟩
 rfl
theorem m0z {p:Nat→Bool}:∀ {n a:Nat},(l4 p a n<0)↔(List.range' a n).all (fun i=>!p i)=true
 | 0,a=>by simp [l4]
 | n+1,a=>by
  simp only [l4,List.range'_succ,List.all_cons]
  by_cases h:p a=true
  ·simp [h]
  ·simp only [Bool.not_eq_true] at h
   rw [h,if_neg Bool.false_ne_true,m0z]; simp
theorem m6 {H:List (Nat×Blk)}(h:(H.all fun p=>p.2.cs.only (H.map (·.1)))=true):Whole H:=by
 intro j B hj i x hx q hq
 rw [s0] at h
 have h1:=PV.only_mem (Cells.only_get (h _ (L3 hj)) hx) hq
 obtain ⟨p,hp,e⟩:=G0.1 h1
 intro hn
 rw [List.lookup_eq_none_iff] at hn
 have:=hn p hp
 simp [e] at this
theorem w1d {p:RQ→Bool}{v:List RQ}:((List.range' 0 v.length).all fun i=>p (v.getD i default))=v.all p:=by
 rw [← List.range_eq_range']
 induction v with
 | nil=>rfl
 | cons a v ih =>
  rw [D1,List.range_succ_eq_map,List.all_cons,List.all_map,List.all_cons]
  simp only [List.getD_cons_zero,Function.comp_def,List.getD_cons_succ]
  rw [← ih]
theorem f1z {p:RQ→Bool}{v:List RQ}:decide (l4 (fun i=>!p (v.getD i default)) 0 (v.length - 0)<0)=v.all p:=by
 rw [Bool.eq_iff_iff,decide_eq_true_iff,m0z,Nat.sub_zero]
 simp only [Bool.not_not]
 rw [w1d]
theorem K7 (v:List RQ)(hl:v.length<1000000000)(hs:∀ r∈v,r.sm):v3 E 64 [pVR v] (bZ (v.all RQ.is)):=by
 refine D2 (xs:=[bZ (v.all RQ.is)]) Tryz.func64 rfl Tryz.ntmps64 Tryz.results64 sM fun F hG hX0 hnt hdf P0=>?_
 obtain ⟨L,hX,hN⟩:=pro hnt hX0 hG
 have hcl:=fun i (h:0≤i) (hi:i<v.length)=>B0y v i hi hl hs
 refine exr (swb (U3 (k:=1) (n:=1) .sl rfl rfl (P0 _ rfl) L) t1 t0 ⟨rfl,rfl⟩ (aV L rfl (zn [(1,_)] [(1,_)] t1 t1 (exr (sw (Y1 ag40 rF rF L) t1 t1 ?_)))))
 refine sw (R2 un40 L) t1 t0 (sw (j0k (vs:=[]) (us:=[_]) rfl rfl L) t1 t0 (sw (o5 hG hX hN (n7 106 [.at_ 1 0 1] (bV v) sM (m6 rfl) cl106 _ 0 v.length oM hcl) rfl L (K4 (ys:=[_,_,_]) cl52 rfl rfl) sM (m6 rfl) (fun q h=>by cases h)) t3 t1 ?_))
 refine sw (P3 L) t2 t0 (aV L rfl (zn [(2,_)] [] t1 trivial (X1 ?_)))
 refine Q0 (.tmp rfl) ?_
 rw [← f1z]
def b0f (m:List (List RQ)):List L2:=m.map pVR
@[simp] theorem P0p (m:List (List RQ)):(b0f m).length=m.length:=by simp [b0f]
@[reducible] def pMR (c:Int)(m:List (List RQ)):L2:=.agg [vZ c,.sl m.length (b0f m)]
theorem d0h {m:List (List RQ)}{i:Nat}(h:i<m.length):(b0f m)[i]? = some (pVR (m.getD i [])):=by
 simp [b0f,h,f0]
theorem gDL {α:Type}{v:List (List α)}{i:Nat}(h:i<v.length):v.getD i []∈v:=by simp [f0,h]
@[reducible] def bM (c:Int)(m:List (List RQ)):List (Nat×Blk):=[(1,⟨24,2,.mix [.p (vZ c),.p (.sl m.length (b0f m))]⟩)]
def g0c (c:Int)(r:List RQ):Bool:=decide ((r.length:Int)=c) && r.all RQ.is
def MSm (m:List (List RQ)):Prop:=m.length<1000000000∧∀ r∈m,r.length<1000000000∧∀ a∈r,a.sm
theorem B1f (c:Int)(m:List (List RQ))(i:Nat)(hi:i<m.length)(hm:MSm m):R4 E (fun _=>true) 85 [.p (vZ i),.at_ 1 0 2] (bM c m) (bM c m) (.p (bZ (!g0c c (m.getD i [])))):=by
 refine v4 (xs:=[bZ (!g0c c (m.getD i []))]) Tryz.func85 rfl Tryz.ntmps85 Tryz.results85 sM fun F G=>?_
 have L:=@lti _ _ G.nt
 have hG:=G.g
 have hX:=G.x
 have hN:=Y5 hG
 have P0:=G.p0
 have hr:=hm.2 _ (gDL hi)
 have hl:=hm.1
 refine exr (aV L rfl (zn [(0,_),(1,_)] [(1,_)] t2 t1 ?_))
 refine b2p (sl:=[(3,vb (!g0c c (m.getD i [])))]) (sl0:=[]) (hb:=[]) (hb0:=[(1,_)]) rF t0 t1 ?_ ?_
 ·by_cases h:((m.getD i []).length:Int)=c
  ·refine sw (i2 un24 rfl sz22 dC rX L) t1 t1 ?_
   refine sw (Y1 ag22 rF rF L) t1 t1 ?_
   refine mV L rfl (sw (ixJ un22 sz40 (j:=i) rO oM sM L) t2 t0 ?_)
   refine sw (d4 ag40 (d0h hi) L) t1 t0 (sw (R2 un40 L) t1 t0 (sw (i2 un24 rfl sz3 dC rX L) t1 t1 ?_))
   refine sw (Y1 ag3 rF rF L) t1 t1 ?_
   refine sw (c_n L) t2 t0 (mV L rfl (swg (g:=13) rfl (by rw [h]; simp) (i2 un24 rfl sz22 dC rX L) rfl t1 t1 ?_))
   refine swg (g:=13) rfl (by rw [h]; simp) (Y1 ag22 rF rF L) rfl t1 t1 ?_
   refine gV (g:=13) rfl (by rw [h]; simp) L rfl rfl ?_
   refine swg (g:=13) rfl (by rw [h]; simp) (ixJ un22 sz40 (j:=i) rO oM sM L) rfl t2 t0 ?_
   refine swg (g:=13) rfl (by rw [h]; simp) (d4 ag40 (d0h hi) L) rfl t1 t0 ?_
   refine swg (g:=13) rfl (by rw [h]; simp) (c_c hG hX cl64 rfl hN (K7 (m.getD i []) hr.1 hr.2) L) rfl t1 t0 ?_
   refine swg (g:=13) rfl (by rw [h]; simp) (C4 L) rfl t1 t0 ?_
   refine sw (y4 (by rw [h]; simp) L) t2 t0 ?_
   refine aV L rfl ?_
   exact O1 ⟨d5 [⟨[1],[1],[4],[]⟩,⟨[4],[1],[5],[]⟩,⟨[0],[],[6],[]⟩,⟨[5,6],[],[7],[]⟩,⟨[7],[],[8],[]⟩,⟨[8],[],[9],[]⟩,⟨[1],[1],[10],[]⟩,⟨[10],[1],[11],[]⟩,⟨[9,11],[],[12],[]⟩,⟨[12],[],[13],[]⟩,⟨[13,1],[1],[14],[]⟩,⟨[13,14],[1],[15],[]⟩,⟨[13,0],[],[16],[]⟩,⟨[13,15,16],[],[17],[]⟩,⟨[13,17],[],[18],[]⟩,⟨[13,18],[],[19],[]⟩,⟨[13,19],[],[20],[]⟩,⟨[13,20],[],[21],[]⟩,⟨[21],[],[3],[]⟩] rF rF dC,⟨ob rfl (by rw [g0c,h]; simp),trivial⟩,t1⟩
  ·refine sw (i2 un24 rfl sz22 dC rX L) t1 t1 ?_
   refine sw (Y1 ag22 rF rF L) t1 t1 ?_
   refine mV L rfl (sw (ixJ un22 sz40 (j:=i) rO oM sM L) t2 t0 ?_)
   refine sw (d4 ag40 (d0h hi) L) t1 t0 (sw (R2 un40 L) t1 t0 (sw (i2 un24 rfl sz3 dC rX L) t1 t1 ?_))
   refine sw (Y1 ag3 rF rF L) t1 t1 ?_
   refine sw (c_n L) t2 t0 (mV L rfl (swn (g:=13) rfl (by rw [decide_eq_false h]) L rfl ?_))
   refine swn (g:=13) rfl (by rw [decide_eq_false h]) L rfl ?_
   refine swn (g:=13) rfl (by rw [decide_eq_false h]) L rfl ?_
   refine swn (g:=13) rfl (by rw [decide_eq_false h]) L rfl ?_
   refine swn (g:=13) rfl (by rw [decide_eq_false h]) L rfl ?_
   refine swn (g:=13) rfl (by rw [decide_eq_false h]) L rfl ?_
   refine swn (g:=13) rfl (by rw [decide_eq_false h]) L rfl ?_
   refine sw (O4 (by rw [decide_eq_false h]; rfl) L) t2 t0 ?_
   refine aV L rfl ?_
   exact O1 ⟨d5 [⟨[1],[1],[4],[]⟩,⟨[4],[1],[5],[]⟩,⟨[0],[],[6],[]⟩,⟨[5,6],[],[7],[]⟩,⟨[7],[],[8],[]⟩,⟨[8],[],[9],[]⟩,⟨[1],[1],[10],[]⟩,⟨[10],[1],[11],[]⟩,⟨[9,11],[],[12],[]⟩,⟨[12],[],[13],[]⟩,⟨[13],[],[14],[]⟩,⟨[13],[],[15],[]⟩,⟨[13],[],[16],[]⟩,⟨[13],[],[17],[]⟩,⟨[13],[],[18],[]⟩,⟨[13],[],[19],[]⟩,⟨[13],[],[20],[]⟩,⟨[13],[],[21],[]⟩,⟨[21],[],[3],[]⟩] rF rF dC,⟨ob rfl (by rw [g0c,decide_eq_false h]; rfl),trivial⟩,t1⟩
 refine X1 ?_
 refine ⟨.inr rfl,X4.cast (.cons (.tmp rfl) .nil) ?_,t1⟩
 rfl
def isM (c:Int)(m:List (List RQ)):Bool:=decide (m.length≤400∧0≤c∧c≤60) && m.all (g0c c)
theorem j1c {p:List RQ→Bool}{v:List (List RQ)}:((List.range' 0 v.length).all fun i=>p (v.getD i []))=v.all p:=by
 rw [← List.range_eq_range']
 induction v with
 | nil=>rfl
 | cons a v ih =>
  rw [D1,List.range_succ_eq_map,List.all_cons,List.all_map,List.all_cons]
  simp only [List.getD_cons_zero,Function.comp_def,List.getD_cons_succ]
  rw [← ih]
theorem V0z {p:List RQ→Bool}{v:List (List RQ)}:decide (l4 (fun i=>!p (v.getD i [])) 0 (v.length - 0)<0)=v.all p:=by
 rw [Bool.eq_iff_iff,decide_eq_true_iff,m0z,Nat.sub_zero]
 simp only [Bool.not_not]
 rw [j1c]
theorem w1p (c:Int)(m:List (List RQ))(hm:MSm m):v3 E 40 [pMR c m] (bZ (isM c m)):=by
 refine D2 (xs:=[bZ (isM c m)]) Tryz.func40 rfl Tryz.ntmps40 Tryz.results40 sM fun F hG hX0 hnt hdf P0=>?_
 obtain ⟨L,hX,hN⟩:=pro hnt hX0 hG
 have hl:=hm.1
 have hcl:=fun i (h:0≤i) (hi:i<m.length)=>B1f c m i hi hm
 refine exr (swb (U3 (k:=1) (n:=2) pa2 rfl rfl (P0 _ rfl) L) t1 t0 ⟨rfl,rfl⟩ (aV L rfl (zn [(1,_)] [(1,_)] t1 t1 (R1 ?_))))
 refine exm (sl:=[(16,vb (!decide (m.length≤400∧0≤c∧c≤60)))]) (sl0:=[(1,_)]) (hb:=[]) (hb0:=[(1,_)]) t1 t1 ?_ ?_
 ·rcases (by omega:400<m.length∨m.length≤400∧c<0∨m.length≤400∧0≤c) with h | h | h
  ·refine sw (i2 un24 rfl sz22 dC rX L) t1 t1 ?_
   refine sw (Y1 ag22 rF rF L) t1 t1 ?_
   refine sw (R2 un22 L) t1 t0 (sw (i7 L) t2 t0 (mV L rfl (swn (g:=7) rfl sO L rfl (swn (g:=7) rfl sO L rfl (swn (g:=7) rfl sO L rfl (sw (O4 sO L) t2 t0 (mV L rfl (swn (g:=12) rfl rfl L rfl (swn (g:=12) rfl rfl L rfl (swn (g:=12) rfl rfl L rfl (sw (O4 rfl L) t2 t0 ?_)))))))))))
   exact O1 ⟨⟨ob rfl sO,rfl,trivial⟩,t1⟩
  ·refine sw (i2 un24 rfl sz22 dC rX L) t1 t1 ?_
   refine sw (Y1 ag22 rF rF L) t1 t1 ?_
   refine sw (R2 un22 L) t1 t0 (sw (i7 L) t2 t0 (mV L rfl (swg (g:=7) rfl sO (i2 un24 rfl sz3 dC rX L) rfl t1 t1 ?_)))
   refine swg (g:=7) rfl sO (Y1 ag3 rF rF L) rfl t1 t1 ?_
   refine swg (g:=7) rfl sO (P3 L) rfl t2 t0 (sw (y4 sO L) t2 t0 (mV L rfl (swn (g:=12) rfl sO L rfl (swn (g:=12) rfl sO L rfl (swn (g:=12) rfl sO L rfl (sw (O4 sO L) t2 t0 ?_))))))
   exact O1 ⟨⟨ob rfl sO,rfl,trivial⟩,t1⟩
  ·refine sw (i2 un24 rfl sz22 dC rX L) t1 t1 ?_
   refine sw (Y1 ag22 rF rF L) t1 t1 ?_
   refine sw (R2 un22 L) t1 t0 (sw (i7 L) t2 t0 (mV L rfl (swg (g:=7) rfl sO (i2 un24 rfl sz3 dC rX L) rfl t1 t1 ?_)))
   refine swg (g:=7) rfl sO (Y1 ag3 rF rF L) rfl t1 t1 ?_
   refine swg (g:=7) rfl sO (P3 L) rfl t2 t0 (sw (y4 sO L) t2 t0 (mV L rfl (swg (g:=12) rfl sO (i2 un24 rfl sz3 dC rX L) rfl t1 t1 ?_)))
   refine swg (g:=12) rfl sO (Y1 ag3 rF rF L) rfl t1 t1 ?_
   refine swg (g:=12) rfl sO (i7 L) rfl t2 t0 (sw (y4 sO L) t2 t0 ?_)
   exact O1 ⟨⟨ob rfl (by rw [Bool.eq_iff_iff]; simp; omega),rfl,trivial⟩,t1⟩
 refine j2 rfl (fun hc=>?_) (fun hc=>?_)
 ·refine exr (aV L rfl (zn [(2,_)] [] t1 trivial (X1 ?_)))
  refine Q0 (.tmp rfl) ?_
  simp only [isM]; rw [show decide (m.length≤400∧0≤c∧c≤60)=false by simpa only [Bool.not_eq_true'] using hc]; rfl
 ·refine U1 (xq ?_)
  refine exr (sw (i2 un24 rfl sz22 dC rX L) t1 t1 ?_)
  refine sw (Y1 ag22 rF rF L) t1 t1 ?_
  refine sw (R2 un22 L) t1 t0 (sw (j0k (vs:=[]) (us:=[_]) rfl rfl L) t1 t0 (sw (o5 hG hX hN (n7 85 [.at_ 1 0 2] (bM c m) sM (m6 rfl) cl85 _ 0 m.length oM hcl) rfl L (K4 (ys:=[_,_,_]) cl52 rfl rfl) sM (m6 rfl) (fun q h=>by cases h)) t3 t1 ?_))
  refine sw (P3 L) t2 t0 (aV L rfl (zn [(2,_)] [] t1 trivial (X1 ?_)))
  refine Q0 (.tmp rfl) ?_
  rw [isM,show decide (m.length≤400∧0≤c∧c≤60)=true by simpa only [Bool.not_eq_false'] using hc,Bool.true_and,← V0z]
@[reducible] def pMq (c:Int)(M:List (List Rat)):L2:=.agg [vZ c,.sl M.length (M5 M)]
theorem h0v (M:List (List Rat)):b0f (M.map (List.map RQ.of))=M5 M:=by
 simp only [b0f,M5,List.map_map,Function.comp_def,v0p]
theorem B1s (c:Int)(M:List (List Rat)):pMR c (M.map (List.map RQ.of))=pMq c M:=by rw [pMR,pMq,h0v,O0]
structure MOk (c:Nat) (M:List (List Rat)):Prop where
 rows:M.length≤400
 cols:c≤60
 len:∀ r∈M,r.length=c
def MB (B:Nat)(M:List (List Rat)):Prop:=∀ r∈M,∀ a∈r,qw a≤B
theorem MOk.get {c:Nat}{M:List (List Rat)}(h:MOk c M){i:Nat}(hi:i<M.length):(M.getD i []).length=c:=h.len _ (gDL hi)
theorem P0x (v:List Rat):(v.map RQ.of).all RQ.is=true:=by
 rw [s0]; intro r hr
 obtain ⟨a,_,rfl⟩:=G0.1 hr
 exact RQ.is_of a
theorem F1p {c:Nat}{M:List (List Rat)}(h:MOk c M):isM c (M.map (List.map RQ.of))=true:=by
 rw [isM,j0,decide_eq_true_iff,s0]
 have:=h.rows; have:=h.cols
 refine ⟨⟨by simp; omega,by omega,by omega⟩,fun r hr=>?_⟩
 obtain ⟨v,hv,rfl⟩:=G0.1 hr
 rw [g0c,P0x,O0,h.len v hv]; simp
theorem Q1j:∀ {r:List RQ},(∀ a∈r,a.sm)→r.all RQ.is=true→∃ v:List Rat,r=v.map RQ.of
 | [],_,_=>⟨[],rfl⟩
 | a :: r,hs,h=>by
  simp only [List.all_cons,j0] at h
  obtain ⟨q,hq⟩:=RQ.of_is (hs a sM).1 h.1
  obtain ⟨v,hv⟩:=Q1j (fun b hb=>hs b (by simp [hb])) h.2
  exact ⟨q :: v,by rw [hq,hv]; rfl⟩
theorem Y1q:∀ {m:List (List RQ)},(∀ r∈m,∀ a∈r,a.sm)→(m.all fun r=>r.all RQ.is)=true→∃ M:List (List Rat),m=M.map (List.map RQ.of)
 | [],_,_=>⟨[],rfl⟩
 | r :: m,hs,h=>by
  simp only [List.all_cons,j0] at h
  obtain ⟨v,hv⟩:=Q1j (hs r sM) h.1
  obtain ⟨M,hM⟩:=Y1q (fun b hb=>hs b (by simp [hb])) h.2
  exact ⟨v :: M,by rw [hv,hM]; rfl⟩
theorem y1a {c B:Nat}{M:List (List Rat)}(h:MOk c M)(hB:MB B M)(hb:B<1000000000):MSm (M.map (List.map RQ.of)):=by
 have:=h.rows; have:=h.cols
 refine ⟨by simp; omega,fun r hr=>?_⟩
 obtain ⟨v,hv,rfl⟩:=G0.1 hr
 refine ⟨by rw [O0,h.len v hv]; omega,fun a ha=>?_⟩
 obtain ⟨q,hq,rfl⟩:=G0.1 ha
 have:=hB v hv q hq
 exact RQ.sm_of oM
theorem Z9 {c B:Nat}{M:List (List Rat)}(h:MOk c M)(hB:MB B M)(hb:B<1000000000):v3 E 40 [pMq c M] (bZ true):=by
 have:=w1p c _ (y1a h hB hb)
 rwa [F1p h,B1s] at this
@[reducible] def D0a (k:Nat):List (List Rat)→PV
 | []=>.p (.a (.slice none 0 0))
 | a :: v=>.ref k 0 (a :: v).length (a :: v).length
@[reducible] def D0c (k:Nat):List (List Rat)→List (Nat×Blk)
 | []=>[]
 | a :: v=>[(k,⟨40,1,.pure (M5 (a :: v))⟩)]
theorem g0b (u v:List (List Rat)):M5 (u++v)=M5 u++M5 v:=by simp [M5]
theorem y1s (n:Nat)(T:List (List Rat))(v:List Rat)(h:v.length=n):(⟨40,1,.pure (M5 T++[.sl n (L5 v)])⟩:Blk)=⟨40,1,.pure (M5 (T++[v]))⟩:=by subst h; rw [g0b]; rfl
def K6 (M:List (List Rat))(j:Nat):List Rat:=M.map (·.getD j 0)
def trM (c:Nat)(M:List (List Rat)):List (List Rat):=(List.range c).map (K6 M)
theorem g9 {M:List (List Rat)}{j k:Nat}(h:k<M.length):K6 (M.take (k+1)) j=K6 (M.take k) j++[(M.getD k []).getD j 0]:=by
 rw [I1,show M[k]?.toList=[M.getD k []] by simp [f0,h],K6,List.map_append]; rfl
theorem p0y (j:Nat)(M:List (List Rat)):trM (j+1) M=trM j M++[K6 M j]:=by simp [trM,List.range_succ]
@[simp] theorem G0k (j:Nat)(M:List (List Rat)):(trM j M).length=j:=by simp [trM]
@[simp] theorem X6 (j:Nat)(M:List (List Rat)):(K6 M j).length=M.length:=by simp [K6]
def f0g (r:List Rat)(N:List (List Rat))(j:Nat):List Rat:=(List.range j).map fun k=>O9 r (K6 N k)
def V0j (d:Nat)(M N:List (List Rat)):List (List Rat):=M.map fun r=>f0g r N d
@[simp] theorem X5 (r:List Rat)(N:List (List Rat))(j:Nat):(f0g r N j).length=j:=by simp [f0g]
theorem w0g {r:List Rat}{N:List (List Rat)}{j:Nat}:f0g r N j++[O9 r (K6 N j)]=f0g r N (j+1):=by simp [f0g,List.range_succ]
@[simp] theorem W0a (d:Nat)(M N:List (List Rat)):(V0j d M N).length=M.length:=by simp [V0j]
theorem M0g {d:Nat}{M N:List (List Rat)}{i:Nat}(h:i<M.length):V0j d (M.take (i+1)) N=V0j d (M.take i) N++[f0g (M.getD i []) N d]:=by
 rw [I1,show M[i]?.toList=[M.getD i []] by simp [f0,h],V0j,List.map_append]; rfl
theorem p1p {B d j:Nat}{N:List (List Rat)}(h:MB B N)(hj:j<d)(hl:∀ r∈N,r.length=d):∀ a∈K6 N j,qw a≤B:=by
 intro a ha
 obtain ⟨r,hr,rfl⟩:=G0.1 ha
 have h1:j<r.length:=by rw [hl r hr]; exact hj
 exact h r hr _ (j4 h1)
theorem q1g (c d B:Nat)(M N:List (List Rat))(h:MOk c M)(h2:MOk d N)(hB:MB B M)(hB2:MB B N)(hb:B<1000000)(hcN:c=N.length):v3 E 41 [pMq c M,pMq d N] (.tup [pMq d (V0j d M N),vZ 0]):=by
 refine D2 (xs:=[pMq d (V0j d M N),vZ 0]) Tryz.func41 rfl Tryz.ntmps41 Tryz.results41 sM fun F hG hX0 hnt hdf P0=>?_
 obtain ⟨L,hX,hN⟩:=pro hnt hX0 hG
 have hc60:=h.cols
 have hd60:=h2.cols
 have hr4:=h.rows
 have hr5:=h2.rows
 refine exr (swb (U3 (k:=2) (n:=2) pa2 rfl rfl (P0 _ rfl) L) t1 t0 ⟨rfl,rfl⟩ (swb (U3 (k:=3) (n:=2) pa2 rfl rfl (P0 _ rfl) L) t1 t0 ⟨rfl,rfl⟩ (swb (R3 (k:=4) (n:=2) zv24 (.cons rfl (.cons rfl .nil)) rfl (P0 _ rfl) L) t0 t0 ⟨rfl,rfl⟩ (aV L rfl (zn [(2,_),(3,_),(4,_)] [(2,_),(3,_),(4,_)] t3 t3 (R1 (exr (lp2 ag24 sz24 L rfl rfl (cK hG hX cl40 hN (Z9 h hB oM) L t1 (sw (C4 L) t1 t0 (mV L rfl ?_)))))))))))
 refine swg (g:=17) rfl rfl (R6 ag24 sz24 rF (by exact al2) rfl L) rfl t1 t1 ?_
 refine swg (g:=17) rfl rfl (c_c hG hX cl40 rfl hN (Z9 h2 hB2 oM) L) rfl t1 t0 (swg (g:=17) rfl rfl (C4 L) rfl t1 t0 (sw (y4 rfl L) t2 t0 (zn [(2,_),(3,_),(4,_),(21,_)] [(2,_),(3,_),(4,_)] t4 t3 (Z3 rfl rfl ?_))))
 refine U1 (xq ?_)
 refine R1 (exr (sw (i2 un24 rfl sz3 dC rX L) t1 t1 ?_))
 refine sw (Y1 ag3 rF rF L) t1 t1 ?_
 refine sw (i2 un24 rfl sz22 dC rX L) t1 t1 ?_
 refine sw (Y1 ag22 rF rF L) t1 t1 ?_
 refine sw (R2 un22 L) t1 t0 (sw (c_n L) t2 t0 (zn [(2,_),(3,_),(4,_),(28,_)] [(2,_),(3,_),(4,_)] t4 t3 (Z3 rfl sO ?_)))
 refine U1 (xq ?_)
 refine exr (sw (i2 un24 rfl sz3 dC rX L) t1 t1 ?_)
 refine sw (Y1 ag3 rF rF L) t1 t1 ?_
 refine sw (G7 (vs:=[_]) un24 zv24 (.cons rfl (.cons rfl .nil)) ((J2.cons sz3 (J2.cons sz22 J2.nil))).to rfl (.cons rfl (.atom rfl) rfl pu1 .nil) (.cons (.cons .nil)) L) t1 t0 (swb (R3 (k:=6) (n:=2) zv24 (.cons rfl (.cons rfl .nil)) rfl (P0 _ rfl) L) t0 t0 ⟨rfl,rfl⟩ (sb (U2 sz24 rF pa2 rfl pu2) t2 t1 ?_))
 refine zn [(2,_),(3,_),(4,_),(6,_)] [(2,_),(3,_),(4,_),(6,_)] t4 t4 (R1 (exr (sw (i2 un24 rfl sz22 dC rX L) t1 t1 ?_)))
 refine sw (Y1 ag22 rF rF L) t1 t1 ?_
 refine sw (R2 un22 L) t1 t0 (mV L rfl (zn [(3,_),(4,_),(6,_),(34,_),(35,_),(36,_)] [(3,_),(4,_),(6,_)] t6 t3 (V1 ?_)))
 refine exl (α:=(Nat×List (List Rat))) (fun x=>[(36,vi (x.1:Int))]) (fun x=>[(6,⟨24,2,.mix [.p (vZ d),D0a 78 x.2]⟩)]++D0c 78 x.2) (fun x=>x.1≤M.length∧V0j d (M.take x.1) N=x.2) (fun x=>M.length - x.1) ((0,[])) (sl:=[(3,_),(4,_),(6,_),(34,_),(35,_)]) (hb:=[(3,_),(4,_)]) ?_ ⟨oR,rfl,rfl,rfl,rfl,rfl,trivial⟩ (hbI (l':=[(6,_),(3,_),(4,_)]) rfl t3) ?_
 ·exact ⟨Nat.zero_le _,rfl⟩
 intro x hx
 obtain ⟨i,T⟩:=x
 obtain ⟨hi,hT⟩:=hx
 simp only at hi hT
 rcases T with _ | ⟨q,T⟩
 ·dsimp only [D0a,D0c,List.append_nil]
  refine exr (sw (P3 L) t2 t0 (zn [(3,_),(4,_),(6,_),(34,_),(35,_),(36,_),(37,_)] [(3,_),(4,_),(6,_)] t7 t3 (R1 ?_)))
  refine j2 rfl (fun hc=>?_) (fun hc=>?_)
  ·have hc:=dt hc
   have hia:i<M.length:=by omega
   have ht:=M0g (N:=N) (d:=d) hia
   rw [hT] at ht
   have hrl:=h.get hia
   refine U1 (xq ?_)
   refine R1 (V1 (exr (sw (ixJ un22 sz40 (j:=i) rO oM sM L) t2 t0 ?_)))
   refine sw (d4 ag40 (b7 hia) L) t1 t0 (aV L rfl (zn [(3,_),(4,_),(6,_),(8,_),(34,_),(35,_),(36,_)] [(3,_),(4,_),(6,_)] t7 t3 (exr (sw (i2 un24 rfl sz3 dC rX L) t1 t1 ?_))))
   refine sw (Y1 ag3 rF rF L) t1 t1 ?_
   refine swb (o6 (sz:=4) (k:=42) un40 ti47 rfl rfl dC rfl rfl rfl rfl rfl (Nat.le_refl _) (by simp [Tryz.t47]; omega) oM (P0 _ rfl) L) t2 t0 ⟨rfl,rfl⟩ ?_
   refine aV L rfl ?_
   refine O1 ⟨[(3,_),(4,_),(6,_),(8,_),(9,_),(34,_),(35,_),(36,_)],[(3,_),(4,_),(6,_),(42,⟨47,4,.pure (L5 []++Z8 (d - 0) zc0)⟩)],t8,t4,?_⟩
   refine R1 (exr (mV L rfl (sw (p0m un40 (by exact (n9 _ _)) L) t1 t1 ?_)))
   refine mV L rfl (zn [(3,_),(4,_),(6,_),(8,_),(9,_),(34,_),(35,_),(36,_),(44,_),(45,_)] [(3,_),(4,_),(6,_),(42,_)] t10 t4 (V1 ?_))
   refine exl (α:=Nat) (fun j=>[(45,vi (j:Int))]) (fun j=>[(42,⟨47,4,.pure (L5 (f0g (M.getD i []) N j)++Z8 (d - j) zc0)⟩)]) (fun j=>j≤d) (fun j=>d - j) (0) (sl:=[(3,_),(4,_),(6,_),(8,_),(9,_),(34,_),(35,_),(36,_),(44,_)]) (hb:=[(3,_),(4,_),(6,_)]) ?_ ⟨oR,rfl,rfl,rfl,rfl,rfl,rfl,rfl,rfl,rfl,trivial⟩ t4 ?_
   ·exact Nat.zero_le _
   intro j hj
   refine exr (sw (P3 L) t2 t0 (zn [(3,_),(4,_),(6,_),(8,_),(9,_),(34,_),(35,_),(36,_),(44,_),(45,_),(46,_)] [(3,_),(4,_),(6,_),(42,_)] t11 t4 (R1 ?_)))
   refine j2 rfl (fun he=>?_) (fun he=>?_)
   ·have he:=dt he
    have hjd:j<d:=by omega
    refine U1 (xq ?_)
    refine R1 (V1 (exr (mV L rfl (aV L rfl (zn [(3,_),(4,_),(6,_),(8,_),(9,_),(10,_),(34,_),(35,_),(36,_),(44,_),(45,_)] [(3,_),(4,_),(6,_),(42,_)] t11 t4 (exr (sw (i2 un24 rfl sz22 dC rX L) t1 t1 ?_)))))))
    refine sw (Y1 ag22 rF rF L) t1 t1 ?_
    refine sw (R2 un22 L) t1 t0 (swb (o6 (sz:=4) (k:=51) un40 ti47 rfl rfl dC rfl rfl rfl (show (0:Int)=((0:Nat):Int) from rfl) rfl (Nat.zero_le _) (by simp [Tryz.t47]; omega) oM (P0 _ rfl) L) t2 t0 ⟨rfl,rfl⟩ ?_)
    refine aV L rfl ?_
    refine O1 ⟨[(3,_),(4,_),(6,_),(8,_),(9,_),(10,_),(11,.ref 51 0 0 0),(34,_),(35,_),(36,_),(44,_),(45,_)],[(3,_),(4,_),(6,_),(42,_),(51,T3 [])],t12,t5,?_⟩
    refine R1 (exr (sw (i2 un24 rfl sz22 dC rX L) t1 t1 ?_))
    refine sw (Y1 ag22 rF rF L) t1 t1 ?_
    refine sw (R2 un22 L) t1 t0 (mV L rfl (zn [(3,_),(4,_),(6,_),(8,_),(9,_),(10,_),(11,_),(34,_),(35,_),(36,_),(44,_),(45,_),(53,_),(54,_),(55,_)] [(3,_),(4,_),(6,_),(42,_),(51,_)] t15 t5 (V1 ?_)))
    refine exl (α:=Nat) (fun k=>[(55,vi (k:Int)),(11,.ref 51 0 k (k*4))]) (fun k=>[(51,T3 (K6 (N.take k) j))]) (fun k=>k≤N.length) (fun k=>N.length - k) (0) (sl:=[(3,_),(4,_),(6,_),(8,_),(9,_),(10,_),(34,_),(35,_),(36,_),(44,_),(45,_),(53,_),(54,_)]) (hb:=[(3,_),(4,_),(6,_),(42,_)]) ?_ ⟨oR,oR,rfl,rfl,rfl,rfl,rfl,rfl,rfl,rfl,rfl,rfl,rfl,rfl,rfl,trivial⟩ t5 ?_
    ·exact Nat.zero_le _
    intro k hk
    refine exr (sw (P3 L) t2 t0 (zn [(3,_),(4,_),(6,_),(8,_),(9,_),(10,_),(11,_),(34,_),(35,_),(36,_),(44,_),(45,_),(53,_),(54,_),(55,_),(56,_)] [(3,_),(4,_),(6,_),(42,_),(51,_)] t16 t5 (R1 ?_)))
    refine j2 rfl (fun hf=>?_) (fun hf=>?_)
    ·have hf:=dt hf
     have hk2:k<N.length:=by omega
     have hrl2:=h2.get hk2
     refine U1 (xq ?_)
     refine R1 (V1 (exr (sw (ixJ un22 sz40 (j:=k) rO oM sM L) t2 t0 ?_)))
     refine sw (d4 ag40 (b7 hk2) L) t1 t0 (aV L rfl (zn [(3,_),(4,_),(6,_),(8,_),(9,_),(10,_),(11,_),(13,_),(34,_),(35,_),(36,_),(44,_),(45,_),(53,_),(54,_),(55,_)] [(3,_),(4,_),(6,_),(42,_),(51,_)] t16 t5 (j3 (mV L rfl (mV L rfl (mV L rfl (sw (Z1 un40 sz47 oM oM sM dC L) t2 t0 ?_)))))))
     refine sw (L6 ag47 sz47 (M6 (show j<(N.getD k []).length by omega)) rfl L) t1 t0 ?_
     refine sw (q4 (vs:=[_]) un40 ti47 rfl rfl dC dC rfl (K2 (.cons rfl (.cons rfl (.cons rfl (.cons rfl .nil)))) rfl) rfl (.cons rfl pa4 rfl pu4 .nil) (.cons (.cons (.cons (.cons .nil)))) L) t1 t0 (swb (apP (sz:=4) un40 un40 ti47 rfl rfl rfl dC (by exact (by first | (simp; done) | (simp; omega))) oF sM rfl rfl rfl (by first | (simp [Tryz.t47]; done) | (simp [Tryz.t47]; omega)) oM (P0 _ rfl) L) t2 t1 t0 ?_)
     refine aV L rfl (O1 (j3 (sw (B3 L (w64 oM oM)) t2 t0 (mV L rfl (O1 ?_)))))
     exact ⟨k+1,oM,by omega,l3 ⟨oR,ov rfl sO,rfl,rfl,rfl,rfl,rfl,rfl,rfl,rfl,rfl,rfl,rfl,rfl,rfl,trivial⟩ ⟨obl rfl ((L9 _ _).trans (by rw [g9 hk2])),rfl,rfl,rfl,rfl,trivial⟩⟩
    ·have hf:=df hf
     have hkM:k=N.length:=by omega
     subst hkM
     rw [I0]
     refine G2 (xq ?_)
     refine s4 [51] (sl:=[(3,_),(4,_),(6,_),(8,_),(9,_),(10,_),(11,_),(34,_),(35,_),(36,_),(44,_),(45,_)]) (hb:=[(3,_),(4,_),(6,_),(42,_)]) (F3 hX0) ⟨⟨_,rfl,.same⟩,⟨_,rfl,.same⟩,⟨_,rfl,.same⟩,⟨_,rfl,.same⟩,⟨_,rfl,.same⟩,⟨_,rfl,.same⟩,⟨_,rfl,(.ref rfl rfl (by exact (by first | (simp; done) | (simp; omega))) (by first | rfl | omega))⟩,⟨_,rfl,.same⟩,⟨_,rfl,.same⟩,⟨_,rfl,.same⟩,⟨_,rfl,.same⟩,⟨_,rfl,.same⟩,trivial⟩ ⟨⟨rfl,_,rfl,.same⟩,⟨rfl,_,rfl,.same⟩,⟨rfl,_,rfl,.same⟩,⟨rfl,_,rfl,.same⟩,trivial⟩ ?_
     rw [show L2.sl N.length (L5 (K6 N j))=pV (K6 N j) by rw [pV,X6]]
     refine j3 (mV L rfl (mV L rfl (mV L rfl (mV L rfl (cK hG hX cl70 hN (G0x (M.getD i []) (K6 N j) B B (by rw [hrl,X6,hcN]) oM (fun a ha=>hB _ (gDL hia) a ha) (fun a ha=>p1p hB2 hjd h2.len a ha) oM oM (by rw [hrl]; have:=V0 (B+B+1) hc60; omega)) L t2 ?_)))))
     refine sw (n0j (sz:=4) un40 sz47 (by exact (W6 (X5 _ _ _) hj)) (j:=j) rO oM L) t2 t1 ?_
     refine sb (B0v (n:=4) sz47 (by exact (W6 (X5 _ _ _) hj)) rfl oM) t2 t1 ?_
     refine O1 (j3 (sw (B3 L (w64 oM oM)) t2 t0 (mV L rfl (O1 ?_))))
     exact ⟨j+1,oM,by omega,l3 ⟨oR,rfl,rfl,rfl,rfl,rfl,rfl,rfl,rfl,rfl,trivial⟩ ⟨obl rfl (congrArg (fun c=>(⟨47,4,.pure c⟩:Blk)) ((v0v (X5 _ _ _) hjd (O9 (M.getD i []) (K6 N j))).trans (by rw [w0g]))),rfl,rfl,rfl,trivial⟩⟩
   ·have he:=df he
    have hjd:j=d:=by omega
    subst hjd
    refine G2 (xq ?_)
    refine s4 [42] (sl:=[(3,_),(4,_),(6,_),(9,_),(34,_),(35,_),(36,_)]) (hb:=[(3,_),(4,_),(6,_)]) (F3 hX0) ⟨⟨_,rfl,.same⟩,⟨_,rfl,.same⟩,⟨_,rfl,.same⟩,⟨_,rfl,(.ref rfl rfl (by exact (W6 (X5 _ _ _) hj)) (by first | rfl | omega))⟩,⟨_,rfl,.same⟩,⟨_,rfl,.same⟩,⟨_,rfl,.same⟩,trivial⟩ ⟨⟨rfl,_,rfl,.same⟩,⟨rfl,_,rfl,.same⟩,⟨rfl,_,rfl,.same⟩,trivial⟩ ?_
    rw [show L5 (f0g (M.getD i []) N j)++Z8 (j - j) zc0=L5 (f0g (M.getD i []) N j) by simp [Z8]]
    refine j3 (sw (i2 un24 rfl sz22 dC rX L) t1 t1 ?_)
    refine sw (Y1 ag22 rF rF L) t1 t1 ?_
    refine mV L rfl (sw (q4 (vs:=[_]) un22 ti40 rfl rfl dC dC rfl (K2 (.cons rfl .nil) rfl) rfl (.cons rfl .sl rfl pu1 .nil) (.cons .nil) L) t1 t0 (swb (apN (k:=78) (sz:=1) un22 un22 ti40 rfl rfl rfl dC sM rfl (by first | (simp [Tryz.t40]; done) | (simp [Tryz.t40]; omega)) oM (P0 _ rfl) L) t2 t0 ⟨rfl,rfl⟩ ?_))
    refine sw (i2 un24 rfl sz22 dC rX L) t1 t1 ?_
    refine sb (U2 sz22 rF .ref rfl (.skip pu1)) t2 t1 ?_
    refine O1 (j3 (sw (B3 L (w64 oM oM)) t2 t0 (mV L rfl (O1 ?_))))
    exact ⟨(i+1,[f0g (M.getD i []) N j]),⟨by simp only; omega,ht⟩,(by simp only; omega),l3 ⟨oR,rfl,rfl,rfl,rfl,rfl,trivial⟩ (hbI (l':=[(6,_),(78,_),(3,_),(4,_)]) rfl ⟨rfl,obl rfl (by simp [M5]),rfl,rfl,trivial⟩)⟩
  ·have hc:=df hc
   have hia:i=M.length:=by omega
   subst hia
   rw [I0] at hT
   refine G2 (xq ?_)
   refine exr (sw (b0d (R6 ag24 sz24 rF (by exact al2) rfl L) (.agg (.cons .same (.cons .nil .nil)))) t1 t1 ?_)
   refine sb (U2 sz24 rF pa2 rfl pu2) t2 t1 ?_
   refine aV L rfl (zn [(4,_),(5,_)] [(4,_)] t2 t1 (X1 ?_))
   refine Y0 (.agg rfl rfl rfl ag24 sz24 (.cons (.cons .nil))) (.tmp rfl) ?_
   rw [hT]; rfl
 ·dsimp only [D0a,D0c]
  have hTl:(q :: T).length=i:=by rw [← hT,W0a,J0]; omega
  have hTl2:T.length+1=i:=hTl
  refine exr (sw (P3 L) t2 t0 (zn [(3,_),(4,_),(6,_),(34,_),(35,_),(36,_),(37,_)] [(3,_),(4,_),(6,_),(78,_)] t7 t4 (R1 ?_)))
  refine j2 rfl (fun hc=>?_) (fun hc=>?_)
  ·have hc:=dt hc
   have hia:i<M.length:=by omega
   have ht:=M0g (N:=N) (d:=d) hia
   rw [hT] at ht
   have hrl:=h.get hia
   refine U1 (xq ?_)
   refine R1 (V1 (exr (sw (ixJ un22 sz40 (j:=i) rO oM sM L) t2 t0 ?_)))
   refine sw (d4 ag40 (b7 hia) L) t1 t0 (aV L rfl (zn [(3,_),(4,_),(6,_),(8,_),(34,_),(35,_),(36,_)] [(3,_),(4,_),(6,_),(78,_)] t7 t4 (exr (sw (i2 un24 rfl sz3 dC rX L) t1 t1 ?_))))
   refine sw (Y1 ag3 rF rF L) t1 t1 ?_
   refine swb (o6 (sz:=4) (k:=42) un40 ti47 rfl rfl dC rfl rfl rfl rfl rfl (Nat.le_refl _) (by simp [Tryz.t47]; omega) oM (P0 _ rfl) L) t2 t0 ⟨rfl,rfl⟩ ?_
   refine aV L rfl ?_
   refine O1 ⟨[(3,_),(4,_),(6,_),(8,_),(9,_),(34,_),(35,_),(36,_)],[(3,_),(4,_),(6,_),(42,⟨47,4,.pure (L5 []++Z8 (d - 0) zc0)⟩),(78,_)],t8,t5,?_⟩
   refine R1 (exr (mV L rfl (sw (p0m un40 (by exact (n9 _ _)) L) t1 t1 ?_)))
   refine mV L rfl (zn [(3,_),(4,_),(6,_),(8,_),(9,_),(34,_),(35,_),(36,_),(44,_),(45,_)] [(3,_),(4,_),(6,_),(42,_),(78,_)] t10 t5 (V1 ?_))
   refine exl (α:=Nat) (fun j=>[(45,vi (j:Int))]) (fun j=>[(42,⟨47,4,.pure (L5 (f0g (M.getD i []) N j)++Z8 (d - j) zc0)⟩)]) (fun j=>j≤d) (fun j=>d - j) (0) (sl:=[(3,_),(4,_),(6,_),(8,_),(9,_),(34,_),(35,_),(36,_),(44,_)]) (hb:=[(3,_),(4,_),(6,_),(78,_)]) ?_ ⟨oR,rfl,rfl,rfl,rfl,rfl,rfl,rfl,rfl,rfl,trivial⟩ t5 ?_
   ·exact Nat.zero_le _
   intro j hj
   refine exr (sw (P3 L) t2 t0 (zn [(3,_),(4,_),(6,_),(8,_),(9,_),(34,_),(35,_),(36,_),(44,_),(45,_),(46,_)] [(3,_),(4,_),(6,_),(42,_),(78,_)] t11 t5 (R1 ?_)))
   refine j2 rfl (fun he=>?_) (fun he=>?_)
   ·have he:=dt he
    have hjd:j<d:=by omega
    refine U1 (xq ?_)
    refine R1 (V1 (exr (mV L rfl (aV L rfl (zn [(3,_),(4,_),(6,_),(8,_),(9,_),(10,_),(34,_),(35,_),(36,_),(44,_),(45,_)] [(3,_),(4,_),(6,_),(42,_),(78,_)] t11 t5 (exr (sw (i2 un24 rfl sz22 dC rX L) t1 t1 ?_)))))))
    refine sw (Y1 ag22 rF rF L) t1 t1 ?_
    refine sw (R2 un22 L) t1 t0 (swb (o6 (sz:=4) (k:=51) un40 ti47 rfl rfl dC rfl rfl rfl (show (0:Int)=((0:Nat):Int) from rfl) rfl (Nat.zero_le _) (by simp [Tryz.t47]; omega) oM (P0 _ rfl) L) t2 t0 ⟨rfl,rfl⟩ ?_)
    refine aV L rfl ?_
    refine O1 ⟨[(3,_),(4,_),(6,_),(8,_),(9,_),(10,_),(11,.ref 51 0 0 0),(34,_),(35,_),(36,_),(44,_),(45,_)],[(3,_),(4,_),(6,_),(42,_),(51,T3 []),(78,_)],t12,t6,?_⟩
    refine R1 (exr (sw (i2 un24 rfl sz22 dC rX L) t1 t1 ?_))
    refine sw (Y1 ag22 rF rF L) t1 t1 ?_
    refine sw (R2 un22 L) t1 t0 (mV L rfl (zn [(3,_),(4,_),(6,_),(8,_),(9,_),(10,_),(11,_),(34,_),(35,_),(36,_),(44,_),(45,_),(53,_),(54,_),(55,_)] [(3,_),(4,_),(6,_),(42,_),(51,_),(78,_)] t15 t6 (V1 ?_)))
    refine exl (α:=Nat) (fun k=>[(55,vi (k:Int)),(11,.ref 51 0 k (k*4))]) (fun k=>[(51,T3 (K6 (N.take k) j))]) (fun k=>k≤N.length) (fun k=>N.length - k) (0) (sl:=[(3,_),(4,_),(6,_),(8,_),(9,_),(10,_),(34,_),(35,_),(36,_),(44,_),(45,_),(53,_),(54,_)]) (hb:=[(3,_),(4,_),(6,_),(42,_),(78,_)]) ?_ ⟨oR,oR,rfl,rfl,rfl,rfl,rfl,rfl,rfl,rfl,rfl,rfl,rfl,rfl,rfl,trivial⟩ t6 ?_
    ·exact Nat.zero_le _
    intro k hk
    refine exr (sw (P3 L) t2 t0 (zn [(3,_),(4,_),(6,_),(8,_),(9,_),(10,_),(11,_),(34,_),(35,_),(36,_),(44,_),(45,_),(53,_),(54,_),(55,_),(56,_)] [(3,_),(4,_),(6,_),(42,_),(51,_),(78,_)] t16 t6 (R1 ?_)))
    refine j2 rfl (fun hf=>?_) (fun hf=>?_)
    ·have hf:=dt hf
     have hk2:k<N.length:=by omega
     have hrl2:=h2.get hk2
     refine U1 (xq ?_)
     refine R1 (V1 (exr (sw (ixJ un22 sz40 (j:=k) rO oM sM L) t2 t0 ?_)))
     refine sw (d4 ag40 (b7 hk2) L) t1 t0 (aV L rfl (zn [(3,_),(4,_),(6,_),(8,_),(9,_),(10,_),(11,_),(13,_),(34,_),(35,_),(36,_),(44,_),(45,_),(53,_),(54,_),(55,_)] [(3,_),(4,_),(6,_),(42,_),(51,_),(78,_)] t16 t6 (j3 (mV L rfl (mV L rfl (mV L rfl (sw (Z1 un40 sz47 oM oM sM dC L) t2 t0 ?_)))))))
     refine sw (L6 ag47 sz47 (M6 (show j<(N.getD k []).length by omega)) rfl L) t1 t0 ?_
     refine sw (q4 (vs:=[_]) un40 ti47 rfl rfl dC dC rfl (K2 (.cons rfl (.cons rfl (.cons rfl (.cons rfl .nil)))) rfl) rfl (.cons rfl pa4 rfl pu4 .nil) (.cons (.cons (.cons (.cons .nil)))) L) t1 t0 (swb (apP (sz:=4) un40 un40 ti47 rfl rfl rfl dC (by exact (by first | (simp; done) | (simp; omega))) oF sM rfl rfl rfl (by first | (simp [Tryz.t47]; done) | (simp [Tryz.t47]; omega)) oM (P0 _ rfl) L) t2 t1 t0 ?_)
     refine aV L rfl (O1 (j3 (sw (B3 L (w64 oM oM)) t2 t0 (mV L rfl (O1 ?_)))))
     exact ⟨k+1,oM,by omega,l3 ⟨oR,ov rfl sO,rfl,rfl,rfl,rfl,rfl,rfl,rfl,rfl,rfl,rfl,rfl,rfl,rfl,trivial⟩ ⟨obl rfl ((L9 _ _).trans (by rw [g9 hk2])),rfl,rfl,rfl,rfl,rfl,trivial⟩⟩
    ·have hf:=df hf
     have hkM:k=N.length:=by omega
     subst hkM
     rw [I0]
     refine G2 (xq ?_)
     refine s4 [51] (sl:=[(3,_),(4,_),(6,_),(8,_),(9,_),(10,_),(11,_),(34,_),(35,_),(36,_),(44,_),(45,_)]) (hb:=[(3,_),(4,_),(6,_),(42,_),(78,_)]) (F3 hX0) ⟨⟨_,rfl,.same⟩,⟨_,rfl,.same⟩,⟨_,rfl,.same⟩,⟨_,rfl,.same⟩,⟨_,rfl,.same⟩,⟨_,rfl,.same⟩,⟨_,rfl,(.ref rfl rfl (by exact (by first | (simp; done) | (simp; omega))) (by first | rfl | omega))⟩,⟨_,rfl,.same⟩,⟨_,rfl,.same⟩,⟨_,rfl,.same⟩,⟨_,rfl,.same⟩,⟨_,rfl,.same⟩,trivial⟩ ⟨⟨rfl,_,rfl,.same⟩,⟨rfl,_,rfl,.same⟩,⟨rfl,_,rfl,.same⟩,⟨rfl,_,rfl,.same⟩,⟨rfl,_,rfl,.same⟩,trivial⟩ ?_
     rw [show L2.sl N.length (L5 (K6 N j))=pV (K6 N j) by rw [pV,X6]]
     refine j3 (mV L rfl (mV L rfl (mV L rfl (mV L rfl (cK hG hX cl70 hN (G0x (M.getD i []) (K6 N j) B B (by rw [hrl,X6,hcN]) oM (fun a ha=>hB _ (gDL hia) a ha) (fun a ha=>p1p hB2 hjd h2.len a ha) oM oM (by rw [hrl]; have:=V0 (B+B+1) hc60; omega)) L t2 ?_)))))
     refine sw (n0j (sz:=4) un40 sz47 (by exact (W6 (X5 _ _ _) hj)) (j:=j) rO oM L) t2 t1 ?_
     refine sb (B0v (n:=4) sz47 (by exact (W6 (X5 _ _ _) hj)) rfl oM) t2 t1 ?_
     refine O1 (j3 (sw (B3 L (w64 oM oM)) t2 t0 (mV L rfl (O1 ?_))))
     exact ⟨j+1,oM,by omega,l3 ⟨oR,rfl,rfl,rfl,rfl,rfl,rfl,rfl,rfl,rfl,trivial⟩ ⟨obl rfl (congrArg (fun c=>(⟨47,4,.pure c⟩:Blk)) ((v0v (X5 _ _ _) hjd (O9 (M.getD i []) (K6 N j))).trans (by rw [w0g]))),rfl,rfl,rfl,rfl,trivial⟩⟩
   ·have he:=df he
    have hjd:j=d:=by omega
    subst hjd
    refine G2 (xq ?_)
    refine s4 [42] (sl:=[(3,_),(4,_),(6,_),(9,_),(34,_),(35,_),(36,_)]) (hb:=[(3,_),(4,_),(6,_),(78,_)]) (F3 hX0) ⟨⟨_,rfl,.same⟩,⟨_,rfl,.same⟩,⟨_,rfl,.same⟩,⟨_,rfl,(.ref rfl rfl (by exact (W6 (X5 _ _ _) hj)) (by first | rfl | omega))⟩,⟨_,rfl,.same⟩,⟨_,rfl,.same⟩,⟨_,rfl,.same⟩,trivial⟩ ⟨⟨rfl,_,rfl,.same⟩,⟨rfl,_,rfl,.same⟩,⟨rfl,_,rfl,.same⟩,⟨rfl,_,rfl,.same⟩,trivial⟩ ?_
    rw [show L5 (f0g (M.getD i []) N j)++Z8 (j - j) zc0=L5 (f0g (M.getD i []) N j) by simp [Z8]]
    refine j3 (sw (i2 un24 rfl sz22 dC rX L) t1 t1 ?_)
    refine sw (Y1 ag22 rF rF L) t1 t1 ?_
    refine mV L rfl (sw (q4 (vs:=[_]) un22 ti40 rfl rfl dC dC rfl (K2 (.cons rfl .nil) rfl) rfl (.cons rfl .sl rfl pu1 .nil) (.cons .nil) L) t1 t0 (swb (apP (sz:=1) un22 un22 ti40 rfl rfl rfl dC (by exact (G5 _)) oF sM rfl rfl rfl (by first | (simp [Tryz.t40]; done) | (simp [Tryz.t40]; omega)) oM (P0 _ rfl) L) t2 t1 t0 ?_))
    refine sw (i2 un24 rfl sz22 dC rX L) t1 t1 ?_
    refine sb (U2 sz22 rF .ref rfl (.skip pu1)) t2 t1 ?_
    refine O1 (j3 (sw (B3 L (w64 oM oM)) t2 t0 (mV L rfl (O1 ?_))))
    exact ⟨(i+1,q :: T++[f0g (M.getD i []) N j]),⟨by simp only; omega,ht⟩,(by simp only; omega),l3 ⟨oR,rfl,rfl,rfl,rfl,rfl,trivial⟩ (hbI (l':=[(6,_),(78,_),(3,_),(4,_)]) rfl ⟨obl rfl sM,obl rfl (y1s _ _ _ (X5 _ _ _)),rfl,rfl,trivial⟩)⟩
  ·have hc:=df hc
   have hia:i=M.length:=by omega
   subst hia
   rw [I0] at hT
   refine G2 (xq ?_)
   refine exr (sw (b2y ag24 sz24 rF (by exact (.cons (.cons .nil))) rfl L) t1 t1 ?_)
   refine sb (U2 sz24 rF .agg rfl pu2) t2 t1 ?_
   refine aV L rfl (zn [(4,_),(5,_)] [(4,_),(78,_)] t2 t2 (s4 [78] (sl:=[(4,_),(5,_)]) (hb:=[(4,_)]) (F3 hX0) ⟨⟨_,rfl,.same⟩,⟨_,rfl,.same⟩,trivial⟩ ⟨⟨rfl,_,rfl,(.mix (.cons .same (.cons (.ref rfl rfl (by exact (G5 _)) (by first | rfl | omega)) .nil)))⟩,trivial⟩ ?_))
   refine X1 ?_
   refine Y0 (.agg rfl rfl rfl ag24 sz24 (.cons (.cons .nil))) (.tmp rfl) ?_
   rw [hT]
theorem nt {p:Prop}[Decidable p](h:(!decide p)=true):¬ p:=by simpa using h
theorem nf {p:Prop}[Decidable p](h:(!decide p)=false):p:=by simpa using h
theorem Q1h {v u:List Rat}{c:Rat}{j B C D:Nat}(hv:∀ a∈v,qw a≤B)(hu:∀ a∈u,qw a≤C)(hc:qw c≤D):∀ a∈tak v u c j,qw a≤B+(D+C)+1:=by
 intro a ha
 rcases List.mem_append.1 ha with h | h
 ·have h1:=List.mem_of_mem_take h
  rw [List.zipWith_eq_zipWith_take_min,List.mem_iff_getElem?] at h1
  obtain ⟨i,hi⟩:=h1
  rw [← List.zipWith_eq_zipWith_take_min,List.getElem?_zipWith] at hi
  split at hi
  ·rename_i x y h3 h4
   obtain rfl:=by simpa using hi
   have h5:=H1y x (c*y)
   have h6:=d9 c y
   have:=hv x (M1 h3)
   have:=hu y (M1 h4)
   omega
  ·cases hi
 ·have:=hv a (List.mem_of_mem_drop h); omega
theorem h1b (s:Nat)(m:List (List Rat))(i k:Nat)(c:Rat)(B C D:Nat)(h2:s<9)(hi:i<m.length)(hk:k<m.length)(hne:i≠k)(hlen:(m.getD k []).length=(m.getD i []).length)(hl:(m.getD i []).length<1000000000)(hB:∀ a∈m.getD i [],qw a≤B)(hC:∀ a∈m.getD k [],qw a≤C)(hD:qw c≤D)(hb:B+(D+C)+1<1000000000):R4 E (fun _=>true) 99 [.ref (s+1001) 0 m.length m.length,.p (vZ i),.p (vZ k),.p (pQ c)] (I2 s m) (I2 s (m.set i (List.zipWith (fun a b=>a - c*b) (m.getD i []) (m.getD k [])))) (.p (.tup [])):=by
 refine v4 (xs:=[]) Tryz.func99 rfl Tryz.ntmps99 Tryz.results99 sM fun F G=>?_
 have L:=@lti _ _ G.nt
 have hG:=G.g
 have hX:=G.x
 have hN:=Y5 hG
 have P0:∀ k,Nat.blt k 1000=true→F.pin k=none:=fun k hk=>G.p0 k ((y2 h2 m).low k hk)
 refine exr (swb (U3 (k:=7) (n:=4) pa4 rfl rfl (P0 _ rfl) L) t1 t0 (frT [] (y2 h2 m) rfl rfl rfl) ?_)
 refine O1 ⟨[(0,_),(1,_),(2,_),(7,_)],(7,_) :: ((I2 s m)),t4,⟨rfl,(hbT [_] (y2 h2 m) rfl)⟩,?_⟩
 refine exr (mV L rfl (mV L rfl (sw (y6 un77 sz40 (by first | exact E2 _ _ _ | exact (E2 _ _ _).trans sM | simp [Cells.len]) (j:=k) rO oM L) t2 ⟨rdT [_] (y2 h2 m) rfl hdL,trivial⟩ ?_)))
 refine sw (Y1 ag40 (by first | exact E2 _ _ _ | exact (E2 _ _ _).trans sM) (K0s hk) L) t1 ⟨rdT [_] (y2 h2 m) rfl hdL,trivial⟩ ?_
 refine sw (p0m un40 (by first | exact Y2 _ | exact (Y2 _).trans oM) L) t1 ⟨rdT [_] (y2 h2 m) rfl (rwL h2 hk),trivial⟩ ?_
 refine mV L rfl ?_
 refine O1 ⟨[(0,_),(1,_),(7,_),(13,_),(14,_),(15,_)],(7,_) :: ((I2 s m)),t6,⟨rfl,(hbT [_] (y2 h2 m) rfl)⟩,?_⟩
 have hku:m.getD k []=(m.set i (m.getD i [])).getD k []:=by rw [F0n]
 obtain ⟨v,hv⟩:∃ v,v=m.getD i []:=⟨_,rfl⟩
 obtain ⟨u,hu⟩:∃ u,u=m.getD k []:=⟨_,rfl⟩
 have hru:=fun (r:List Rat)=>(show (I2 s (m.set i r)).lookup (I3 s k)=some (T3 u) from by rw [hu]; exact rwO h2 hk hne)
 rw [← hv,← hu] at hlen
 rw [← hv] at hl hB ⊢
 rw [← hu] at hC ⊢
 refine V1 ?_
 refine J0n (α:=Nat) (fun j=>[(15,vi (j:Int))]) (fun j=>[]) (fun j=>(I2 s (m.set i (tak v u c j)))) (fun j=>j≤v.length) (fun j=>v.length - j) (0) (sl:=[(0,_),(1,_),(7,_),(13,_),(14,_)]) (hb:=[(7,_)]) ?_ ⟨oR,rfl,rfl,rfl,rfl,rfl,trivial⟩ ⟨rfl,(by rw [F1n,hv,F0n]; exact hbT [_] (y2 h2 m) rfl)⟩ ?_
 ·exact Nat.zero_le _
 intro j hj
 have htl:=n0s (v:=v) (u:=u) c j hlen
 have hq:=Q1h (j:=j) hB hC hD
 refine exr (sw (P3 L) t2 t0 ?_)
 refine O1 ⟨[(0,_),(1,_),(7,_),(13,_),(14,_),(15,_),(16,_)],(7,_) :: ((I2 s (m.set i (tak v u c j)))),t7,⟨rfl,(hbT [_] (y2 h2 (m.set i (tak v u c j))) rfl)⟩,?_⟩
 refine R1 ?_
 refine j2 rfl (fun hc2=>?_) (fun hc2=>?_)
 ·have hc2:=dt hc2
  have hk2:j<v.length:=by omega
  have hk3:j<u.length:=by omega
  have hk5:j<(m.getD k []).length:=by rw [← hu]; omega
  have hk4:j<(tak v u c j).length:=by omega
  refine U1 (xq ?_)
  refine R1 (V1 (exr (mV L rfl (sw (n0j un40 sz47 (by first | exact Y2 _ | exact (Y2 _).trans oM) (j:=j) rO oM L) t2 ⟨rdT [_] (y2 h2 (m.set i (tak v u c j))) rfl (hru _),trivial⟩ ?_))))
  refine sw (J1b ag47 sz47 (by first | exact Y2 _ | exact (Y2 _).trans oM) (M6 hk3) rfl L) t1 ⟨rdT [_] (y2 h2 (m.set i (tak v u c j))) rfl (hru _),trivial⟩ ?_
  refine swb (R3 (k:=9) (n:=4) zv47 (.cons rfl (.cons rfl (.cons rfl (.cons rfl .nil)))) rfl (P0 _ rfl) L) t0 t0 (frT [_] (y2 h2 (m.set i (tak v u c j))) rfl rfl rfl) (aV L rfl (sb (U2 sz47 rF pa4 rfl pu4) t2 t1 ?_))
  refine O1 ⟨[(0,_),(1,_),(7,_),(8,_),(9,_),(13,_),(14,_),(15,_)],(7,_) :: (9,_) :: ((I2 s (m.set i (tak v u c j)))),t8,⟨rfl,rfl,(hbT [_,_,_] (y2 h2 (m.set i (tak v u c j))) rfl)⟩,?_⟩
  refine exr (lp4 ag47 sz47 L rfl rfl (cK hG hX cl65 hN (T6 (u.getD j 0) (by have:=hC _ (j4 hk3); omega)) L t1 ?_))
  refine sw (C4 L) t1 t0 ?_
  refine O1 ⟨[(0,_),(1,_),(7,_),(8,_),(9,_),(13,_),(14,_),(15,_),(22,_)],(7,_) :: (9,_) :: ((I2 s (m.set i (tak v u c j)))),t9,⟨rfl,rfl,(hbT [_,_] (y2 h2 (m.set i (tak v u c j))) rfl)⟩,?_⟩
  refine j2 rfl (fun h0=>?_) (fun h0=>?_)
  ·have h0:=nt h0
   refine b0z rF ?_
   refine mV L rfl (mV L rfl (sw (y6 un77 sz40 (by first | exact E2 _ _ _ | exact (E2 _ _ _).trans sM | simp [Cells.len]) (j:=i) rO oM L) t2 ⟨rdT [_,_] (y2 h2 (m.set i (tak v u c j))) rfl hdL,trivial⟩ ?_))
   refine sw (Y1 ag40 (by first | exact E2 _ _ _ | exact (E2 _ _ _).trans sM) (f1n hi htl) L) t1 ⟨rdT [_,_] (y2 h2 (m.set i (tak v u c j))) rfl hdL,trivial⟩ ?_
   refine mV L rfl (mV L rfl (mV L rfl (sw (y6 un77 sz40 (by first | exact E2 _ _ _ | exact (E2 _ _ _).trans sM | simp [Cells.len]) (j:=i) rO oM L) t2 ⟨rdT [_,_] (y2 h2 (m.set i (tak v u c j))) rfl hdL,trivial⟩ ?_)))
   refine sw (Y1 ag40 (by first | exact E2 _ _ _ | exact (E2 _ _ _).trans sM) (f1n hi htl) L) t1 ⟨rdT [_,_] (y2 h2 (m.set i (tak v u c j))) rfl hdL,trivial⟩ ?_
   refine mV L rfl (sw (n0j un40 sz47 (by first | exact Y2 _ | exact (Y2 _).trans oM) (j:=j) rO oM L) t2 ⟨rdT [_,_] (y2 h2 (m.set i (tak v u c j))) rfl (rwS h2 hi),trivial⟩ ?_)
   refine sw (J1b ag47 sz47 (by first | exact Y2 _ | exact (Y2 _).trans oM) (M6 hk4) rfl L) t1 ⟨rdT [_,_] (y2 h2 (m.set i (tak v u c j))) rfl (rwS h2 hi),trivial⟩ ?_
   refine lp4 ag47 sz47 L rfl rfl (lp4 ag47 sz47 L rfl rfl (cK hG hX cl67 hN (q8 c (u.getD j 0) oM (by have:=hC _ (j4 hk3); omega)) L t2 ?_))
   refine cK hG hX cl127 hN (q1f ((tak v u c j).getD j 0) (c*u.getD j 0) (by have:=hq _ (j4 hk4); omega) (by have:=d9 c (u.getD j 0); have:=hC _ (j4 hk3); omega)) L t2 ?_
   refine sw (n0j un40 sz47 (by first | exact Y2 _ | exact (Y2 _).trans oM) (j:=j) rO oM L) t2 ⟨rdT [_,_] (y2 h2 (m.set i (tak v u c j))) rfl (rwS h2 hi),trivial⟩ ?_
   refine sb (B0v (n:=4) sz47 (by first | exact Y2 _ | exact (Y2 _).trans oM) rfl oM) t2 ⟨rdT [_,_] (y2 h2 (m.set i (tak v u c j))) rfl (rwS h2 hi),trivial⟩ ?_
   refine O1 ⟨h0n [⟨[0],[],[23],[]⟩,⟨[1],[],[24],[]⟩,⟨[23,24],[1000],[25],[]⟩,⟨[25],[1000],[26],[]⟩,⟨[8],[],[27],[]⟩,⟨[0],[],[28],[]⟩,⟨[1],[],[29],[]⟩,⟨[28,29],[1000],[30],[]⟩,⟨[30],[1000],[31],[]⟩,⟨[8],[],[32],[]⟩,⟨[31,32],[1000],[33],[]⟩,⟨[33],[1000],[34],[]⟩,⟨[7],[7],[35],[]⟩,⟨[9],[9],[36],[]⟩,⟨[35,36],[],[37],[]⟩,⟨[34,37],[],[38],[]⟩,⟨[26,27],[1000],[39],[]⟩,⟨[39,38],[1000],[],[1000]⟩] (.cons (cf0 rfl) (.cons (cf0 rfl) (.cons (cfT rfl rfl (V8 (by first | exact B6 _ | exact C5 _ _)) rfl (fun _ h=>by cases h)) (.cons (cfT rfl rfl (V8 (by first | exact B6 _ | exact C5 _ _)) rfl (fun _ h=>by cases h)) (.cons (cf0 rfl) (.cons (cf0 rfl) (.cons (cf0 rfl) (.cons (cfT rfl rfl (V8 (by first | exact B6 _ | exact C5 _ _)) rfl (fun _ h=>by cases h)) (.cons (cfT rfl rfl (V8 (by first | exact B6 _ | exact C5 _ _)) rfl (fun _ h=>by cases h)) (.cons (cf0 rfl) (.cons (cfT rfl rfl (V8 (by first | exact B6 _ | exact C5 _ _)) rfl (fun _ h=>by cases h)) (.cons (cfT rfl rfl (V8 (by first | exact B6 _ | exact C5 _ _)) rfl (fun _ h=>by cases h)) (.cons (cf0 rfl) (.cons (cf0 rfl) (.cons (cf0 rfl) (.cons (cf0 rfl) (.cons (cfT rfl rfl (V8 (by first | exact B6 _ | exact C5 _ _)) rfl (fun _ h=>by cases h)) (.cons (cfT rfl rfl (V8 (by first | exact B6 _ | exact C5 _ _)) rfl (V8 (by first | exact B6 _ | exact C5 _ _)))  .nil)))))))))))))))))) rfl (frS [] [_,_] (y2 h2 (m.set i (tak v u c j))) rfl rfl) dC,(show n4 _ _ _ _ _ from exw (sl:=[(0,_),(1,_),(7,_),(13,_),(14,_),(15,_)]) (hb:=(7,_) :: ((I2 s (m.set i (tak v u c (j+1)))))) t6 ⟨rfl,(hbS [_,_] rfl h2 hi ((k0c _ hk4).trans (by rw [W0z hk2 hlen])) (by simp only [n0s c _ hlen]))⟩ ?_)⟩
   refine j3 (sw (B3 L (w64 oM oM)) t2 t0 (mV L rfl (O1 ?_)))
   exact ⟨j+1,oM,by omega,l3 ⟨oR,rfl,rfl,rfl,rfl,rfl,trivial⟩ ⟨rfl,(hbT [_] (y2 h2 (m.set i (tak v u c (j+1)))) rfl)⟩⟩
  ·have h0:=nf h0
   refine U1 (xq ?_)
   refine j3 (sw (B3 L (w64 oM oM)) t2 t0 (mV L rfl (O1 ?_)))
   exact ⟨j+1,oM,by omega,l3 ⟨oR,rfl,rfl,rfl,rfl,rfl,trivial⟩ ⟨rfl,(by rw [← D1j hk2 hlen h0]; exact hbT [_,_] (y2 h2 _) rfl)⟩⟩
 ·have hc2:=df hc2
  refine G2 ?_
  refine ⟨.inl rfl,X4.cast .nil ?_,(by rw [← K1r hlen,show v.length=j by omega]; exact hbT [_] (y2 h2 _) rfl)⟩
  rfl
end Go.Proofs.YtjagfionflbjbaaGreat.N
namespace Go.Proofs.YtjagfionflbjbaaGreat.SH
open Go Go.RowKit
theorem q1j {E:Env}{st st':Nat→Bool}{f:FuncId}{args:List PV}{H H' H1:List (Nat×Blk)}{r r1:PV}(κ:Nat→Nat)(h:R4 E st f args H H1 r1)(hr:r1=r.ren κ)
  (hb:∀ j B,H'.lookup j=some B→H1.lookup (κ j)=some (B.ren κ)) (inj:∀ j j',H'.lookup j≠none→H'.lookup j'≠none→κ j=κ j'→j=j')
  (hnew:∀ j,H'.lookup j≠none→H.lookup j=none→H.lookup (κ j)=none) (hst:∀ j,H'.lookup j≠none→H.lookup j≠none→st' j=true→κ j=j∧st j=true):R4 E st' f args H H' r:=by
 intro ok ρ w vals hG hH hinj hrel
 refine Calls.mono (h ok ρ w vals hG hH hinj hrel) fun e w' ⟨v,ρ1,he,hp⟩=>⟨v,fun j=>ρ1 (κ j),he,?_⟩
 have hin:∀ j,H'.lookup j≠none→H1.lookup (κ j)≠none:=fun j hj=>by
  obtain ⟨B,hB⟩:=G3 hj
  rw [hb j B hB]; simp
 have hok:Carry (okG ok w H1 ρ1) (okG ok w H' fun j=>ρ1 (κ j)) (Go.Proofs.YtjagfionflbjbaaGreat.SH.hp w') (Go.Proofs.YtjagfionflbjbaaGreat.SH.hp w'):=fun b hb' _=>⟨⟨hb'.1,fun j hj=>hb'.2 _ (hin j hj)⟩,rfl⟩
 have hH1:∀ j B,lk H' j=some B→∃ B',lk H1 (κ j)=some B'∧B'.sz=B.sz∧B'.cs.len=B.cs.len:=fun j B hj=>⟨_,hb j B hj,rfl,Cells.ren_len _ _⟩
 have hrv:∀ x v,M2 (lk H1) ρ1 (okG ok w H1 ρ1) (Go.Proofs.YtjagfionflbjbaaGreat.SH.hp w') (x.ren κ) v→M2 (lk H') (fun j=>ρ1 (κ j)) (okG ok w H' fun j=>ρ1 (κ j)) (Go.Proofs.YtjagfionflbjbaaGreat.SH.hp w') x v:=fun x v hx =>
  M2.mono (K:=fun _=>True) hok (fun k _ B' hB'=>⟨B',hB',rfl,Nat.le_refl _,fun _=>⟨rfl,fun c T fr hc=>⟨c,T,fr,hc,rfl⟩⟩⟩) x v (fun _ _=>trivial) (V0r hH1 x v hx)
 exact {
  res:=hrv r v (hr ▸ hp.res)
  blk:=fun j B' hj=>by
   obtain ⟨c,h1,h2,h3⟩:=hp.blk (κ j) _ (hb j B' hj)
   refine ⟨c,h1,by rw [← Cells.ren_len κ]; exact h2,fun i x hx=>?_⟩
   obtain ⟨u,hu,h4,h5⟩:=h3 i (x.ren κ) (by show (B'.cs.ren κ).get i=_; rw [Cells.ren_get,hx]; rfl)
   exact ⟨u,hu,h4,hrv x u h5⟩
  inj:=fun j j' hj hj' e=>inj j j' hj hj' (hp.inj _ _ (hin j hj) (hin j' hj') e)
  old:=fun j hj hj'=>by
   by_cases hk:H.lookup (κ j)=none
   ·exact .inr (hp.new _ (hin j hj) hk)
   ·exact hp.old _ (hin j hj) hk
  new:=fun j hj hj'=>hp.new _ (hin j hj) (hnew j hj hj')
  stay:=fun j hj hj' hs=>by
   obtain ⟨e,hs'⟩:=hst j hj hj' hs
   have:=hp.stay j (by have:=hin j hj; rwa [e] at this) hj' hs'
   show ρ1 (κ j)=_∧_
   rw [e]; exact this
  os:=hp.os
  tape:=hp.tape
  output:=hp.output
  size:=hp.size
  frame:=hp.frame }
end Go.Proofs.YtjagfionflbjbaaGreat.SH
set_option maxRecDepth 100000
set_option maxHeartbeats 4000000
namespace Go.Proofs.YtjagfionflbjbaaGreat.N
open Go Go.Proofs.YtjagfionflbjbaaGreat.SH Go.Proofs.YtjagfionflbjbaaGreat.NumA
open Go.Proofs.Tryz renaming isAgg40→ag40,sizeOf40→sz40,underlying77→un77
theorem D0x:∀ {vs:List PV}{off:Nat}{u:PV},off<vs.length→v0m vs off [u] (vs.set off u)
 | [],_,_,h=>by simp at h
 | v :: vs,0,u,_=>.put .here
 | v :: vs,n+1,u,h=>.skip (D0x (by simpa using h))
theorem lkH {sl:List (Nat×PV)}{k:Nat}{B:Blk}{r:List (Nat×Blk)}:St.blk ⟨sl,(k,B) :: r⟩ k=some B:=by show List.lookup k _=_; simp
def n1j (s i n:Nat):PV:=.ref (I3 s i) 0 n (n*4)
def swH (s:Nat)(m:List (List Rat))(i k:Nat):List (Nat×Blk):=(s+1001,⟨40,1,.mix (((V4 s 0 m).set i (n1j s k (m.getD k []).length)).set k (n1j s i (m.getD i []).length))⟩) :: d7 s 0 m
theorem d2g {sl:List (Nat×PV)}{s:Nat}{m:List (List Rat)}{i k:Nat}{B:Blk}(h2:s<9):O5 ⟨sl,(s+1001,⟨40,1,.mix (((V4 s 0 m).set i (n1j s k (m.getD k []).length)).set k (n1j s i (m.getD i []).length))⟩) :: (s+1001,B) :: ([]++I2 s m)⟩ (swH s m i k):=by
 have hnd:=(y2 h2 m).nd
 refine v5 (by simpa [swH,I2] using hnd) fun j C hj=>?_
 show List.lookup j _=some C
 rw [swH,i0] at hj
 rw [i0]
 by_cases e:j=s+1001
 ·subst e; simpa using hj
 ·rw [show (j == s+1001)=false by simpa using e] at hj ⊢
  simp only [List.nil_append,I2,i0]
  rw [show (j == s+1001)=false by simpa using e]; exact hj
theorem g1v (s:Nat)(m:List (List Rat))(i k:Nat)(h2:s<9)(hi:i<m.length)(hk:k<m.length):R4 E (fun k=>Nat.blt k 1100) 94 [.ref (s+1001) 0 m.length m.length,.p (vZ i),.p (vZ k)] (I2 s m) (swH s m i k) (.p (.tup [])):=by
 refine v4 (xs:=[]) Tryz.func94 rfl Tryz.ntmps94 Tryz.results94 sM fun F G=>?_
 have L:=@lti _ _ G.nt
 have hG:=G.g
 have hX:=G.x
 have hN:=Y5 hG
 have P0:∀ k,Nat.blt k 1000=true→F.pin k=none:=fun k hk=>G.p0 k ((y2 h2 m).low k hk)
 refine b0z rF ?_
 refine mV L rfl (mV L rfl (mV L rfl (mV L rfl (mV L rfl (mV L rfl (sw (y6 un77 sz40 (by first | exact E2 _ _ _ | exact (E2 _ _ _).trans sM | simp [Cells.len]) (j:=k) rO oM L) t2 ⟨rdT [] (y2 h2 m) rfl hdL,trivial⟩ ?_))))))
 refine sw (Y1 ag40 (by first | exact E2 _ _ _ | exact (E2 _ _ _).trans sM) (K0s hk) L) t1 ⟨rdT [] (y2 h2 m) rfl hdL,trivial⟩ ?_
 refine mV L rfl (mV L rfl (sw (y6 un77 sz40 (by first | exact E2 _ _ _ | exact (E2 _ _ _).trans sM | simp [Cells.len]) (j:=i) rO oM L) t2 ⟨rdT [] (y2 h2 m) rfl hdL,trivial⟩ ?_))
 refine sw (Y1 ag40 (by first | exact E2 _ _ _ | exact (E2 _ _ _).trans sM) (K0s hi) L) t1 ⟨rdT [] (y2 h2 m) rfl hdL,trivial⟩ ?_
 refine sw (y6 un77 sz40 (by first | exact E2 _ _ _ | exact (E2 _ _ _).trans sM | simp [Cells.len]) (j:=i) rO oM L) t2 ⟨rdT [] (y2 h2 m) rfl hdL,trivial⟩ ?_
 refine sb (U2 sz40 sM .ref rfl (D0x sO)) t2 ⟨rdT [] (y2 h2 m) rfl hdL,trivial⟩ ?_
 refine sw (y6 un77 sz40 (by first | exact E2 _ _ _ | exact (E2 _ _ _).trans sM | simp [Cells.len]) (j:=k) rO oM L) t2 ⟨lkH,trivial⟩ ?_
 refine sb (U2 sz40 sM .ref rfl (D0x sO)) t2 ⟨lkH,trivial⟩ ?_
 refine O1 ⟨h0n [⟨[0],[],[6],[]⟩,⟨[1],[],[7],[]⟩,⟨[0],[],[8],[]⟩,⟨[2],[],[9],[]⟩,⟨[0],[],[10],[]⟩,⟨[2],[],[11],[]⟩,⟨[10,11],[1000],[12],[]⟩,⟨[12],[1000],[13],[]⟩,⟨[0],[],[14],[]⟩,⟨[1],[],[15],[]⟩,⟨[14,15],[1000],[16],[]⟩,⟨[16],[1000],[17],[]⟩,⟨[6,7],[1000],[18],[]⟩,⟨[18,13],[1000],[],[1000]⟩,⟨[8,9],[1000],[19],[]⟩,⟨[19,17],[1000],[],[1000]⟩] (.cons (cf0 rfl) (.cons (cf0 rfl) (.cons (cf0 rfl) (.cons (cf0 rfl) (.cons (cf0 rfl) (.cons (cf0 rfl) (.cons (cfT rfl rfl (V8 (by first | exact B6 _ | exact C5 _ _)) rfl (fun _ h=>by cases h)) (.cons (cfT rfl rfl (V8 (by first | exact B6 _ | exact C5 _ _)) rfl (fun _ h=>by cases h)) (.cons (cf0 rfl) (.cons (cf0 rfl) (.cons (cfT rfl rfl (V8 (by first | exact B6 _ | exact C5 _ _)) rfl (fun _ h=>by cases h)) (.cons (cfT rfl rfl (V8 (by first | exact B6 _ | exact C5 _ _)) rfl (fun _ h=>by cases h)) (.cons (cfT rfl rfl (V8 (by first | exact B6 _ | exact C5 _ _)) rfl (fun _ h=>by cases h)) (.cons (cfT rfl rfl (V8 (by first | exact B6 _ | exact C5 _ _)) rfl (V8 (by first | exact B6 _ | exact C5 _ _))) (.cons (cfT rfl rfl (V8 (by first | exact B6 _ | exact C5 _ _)) rfl (fun _ h=>by cases h)) (.cons (cfT rfl rfl (V8 (by first | exact B6 _ | exact C5 _ _)) rfl (V8 (by first | exact B6 _ | exact C5 _ _)))  .nil)))))))))))))))) rfl (frS [] [] (y2 h2 m) rfl rfl) dC,?_⟩
 refine ⟨.inl rfl,X4.cast .nil ?_,(d2g h2)⟩
 rfl
@[simp] theorem h0g (m:List (List Rat))(i k:Nat):(K5 m i k).length=m.length:=by simp [K5]
theorem K0v {m:List (List Rat)}{i k j:Nat}(hi:i<m.length)(hk:k<m.length)(hne:i≠k):(K5 m i k)[j]? = if j=k then some (m.getD i []) else if j=i then some (m.getD k []) else m[j]?:=by
 simp only [K5,List.getElem?_set,List.length_set]
 by_cases h1:k=j
 ·subst h1; simp [hk]
 ·rw [if_neg h1,if_neg (Ne.symm h1)]
  by_cases h2:i=j
  ·subst h2; simp [hi]
  ·rw [if_neg h2,if_neg (Ne.symm h2)]
def kap (s i k j:Nat):Nat:=if j=I3 s i then I3 s k else if j=I3 s k then I3 s i else j
theorem d0j {s i k j:Nat}:kap s i k (I3 s j)=I3 s (if j=i then k else if j=k then i else j):=by
 unfold kap
 simp only [F0s]
 split
 ·rfl
 ·split <;> rfl
theorem D0n {s i k j:Nat}(h:j<1100):kap s i k j=j:=by
 unfold kap
 rw [if_neg (by unfold I3; omega),if_neg (by unfold I3; omega)]
theorem W0r {s j:Nat}{m:List (List Rat)}:(d7 s 0 m).lookup (I3 s j)=(m[j]?).map T3:=by
 have:=g0g (s:=s) (i:=0) (j:=j) (m:=m)
 rwa [F1] at this
theorem V5 {s j:Nat}{m:List (List Rat)}(h2:s<9)(h:(I2 s m).lookup j≠none):j=s+1001∨∃ q,q<m.length∧j=I3 s q:=by
 obtain ⟨B,hB⟩:=j1.1 h
 rw [I2,i0] at hB
 by_cases e:j=s+1001
 ·exact .inl e
 ·rw [show (j == s+1001)=false by simpa using e] at hB
  obtain ⟨q,hq,e2⟩:=D9 (G0.2 ⟨_,L3 hB,rfl⟩)
  exact .inr ⟨q,hq,by have e2:j=I3 s (0+q):=e2; rw [e2,F1]⟩
theorem Y0g {s q:Nat}{m:List (List Rat)}(h2:s<9)(h:q<m.length):(I2 s m).lookup (I3 s q)≠none:=by rw [rwL h2 h]; simp
theorem p1k (s:Nat)(m:List (List Rat))(i k:Nat)(h2:s<9)(hi:i<m.length)(hk:k<m.length)(hne:i≠k):R4 E (fun k=>Nat.blt k 1100) 94 [.ref (s+1001) 0 m.length m.length,.p (vZ i),.p (vZ k)] (I2 s m) (I2 s (K5 m i k)) (.p (.tup [])):=by
 refine q1j (kap s i k) (g1v s m i k h2 hi hk) rfl (fun j B hj=>?_) (fun j j' hj hj' e=>?_) (fun j hj hj'=>?_) (fun j hj hj' hs=>?_)
 ·rcases V5 h2 (show (I2 s (K5 m i k)).lookup j≠none by rw [hj]; simp) with rfl | ⟨q,hq,rfl⟩
  ·rw [D0n oM,swH]
   rw [hdL] at hj
   obtain rfl:=by simpa using hj
   rw [i0,BEq.rfl]
   refine congrArg (fun l=>some (⟨40,1,.mix l⟩:Blk)) ?_
   apply List.ext_getElem?
   intro j
   rw [List.getElem?_map,j0q,K0v hi hk hne,F1,List.getElem?_set,List.getElem?_set]
   simp only [List.length_set,E2]
   by_cases h1:j=k
   ·subst h1
    simp only [if_true,hk,Option.map_some,PV.ren,d0j,n1j]
    rw [if_neg (Ne.symm hne)]
   ·rw [if_neg h1,if_neg (Ne.symm h1)]
    by_cases h3:j=i
    ·subst h3; simp [hi,PV.ren,d0j,n1j]
    ·rw [if_neg h3,if_neg (Ne.symm h3),j0q,F1]
     cases m[j]? with
     | none=>rfl
     | some v=>simp [PV.ren,d0j,h1,h3]
  ·rw [h0g] at hq
   rw [d0j,swH,i0,show ((I3 s (if q=i then k else if q=k then i else q)) == s+1001)=false by simp [I3]; omega,W0r]
   rw [rwL h2 (by rw [h0g]; exact hq)] at hj
   injection hj with hj
   subst hj
   show _=some (T3 _)
   have e:(K5 m i k).getD q []=m.getD (if q=i then k else if q=k then i else q) []:=by
    rw [f0,K0v hi hk hne]
    by_cases h1:q=k
    ·subst h1; rw [if_pos rfl,if_neg (Ne.symm hne),if_pos rfl]; rfl
    ·rw [if_neg h1]
     by_cases h3:q=i
     ·rw [if_pos h3,if_pos h3]; rfl
     ·rw [if_neg h3,if_neg h3,if_neg h1,f0]
   rw [e]
   show Option.map T3 _=_
   have hl:(if q=i then k else if q=k then i else q)<m.length:=by split; exact hk; split; exact hi; exact hq
   simp [f0,hl]
 ·rcases V5 h2 hj with rfl | ⟨q,hq,rfl⟩ <;> rcases V5 h2 hj' with rfl | ⟨q',hq',rfl⟩
  ·rfl
  ·rw [D0n oM,d0j] at e; simp [I3] at e; omega
  ·rw [d0j,D0n oM] at e; simp [I3] at e; omega
  ·rw [d0j,d0j,F0s] at e; rw [F0s]; split at e <;> split at e <;> (try split at e) <;> (try split at e) <;> omega
 ·rcases V5 h2 hj with rfl | ⟨q,hq,rfl⟩
  ·rw [hdL] at hj'; cases hj'
  ·exact absurd hj' (Y0g h2 (by rwa [h0g] at hq))
 ·rw [Nat.blt_eq] at hs
  exact ⟨D0n hs,by simpa [Nat.blt_eq] using hs⟩
end Go.Proofs.YtjagfionflbjbaaGreat.N
namespace Go.Proofs.YtjagfionflbjbaaGreat.SH
open Go Go.RowKit
structure d0w (st:Nat→Bool) (F:Fr) (S:St) (H H':List (Nat×Blk)) (slR:List (Nat×PV)) (hb2:List (Nat×Blk)):Prop where
 h1:∀ j B,H.lookup j=some B→S.blk j=some B
 hs:q7 S slR
 h2:∀ k B,hb2.lookup k=some B→H'.lookup k=some B∨(S.blk k=some B∧H.lookup k=none∧H'.lookup k=none∧∀ i x,B.cs.get i=some x→∀ q,x.free q=false→st q=false→H'.lookup q=none)
 fix:∀ q B1,st q=true→H'.lookup q=some B1→∃ B0,H.lookup q=some B0∧B1.sz=B0.sz∧B1.cs.len=B0.cs.len
 slot:∀ t v,slR.lookup t=some v→∀ q,v.free q=false→st q=false→H'.lookup q=none
 lo:∀ j,H.lookup j≠none→st j=false→F.lo j=false
 pin:∀ j,F.pin j≠none→st j=true
 whole:Whole H'
theorem nsI {E:Env}{st:Nat→Bool}{F:Fr}(hG:E.G F.w0)(hX:∀ b,F.X b→E.ng≤b)(hng:E.ng≤F.w0.heap.size){ops:Array Oper}{d:Nat}{f:FuncId}{op:Op}{T:TypeId}{pos:String}{aft:Array Edge}{xs:List PV}{S:St}{H H':List (Nat×Blk)}{r:PV}{rs:List (Operand×PV)}{os:List Oper}{K:St→Prop}(slR:List (Nat×PV))(hb2:List (Nat×Blk))(hs:R4 E st f xs H H' r)(hlt:d<F.nt)
  (hargs:∀ ρ S a w,b5 F ρ S a w→(∀ p∈rs,S.opd p.1=some p.2)→∃ vals:List Value,(execOp a.eval ⟨some d,op,T,pos,aft,none⟩).run E.P w = .ok (.enter f vals.toArray) w∧D3 S.blk ρ (okI F S.blk ρ) (hp w) xs vals)
  (hr:C8 S rs) (C:d0w st F S H H' slR hb2) (hres:∀ q,r.free q=false→H'.lookup q≠none) (hd:slR.lookup d=none) (hn:h0d E.P F ops os ⟨(d,r) :: slR,hb2⟩ K):h0d E.P F ops (⟨some d,op,T,pos,aft,none⟩ :: os) S K:=by
 have hstay:∀ q,(st q=false→H'.lookup q=none)→G0h st S ⟨(d,r) :: slR,hb2⟩ (fun j=>j) H H' q:=fun q hq=>by
  cases e:hb2.lookup q with
  | none=>exact .inl e
  | some B =>
   rcases C.h2 q B e with h | ⟨h3,h4,h5,_⟩
   ·have hst : st q = true := by
     cases e2:st q with
     | true=>rfl
     | false=>rw [hq e2] at h; cases h
    obtain ⟨B0,h6,h7,h8⟩:=C.fix q B hst h
    exact .inr (.inr ⟨q,B0,B,rfl,hst,h6,h,h7,h8⟩)
   ·exact .inr (.inl ⟨by rw [h3]; exact e,fun j hj e2=>by subst e2; exact hj.elim (fun h=>h h4) (fun h=>h h5)⟩)
 refine .cons (N1d hG hX hng (fun j=>j) hs rfl rfl hlt (fun ρ a w hS=>?_) ⟨fun j B hj=>by rw [Blk.ren_id]; exact C.h1 j B hj,fun _ _ _ _ h=>h,fun i j _ h2 _ h4 _=>C.lo j h2 h4,fun k B' hk=>?_,fun t v ht=>?_,hres,C.whole,fun j hj hp=>?_⟩) hn
 ·rw [PV.renL_id]; exact hargs ρ S a w hS hr.all
 ·rcases C.h2 k B' hk with h | ⟨h3,h4,h5,h6⟩
  ·exact .inl ⟨k,B',rfl,h,(Blk.ren_id B').symm⟩
  ·exact .inr ⟨h3,fun j hj e2=>by subst e2; exact hj.elim (fun h=>h h4) (fun h=>h h5),fun i x hx q hq=>hstay q (h6 i x hx q hq)⟩
 ·simp only [St.slot,i0] at ht
  by_cases e:t=d
  ·subst e; simp only [BEq.rfl,U0] at ht; exact .inl ⟨rfl,by rw [PV.ren_id]; exact ht.symm⟩
  ·rw [show (t == d)=false by simpa using e] at ht
   exact .inr ⟨e,C.hs.all t v ht,fun q hq=>hstay q (C.slot t v ht q hq)⟩
 ·have h:=C.pin j hp
  obtain ⟨B1,hB1⟩:=G3 hj
  obtain ⟨B0,h0,_⟩:=C.fix j B1 h hB1
  exact ⟨by rw [h0]; simp,h⟩
end Go.Proofs.YtjagfionflbjbaaGreat.SH
namespace Go.Proofs.YtjagfionflbjbaaGreat.SH
open Go Go.RowKit
def G8 (k:Nat):Bool:=Nat.blt k 1100
def l6 (l:List (Nat×Blk)):Bool:=l.all fun p=>Nat.blt p.1 1000
theorem f0h {l:List (Nat×Blk)}(h:l6 l=true){k:Nat}{B:Blk}(hk:l.lookup k=some B):k<1000:=by
 unfold l6 at h
 rw [s0] at h
 simpa [Nat.blt_eq] using h _ (L3 hk)
theorem n5 {l:List (Nat×Blk)}(h:l6 l=true){k:Nat}(hk:1000≤k):l.lookup k=none:=by
 cases e:l.lookup k with
 | none=>rfl
 | some B=>have:=f0h h e; omega
theorem s8 {α:Type}:∀ {l:List (Nat×α)} {j:Nat} {B:α} (_:l.lookup j=some B),(j,B)∈l
 | [],_,_,h=>by simp at h
 | (k,C) :: l,j,B,h=>by
  rw [i0] at h
  split at h
  ·rename_i e; injection h with h; subst h; simp [beq_iff_eq.1 e]
  ·simp [s8 h]
theorem ncT {F:Fr}{sl slR:List (Nat×PV)}{bx pre pre' T T' U U':List (Nat×Blk)}(ks:List Nat)(hks:(ks.all fun k=>Nat.blt k 1100)=true)
  (hp:l6 pre=true) (hbp:∀ k B,bx.lookup k=some B→pre.lookup k=some B) (hpp:∀ k B,pre'.lookup k=some B→pre.lookup k=some B)
  (hT:∀ k B,T.lookup k=some B→U.lookup k=some B∧1000≤k) (hT':∀ k B,T'.lookup k=some B→1000≤k)
  (hU:∀ k B,U'.lookup k=some B→T'.lookup k=some B∨(1000≤k∧U.lookup k=some B∧T.lookup k=none∧T'.lookup k=none∧∀ i x,B.cs.get i=some x→∀ q,x.free q=false→1100≤q→T'.lookup q=none))
  (hfix:∀ q B1,q<1100→T'.lookup q=some B1→∃ B0,T.lookup q=some B0∧B1.sz=B0.sz∧B1.cs.len=B0.cs.len)
  (hpo:(pre'.all fun p=>p.2.cs.only ks)=true) (hso:(slR.all fun p=>p.2.only ks)=true) (hS:q7 ⟨sl,pre++U⟩ slR)
  (hlo:∀ j,1100≤j→T.lookup j≠none→F.lo j=false) (hpin:∀ j,G8 j=false→F.pin j=none) (hw:Whole (bx++T')) :
  d0w G8 F ⟨sl,pre++U⟩ (bx++T) (bx++T') slR (pre'++U'):=by
 have hbx:∀ k,1000≤k→bx.lookup k=none:=fun k hk=>by
  cases e:bx.lookup k with
  | none=>rfl
  | some B=>have:=f0h hp (hbp k B e); omega
 have hTl:∀ k,k<1000→T.lookup k=none:=fun k hk=>by
  cases e:T.lookup k with
  | none=>rfl
  | some B=>have:=(hT k B e).2; omega
 have hTl':∀ k,k<1000→T'.lookup k=none:=fun k hk=>by
  cases e:T'.lookup k with
  | none=>rfl
  | some B=>have:=hT' k B e; omega
 have hst:∀ {q},G8 q=false→1100≤q:=fun {q} h=>by
  have:¬ q<1100:=fun h2=>by rw [G8,show Nat.blt q 1100=true by rw [Nat.blt_eq]; exact h2] at h; cases h
  omega
 have hst':∀ {q},G8 q=true→q<1100:=fun {q} h=>by simpa [G8,Nat.blt_eq] using h
 have hkl:∀ q,q∈ks→q<1100:=fun q hq=>by rw [s0] at hks; simpa [Nat.blt_eq] using hks q hq
 refine ⟨fun j B hj=>?_,hS,fun k B hk=>?_,fun q B1 hq hq1=>?_,fun t v ht q hq hs=>?_,fun j hj hs=>?_,fun j hj=>?_,hw⟩
 ·show (pre++U).lookup j=some B
  rw [T1] at hj ⊢
  cases e:bx.lookup j with
  | some C=>rw [e,K0] at hj; rw [hbp j C e,K0,hj]
  | none =>
   rw [e,l0] at hj
   rw [n5 hp (hT j B hj).2,l0]; exact (hT j B hj).1
 ·rw [T1] at hk
  show _∨((pre++U).lookup k=some B∧_)
  rw [T1,T1,T1]
  cases e:pre'.lookup k with
  | some C =>
   rw [e,K0] at hk
   injection hk with hk
   subst hk
   have h3:=hpp k C e
   have h4:=f0h hp h3
   rw [h3,hTl k h4,hTl' k h4,K0,Option.or_none]
   cases e2:bx.lookup k with
   | some D =>
    have:=hbp k D e2
    rw [h3] at this
    exact .inl this.symm
   | none =>
    refine .inr ⟨rfl,rfl,rfl,fun i x hx q hq hs=>?_⟩
    rw [s0] at hpo
    have h5:=hkl q (PV.only_mem (Cells.only_get (hpo _ (L3 e)) hx) hq)
    have:=hst hs
    omega
  | none =>
   rw [e,l0] at hk
   rcases hU k B hk with h | ⟨h1,h3,h4,h5,h6⟩
   ·exact .inl (by rw [hbx k (hT' k B h),l0,h])
   ·refine .inr ⟨by rw [n5 hp h1,l0,h3],by rw [hbx k h1,h4]; rfl,by rw [hbx k h1,h5]; rfl,fun i x hx q hq hs=>?_⟩
    have:=hst hs
    rw [T1,hbx q (by omega),l0]; exact h6 i x hx q hq this
 ·rw [T1] at hq1 ⊢
  cases e:bx.lookup q with
  | some C=>rw [e,K0] at hq1; injection hq1 with hq1; subst hq1; exact ⟨C,rfl,rfl,rfl⟩
  | none =>
   rw [e,l0] at hq1
   obtain ⟨B0,h1,h3⟩:=hfix q B1 (hst' hq) hq1
   exact ⟨B0,by rw [l0]; exact h1,h3⟩
 ·rw [s0] at hso
  have h5:=hkl q (PV.only_mem (hso _ (s8 ht)) hq)
  have:=hst hs
  omega
 ·have h1:=hst hs
  rw [T1,hbx j (by omega),l0] at hj
  exact hlo j h1 hj
 ·cases e:G8 j with
  | true=>rfl
  | false=>exact absurd (hpin j e) hj
end Go.Proofs.YtjagfionflbjbaaGreat.SH
namespace Go.Proofs.YtjagfionflbjbaaGreat.SH
open Go
theorem J0g {E:Env}{st st':Nat→Bool}{f:FuncId}{args:List PV}{H H':List (Nat×Blk)}{r:PV}(h:R4 E st f args H H' r)(hst:∀ j,st' j=true→st j=true):R4 E st' f args H H' r:=by
 intro ok ρ w vals hG hH hinj hrel
 refine Calls.mono (h ok ρ w vals hG hH hinj hrel) fun e w' ⟨v,ρ1,he,hp⟩=>⟨v,ρ1,he,{ hp with stay:=fun j h1 h2 h3=>hp.stay j h1 h2 (hst j h3) }⟩
end Go.Proofs.YtjagfionflbjbaaGreat.SH
namespace Go.Proofs.YtjagfionflbjbaaGreat.SH
open Go
section
variable {P:Program} {F:Fr} {d:Nat} {T:TypeId} {pos:String} {aft:Array Edge} {g:Option (Nat×Bool)} {x y:Operand} {xT yT:TypeId}
theorem w0x {e:TypeId}(hu:P.underlying xT=some (.slice e))(hlt:d<F.nt):O2 P F ⟨some d,.binOp .neq xT x y yT,T,pos,aft,g⟩ { rs:=[(x,.p (.a (.slice none 0 0))),(y,.p (.a (.slice none 0 0)))],ws:=[(d,.p (.a (.bool false)))] } :=
 F4 hlt fun e' w h1 h2=>by simp [execOp,h1,h2,eqGuard,run_neq_slice_nil w xT e none 0 0 hu]
theorem y0k {e:TypeId}{k off n tot:Nat}{B:Blk}(hu:P.underlying xT=some (.slice e))(hl:B.cs.len=tot)(hlt:d<F.nt):O2 P F ⟨some d,.binOp .neq xT x y yT,T,pos,aft,g⟩ { rs:=[(x,.ref k off n tot),(y,.p (.a (.slice none 0 0)))],rb:=[(k,B)],ws:=[(d,.p (.a (.bool true)))] } :=
 E4 rfl hlt rfl rfl fun ρ S a w h hA=>by
  obtain ⟨cap,c,he,hc,_,_⟩:=y9 h (hA.rs (x,.ref k off n tot) (by simp)) (hA.rb (k,B) (by simp)) hl
  have hy:=M4 h (v:=.slice none 0 0) (hA.rs (y,_) (by simp))
  exact ⟨.bool true,by simp [execOp,he,hy,eqGuard,run_neq_slice_nil w xT e _ n cap hu],by simp [M2,Rel]⟩
end
end Go.Proofs.YtjagfionflbjbaaGreat.SH
namespace Go.Proofs.YtjagfionflbjbaaGreat.SH
open Go
theorem Z2 {P:Program}{F:Fr}{d:Nat}{T:TypeId}{pos:String}{aft:Array Edge}{g:Option (Nat×Bool)}{x:Operand}{k off tot:Nat}{B:Blk}(hl:B.cs.len=tot)(hlt:d<F.nt):O2 P F ⟨some d,.nilCheck x,T,pos,aft,g⟩ { rs:=[(x,.at_ k off tot)],rb:=[(k,B)],ws:=[(d,.at_ k off tot)] } :=
 E4 rfl hlt rfl rfl fun ρ S a w h hA=>by
  have hx:=hA.rs (x,.at_ k off tot) (by simp)
  have he:=l9 h hx (hA.rb (k,B) (by simp)) hl
  exact ⟨.pointer (some ⟨ρ k,off,none⟩),by simp [execOp,he],by rw [← he]; exact Z4 h hx⟩
end Go.Proofs.YtjagfionflbjbaaGreat.SH
namespace Go.Proofs.YtjagfionflbjbaaGreat.SH
open Go Go.RowKit
def stA (_:Nat):Bool:=true
theorem w1v {F:Fr}{sl slR:List (Nat×PV)}{bx pre pre' T T' U U':List (Nat×Blk)}
  (hp:l6 pre=true) (hbp:∀ k B,bx.lookup k=some B→pre.lookup k=some B) (hpp:∀ k B,pre'.lookup k=some B→pre.lookup k=some B)
  (hT:∀ k B,T.lookup k=some B→U.lookup k=some B∧1000≤k) (hT':∀ k B,T'.lookup k=some B→1000≤k)
  (hU:∀ k B,U'.lookup k=some B→T'.lookup k=some B∨(1000≤k∧U.lookup k=some B∧T.lookup k=none∧T'.lookup k=none))
  (hfix:∀ q B1,T'.lookup q=some B1→∃ B0,T.lookup q=some B0∧B1.sz=B0.sz∧B1.cs.len=B0.cs.len)
  (hS:q7 ⟨sl,pre++U⟩ slR) (hw:Whole (bx++T')) :
  d0w stA F ⟨sl,pre++U⟩ (bx++T) (bx++T') slR (pre'++U'):=by
 have hbx:∀ k,1000≤k→bx.lookup k=none:=fun k hk=>by
  cases e:bx.lookup k with
  | none=>rfl
  | some B=>have:=f0h hp (hbp k B e); omega
 have hTl:∀ k,k<1000→T.lookup k=none:=fun k hk=>by
  cases e:T.lookup k with
  | none=>rfl
  | some B=>have:=(hT k B e).2; omega
 have hTl':∀ k,k<1000→T'.lookup k=none:=fun k hk=>by
  cases e:T'.lookup k with
  | none=>rfl
  | some B=>have:=hT' k B e; omega
 refine ⟨fun j B hj=>?_,hS,fun k B hk=>?_,fun q B1 hq hq1=>?_,fun t v ht q hq hs=>(by cases hs),fun j hj hs=>(by cases hs),fun j hj=>rfl,hw⟩
 ·show (pre++U).lookup j=some B
  rw [T1] at hj ⊢
  cases e:bx.lookup j with
  | some C=>rw [e,K0] at hj; rw [hbp j C e,K0,hj]
  | none =>
   rw [e,l0] at hj
   rw [n5 hp (hT j B hj).2,l0]; exact (hT j B hj).1
 ·rw [T1] at hk
  show _∨((pre++U).lookup k=some B∧_)
  rw [T1,T1,T1]
  cases e:pre'.lookup k with
  | some C =>
   rw [e,K0] at hk
   injection hk with hk
   subst hk
   have h3:=hpp k C e
   have h4:=f0h hp h3
   rw [h3,hTl k h4,hTl' k h4,K0,Option.or_none]
   cases e2:bx.lookup k with
   | some D =>
    have:=hbp k D e2
    rw [h3] at this
    exact .inl this.symm
   | none=>exact .inr ⟨rfl,rfl,rfl,fun i x hx q hq hs=>(by cases hs)⟩
  | none =>
   rw [e,l0] at hk
   rcases hU k B hk with h | ⟨h1,h3,h4,h5⟩
   ·exact .inl (by rw [hbx k (hT' k B h),l0,h])
   ·exact .inr ⟨by rw [n5 hp h1,l0,h3],by rw [hbx k h1,h4]; rfl,by rw [hbx k h1,h5]; rfl,fun i x hx q hq hs=>(by cases hs)⟩
 ·rw [T1] at hq1 ⊢
  cases e:bx.lookup q with
  | some C=>rw [e,K0] at hq1; injection hq1 with hq1; subst hq1; exact ⟨C,rfl,rfl,rfl⟩
  | none =>
   rw [e,l0] at hq1
   obtain ⟨B0,h1,h3⟩:=hfix q B1 hq1
   exact ⟨B0,by rw [l0]; exact h1,h3⟩
end Go.Proofs.YtjagfionflbjbaaGreat.SH
namespace Go.Proofs.YtjagfionflbjbaaGreat.SH
open Go
theorem g0m {P:Program}{F:Fr}{d:Nat}{t T:TypeId}{pos:String}{aft:Array Edge}{g:Option (Nat×Bool)}{k:Nat}{x:Operand}{j off tot:Nat}{B:Blk}(hl:B.cs.len=tot)(hf:(j != k)=true)(hpk:F.pin k=none)(hlt:d<F.nt) :
  O2 P F ⟨some d,.box t x,T,pos,aft,g⟩ { rs:=[(x,.at_ j off tot)],rb:=[(j,B)],fresh:=some k,ws:=[(d,.at_ k 0 1)],wb:=[(k,⟨t,1,.mix [.at_ j off tot]⟩)] } :=
 j0y (n:=1) (vs:=[.at_ j off tot]) rfl hpk hlt rfl rfl rfl rfl fun ρ S a w h hA=>by
  have hx:=hA.rs (x,.at_ j off tot) (by simp)
  have he:=l9 h hx (hA.rb (j,B) (by simp)) hl
  have hr:=Z4 h hx
  refine ⟨[a.eval x],?_,by simp only [D3]; exact ⟨_,_,rfl,hr,rfl⟩,fun c hc=>?_,by simp only [PV.freeL,PV.free,hf]; rfl⟩
  ·rw [he]; simp [execOp,he,Instr.box,newVar,newRow,Value.cells]
  ·obtain rfl:=List.mem_singleton.1 hc
   rw [he]; rfl
end Go.Proofs.YtjagfionflbjbaaGreat.SH
namespace Go.Proofs.YtjagfionflbjbaaGreat.SH
open Go
theorem p0T {pre T:List (Nat×Blk)}{k:Nat}(h:R5 T)(hk:(Nat.blt k 1000 && (pre.lookup k).isNone)=true):(pre++T).lookup k=none:=by
 rw [j0] at hk
 rw [T1,h.low k hk.1,Option.or_none]
 exact Option.isNone_iff_eq_none.1 hk.2
end Go.Proofs.YtjagfionflbjbaaGreat.SH
set_option maxRecDepth 100000
set_option maxHeartbeats 4000000
namespace Go.Proofs.YtjagfionflbjbaaGreat.N
open Go Go.Proofs.YtjagfionflbjbaaGreat.SH Go.Proofs.YtjagfionflbjbaaGreat.NumA
open Go.Proofs.Tryz renaming call65→cl65,call91→cl91,call93→cl93,call94→cl94,call95→cl95,call96→cl96,call98→cl98,call99→cl99,isAgg3→ag3,isAgg47→ag47,isAgg73→ag73,isAgg77→ag77,sizeOf47→sz47,sizeOf77→sz77,underlying77→un77,underlying79→un79
@[reducible] def bxI (k:Nat)(i:Nat):Nat×Blk:=(k,⟨3,1,.mix [.p (vZ i)]⟩)
theorem i5 {s k:Nat}{B:Blk}{m:List (List Rat)}(h2:s<9)(h:(I2 s m).lookup k=some B):1000≤k:=by
 rcases V5 h2 (show (I2 s m).lookup k≠none by rw [h]; simp) with rfl | ⟨q,_,rfl⟩
 ·omega
 ·simp only [I3]; omega
theorem f0y {s:Nat}{m m':List (List Rat)}(h2:s<9)(hl:m'.length=m.length){q:Nat}{B1:Blk}(hq:q<1100)(h:(I2 s m').lookup q=some B1):∃ B0,(I2 s m).lookup q=some B0∧B1.sz=B0.sz∧B1.cs.len=B0.cs.len:=by
 rcases V5 h2 (show (I2 s m').lookup q≠none by rw [h]; simp) with rfl | ⟨q,_,rfl⟩
 ·rw [hdL] at h
  injection h with h
  subst h
  exact ⟨hdB s m,hdL,rfl,by simp [Cells.len,hl]⟩
 ·simp only [I3] at hq; omega
theorem p1m {bx T:List (Nat×Blk)}(hb:(bx.all fun p=>p.2.cs.only [])=true)(hT:Whole T)(hd:∀ k B,T.lookup k=some B→bx.lookup k=none):Whole (bx++T):=by
 intro j B hj i x hx q hq
 rw [T1] at hj ⊢
 cases e:bx.lookup j with
 | some C =>
  rw [e,K0] at hj
  injection hj with hj
  subst hj
  rw [s0] at hb
  have:=PV.only_mem (Cells.only_get (hb _ (L3 e)) hx) hq
  simp at this
 | none =>
  rw [e,l0] at hj
  have:=hT j B hj i x hx q hq
  intro hn
  cases e2:T.lookup q with
  | none=>exact this e2
  | some C=>rw [hd q C e2,l0,e2] at hn; cases hn
theorem ncM {F:Fr}{n:Nat}{sl:List (Nat×PV)}{bx:List (Nat×Blk)}{s:Nat}{m m':List (List Rat)}(h2:s<9)(hl:m'.length=m.length)(G:GFr E G8 (bx++I2 s m) n F)(hp:l6 bx=true)(hb:(bx.all fun p=>p.2.cs.only [])=true) :
  d0w G8 F ⟨sl,bx++I2 s m⟩ (I2 s m) (I2 s m') [] (bx++I2 s m') :=
 ncT (bx:=[]) (T:=I2 s m) (T':=I2 s m') (U:=I2 s m) (U':=I2 s m') [] rfl hp (fun k B h=>by cases h) (fun k B h=>h) (fun k B h=>⟨h,i5 h2 h⟩) (fun k B h=>i5 h2 h) (fun k B h=>.inl h) (fun q B1 hq h=>f0y h2 hl hq h) hb rfl trivial
  (fun j hj h=>by
   rw [G.lo,T1,n5 hp oM,l0]
   cases e:(I2 s m).lookup j with
   | none=>exact absurd e h
   | some B=>rfl) G.ps (y2 h2 m').whole
theorem v0w (s:Nat)(m:List (List Rat))(i p:Nat)(h2:s<9)(hi:i<m.length)(hp:p<m.length)(hne:i≠p):R4 E G8 93 [.ref (s+1001) 0 m.length m.length,.at_ 6 0 1,.at_ 5 0 1] ([bxI 5 p,bxI 6 i]++I2 s m) ([bxI 5 p,bxI 6 i]++I2 s (K5 m i p)) (.p (.tup [])):=by
 refine v4 (xs:=[]) Tryz.func93 rfl Tryz.ntmps93 Tryz.results93 sM fun F G=>?_
 have L:=@lti _ _ G.nt
 have hG:=G.g
 have hX:=G.x
 have hN:=Y5 hG
 refine H0a (nsw (c_m L) t1 t0 (nsw (Y1 ag3 rF rF L) t1 t1 ?_))
 refine nsw (Y1 ag3 rF rF L) t1 t1 ?_
 refine nsI hG hX hN [] ([(5,_),(6,_)]++(I2 s (K5 m i p))) (p1k s m i p h2 hi hp hne) L (K4 (ys:=[_,_,_]) cl94 rfl rfl) t3 (by exact ncM (bx:=[bxI 5 p,bxI 6 i]) h2 sM G rfl rfl) (fun q h=>by cases h) rfl ?_
 refine .nil ?_
 refine ⟨.inl rfl,X4.cast .nil ?_,⟨rfl,rfl,hbT [_,_] (y2 h2 _) rfl⟩⟩
 rfl
@[reducible] def bxQ (k:Nat)(c:Rat):Nat×Blk:=(k,bQ c)
theorem y0m (s:Nat)(m:List (List Rat))(p:Nat)(c:Rat)(h2:s<9)(hp:p<m.length)(hl:(m.getD p []).length<1000000000)(hs:∀ a∈m.getD p [],qw a<1000000000)(hc:qw c<1000000000):R4 E G8 95 [.ref (s+1001) 0 m.length m.length,.at_ 5 0 1,.at_ 8 0 4] ([bxI 5 p,bxQ 8 c]++I2 s m) ([bxI 5 p,bxQ 8 c]++I2 s (m.set p ((m.getD p []).map (· * c)))) (.p (.tup [])):=by
 refine v4 (xs:=[]) Tryz.func95 rfl Tryz.ntmps95 Tryz.results95 sM fun F G=>?_
 have L:=@lti _ _ G.nt
 have hG:=G.g
 have hX:=G.x
 have hN:=Y5 hG
 refine H0a (nsw (c_m L) t1 t0 (nsw (Y1 ag3 rF rF L) t1 t1 ?_))
 refine nsw (R6 ag47 sz47 rF (by exact al4) rfl L) t1 t1 ?_
 refine nsI hG hX hN [] ([(5,_),(8,_)]++(I2 s (m.set p ((m.getD p []).map (· * c))))) (J0g (f1b s m p c h2 hp hl hs hc) (fun _ _=>rfl)) L (K4 (ys:=[_,_,_]) cl96 rfl rfl) t3 (by exact ncM (bx:=[bxI 5 p,bxQ 8 c]) h2 sM G rfl rfl) (fun q h=>by cases h) rfl ?_
 refine .nil ?_
 refine ⟨.inl rfl,X4.cast .nil ?_,⟨rfl,rfl,hbT [_,_] (y2 h2 _) rfl⟩⟩
 rfl
def K9 (m m':List (List Rat)):Prop:=m'.length=m.length∧∀ i,(m'.getD i []).length=(m.getD i []).length
theorem p1a {m:List (List Rat)}{i:Nat}{r:List Rat}(h:r.length=(m.getD i []).length):K9 m (m.set i r):=by
 refine ⟨by simp,fun j=>?_⟩
 rw [f0,List.getElem?_set]
 by_cases e:i=j
 ·subst e
  rw [if_pos rfl]
  by_cases hi:i<m.length
  ·rw [if_pos hi]; exact h
  ·rw [if_neg hi,f0,List.getElem?_eq_none oM]
 ·rw [if_neg e,f0]
theorem b0c {s:Nat}{m m':List (List Rat)}(h2:s<9)(hl:K9 m m'){q:Nat}{B1:Blk}(h:(I2 s m').lookup q=some B1):∃ B0,(I2 s m).lookup q=some B0∧B1.sz=B0.sz∧B1.cs.len=B0.cs.len:=by
 rcases V5 h2 (show (I2 s m').lookup q≠none by rw [h]; simp) with rfl | ⟨q,hq,rfl⟩
 ·rw [hdL] at h
  injection h with h
  subst h
  exact ⟨hdB s m,hdL,rfl,by simp [Cells.len,hl.1]⟩
 ·rw [rwL h2 hq] at h
  injection h with h
  subst h
  exact ⟨_,rwL h2 (by rw [← hl.1]; exact hq),rfl,by simp only [Cells.len,Y2,hl.2 q]⟩
theorem d2k {F:Fr}{n:Nat}{sl:List (Nat×PV)}{bx:List (Nat×Blk)}{s:Nat}{m m':List (List Rat)}(h2:s<9)(hl:K9 m m')(hp:l6 bx=true) :
  d0w stA F ⟨sl,bx++I2 s m⟩ (I2 s m) (I2 s m') [] (bx++I2 s m') :=
 w1v (bx:=[]) (T:=I2 s m) (T':=I2 s m') (U:=I2 s m) (U':=I2 s m') hp (fun k B h=>by cases h) (fun k B h=>h) (fun k B h=>⟨h,i5 h2 h⟩) (fun k B h=>i5 h2 h) (fun k B h=>.inl h) (fun q B1 h=>b0c h2 hl h) t0 (y2 h2 m').whole
theorem k0x {m:List (List Rat)}{i p:Nat}{c:Rat}(hlen:(m.getD p []).length=(m.getD i []).length):K9 m (Z7 m i p c):=p1a (by simp; simp at hlen; omega)
theorem w0c (s:Nat)(m:List (List Rat))(i p:Nat)(c:Rat)(B C D:Nat)(h2:s<9)(hi:i<m.length)(hp:p<m.length)(hne:i≠p)(hlen:(m.getD p []).length=(m.getD i []).length)(hl:(m.getD i []).length<1000000000)(hB:∀ a∈m.getD i [],qw a≤B)(hC:∀ a∈m.getD p [],qw a≤C)(hD:qw c≤D)(hb:B+(D+C)+1<1000000000):R4 E stA 98 [.ref (s+1001) 0 m.length m.length,.at_ 10 0 1,.at_ 5 0 1,.at_ 11 0 4] ([bxI 5 p,bxI 10 i,bxQ 11 c]++I2 s m) ([bxI 5 p,bxI 10 i,bxQ 11 c]++I2 s (Z7 m i p c)) (.p (.tup [])):=by
 refine v4 (xs:=[]) Tryz.func98 rfl Tryz.ntmps98 Tryz.results98 sM fun F G=>?_
 have L:=@lti _ _ G.nt
 have hG:=G.g
 have hX:=G.x
 have hN:=Y5 hG
 refine H0a (nsw (c_m L) t1 t0 (nsw (Y1 ag3 rF rF L) t1 t1 ?_))
 refine nsw (Y1 ag3 rF rF L) t1 t1 ?_
 refine nsw (R6 ag47 sz47 rF (by exact al4) rfl L) t1 t1 ?_
 refine nsI hG hX hN [] ([(5,_),(10,_),(11,_)]++(I2 s (Z7 m i p c))) (J0g (h1b s m i p c B C D h2 hi hp hne hlen hl hB hC hD hb) (fun _ _=>rfl)) L (K4 (ys:=[_,_,_,_]) cl99 rfl rfl) t4 (by exact d2k (n:=0) (bx:=[bxI 5 p,bxI 10 i,bxQ 11 c]) h2 (k0x hlen) rfl) (fun q h=>by cases h) rfl ?_
 refine .nil ?_
 refine ⟨.inl rfl,X4.cast .nil ?_,⟨rfl,rfl,rfl,hbT [_,_,_] (y2 h2 _) rfl⟩⟩
 rfl
@[reducible] def wB (c n:Nat):Option Nat→Blk
 | none=>⟨79,3,.mix [.ref 1001 0 n n,.p (vZ c),.p (.a (.slice none 0 0))]⟩
 | some k=>⟨79,3,.mix [.ref 1001 0 n n,.p (vZ c),.ref 1002 0 k k]⟩
theorem N0r {s k i q:Nat}{m:List (List Rat)}{B:Blk}{x:PV}(h2:s<9)(h:(I2 s m).lookup k=some B)(hx:B.cs.get i=some x)(hq:x.free q=false):∃ j,q=I3 s j:=by
 rcases V5 h2 (show (I2 s m).lookup k≠none by rw [h]; simp) with rfl | ⟨j,hj,rfl⟩
 ·rw [hdL] at h
  injection h with h
  subst h
  obtain ⟨v,_,e⟩:=G0b hx hq
  exact ⟨_,e⟩
 ·rw [rwL h2 hj] at h
  injection h with h
  subst h
  simp only [Cells.get,M0] at hx
  obtain ⟨y,_,rfl⟩:=hx
  simp [PV.free] at hq
theorem L8 {s s' k:Nat}{m b:List (List Rat)}(h2:s<2)(h2':s'<2)(hne:s≠s')(h:(I2 s m).lookup k≠none):(I2 s' b).lookup k=none:=by
 cases e:(I2 s' b).lookup k with
 | none=>rfl
 | some B =>
  rcases V5 oM h with rfl | ⟨q,_,rfl⟩ <;> rcases V5 oM (show (I2 s' b).lookup _≠none by rw [e]; simp) with h3 | ⟨q',_,h3⟩ <;> (try simp only [I3] at h3) <;> omega
theorem n1m {s k:Nat}{m m':List (List Rat)}(h2:s<9)(hl:m'.length=m.length)(h:(I2 s m).lookup k=none):(I2 s m').lookup k=none:=by
 cases e:(I2 s m').lookup k with
 | none=>rfl
 | some B =>
  rcases V5 h2 (show (I2 s m').lookup k≠none by rw [e]; simp) with rfl | ⟨q,hq,rfl⟩
  ·rw [hdL] at h; cases h
  ·exact absurd h (Y0g h2 oM)
theorem P7 (m b:List (List Rat)):R5 (I2 0 m++I2 1 b):=by
 have h0:=y2 (s:=0) dC m
 have h1:=y2 (s:=1) dC b
 refine ⟨fun k hk=>by rw [T1,h0.low k hk,h1.low k hk]; rfl,?_,fun k hk=>by rw [P4,h0.free k hk,h1.free k hk]; rfl,fun j B hj i x hx q hq=>?_⟩
 ·rw [List.map_append,List.nodup_append]
  refine ⟨h0.nd,h1.nd,fun a ha b' hb e=>?_⟩
  subst e
  obtain ⟨⟨a,A⟩,hA,rfl⟩:=G0.1 ha
  obtain ⟨⟨a',A'⟩,hA',e⟩:=G0.1 hb
  simp only at e
  subst e
  have:=L8 (m:=m) (b:=b) (k:=a') (s:=0) (s':=1) dC dC dC (by rw [U5 h0.nd hA]; simp)
  rw [U5 h1.nd hA'] at this; cases this
 ·rw [T1] at hj ⊢
  cases e:(I2 0 m).lookup j with
  | some C =>
   rw [e,K0] at hj
   injection hj with hj
   subst hj
   have:=h0.whole j C e i x hx q hq
   obtain ⟨D,hD⟩:=j1.1 this
   rw [hD]; simp
  | none =>
   rw [e,l0] at hj
   have:=h1.whole j B hj i x hx q hq
   obtain ⟨D,hD⟩:=j1.1 this
   rw [hD]; simp
theorem Q1q {m b:List (List Rat)}:(I2 0 m++I2 1 b).lookup 1002=some (hdB 1 b):=by
 rw [T1,L8 (m:=b) (b:=m) (k:=1002) (s:=1) (s':=0) dC dC dC (by rw [show 1002=1+1001 from rfl,hdL]; simp),l0]; exact hdL
@[reducible] def ks8:List Nat:=[1,3,4,5,6,7,8,10,11,999,1001,1002,1003]
theorem k1f {F:Fr}{n:Nat}{H0 pre T:List (Nat×Blk)}(G:GFr E G8 H0 n F)(h:∀ k,T.lookup k≠none→H0.lookup k≠none):∀ j,1100≤j→T.lookup j≠none→F.lo j=false:=fun j _ hj=>by
 rw [G.lo]
 cases e:H0.lookup j with
 | none=>exact absurd e (h j hj)
 | some B=>rfl
theorem O8 {pre T:List (Nat×Blk)}{k:Nat}(h:T.lookup k≠none):(pre++T).lookup k≠none:=by
 rw [T1]
 cases pre.lookup k with
 | none=>simpa using h
 | some B=>simp
theorem m0c {T U:List (Nat×Blk)}{k:Nat}(h:T.lookup k≠none):(T++U).lookup k≠none:=by
 rw [T1]
 cases e:T.lookup k with
 | none=>exact absurd e h
 | some B=>simp
theorem w0k {bx r:List (Nat×Blk)}:∀ k B,bx.lookup k=some B→(bx++r).lookup k=some B:=fun k B h=>by rw [T1,h]; rfl
theorem p1v {bx T:List (Nat×Blk)}(hp:l6 bx=true)(hT:∀ k B,T.lookup k=some B→1000≤k)(hb:(bx.all fun p=>p.2.cs.only [])=true)(hw:Whole T):Whole (bx++T) :=
 p1m hb hw fun k B h=>n5 hp (hT k B h)
theorem nc1 {F:Fr}{n:Nat}{sl slR:List (Nat×PV)}{bx r:List (Nat×Blk)}{m m':List (List Rat)}(hl:m'.length=m.length)(G:GFr E G8 ((bx++r)++I2 0 m) n F)(hp:l6 (bx++r)=true)(hp':l6 bx=true)(hb:(bx.all fun p=>p.2.cs.only [])=true)(hpo:((bx++r).all fun p=>p.2.cs.only ks8)=true)(hso:(slR.all fun p=>p.2.only ks8)=true)(hS:q7 ⟨sl,(bx++r)++I2 0 m⟩ slR) :
  d0w G8 F ⟨sl,(bx++r)++I2 0 m⟩ (bx++I2 0 m) (bx++I2 0 m') slR ((bx++r)++I2 0 m') :=
 ncT (pre:=bx++r) (pre':=bx++r) ks8 rfl hp w0k (fun k B h=>h) (fun k B h=>⟨h,i5 dC h⟩) (fun k B h=>i5 dC h) (fun k B h=>.inl h) (fun q B1 hq h=>f0y dC hl hq h) hpo hso hS
  (k1f (pre:=[]) G fun k h=>O8 h) G.ps (p1v hp' (fun k B h=>i5 dC h) hb (y2 dC m').whole)
theorem Y1c {F:Fr}{n:Nat}{sl slR:List (Nat×PV)}{bx r:List (Nat×Blk)}{m m' b:List (List Rat)}(hl:m'.length=m.length)(G:GFr E G8 ((bx++r)++(I2 0 m++I2 1 b)) n F)(hp:l6 (bx++r)=true)(hp':l6 bx=true)(hb:(bx.all fun p=>p.2.cs.only [])=true)(hpo:((bx++r).all fun p=>p.2.cs.only ks8)=true)(hso:(slR.all fun p=>p.2.only ks8)=true)(hS:q7 ⟨sl,(bx++r)++(I2 0 m++I2 1 b)⟩ slR) :
  d0w G8 F ⟨sl,(bx++r)++(I2 0 m++I2 1 b)⟩ (bx++I2 0 m) (bx++I2 0 m') slR ((bx++r)++(I2 0 m'++I2 1 b)) :=
 ncT (pre:=bx++r) (pre':=bx++r) ks8 rfl hp w0k (fun k B h=>h) (fun k B h=>⟨by rw [T1,h]; rfl,i5 dC h⟩) (fun k B h=>i5 dC h)
  (fun k B h=>by
   rw [T1] at h
   cases e:(I2 0 m').lookup k with
   | some C=>rw [e] at h; exact .inl h
   | none =>
    rw [e,l0] at h
    have h0:=L8 (m:=b) (b:=m) (k:=k) (s:=1) (s':=0) dC dC dC (by rw [h]; simp)
    refine .inr ⟨i5 dC h,by rw [T1,h0,l0,h],h0,rfl,fun i x hx q hq _=>?_⟩
    obtain ⟨j,rfl⟩:=N0r dC h hx hq
    cases e2:(I2 0 m').lookup (I3 1 j) with
    | none=>rfl
    | some C=>rcases V5 dC (show (I2 0 m').lookup _≠none by rw [e2]; simp) with h3 | ⟨q',_,h3⟩ <;> simp only [I3] at h3 <;> omega)
  (fun q B1 hq h=>f0y dC hl hq h) hpo hso hS (k1f (pre:=[]) G fun k h=>O8 (m0c h)) G.ps (p1v hp' (fun k B h=>i5 dC h) hb (y2 dC m').whole)
theorem b2f {F:Fr}{n:Nat}{sl slR:List (Nat×PV)}{bx r:List (Nat×Blk)}{m0 m b b':List (List Rat)}(hl:b'.length=b.length)(G:GFr E G8 ((bx++r)++(I2 0 m0++I2 1 b)) n F)(hp:l6 (bx++r)=true)(hp':l6 bx=true)(hb:(bx.all fun p=>p.2.cs.only [])=true)(hpo:((bx++r).all fun p=>p.2.cs.only ks8)=true)(hso:(slR.all fun p=>p.2.only ks8)=true)(hS:q7 ⟨sl,(bx++r)++(I2 0 m++I2 1 b)⟩ slR) :
  d0w G8 F ⟨sl,(bx++r)++(I2 0 m++I2 1 b)⟩ (bx++I2 1 b) (bx++I2 1 b') slR ((bx++r)++(I2 0 m++I2 1 b')):=by
 have hdd:∀ (b:List (List Rat)) k B,(I2 1 b).lookup k=some B→(I2 0 m).lookup k=none:=fun b k B h=>L8 (m:=b) (b:=m) (k:=k) (s:=1) (s':=0) dC dC dC (by rw [h]; simp)
 have hdd':∀ (b:List (List Rat)) k B,(I2 0 m).lookup k=some B→(I2 1 b).lookup k=none:=fun b k B h=>L8 (m:=m) (b:=b) (k:=k) (s:=0) (s':=1) dC dC dC (by rw [h]; simp)
 refine ncT (pre:=bx++r) (pre':=bx++r) ks8 rfl hp w0k (fun k B h=>h) (fun k B h=>⟨by rw [T1,hdd b k B h,l0,h],i5 dC h⟩) (fun k B h=>i5 dC h)
  (fun k B h=>?_)
  (fun q B1 hq h=>f0y dC hl hq h) hpo hso hS (k1f (pre:=[]) G fun k h=>O8 (O8 h)) G.ps (p1v hp' (fun k B h=>i5 dC h) hb (y2 dC b').whole)
 rw [T1] at h
 cases e:(I2 0 m).lookup k with
 | none=>rw [e,l0] at h; exact .inl h
 | some C =>
  rw [e,K0] at h
  injection h with h
  subst h
  refine .inr ⟨i5 dC e,by rw [T1,e]; rfl,hdd' b k C e,hdd' b' k C e,fun i x hx q hq _=>?_⟩
  obtain ⟨j,rfl⟩:=N0r dC e hx hq
  cases e2:(I2 1 b').lookup (I3 0 j) with
  | none=>rfl
  | some D=>rcases V5 dC (show (I2 1 b').lookup _≠none by rw [e2]; simp) with h3 | ⟨q',_,h3⟩ <;> simp only [I3] at h3 <;> omega
theorem d2b {F:Fr}{sl slR:List (Nat×PV)}{bx r:List (Nat×Blk)}{m m':List (List Rat)}(hl:K9 m m')(hp:l6 (bx++r)=true)(hp':l6 bx=true)(hb:(bx.all fun p=>p.2.cs.only [])=true)(hS:q7 ⟨sl,(bx++r)++I2 0 m⟩ slR) :
  d0w stA F ⟨sl,(bx++r)++I2 0 m⟩ (bx++I2 0 m) (bx++I2 0 m') slR ((bx++r)++I2 0 m') :=
 w1v (pre:=bx++r) (pre':=bx++r) hp w0k (fun k B h=>h) (fun k B h=>⟨h,i5 dC h⟩) (fun k B h=>i5 dC h) (fun k B h=>.inl h) (fun q B1 h=>b0c dC hl h) hS (p1v hp' (fun k B h=>i5 dC h) hb (y2 dC m').whole)
theorem b2g {F:Fr}{sl slR:List (Nat×PV)}{bx r:List (Nat×Blk)}{m m' b:List (List Rat)}(hl:K9 m m')(hp:l6 (bx++r)=true)(hp':l6 bx=true)(hb:(bx.all fun p=>p.2.cs.only [])=true)(hS:q7 ⟨sl,(bx++r)++(I2 0 m++I2 1 b)⟩ slR) :
  d0w stA F ⟨sl,(bx++r)++(I2 0 m++I2 1 b)⟩ (bx++I2 0 m) (bx++I2 0 m') slR ((bx++r)++(I2 0 m'++I2 1 b)) :=
 w1v (pre:=bx++r) (pre':=bx++r) hp w0k (fun k B h=>h) (fun k B h=>⟨by rw [T1,h]; rfl,i5 dC h⟩) (fun k B h=>i5 dC h)
  (fun k B h=>by
   rw [T1] at h
   cases e:(I2 0 m').lookup k with
   | some C=>rw [e] at h; exact .inl h
   | none =>
    rw [e,l0] at h
    have h0:=L8 (m:=b) (b:=m) (k:=k) (s:=1) (s':=0) dC dC dC (by rw [h]; simp)
    exact .inr ⟨i5 dC h,by rw [T1,h0,l0,h],h0,rfl⟩)
  (fun q B1 h=>b0c dC hl h) hS (p1v hp' (fun k B h=>i5 dC h) hb (y2 dC m').whole)
theorem W1h {F:Fr}{sl slR:List (Nat×PV)}{bx r:List (Nat×Blk)}{m b b':List (List Rat)}(hl:K9 b b')(hp:l6 (bx++r)=true)(hp':l6 bx=true)(hb:(bx.all fun p=>p.2.cs.only [])=true)(hS:q7 ⟨sl,(bx++r)++(I2 0 m++I2 1 b)⟩ slR) :
  d0w stA F ⟨sl,(bx++r)++(I2 0 m++I2 1 b)⟩ (bx++I2 1 b) (bx++I2 1 b') slR ((bx++r)++(I2 0 m++I2 1 b')):=by
 have hdd:∀ (b:List (List Rat)) k B,(I2 1 b).lookup k=some B→(I2 0 m).lookup k=none:=fun b k B h=>L8 (m:=b) (b:=m) (k:=k) (s:=1) (s':=0) dC dC dC (by rw [h]; simp)
 have hdd':∀ (b:List (List Rat)) k B,(I2 0 m).lookup k=some B→(I2 1 b).lookup k=none:=fun b k B h=>L8 (m:=m) (b:=b) (k:=k) (s:=0) (s':=1) dC dC dC (by rw [h]; simp)
 refine w1v (pre:=bx++r) (pre':=bx++r) hp w0k (fun k B h=>h) (fun k B h=>⟨by rw [T1,hdd b k B h,l0,h],i5 dC h⟩) (fun k B h=>i5 dC h)
  (fun k B h=>?_) (fun q B1 h=>b0c dC hl h) hS (p1v hp' (fun k B h=>i5 dC h) hb (y2 dC b').whole)
 rw [T1] at h
 cases e:(I2 0 m).lookup k with
 | none=>rw [e,l0] at h; exact .inl h
 | some C =>
  rw [e,K0] at h
  injection h with h
  subst h
  exact .inr ⟨i5 dC e,by rw [T1,e]; rfl,hdd' b k C e,hdd' b' k C e⟩
theorem Q1v (c:Nat)(m:List (List Rat))(i p:Nat)(hi:i<m.length)(hp:p<m.length)(hne:i≠p):R4 E G8 92 [.at_ 999 0 3,.clo (.func 93) [] [.at_ 6 0 1,.at_ 5 0 1]] ([bxI 5 p,bxI 6 i,(999,wB c m.length none)]++I2 0 m) ([bxI 5 p,bxI 6 i,(999,wB c m.length none)]++I2 0 (K5 m i p)) (.p (.tup [])):=by
 refine v4 (xs:=[]) Tryz.func92 rfl Tryz.ntmps92 Tryz.results92 sM fun F G=>?_
 have L:=@lti _ _ G.nt
 have hG:=G.g
 have hX:=G.x
 have hN:=Y5 hG
 refine p0r (nsw (c_m L) t1 t0 (nsw (c_m L) t1 t0 (nsw (Z2 rX L) t1 t1 ?_)))
 refine nsw (i2 un79 rfl sz77 dC rX L) t1 t1 ?_
 refine nsw (Y1 ag77 rF rF L) t1 t1 ?_
 refine nsI hG hX hN [(0,.at_ 999 0 3),(1,.clo (.func 93) .nil [.at_ 6 0 1,.at_ 5 0 1])] ([(5,_),(6,_),(999,_)]++(I2 0 (K5 m i p))) (v0w 0 m i p dC hi hp hne) L (w7 (fst:=[]) (ys:=[_]) (cap:=[_,_]) cl93 rfl rfl) t2 (by exact nc1 (bx:=[bxI 5 p,bxI 6 i]) (r:=[_]) sM G rfl rfl rfl rfl rfl t2) (fun q h=>by cases h) rfl ?_
 refine .nil ⟨[(0,_),(1,_)],(5,_) :: (6,_) :: (999,_) :: I2 0 (K5 m i p),t2,⟨rfl,rfl,rfl,(hbT [_,_,_] (y2 dC (K5 m i p)) rfl)⟩,?_⟩
 refine exr (mV L rfl (sw (Z2 rX L) t1 t1 ?_))
 refine sw (i2 un79 rfl sz77 dC rX L) t1 t1 ?_
 refine sw (Y1 ag77 rF rF L) t1 t1 ?_
 refine sw (w0x un77 L) t2 t0 ?_
 refine O1 ⟨[(0,_),(1,_),(14,_)],(5,_) :: (6,_) :: (999,_) :: (I2 0 (K5 m i p)),t3,⟨rfl,rfl,rfl,(hbT [_,_,_] (y2 dC (K5 m i p)) rfl)⟩,?_⟩
 refine Z3 rfl rfl (U1 ?_)
 refine ⟨.inl rfl,X4.cast .nil ?_,⟨rfl,rfl,rfl,(hbT [_,_,_] (y2 dC (K5 m i p)) rfl)⟩⟩
 rfl
theorem V1v (c:Nat)(m b:List (List Rat))(i p:Nat)(hi:i<m.length)(hp:p<m.length)(hne:i≠p)(hib:i<b.length)(hpb:p<b.length):R4 E G8 92 [.at_ 999 0 3,.clo (.func 93) [] [.at_ 6 0 1,.at_ 5 0 1]] ([bxI 5 p,bxI 6 i,(999,wB c m.length (some b.length))]++(I2 0 m++I2 1 b)) ([bxI 5 p,bxI 6 i,(999,wB c m.length (some b.length))]++(I2 0 (K5 m i p)++I2 1 (K5 b i p))) (.p (.tup [])):=by
 refine v4 (xs:=[]) Tryz.func92 rfl Tryz.ntmps92 Tryz.results92 sM fun F G=>?_
 have L:=@lti _ _ G.nt
 have hG:=G.g
 have hX:=G.x
 have hN:=Y5 hG
 refine p0r (nsw (c_m L) t1 t0 (nsw (c_m L) t1 t0 (nsw (Z2 rX L) t1 t1 ?_)))
 refine nsw (i2 un79 rfl sz77 dC rX L) t1 t1 ?_
 refine nsw (Y1 ag77 rF rF L) t1 t1 ?_
 refine nsI hG hX hN [(0,.at_ 999 0 3),(1,.clo (.func 93) .nil [.at_ 6 0 1,.at_ 5 0 1])] ([(5,_),(6,_),(999,_)]++(I2 0 (K5 m i p)++I2 1 b)) (v0w 0 m i p dC hi hp hne) L (w7 (fst:=[]) (ys:=[_]) (cap:=[_,_]) cl93 rfl rfl) t2 (by exact Y1c (bx:=[bxI 5 p,bxI 6 i]) (r:=[_]) sM G rfl rfl rfl rfl rfl t2) (fun q h=>by cases h) rfl ?_
 refine .nil ⟨[(0,_),(1,_)],(5,_) :: (6,_) :: (999,_) :: I2 0 (K5 m i p)++I2 1 b,t2,⟨rfl,rfl,rfl,(hbT [_,_,_] (P7 (K5 m i p) b) rfl)⟩,?_⟩
 refine exr (mV L rfl (sw (Z2 rX L) t1 t1 ?_))
 refine sw (i2 un79 rfl sz77 dC rX L) t1 t1 ?_
 refine sw (Y1 ag77 rF rF L) t1 t1 ?_
 refine sw (y0k un77 (by first | exact E2 _ _ _ | exact (E2 _ _ _).trans sM) L) t2 ⟨rdT [_,_,_] (P7 (K5 m i p) b) rfl Q1q,trivial⟩ ?_
 refine O1 ⟨[(0,_),(1,_),(14,_)],(5,_) :: (6,_) :: (999,_) :: (I2 0 (K5 m i p)++I2 1 b),t3,⟨rfl,rfl,rfl,(hbT [_,_,_] (P7 (K5 m i p) b) rfl)⟩,?_⟩
 refine P8 rfl rfl (H0a (nsw (c_m L) t1 t0 (nsw (c_m L) t1 t0 (nsw (Z2 rX L) t1 t1 ?_))))
 refine nsw (i2 un79 rfl sz77 dC rX L) t1 t1 ?_
 refine nsw (Y1 ag77 rF rF L) t1 t1 ?_
 refine nsI hG hX hN [] ([(5,_),(6,_),(999,_)]++(I2 0 (K5 m i p)++I2 1 (K5 b i p))) (v0w 1 b i p dC hib hpb hne) L (w7 (fst:=[]) (ys:=[_]) (cap:=[_,_]) cl93 rfl rfl) t2 (by exact b2f (bx:=[bxI 5 p,bxI 6 i]) (r:=[_]) sM G rfl rfl rfl rfl rfl trivial) (fun q h=>by cases h) rfl ?_
 refine .nil ?_
 refine ⟨.inl rfl,X4.cast .nil ?_,⟨rfl,rfl,rfl,(hbT [_,_,_] (P7 (K5 m i p) (K5 b i p)) rfl)⟩⟩
 rfl
theorem P1d (c:Nat)(m:List (List Rat))(p:Nat)(q:Rat)(hp:p<m.length)(hl:(m.getD p []).length<1000000000)(hs:∀ a∈m.getD p [],qw a<1000000000)(hc:qw q<1000000000):R4 E G8 92 [.at_ 999 0 3,.clo (.func 95) [] [.at_ 5 0 1,.at_ 8 0 4]] ([bxI 5 p,bxQ 8 q,(999,wB c m.length none)]++I2 0 m) ([bxI 5 p,bxQ 8 q,(999,wB c m.length none)]++I2 0 (m.set p ((m.getD p []).map (· * q)))) (.p (.tup [])):=by
 refine v4 (xs:=[]) Tryz.func92 rfl Tryz.ntmps92 Tryz.results92 sM fun F G=>?_
 have L:=@lti _ _ G.nt
 have hG:=G.g
 have hX:=G.x
 have hN:=Y5 hG
 refine p0r (nsw (c_m L) t1 t0 (nsw (c_m L) t1 t0 (nsw (Z2 rX L) t1 t1 ?_)))
 refine nsw (i2 un79 rfl sz77 dC rX L) t1 t1 ?_
 refine nsw (Y1 ag77 rF rF L) t1 t1 ?_
 refine nsI hG hX hN [(0,.at_ 999 0 3),(1,.clo (.func 95) .nil [.at_ 5 0 1,.at_ 8 0 4])] ([(5,_),(8,_),(999,_)]++(I2 0 (m.set p ((m.getD p []).map (· * q))))) (y0m 0 m p q dC hp hl hs hc) L (w7 (fst:=[]) (ys:=[_]) (cap:=[_,_]) cl95 rfl rfl) t2 (by exact nc1 (bx:=[bxI 5 p,bxQ 8 q]) (r:=[_]) sM G rfl rfl rfl rfl rfl t2) (fun q h=>by cases h) rfl ?_
 refine .nil ⟨[(0,_),(1,_)],(5,_) :: (8,_) :: (999,_) :: I2 0 (m.set p ((m.getD p []).map (· * q))),t2,⟨rfl,rfl,rfl,(hbT [_,_,_] (y2 dC (m.set p ((m.getD p []).map (· * q)))) rfl)⟩,?_⟩
 refine exr (mV L rfl (sw (Z2 rX L) t1 t1 ?_))
 refine sw (i2 un79 rfl sz77 dC rX L) t1 t1 ?_
 refine sw (Y1 ag77 rF rF L) t1 t1 ?_
 refine sw (w0x un77 L) t2 t0 ?_
 refine O1 ⟨[(0,_),(1,_),(14,_)],(5,_) :: (8,_) :: (999,_) :: (I2 0 (m.set p ((m.getD p []).map (· * q)))),t3,⟨rfl,rfl,rfl,(hbT [_,_,_] (y2 dC (m.set p ((m.getD p []).map (· * q)))) rfl)⟩,?_⟩
 refine Z3 rfl rfl (U1 ?_)
 refine ⟨.inl rfl,X4.cast .nil ?_,⟨rfl,rfl,rfl,(hbT [_,_,_] (y2 dC (m.set p ((m.getD p []).map (· * q)))) rfl)⟩⟩
 rfl
theorem V1q (c:Nat)(m b:List (List Rat))(p:Nat)(q:Rat)(hp:p<m.length)(hl:(m.getD p []).length<1000000000)(hs:∀ a∈m.getD p [],qw a<1000000000)(hc:qw q<1000000000)(hpb:p<b.length)(hlb:(b.getD p []).length<1000000000)(hsb:∀ a∈b.getD p [],qw a<1000000000):R4 E G8 92 [.at_ 999 0 3,.clo (.func 95) [] [.at_ 5 0 1,.at_ 8 0 4]] ([bxI 5 p,bxQ 8 q,(999,wB c m.length (some b.length))]++(I2 0 m++I2 1 b)) ([bxI 5 p,bxQ 8 q,(999,wB c m.length (some b.length))]++(I2 0 (m.set p ((m.getD p []).map (· * q)))++I2 1 (b.set p ((b.getD p []).map (· * q))))) (.p (.tup [])):=by
 refine v4 (xs:=[]) Tryz.func92 rfl Tryz.ntmps92 Tryz.results92 sM fun F G=>?_
 have L:=@lti _ _ G.nt
 have hG:=G.g
 have hX:=G.x
 have hN:=Y5 hG
 refine p0r (nsw (c_m L) t1 t0 (nsw (c_m L) t1 t0 (nsw (Z2 rX L) t1 t1 ?_)))
 refine nsw (i2 un79 rfl sz77 dC rX L) t1 t1 ?_
 refine nsw (Y1 ag77 rF rF L) t1 t1 ?_
 refine nsI hG hX hN [(0,.at_ 999 0 3),(1,.clo (.func 95) .nil [.at_ 5 0 1,.at_ 8 0 4])] ([(5,_),(8,_),(999,_)]++(I2 0 (m.set p ((m.getD p []).map (· * q)))++I2 1 b)) (y0m 0 m p q dC hp hl hs hc) L (w7 (fst:=[]) (ys:=[_]) (cap:=[_,_]) cl95 rfl rfl) t2 (by exact Y1c (bx:=[bxI 5 p,bxQ 8 q]) (r:=[_]) sM G rfl rfl rfl rfl rfl t2) (fun q h=>by cases h) rfl ?_
 refine .nil ⟨[(0,_),(1,_)],(5,_) :: (8,_) :: (999,_) :: I2 0 (m.set p ((m.getD p []).map (· * q)))++I2 1 b,t2,⟨rfl,rfl,rfl,(hbT [_,_,_] (P7 (m.set p ((m.getD p []).map (· * q))) b) rfl)⟩,?_⟩
 refine exr (mV L rfl (sw (Z2 rX L) t1 t1 ?_))
 refine sw (i2 un79 rfl sz77 dC rX L) t1 t1 ?_
 refine sw (Y1 ag77 rF rF L) t1 t1 ?_
 refine sw (y0k un77 (by first | exact E2 _ _ _ | exact (E2 _ _ _).trans sM) L) t2 ⟨rdT [_,_,_] (P7 (m.set p ((m.getD p []).map (· * q))) b) rfl Q1q,trivial⟩ ?_
 refine O1 ⟨[(0,_),(1,_),(14,_)],(5,_) :: (8,_) :: (999,_) :: (I2 0 (m.set p ((m.getD p []).map (· * q)))++I2 1 b),t3,⟨rfl,rfl,rfl,(hbT [_,_,_] (P7 (m.set p ((m.getD p []).map (· * q))) b) rfl)⟩,?_⟩
 refine P8 rfl rfl (H0a (nsw (c_m L) t1 t0 (nsw (c_m L) t1 t0 (nsw (Z2 rX L) t1 t1 ?_))))
 refine nsw (i2 un79 rfl sz77 dC rX L) t1 t1 ?_
 refine nsw (Y1 ag77 rF rF L) t1 t1 ?_
 refine nsI hG hX hN [] ([(5,_),(8,_),(999,_)]++(I2 0 (m.set p ((m.getD p []).map (· * q)))++I2 1 (b.set p ((b.getD p []).map (· * q))))) (y0m 1 b p q dC hpb hlb hsb hc) L (w7 (fst:=[]) (ys:=[_]) (cap:=[_,_]) cl95 rfl rfl) t2 (by exact b2f (bx:=[bxI 5 p,bxQ 8 q]) (r:=[_]) sM G rfl rfl rfl rfl rfl trivial) (fun q h=>by cases h) rfl ?_
 refine .nil ?_
 refine ⟨.inl rfl,X4.cast .nil ?_,⟨rfl,rfl,rfl,(hbT [_,_,_] (P7 (m.set p ((m.getD p []).map (· * q))) (b.set p ((b.getD p []).map (· * q)))) rfl)⟩⟩
 rfl
theorem Q1f (c:Nat)(m:List (List Rat))(i p:Nat)(q:Rat)(B C D:Nat)(hi:i<m.length)(hp:p<m.length)(hne:i≠p)(hlen:(m.getD p []).length=(m.getD i []).length)(hl:(m.getD i []).length<1000000000)(hB:∀ a∈m.getD i [],qw a≤B)(hC:∀ a∈m.getD p [],qw a≤C)(hD:qw q≤D)(hb:B+(D+C)+1<1000000000):R4 E stA 92 [.at_ 999 0 3,.clo (.func 98) [] [.at_ 10 0 1,.at_ 5 0 1,.at_ 11 0 4]] ([bxI 5 p,bxI 10 i,bxQ 11 q,(999,wB c m.length none)]++I2 0 m) ([bxI 5 p,bxI 10 i,bxQ 11 q,(999,wB c m.length none)]++I2 0 (Z7 m i p q)) (.p (.tup [])):=by
 refine v4 (xs:=[]) Tryz.func92 rfl Tryz.ntmps92 Tryz.results92 sM fun F G=>?_
 have L:=@lti _ _ G.nt
 have hG:=G.g
 have hX:=G.x
 have hN:=Y5 hG
 refine p0r (nsw (c_m L) t1 t0 (nsw (c_m L) t1 t0 (nsw (Z2 rX L) t1 t1 ?_)))
 refine nsw (i2 un79 rfl sz77 dC rX L) t1 t1 ?_
 refine nsw (Y1 ag77 rF rF L) t1 t1 ?_
 refine nsI hG hX hN [(0,.at_ 999 0 3),(1,.clo (.func 98) .nil [.at_ 10 0 1,.at_ 5 0 1,.at_ 11 0 4])] ([(5,_),(10,_),(11,_),(999,_)]++(I2 0 (Z7 m i p q))) (w0c 0 m i p q B C D dC hi hp hne hlen hl hB hC hD hb) L (w7 (fst:=[]) (ys:=[_]) (cap:=[_,_,_]) cl98 rfl rfl) t2 (by exact d2b (bx:=[bxI 5 p,bxI 10 i,bxQ 11 q]) (r:=[_]) (k0x hlen) rfl rfl rfl t2) (fun q h=>by cases h) rfl ?_
 refine .nil ⟨[(0,_),(1,_)],(5,_) :: (10,_) :: (11,_) :: (999,_) :: I2 0 (Z7 m i p q),t2,⟨rfl,rfl,rfl,rfl,(hbT [_,_,_,_] (y2 dC (Z7 m i p q)) rfl)⟩,?_⟩
 refine exr (mV L rfl (sw (Z2 rX L) t1 t1 ?_))
 refine sw (i2 un79 rfl sz77 dC rX L) t1 t1 ?_
 refine sw (Y1 ag77 rF rF L) t1 t1 ?_
 refine sw (w0x un77 L) t2 t0 ?_
 refine O1 ⟨[(0,_),(1,_),(14,_)],(5,_) :: (10,_) :: (11,_) :: (999,_) :: (I2 0 (Z7 m i p q)),t3,⟨rfl,rfl,rfl,rfl,(hbT [_,_,_,_] (y2 dC (Z7 m i p q)) rfl)⟩,?_⟩
 refine Z3 rfl rfl (U1 ?_)
 refine ⟨.inl rfl,X4.cast .nil ?_,⟨rfl,rfl,rfl,rfl,(hbT [_,_,_,_] (y2 dC (Z7 m i p q)) rfl)⟩⟩
 rfl
theorem V1y (c:Nat)(m b:List (List Rat))(i p:Nat)(q:Rat)(B C D:Nat)(hi:i<m.length)(hp:p<m.length)(hne:i≠p)(hlen:(m.getD p []).length=(m.getD i []).length)(hl:(m.getD i []).length<1000000000)(hB:∀ a∈m.getD i [],qw a≤B)(hC:∀ a∈m.getD p [],qw a≤C)(hD:qw q≤D)(hb:B+(D+C)+1<1000000000)(B' C':Nat)(hib:i<b.length)(hpb:p<b.length)(hlenb:(b.getD p []).length=(b.getD i []).length)(hlb:(b.getD i []).length<1000000000)(hBb:∀ a∈b.getD i [],qw a≤B')(hCb:∀ a∈b.getD p [],qw a≤C')(hbb:B'+(D+C')+1<1000000000):R4 E stA 92 [.at_ 999 0 3,.clo (.func 98) [] [.at_ 10 0 1,.at_ 5 0 1,.at_ 11 0 4]] ([bxI 5 p,bxI 10 i,bxQ 11 q,(999,wB c m.length (some b.length))]++(I2 0 m++I2 1 b)) ([bxI 5 p,bxI 10 i,bxQ 11 q,(999,wB c m.length (some b.length))]++(I2 0 (Z7 m i p q)++I2 1 (Z7 b i p q))) (.p (.tup [])):=by
 refine v4 (xs:=[]) Tryz.func92 rfl Tryz.ntmps92 Tryz.results92 sM fun F G=>?_
 have L:=@lti _ _ G.nt
 have hG:=G.g
 have hX:=G.x
 have hN:=Y5 hG
 refine p0r (nsw (c_m L) t1 t0 (nsw (c_m L) t1 t0 (nsw (Z2 rX L) t1 t1 ?_)))
 refine nsw (i2 un79 rfl sz77 dC rX L) t1 t1 ?_
 refine nsw (Y1 ag77 rF rF L) t1 t1 ?_
 refine nsI hG hX hN [(0,.at_ 999 0 3),(1,.clo (.func 98) .nil [.at_ 10 0 1,.at_ 5 0 1,.at_ 11 0 4])] ([(5,_),(10,_),(11,_),(999,_)]++(I2 0 (Z7 m i p q)++I2 1 b)) (w0c 0 m i p q B C D dC hi hp hne hlen hl hB hC hD hb) L (w7 (fst:=[]) (ys:=[_]) (cap:=[_,_,_]) cl98 rfl rfl) t2 (by exact b2g (bx:=[bxI 5 p,bxI 10 i,bxQ 11 q]) (r:=[_]) (k0x hlen) rfl rfl rfl t2) (fun q h=>by cases h) rfl ?_
 refine .nil ⟨[(0,_),(1,_)],(5,_) :: (10,_) :: (11,_) :: (999,_) :: I2 0 (Z7 m i p q)++I2 1 b,t2,⟨rfl,rfl,rfl,rfl,(hbT [_,_,_,_] (P7 (Z7 m i p q) b) rfl)⟩,?_⟩
 refine exr (mV L rfl (sw (Z2 rX L) t1 t1 ?_))
 refine sw (i2 un79 rfl sz77 dC rX L) t1 t1 ?_
 refine sw (Y1 ag77 rF rF L) t1 t1 ?_
 refine sw (y0k un77 (by first | exact E2 _ _ _ | exact (E2 _ _ _).trans sM) L) t2 ⟨rdT [_,_,_,_] (P7 (Z7 m i p q) b) rfl Q1q,trivial⟩ ?_
 refine O1 ⟨[(0,_),(1,_),(14,_)],(5,_) :: (10,_) :: (11,_) :: (999,_) :: (I2 0 (Z7 m i p q)++I2 1 b),t3,⟨rfl,rfl,rfl,rfl,(hbT [_,_,_,_] (P7 (Z7 m i p q) b) rfl)⟩,?_⟩
 refine P8 rfl rfl (H0a (nsw (c_m L) t1 t0 (nsw (c_m L) t1 t0 (nsw (Z2 rX L) t1 t1 ?_))))
 refine nsw (i2 un79 rfl sz77 dC rX L) t1 t1 ?_
 refine nsw (Y1 ag77 rF rF L) t1 t1 ?_
 refine nsI hG hX hN [] ([(5,_),(10,_),(11,_),(999,_)]++(I2 0 (Z7 m i p q)++I2 1 (Z7 b i p q))) (w0c 1 b i p q B' C' D dC hib hpb hne hlenb hlb hBb hCb hD hbb) L (w7 (fst:=[]) (ys:=[_]) (cap:=[_,_,_]) cl98 rfl rfl) t2 (by exact W1h (bx:=[bxI 5 p,bxI 10 i,bxQ 11 q]) (r:=[_]) (k0x hlenb) rfl rfl rfl trivial) (fun q h=>by cases h) rfl ?_
 refine .nil ?_
 refine ⟨.inl rfl,X4.cast .nil ?_,⟨rfl,rfl,rfl,rfl,(hbT [_,_,_,_] (P7 (Z7 m i p q) (Z7 b i p q)) rfl)⟩⟩
 rfl
@[reducible] def wV (c n:Nat)(v:PV):Nat×Blk:=(999,⟨79,3,.mix [.ref 1001 0 n n,.p (vZ c),v]⟩)
@[reducible] def bxW:Nat×Blk:=(1,⟨73,1,.mix [.at_ 999 0 3]⟩)
theorem v1p (m:List (List Rat))(cols c i:Nat)(v:PV)(T:List (Nat×Blk))(hT:R5 T)(hsub:∀ k B,(I2 0 m).lookup k=some B→T.lookup k=some B)(hi:i<m.length)(hc:c<(m.getD i []).length)(hq:qw ((m.getD i []).getD c 0)<1000000000):R4 E (fun _=>true) 90 [.p (vZ i),.at_ 1 0 1,.at_ 4 0 1] ([bxW,bxI 4 c,wV cols m.length v]++T) ([bxW,bxI 4 c,wV cols m.length v]++T) (.p (bZ (nzI m c i))):=by
 refine v4 (xs:=[bZ (nzI m c i)]) Tryz.func90 rfl Tryz.ntmps90 Tryz.results90 sM fun F G=>?_
 have L:=@lti _ _ G.nt
 have hG:=G.g
 have hX:=G.x
 have hN:=Y5 hG
 refine exr (aV L rfl ?_)
 refine O1 ⟨[(0,_),(1,_),(2,_)],(1,_) :: (4,_) :: (999,_) :: T,t3,⟨rfl,rfl,rfl,(hbT [_,_,_] hT rfl)⟩,?_⟩
 refine exd rF ?_
 refine sw (Y1 ag73 rF rF L) t1 t1 ?_
 refine sw (Z2 rX L) t1 t1 ?_
 refine sw (i2 un79 rfl sz77 dC rX L) t1 t1 ?_
 refine sw (Y1 ag77 rF rF L) t1 t1 ?_
 refine mV L rfl (sw (Y1 ag3 rF rF L) t1 t1 ?_)
 refine sw (o5 hG hX hN (m1b 0 m i c dC hi hc) rfl L (K4 (ys:=[_,_,_]) cl91 rfl rfl) (y2 dC m).nd (y2 dC m).whole (fun q h=>by cases h)) t3 (W7 (v5 (y2 dC m).nd fun k B h=>rdT [_,_,_] hT rfl (hsub k B h))) ?_
 refine cK hG hX cl65 hN (T6 ((m.getD i []).getD c 0) hq) L t1 (sw (C4 L) t1 t0 (aV L rfl ?_))
 refine O1 ⟨h0n [⟨[1],[1],[5],[]⟩,⟨[5],[999],[6],[]⟩,⟨[6],[999],[7],[]⟩,⟨[7],[999],[8],[]⟩,⟨[0],[],[9],[]⟩,⟨[2],[4],[10],[]⟩,⟨[8,9,10],[1000],[11],[]⟩,⟨[11],[],[12],[]⟩,⟨[12],[],[13],[]⟩,⟨[13],[],[4],[]⟩] (.cons (cf0 rfl) (.cons (cf0 rfl) (.cons (cf0 rfl) (.cons (cf0 rfl) (.cons (cf0 rfl) (.cons (cf0 rfl) (.cons (cfT rfl rfl (fun p hp=>by rw [J0f (d0d (y2 dC m) p hp)]; exact List.mem_singleton.2 rfl) rfl (fun _ h=>by cases h)) (.cons (cf0 rfl) (.cons (cf0 rfl) (.cons (cf0 rfl)  .nil)))))))))) rfl (frS [] [_,_,_] hT rfl rfl) dC,[(4,_)],(1,_) :: (4,_) :: (999,_) :: T,t1,⟨rfl,rfl,rfl,(hbT [_,_,_] hT rfl)⟩,?_⟩
 refine X1 ?_
 refine ⟨.inr rfl,X4.cast (.cons (.tmp rfl) .nil) ?_,⟨rfl,rfl,rfl,(hbT [_,_,_] hT rfl)⟩⟩
 rfl
def stO (k:Nat):Bool:=!(k == 603 || k == 604 || k == 605)
theorem P0q (cols n p c:Nat)(T:List (Nat×Blk))(hT:R5 T):R4 E stO 97 [.at_ 999 0 3,.p (vZ p),.p (vZ c)] ([wV cols n (.p (.a (.slice none 0 0)))]++T) ([(603,⟨73,1,.mix [.at_ 999 0 3]⟩),bxI 604 p,bxI 605 c,wV cols n (.p (.a (.slice none 0 0)))]++T) (.clo (.func 126) [] [.at_ 603 0 1,.at_ 604 0 1,.at_ 605 0 1]):=by
 refine y0a Tryz.func97 rfl Tryz.ntmps97 Tryz.results97 sM fun F G=>?_
 have L:=@lti _ _ G.nt
 have hG:=G.g
 have hX:=G.x
 have hN:=Y5 hG
 have P0:=fun k (hk:(Nat.blt k 1000 && (List.lookup k _).isNone)=true)=>G.p0 k (p0T hT hk)
 refine exr (swb (g0m (k:=603) rX rfl (P0 _ rfl) L) t1 t1 (frT [_] hT rfl rfl rfl) ?_)
 refine swb (U3 (k:=604) (n:=1) (.atom rfl) rfl rfl (P0 _ rfl) L) t1 t0 (frT [_,_] hT rfl rfl rfl) (swb (U3 (k:=605) (n:=1) (.atom rfl) rfl rfl (P0 _ rfl) L) t1 t0 (frT [_,_,_] hT rfl rfl rfl) (aV L rfl ?_))
 refine O1 ⟨[(3,_),(4,_),(5,_)],(603,_) :: (604,_) :: (605,_) :: (999,_) :: T,t3,⟨rfl,rfl,rfl,rfl,(hbT [_,_,_,_] hT rfl)⟩,?_⟩
 refine exr (sw (j0k (vs:=[]) (us:=[_,_,_]) rfl rfl L) t3 t0 (aV L rfl ?_))
 refine O1 ⟨[(6,_)],(603,_) :: (604,_) :: (605,_) :: (999,_) :: T,t1,⟨rfl,rfl,rfl,rfl,(hbT [_,_,_,_] hT rfl)⟩,?_⟩
 refine X1 ?_
 refine ⟨.inr rfl,rfl,⟨rfl,rfl,rfl,rfl,hbT [_,_,_,_] hT rfl⟩⟩
theorem P0s (cols n nb p c:Nat)(T:List (Nat×Blk))(hT:R5 T):R4 E stO 97 [.at_ 999 0 3,.p (vZ p),.p (vZ c)] ([wV cols n (.ref 1002 0 nb nb)]++T) ([(603,⟨73,1,.mix [.at_ 999 0 3]⟩),bxI 604 p,bxI 605 c,wV cols n (.ref 1002 0 nb nb)]++T) (.clo (.func 126) [] [.at_ 603 0 1,.at_ 604 0 1,.at_ 605 0 1]):=by
 refine y0a Tryz.func97 rfl Tryz.ntmps97 Tryz.results97 sM fun F G=>?_
 have L:=@lti _ _ G.nt
 have hG:=G.g
 have hX:=G.x
 have hN:=Y5 hG
 have P0:=fun k (hk:(Nat.blt k 1000 && (List.lookup k _).isNone)=true)=>G.p0 k (p0T hT hk)
 refine exr (swb (g0m (k:=603) rX rfl (P0 _ rfl) L) t1 t1 (frT [_] hT rfl rfl rfl) ?_)
 refine swb (U3 (k:=604) (n:=1) (.atom rfl) rfl rfl (P0 _ rfl) L) t1 t0 (frT [_,_] hT rfl rfl rfl) (swb (U3 (k:=605) (n:=1) (.atom rfl) rfl rfl (P0 _ rfl) L) t1 t0 (frT [_,_,_] hT rfl rfl rfl) (aV L rfl ?_))
 refine O1 ⟨[(3,_),(4,_),(5,_)],(603,_) :: (604,_) :: (605,_) :: (999,_) :: T,t3,⟨rfl,rfl,rfl,rfl,(hbT [_,_,_,_] hT rfl)⟩,?_⟩
 refine exr (sw (j0k (vs:=[]) (us:=[_,_,_]) rfl rfl L) t3 t0 (aV L rfl ?_))
 refine O1 ⟨[(6,_)],(603,_) :: (604,_) :: (605,_) :: (999,_) :: T,t1,⟨rfl,rfl,rfl,rfl,(hbT [_,_,_,_] hT rfl)⟩,?_⟩
 refine X1 ?_
 refine ⟨.inr rfl,rfl,⟨rfl,rfl,rfl,rfl,hbT [_,_,_,_] hT rfl⟩⟩
end Go.Proofs.YtjagfionflbjbaaGreat.N
namespace Go.Proofs.YtjagfionflbjbaaGreat.SH
open Go Go.RowKit
theorem Y1h {P:Program}{F:Fr}{ops:Array Oper}{d:Nat}{fo o1 o2:Operand}{ts:Array TypeId}{T:TypeId}{pos:String}{aft:Array Edge}{j g:Nat}{want b:Bool}{l n k:Nat}{encs:Nat→L2×L2}{H:Nat→List (Nat×Blk)}(hY:Yields P F l n encs H)(hk:k<n)(hj:((ops[j]?).bind (·.dst))=some g)(hb:b=want)(hlt:d<F.nt) :
  v1z P F ops ⟨some d,.call ⟨.value fo,#[o1,o2],ts⟩,T,pos,aft,some (j,want)⟩ ⟨[(.tmp g,.p (.a (.bool b))),(fo,.clo (.yield l) [] []),(o1,.p (encs k).1),(o2,.p (encs k).2)],H k,none,[(d,.p (.a (.bool true)))],H (k+1)⟩:=by
 intro S a w hS hh Q K hK
 have hr:=hh.rs (.tmp g,.p (.a (.bool b))) (by simp)
 obtain ⟨ρ,hS'⟩:=hS
 obtain ⟨u,hu,hru⟩:=hS'.slots g _ hr
 have:u = .bool b:=by simpa [M2,Rel] using hru
 subst this
 have hw:Region.wanted ⟨some d,.call ⟨.value fo,#[o1,o2],ts⟩,T,pos,aft,some (j,want)⟩ (yielded ops a.tmps)=true:=by simp [Region.wanted,yielded,hj,hu,hb]
 rw [if_pos hw]
 exact .inr fun m=>hY k hk d fo o1 o2 ts T pos aft (some (j,want)) hlt S a w ⟨ρ,hS'⟩ ⟨fun q hq=>hh.rs q (List.mem_cons_of_mem _ hq),hh.rb,fun _ h=>by cases h⟩ Q K (fun a' w' hs=>hK a' w' hs) m
theorem d2r {P:Program}{F:Fr}{ops:Array Oper}{d:Nat}{fo o1 o2:Operand}{ts:Array TypeId}{T:TypeId}{pos:String}{aft:Array Edge}{j g:Nat}{want b:Bool}{l n k:Nat}{encs:Nat→L2×L2}{H:Nat→List (Nat×Blk)}{os:List Oper}{sl:List (Nat×PV)}{hb:List (Nat×Blk)}{K:List Ann→St→Prop}(hY:Yields P F l n encs H)(hk:k<n)(hj:((ops[j]?).bind (·.dst))=some g)(hbw:b=want)(hlt:d<F.nt)
  (hgs:St.opd ⟨sl,hb⟩ (.tmp g)=some (.p (.a (.bool b)))) (h1:C8 ⟨sl,hb⟩ [(fo,.clo (.yield l) [] []),(o1,.p (encs k).1),(o2,.p (encs k).2)]) (h2:P6 ⟨sl,hb⟩ (H k))
  (hn:F7 P F ops ⟨(d,.p (.a (.bool true))) :: sl,H (k+1)++hb⟩ os fun As S'=>K (⟨[(.tmp g,.p (.a (.bool b))),(fo,.clo (.yield l) [] []),(o1,.p (encs k).1),(o2,.p (encs k).2)],H k,none,[(d,.p (.a (.bool true)))],H (k+1)⟩ :: As) S') :
  F7 P F ops ⟨sl,hb⟩ (⟨some d,.call ⟨.value fo,#[o1,o2],ts⟩,T,pos,aft,some (j,want)⟩ :: os) K :=
 let ⟨As,S',h,hK⟩:=hn
 ⟨_,S',.cons (Y1h hY hk hj hbw hlt) (H7 ⟨hgs,h1⟩ h2 trivial) h,hK⟩
theorem d2j {S:St}{As:List Ann}(h:m7 As=[]):∀ k∈m7 As,S.free k=true:=fun k hk=>by rw [h] at hk; cases hk
theorem J0h:∀ {As done:List Ann},m7 As=[]→(∀ A∈done,A.fresh=none)→F0d As done=true
 | [],_,_,_=>rfl
 | B :: As,done,h,hd=>by
  simp only [m7,List.append_eq_nil_iff,Option.toList_eq_nil_iff] at h
  simp only [F0d,j0,s0]
  refine ⟨fun A hA=>by simp [y0b,hd A hA,h.1],J0h h.2 fun A hA=>?_⟩
  rcases List.mem_append.1 hA with hA | hA
  ·exact hd A hA
  ·obtain rfl:=List.mem_singleton.1 hA; exact h.1
theorem D1k (cf:Nat→Nat){os:List Oper}{As:List Ann}{S:St}(sks:List Sk)(h1:b0h cf As sks)(hn:m7 As=[])(h2:b8 os sks [] []=true):(Y7 os As [] [] && Z5 S As)=true:=N1x cf sks h1 (J0h hn fun _ h=>by cases h) (d2j hn) h2
def cfI (ns:List Nat)(k:Nat):Nat:=if ns.contains k then k else 1000
structure j0g (ns:List Nat) (U:List (Nat×Blk)):Prop where
 no:∀ q,ns.contains q=true→U.lookup q=none
 nd:(U.map (·.1)).Nodup
theorem j0g.ne {ns:List Nat}{U:List (Nat×Blk)}(h:j0g ns U):∀ p∈U,cfI ns p.1=1000:=fun p hp=>by
 unfold cfI
 by_cases e:ns.contains p.1=true
 ·have:=h.no p.1 e
  rw [U5 h.nd hp] at this; cases this
 ·rw [if_neg e]
theorem w0d {ns:List Nat}{pre U:List (Nat×Blk)}(h:j0g ns U)(hp:(pre.all fun p=>ns.contains p.1)=true){k:Nat}{B:Blk}(hk:U.lookup k=some B):pre.lookup k=none:=by
 cases e:pre.lookup k with
 | none=>rfl
 | some C =>
  rw [s0] at hp
  have:=h.no k (hp _ (L3 e))
  rw [hk] at this; cases this
theorem F0m {ns:List Nat}{sl:List (Nat×PV)}{U:List (Nat×Blk)}(pre:List (Nat×Blk))(h:j0g ns U)(hp:(pre.all fun p=>ns.contains p.1)=true):O5 ⟨sl,pre++U⟩ U:=v5 h.nd fun k B hk=>by
 show (pre++U).lookup k=some B
 rw [T1,w0d h hp hk,l0,hk]
theorem W1z {ns:List Nat}{sl:List (Nat×PV)}{U r:List (Nat×Blk)}(pre:List (Nat×Blk))(h:j0g ns U)(hp:(pre.all fun p=>ns.contains p.1)=true):O5 ⟨sl,(pre++U)++r⟩ U:=v5 h.nd fun k B hk=>by
 show ((pre++U)++r).lookup k=some B
 rw [T1,T1,w0d h hp hk,l0,hk]; rfl
theorem M1f {ns:List Nat}{sl:List (Nat×PV)}{U:List (Nat×Blk)}{k:Nat}{B:Blk}(pre:List (Nat×Blk))(h:j0g ns U)(hp:(pre.all fun p=>ns.contains p.1)=true)(hk:U.lookup k=some B):St.blk ⟨sl,pre++U⟩ k=some B:=by
 show (pre++U).lookup k=some B
 rw [T1,w0d h hp hk,l0,hk]
theorem k1s {ns:List Nat}{l r:List (Nat×Blk)}{ks:List Nat}(h1:(l.all fun p=>ks.contains (cfI ns p.1))=true)(h2:j0g ns r)(h3:ks.contains 1000=true):∀ p∈l++r,cfI ns p.1∈ks:=by
 intro p hp
 rcases List.mem_append.1 hp with hp | hp
 ·rw [s0] at h1; simpa using h1 p hp
 ·rw [h2.ne p hp]; simpa using h3
theorem Q0q {ns:List Nat}{l U:List (Nat×Blk)}(h2:j0g ns U)(hl:∀ k B,l.lookup k=some B→U.lookup k=some B)(hnd:(l.map (·.1)).Nodup):∀ p∈l,cfI ns p.1∈[1000]:=by
 intro p hp
 have h1:=hl p.1 p.2 (U5 hnd hp)
 rw [h2.ne (p.1,p.2) (L3 h1)]; exact List.mem_singleton.2 rfl
end Go.Proofs.YtjagfionflbjbaaGreat.SH
set_option maxRecDepth 100000
set_option maxHeartbeats 4000000
namespace Go.Proofs.YtjagfionflbjbaaGreat.N
open Go Go.Proofs.YtjagfionflbjbaaGreat.SH Go.Proofs.YtjagfionflbjbaaGreat.NumA
open Go.Proofs.Tryz renaming call65→cl65,call91→cl91,isAgg3→ag3,isAgg73→ag73,isAgg77→ag77,sizeOf77→sz77,underlying77→un77,underlying79→un79
@[reducible] def w1g:List Nat:=[603,604,605,999]
theorem f0w {m:List (List Rat)}{p c i:Nat}:X9 m p c (i+1)=X9 m p c i+(if h0q m p c i=true then 1 else 0):=by
 rw [X9,List.range_succ,List.filter_append,K1]
 congr 1
 by_cases h:h0q m p c i=true
 ·rw [if_pos h,List.filter_cons_of_pos h]; rfl
 ·rw [if_neg h,List.filter_cons_of_neg h]; rfl
theorem m1v {m:List (List Rat)}{p c:Nat}:∀ {i j:Nat},i≤j→X9 m p c i≤X9 m p c j
 | i,j,h=>by
  induction j with
  | zero =>
   obtain rfl:i=0:=by omega
   exact Nat.le_refl _
  | succ j ih =>
   by_cases e:i=j+1
   ·rw [e]; exact Nat.le_refl _
   ·rw [f0w]; have:=ih (by omega); omega
theorem lkY {ns:List Nat}{sl:List (Nat×PV)}{w:Nat×Blk}{U' r:List (Nat×Blk)}{k:Nat}{B:Blk}(h:j0g ns U')(hw:(k == w.1)=false)(hk:ns.contains k=true)(hr:r.lookup k=some B):St.blk ⟨sl,([w]++U')++r⟩ k=some B:=by
 show List.lookup k _=some B
 rw [T1,T1,h.no k hk,Option.or_none,i0,hw]
 exact hr
theorem atM {M m:List (List Rat)}{n i c:Nat}(hl:M.length=n)(hr:M.getD i []=m.getD i [])(hi:i<n)(hc:c<(m.getD i []).length):R4 E (fun _=>true) 91 [.ref 1001 0 n n,.p (vZ i),.p (vZ c)] (I2 0 M) (I2 0 M) (.p (pQ ((m.getD i []).getD c 0))):=by
 subst hl
 rw [← hr] at hc ⊢
 exact m1b 0 M i c dC hi hc
theorem b1k (cols p c n l:Nat)(m:List (List Rat))(v:PV)(M:Nat→List (List Rat))(U:Nat→List (Nat×Blk))(encs:Nat→L2×L2)(hU:∀ k,k≤n→j0g w1g (U k))(hsub:∀ k,k≤n→∀ q B,(I2 0 (M k)).lookup q=some B→(U k).lookup q=some B)(hlen:∀ k,k≤n→(M k).length=m.length)(hrow:∀ i,i<m.length→(M (X9 m p c i)).getD i []=m.getD i [])(hcl:∀ i,i<m.length→c<(m.getD i []).length)(hq:∀ i,i<m.length→qw ((m.getD i []).getD c 0)<1000000000)(hn:n=X9 m p c m.length)(henc:∀ i,i<m.length→h0q m p c i=true→encs (X9 m p c i)=(vZ i,pQ ((m.getD i []).getD c 0)))(hml:m.length<1000000000):∀ (F:Fr) (code:Code),Tryz.f126.body=some code→XFr E ([(603,⟨73,1,.mix [.at_ 999 0 3]⟩),bxI 604 p,bxI 605 c]++([wV cols m.length v]++U 0)) 42 F→Go.Proofs.YtjagfionflbjbaaGreat.SH.Yields E.P F l n encs (fun k=>[wV cols m.length v]++U k)→n4 E.P F code ⟨[(0,.clo (.yield l) [] []),(1,.at_ 603 0 1),(2,.at_ 604 0 1),(3,.at_ 605 0 1)],[(603,⟨73,1,.mix [.at_ 999 0 3]⟩),bxI 604 p,bxI 605 c,wV cols m.length v]++U 0⟩ (fun e S'=>(e = .normal∨e = .ret)∧O5 S' ([(603,⟨73,1,.mix [.at_ 999 0 3]⟩),bxI 604 p,bxI 605 c]++([wV cols m.length v]++U n))):=by
 intro F code hcode XF hY
 injection (show some _=some code from hcode) with hcode
 subst hcode
 have hG:=XF.g
 have hX:=XF.x
 have hN:=XF.ng
 have L:=@lti _ _ XF.nt
 have hs0:(U 0).lookup 1001=some (hdB 0 (M 0)):=hsub 0 (Nat.zero_le _) _ _ hdL
 have hl0:=hlen 0 (Nat.zero_le _)
 have cle:∀ i,i≤m.length→X9 m p c i≤n:=fun i hi=>by rw [hn]; exact m1v hi
 refine exr (sw (Y1 ag73 rF rF L) t1 t1 ?_)
 refine sw (Z2 rX L) t1 t1 ?_
 refine sw (i2 un79 rfl sz77 dC rX L) t1 t1 ?_
 refine sw (Y1 ag77 rF rF L) t1 t1 ?_
 refine sw (p0m un77 (by first | exact E2 _ _ _ | exact (E2 _ _ _).trans sM | exact (E2 _ _ _).trans (by assumption)) L) t1 ⟨M1f [_,_,_,_] (hU 0 (Nat.zero_le _)) rfl (hs0),trivial⟩ ?_
 refine mV L rfl ?_
 refine O1 ⟨[(0,_),(1,_),(2,_),(3,_),(10,_),(11,_)],(603,_) :: (604,_) :: (605,_) :: (999,_) :: ((U 0)),t6,⟨rfl,rfl,rfl,rfl,(F0m [_,_,_,_] (hU 0 (Nat.zero_le _)) rfl)⟩,?_⟩
 refine V1 ?_
 refine J0n (α:=Nat) (fun i=>[(11,vi (i:Int))]) (fun i=>[]) (fun i=>(U (X9 m p c i))) (fun i=>i≤m.length) (fun i=>m.length - i) (0) (sl:=[(0,_),(1,_),(2,_),(3,_),(10,_)]) (hb:=[(603,_),(604,_),(605,_),(999,_)]) ?_ ⟨oR,rfl,rfl,rfl,rfl,rfl,trivial⟩ ⟨rfl,rfl,rfl,rfl,(F0m [_,_,_,_] (hU 0 (Nat.zero_le _)) rfl)⟩ ?_
 ·exact Nat.zero_le _
 intro i hi
 refine exr (sw (P3 L) t2 t0 ?_)
 refine O1 ⟨[(0,_),(1,_),(2,_),(3,_),(10,_),(11,_),(12,_)],(603,_) :: (604,_) :: (605,_) :: (999,_) :: ((U (X9 m p c i))),t7,⟨rfl,rfl,rfl,rfl,(F0m [_,_,_,_] (hU _ (cle i hi)) rfl)⟩,?_⟩
 refine R1 ?_
 refine j2 rfl (fun hc=>?_) (fun hc=>?_)
 ·have hc:=dt hc
  have hil:i<m.length:=by omega
  refine U1 (xq ?_)
  refine R1 (V1 (exr (mV L rfl (aV L rfl ?_))))
  refine O1 ⟨[(0,_),(1,_),(2,_),(3,_),(5,_),(10,_),(11,_)],(603,_) :: (604,_) :: (605,_) :: (999,_) :: ((U (X9 m p c i))),t7,⟨rfl,rfl,rfl,rfl,(F0m [_,_,_,_] (hU _ (cle i hi)) rfl)⟩,?_⟩
  have atI:=atM (c:=c) (hlen _ (cle i hi)) (hrow i hil) hil (hcl i hil)
  have zI:=T6 ((m.getD i []).getD c 0) (hq i hil)
  by_cases hip:i=p
  ·have ho:h0q m p c i=false:=by rw [h0q,decide_eq_false (by simpa using hip)]; rfl
   refine exd rF ?_
   refine mV L rfl (sw (Y1 ag3 rF rF L) t1 t1 ?_)
   refine sw (c_n L) t2 t0 (mV L rfl (swn (g:=17) rfl sO L rfl (swn (g:=17) rfl sO L rfl (swn (g:=17) rfl sO L rfl (swn (g:=17) rfl sO L rfl (swn (g:=17) rfl sO L rfl (swn (g:=17) rfl sO L rfl (swn (g:=17) rfl sO L rfl (swn (g:=17) rfl sO L rfl (swn (g:=17) rfl sO L rfl (sw (y4 sO L) t2 t0 ?_)))))))))))
   refine mV L rfl (swn (g:=28) rfl rfl L rfl (swn (g:=28) rfl rfl L rfl (swn (g:=28) rfl rfl L rfl (swn (g:=28) rfl rfl L rfl (swn (g:=28) rfl rfl L rfl (swn (g:=28) rfl rfl L rfl (swn (g:=28) rfl rfl L rfl (swn (g:=28) rfl rfl L rfl (swn (g:=28) rfl rfl L rfl (swn (g:=28) rfl rfl L rfl (swn (g:=28) rfl rfl L rfl ?_)))))))))))
   refine sw (y4 rfl L) t2 t0 ?_
   refine O1 ⟨D1k (cfI w1g) [⟨[5],[],[14],[]⟩,⟨[2],[604],[15],[]⟩,⟨[14,15],[],[16],[]⟩,⟨[16],[],[17],[]⟩,⟨[17],[],[18],[]⟩,⟨[17],[],[19],[]⟩,⟨[17],[],[20],[]⟩,⟨[17],[],[21],[]⟩,⟨[17],[],[22],[]⟩,⟨[17],[],[23],[]⟩,⟨[17],[],[24],[]⟩,⟨[17],[],[25],[]⟩,⟨[17],[],[26],[]⟩,⟨[17],[],[27],[]⟩,⟨[27],[],[28],[]⟩,⟨[28],[],[29],[]⟩,⟨[28],[],[30],[]⟩,⟨[28],[],[31],[]⟩,⟨[28],[],[32],[]⟩,⟨[28],[],[33],[]⟩,⟨[28],[],[34],[]⟩,⟨[28],[],[35],[]⟩,⟨[28],[],[36],[]⟩,⟨[28],[],[37],[]⟩,⟨[28],[],[38],[]⟩,⟨[28],[],[39],[]⟩,⟨[28],[],[40],[]⟩] (.cons (cf0 rfl) (.cons (cf0 rfl) (.cons (cf0 rfl) (.cons (cf0 rfl) (.cons (cf0 rfl) (.cons (cf0 rfl) (.cons (cf0 rfl) (.cons (cf0 rfl) (.cons (cf0 rfl) (.cons (cf0 rfl) (.cons (cf0 rfl) (.cons (cf0 rfl) (.cons (cf0 rfl) (.cons (cf0 rfl) (.cons (cf0 rfl) (.cons (cf0 rfl) (.cons (cf0 rfl) (.cons (cf0 rfl) (.cons (cf0 rfl) (.cons (cf0 rfl) (.cons (cf0 rfl) (.cons (cf0 rfl) (.cons (cf0 rfl) (.cons (cf0 rfl) (.cons (cf0 rfl) (.cons (cf0 rfl) (.cons (cf0 rfl)  .nil))))))))))))))))))))))))))) rfl dC,[(0,_),(1,_),(2,_),(3,_),(10,_),(11,_),(40,_)],(603,_) :: (604,_) :: (605,_) :: (999,_) :: ((U (X9 m p c i))),t7,⟨rfl,rfl,rfl,rfl,(F0m [_,_,_,_] (hU _ (cle i hi)) rfl)⟩,?_⟩
   refine Z3 rfl rfl ?_
   refine U1 (xq ?_)
   refine j3 (sw (B3 L (w64 oM oM)) t2 t0 (mV L rfl (O1 ?_)))
   exact ⟨i+1,oM,by omega,l3 ⟨oR,rfl,rfl,rfl,rfl,rfl,trivial⟩ ⟨rfl,rfl,rfl,rfl,(by rw [f0w,ho,if_neg Bool.false_ne_true,Nat.add_zero]; exact F0m [_,_,_,_] (hU _ (cle i hi)) rfl)⟩⟩
  ·by_cases hz:(m.getD i []).getD c 0=0
   ·have ho:h0q m p c i=false:=by rw [h0q,nzI,decide_eq_true hz]; simp
    refine exd rF ?_
    refine mV L rfl (sw (Y1 ag3 rF rF L) t1 t1 ?_)
    refine sw (c_n L) t2 t0 (mV L rfl (swg (g:=17) rfl sO (Y1 ag73 rF rF L) rfl t1 t1 ?_))
    refine swg (g:=17) rfl sO (Z2 rX L) rfl t1 t1 ?_
    refine swg (g:=17) rfl sO (i2 un79 rfl sz77 dC rX L) rfl t1 t1 ?_
    refine swg (g:=17) rfl sO (Y1 ag77 rF rF L) rfl t1 t1 ?_
    refine gV (g:=17) rfl sO L rfl rfl (swg (g:=17) rfl sO (Y1 ag3 rF rF L) rfl t1 t1 ?_)
    refine swg (g:=17) rfl sO (o5 hG hX hN atI rfl L (K4 (ys:=[_,_,_]) cl91 rfl rfl) (y2 dC _).nd (y2 dC _).whole (fun q h=>by cases h)) rfl t3 (W7 (v5 (y2 dC _).nd fun k B h=>M1f [_,_,_,_] (hU _ (cle i hi)) rfl (hsub _ (cle i hi) k B h))) ?_
    refine swg (g:=17) rfl sO (c_c hG hX cl65 rfl hN zI L) rfl t1 t0 (swg (g:=17) rfl sO (C4 L) rfl t1 t0 (sw (O4 sO L) t2 t0 (mV L rfl (swn (g:=28) rfl (by rw [decide_eq_true hz]) L rfl ?_))))
    refine swn (g:=28) rfl (by rw [decide_eq_true hz]) L rfl ?_
    refine swn (g:=28) rfl (by rw [decide_eq_true hz]) L rfl ?_
    refine swn (g:=28) rfl (by rw [decide_eq_true hz]) L rfl ?_
    refine swn (g:=28) rfl (by rw [decide_eq_true hz]) L rfl ?_
    refine swn (g:=28) rfl (by rw [decide_eq_true hz]) L rfl ?_
    refine swn (g:=28) rfl (by rw [decide_eq_true hz]) L rfl ?_
    refine swn (g:=28) rfl (by rw [decide_eq_true hz]) L rfl ?_
    refine swn (g:=28) rfl (by rw [decide_eq_true hz]) L rfl ?_
    refine swn (g:=28) rfl (by rw [decide_eq_true hz]) L rfl ?_
    refine swn (g:=28) rfl (by rw [decide_eq_true hz]) L rfl ?_
    refine sw (y4 (by rw [decide_eq_true hz]; rfl) L) t2 t0 ?_
    refine O1 ⟨D1k (cfI w1g) [⟨[5],[],[14],[]⟩,⟨[2],[604],[15],[]⟩,⟨[14,15],[],[16],[]⟩,⟨[16],[],[17],[]⟩,⟨[17,1],[603],[18],[]⟩,⟨[17,18],[999],[19],[]⟩,⟨[17,19],[999],[20],[]⟩,⟨[17,20],[999],[21],[]⟩,⟨[17,5],[],[22],[]⟩,⟨[17,3],[605],[23],[]⟩,⟨[17,21,22,23],[1000],[24],[]⟩,⟨[17,24],[],[25],[]⟩,⟨[17,25],[],[26],[]⟩,⟨[17,26],[],[27],[]⟩,⟨[27],[],[28],[]⟩,⟨[28],[],[29],[]⟩,⟨[28],[],[30],[]⟩,⟨[28],[],[31],[]⟩,⟨[28],[],[32],[]⟩,⟨[28],[],[33],[]⟩,⟨[28],[],[34],[]⟩,⟨[28],[],[35],[]⟩,⟨[28],[],[36],[]⟩,⟨[28],[],[37],[]⟩,⟨[28],[],[38],[]⟩,⟨[28],[],[39],[]⟩,⟨[28],[],[40],[]⟩] (.cons (cf0 rfl) (.cons (cf0 rfl) (.cons (cf0 rfl) (.cons (cf0 rfl) (.cons (cf0 rfl) (.cons (cf0 rfl) (.cons (cf0 rfl) (.cons (cf0 rfl) (.cons (cf0 rfl) (.cons (cf0 rfl) (.cons (cfT rfl rfl (Q0q (hU _ (cle i hi)) (hsub _ (cle i hi)) (y2 dC _).nd) rfl (fun _ h=>by cases h)) (.cons (cf0 rfl) (.cons (cf0 rfl) (.cons (cf0 rfl) (.cons (cf0 rfl) (.cons (cf0 rfl) (.cons (cf0 rfl) (.cons (cf0 rfl) (.cons (cf0 rfl) (.cons (cf0 rfl) (.cons (cf0 rfl) (.cons (cf0 rfl) (.cons (cf0 rfl) (.cons (cf0 rfl) (.cons (cf0 rfl) (.cons (cf0 rfl) (.cons (cf0 rfl)  .nil))))))))))))))))))))))))))) rfl dC,[(0,_),(1,_),(2,_),(3,_),(10,_),(11,_),(40,_)],(603,_) :: (604,_) :: (605,_) :: (999,_) :: ((U (X9 m p c i))),t7,⟨rfl,rfl,rfl,rfl,(F0m [_,_,_,_] (hU _ (cle i hi)) rfl)⟩,?_⟩
    refine Z3 rfl rfl ?_
    refine U1 (xq ?_)
    refine j3 (sw (B3 L (w64 oM oM)) t2 t0 (mV L rfl (O1 ?_)))
    exact ⟨i+1,oM,by omega,l3 ⟨oR,rfl,rfl,rfl,rfl,rfl,trivial⟩ ⟨rfl,rfl,rfl,rfl,(by rw [f0w,ho,if_neg Bool.false_ne_true,Nat.add_zero]; exact F0m [_,_,_,_] (hU _ (cle i hi)) rfl)⟩⟩
   ·have ho:h0q m p c i=true:=by rw [h0q,nzI,decide_eq_false hz,decide_eq_true hip]; rfl
    have hk1:X9 m p c i+1≤n:=by
     have:=cle (i+1) hil
     rw [f0w,if_pos ho] at this; exact this
    refine exd rF ?_
    refine mV L rfl (sw (Y1 ag3 rF rF L) t1 t1 ?_)
    refine sw (c_n L) t2 t0 (mV L rfl (swg (g:=17) rfl sO (Y1 ag73 rF rF L) rfl t1 t1 ?_))
    refine swg (g:=17) rfl sO (Z2 rX L) rfl t1 t1 ?_
    refine swg (g:=17) rfl sO (i2 un79 rfl sz77 dC rX L) rfl t1 t1 ?_
    refine swg (g:=17) rfl sO (Y1 ag77 rF rF L) rfl t1 t1 ?_
    refine gV (g:=17) rfl sO L rfl rfl (swg (g:=17) rfl sO (Y1 ag3 rF rF L) rfl t1 t1 ?_)
    refine swg (g:=17) rfl sO (o5 hG hX hN atI rfl L (K4 (ys:=[_,_,_]) cl91 rfl rfl) (y2 dC _).nd (y2 dC _).whole (fun q h=>by cases h)) rfl t3 (W7 (v5 (y2 dC _).nd fun k B h=>M1f [_,_,_,_] (hU _ (cle i hi)) rfl (hsub _ (cle i hi) k B h))) ?_
    refine swg (g:=17) rfl sO (c_c hG hX cl65 rfl hN zI L) rfl t1 t0 (swg (g:=17) rfl sO (C4 L) rfl t1 t0 (sw (O4 sO L) t2 t0 (mV L rfl (gV (g:=28) rfl (by rw [decide_eq_false hz] <;> rfl) L rfl rfl ?_))))
    refine gV (g:=28) rfl (by rw [decide_eq_false hz] <;> rfl) L rfl rfl ?_
    refine swg (g:=28) rfl (by rw [decide_eq_false hz] <;> rfl) (Y1 ag73 rF rF L) rfl t1 t1 ?_
    refine swg (g:=28) rfl (by rw [decide_eq_false hz] <;> rfl) (Z2 rX L) rfl t1 t1 ?_
    refine swg (g:=28) rfl (by rw [decide_eq_false hz] <;> rfl) (i2 un79 rfl sz77 dC rX L) rfl t1 t1 ?_
    refine swg (g:=28) rfl (by rw [decide_eq_false hz] <;> rfl) (Y1 ag77 rF rF L) rfl t1 t1 ?_
    refine gV (g:=28) rfl (by rw [decide_eq_false hz] <;> rfl) L rfl rfl ?_
    refine swg (g:=28) rfl (by rw [decide_eq_false hz] <;> rfl) (Y1 ag3 rF rF L) rfl t1 t1 ?_
    refine swg (g:=28) rfl (by rw [decide_eq_false hz] <;> rfl) (o5 hG hX hN atI rfl L (K4 (ys:=[_,_,_]) cl91 rfl rfl) (y2 dC _).nd (y2 dC _).whole (fun q h=>by cases h)) rfl t3 (W7 (v5 (y2 dC _).nd fun k B h=>M1f [_,_,_,_] (hU _ (cle i hi)) rfl (hsub _ (cle i hi) k B h))) ?_
    refine d2r (k:=X9 m p c i) hY hk1 rfl (by rw [decide_eq_false hz] <;> rfl) L rfl ⟨rfl,(by rw [henc i hil ho]; rfl),(by rw [henc i hil ho]; rfl),trivial⟩ ⟨rfl,W7 (F0m [_,_,_,_] (hU _ (cle i hi)) rfl)⟩ ?_
    refine swg (g:=28) rfl (by rw [decide_eq_false hz] <;> rfl) (C4 L) rfl t1 t0 ?_
    refine sw (O4 (by rw [decide_eq_false hz]; rfl) L) t2 t0 ?_
    refine O1 ⟨D1k (cfI w1g) [⟨[5],[],[14],[]⟩,⟨[2],[604],[15],[]⟩,⟨[14,15],[],[16],[]⟩,⟨[16],[],[17],[]⟩,⟨[17,1],[603],[18],[]⟩,⟨[17,18],[999],[19],[]⟩,⟨[17,19],[999],[20],[]⟩,⟨[17,20],[999],[21],[]⟩,⟨[17,5],[],[22],[]⟩,⟨[17,3],[605],[23],[]⟩,⟨[17,21,22,23],[1000],[24],[]⟩,⟨[17,24],[],[25],[]⟩,⟨[17,25],[],[26],[]⟩,⟨[17,26],[],[27],[]⟩,⟨[27],[],[28],[]⟩,⟨[28,0],[],[29],[]⟩,⟨[28,5],[],[30],[]⟩,⟨[28,1],[603],[31],[]⟩,⟨[28,31],[999],[32],[]⟩,⟨[28,32],[999],[33],[]⟩,⟨[28,33],[999],[34],[]⟩,⟨[28,5],[],[35],[]⟩,⟨[28,3],[605],[36],[]⟩,⟨[28,34,35,36],[1000],[37],[]⟩,⟨[28,29,30,37],[999,1000],[38],[999,1000]⟩,⟨[28,38],[],[39],[]⟩,⟨[28,39],[],[40],[]⟩] (.cons (cf0 rfl) (.cons (cf0 rfl) (.cons (cf0 rfl) (.cons (cf0 rfl) (.cons (cf0 rfl) (.cons (cf0 rfl) (.cons (cf0 rfl) (.cons (cf0 rfl) (.cons (cf0 rfl) (.cons (cf0 rfl) (.cons (cfT rfl rfl (Q0q (hU _ (cle i hi)) (hsub _ (cle i hi)) (y2 dC _).nd) rfl (fun _ h=>by cases h)) (.cons (cf0 rfl) (.cons (cf0 rfl) (.cons (cf0 rfl) (.cons (cf0 rfl) (.cons (cf0 rfl) (.cons (cf0 rfl) (.cons (cf0 rfl) (.cons (cf0 rfl) (.cons (cf0 rfl) (.cons (cf0 rfl) (.cons (cf0 rfl) (.cons (cf0 rfl) (.cons (cfT rfl rfl (Q0q (hU _ (cle i hi)) (hsub _ (cle i hi)) (y2 dC _).nd) rfl (fun _ h=>by cases h)) (.cons (cfT rfl rfl (k1s rF (hU _ (cle i hi)) rfl) rfl (k1s rF (hU _ hk1) rfl)) (.cons (cf0 rfl) (.cons (cf0 rfl)  .nil))))))))))))))))))))))))))) rfl dC,[(0,_),(1,_),(2,_),(3,_),(10,_),(11,_),(40,_)],(603,_) :: (604,_) :: (605,_) :: (999,_) :: ((U (X9 m p c i+1))),t7,⟨(lkY (hU _ hk1) rfl rfl rfl),(lkY (hU _ hk1) rfl rfl rfl),(lkY (hU _ hk1) rfl rfl rfl),rfl,(W1z [_] (hU _ hk1) rfl)⟩,?_⟩
    refine Z3 rfl rfl ?_
    refine U1 (xq ?_)
    refine j3 (sw (B3 L (w64 oM oM)) t2 t0 (mV L rfl (O1 ?_)))
    exact ⟨i+1,oM,by omega,l3 ⟨oR,rfl,rfl,rfl,rfl,rfl,trivial⟩ ⟨rfl,rfl,rfl,rfl,(by rw [f0w,if_pos ho]; exact F0m [_,_,_,_] (hU _ hk1) rfl)⟩⟩
 ·have hc:=df hc
  have e:i=m.length:=by omega
  subst e
  refine G2 ?_
  refine ⟨.inl rfl,rfl,rfl,rfl,rfl,(by rw [hn]; exact F0m [_,_,_,_] (hU _ (cle _ (Nat.le_refl _))) rfl)⟩
end Go.Proofs.YtjagfionflbjbaaGreat.N
namespace Go.Proofs.YtjagfionflbjbaaGreat.SH
open Go Go.RowKit
@[reducible] def pvV (k:Nat):List L2→PV
 | []=>.p (.a (.slice none 0 0))
 | a :: v=>.ref k 0 (v.length+1) (v.length+1)
@[reducible] def pvB (k:Nat)(e:TypeId):List L2→List (Nat×Blk)
 | []=>[]
 | a :: v=>[(k,⟨e,1,.pure (a :: v)⟩)]
@[reducible] def pvF (k:Nat):List L2→Option Nat
 | []=>some k
 | _ :: _=>none
theorem q0j {k:Nat}{e:TypeId}{xs:List L2}{q:Nat}{B:Blk}(h:(pvB k e xs).lookup q=some B):q=k∧B.cs.only []=true:=by
 cases xs with
 | nil=>cases h
 | cons a v =>
  simp only [pvB,i0] at h
  by_cases e:q=k
  ·subst e; simp at h; subst h; exact ⟨rfl,rfl⟩
  ·rw [show (q == k)=false by simpa using e] at h; cases h
section
variable {P:Program} {F:Fr} {d:Nat} {T:TypeId} {pos:String} {aft:Array Edge} {g:Option (Nat×Bool)} {t tx:TypeId}
theorem M0v {x:Operand}{k:Nat}{e:TypeId}{xs:List L2}(hu:P.underlying t=some (.slice e))(hlt:d<F.nt) :
  O2 P F ⟨some d,.call ⟨.builtin .len,#[x],#[t]⟩,T,pos,aft,g⟩ { rs:=[(x,pvV k xs)],rb:=pvB k e xs,ws:=[(d,.p (.a (.int .i64 xs.length)))] }:=by
 cases xs with
 | nil=>exact w0j hu hlt
 | cons a v=>exact p0m (n:=v.length+1) (B:=⟨e,1,.pure (a :: v)⟩) hu rfl hlt
theorem M0h {x y:Operand}{k:Nat}{e:TypeId}{ie:TypeInfo}{z:Value}{xs:List L2}{y0:L2}(hu:P.underlying t=some (.slice e))(hux:P.underlying tx=some (.slice e))(hi:∀ w,(typeInfo e).run P w = .ok ie w)(hz:ie.zero=some z)(hsz:ie.size=1)
  (hzl:z.cells.size=1) (hby:2*(xs.length+1)*ie.bytes≤281474976710656) (h63:xs.length+1≤9223372036854775807) (hpk:F.pin k=none) (hlt:d<F.nt) :
  O2 P F ⟨some d,.call ⟨.builtin .append,#[x,y],#[t,tx]⟩,T,pos,aft,g⟩ ⟨[(x,pvV k xs),(y,.p (.sl 1 [y0]))],pvB k e xs,pvF k xs,[(d,pvV k (xs++[y0]))],pvB k e (xs++[y0])⟩:=by
 cases xs with
 | nil=>exact apN (k:=k) (m:=1) (sz:=1) (r:=1) hu hux hi hz hsz hzl (by omega) rfl rfl (by simpa using hby) (by omega) hpk hlt
 | cons a v =>
  have:=apP (P:=P) (F:=F) (d:=d) (T:=T) (pos:=pos) (aft:=aft) (g:=g) (t:=t) (tx:=tx) (x:=x) (y:=y) (k:=k) (n:=v.length+1) (m:=1) (sz:=1) (q:=(v++[y0]).length+1) (r:=(v++[y0]).length+1) (xs:=a :: v) (ys:=[y0]) hu hux hi hz hsz hzl (by omega) rfl (by simp) rfl rfl (by simp) (by simp) (by simpa using hby) (by simpa using h63) hpk hlt
  exact this
end
section
variable {P:Program} {F:Fr} {ops:Array Oper} {sl:List (Nat×PV)} {hb:List (Nat×Blk)} {op:Op} {T:TypeId} {pos:String} {aft:Array Edge} {os:List Oper} {dst:Option Nat} {rs:List (Operand×PV)} {rb wb:List (Nat×Blk)} {fr:Option Nat}
theorem swA {K:List Ann→St→Prop}{d:Nat}{v:PV}(hc:O2 P F ⟨dst,op,T,pos,aft,none⟩ ⟨rs,rb,fr,[(d,v)],wb⟩)(h1:C8 ⟨sl,hb⟩ rs)(h2:P6 ⟨sl,hb⟩ rb)(h3:g0v ⟨sl,hb⟩ fr)(hn:F7 P F ops ⟨(d,v) :: sl,wb++hb⟩ os fun As S'=>K (⟨rs,rb,fr,[(d,v)],wb⟩ :: As) S') :
  F7 P F ops ⟨sl,hb⟩ (⟨dst,op,T,pos,aft,none⟩ :: os) K :=
 let ⟨As,S',h,hK⟩:=hn
 ⟨_,S',.cons (L7 rfl hc) (H7 h1 h2 h3) h,hK⟩
end
theorem F1r {A B:List (Nat×Blk)}(hA:R5 A)(hB:R5 B)(hd:∀ k,A.lookup k≠none→B.lookup k=none):R5 (A++B):=by
 refine ⟨fun k hk=>by rw [T1,hA.low k hk,hB.low k hk]; rfl,?_,fun k hk=>by rw [P4,hA.free k hk,hB.free k hk]; rfl,fun j C hj i x hx q hq=>?_⟩
 ·rw [List.map_append,List.nodup_append]
  refine ⟨hA.nd,hB.nd,fun a ha b hb e=>?_⟩
  subst e
  obtain ⟨⟨a,X⟩,hX,rfl⟩:=G0.1 ha
  obtain ⟨⟨a',Y⟩,hY,e⟩:=G0.1 hb
  simp only at e
  subst e
  have:=hd a' (by rw [U5 hA.nd hX]; simp)
  rw [U5 hB.nd hY] at this; cases this
 ·rw [T1] at hj ⊢
  cases e:A.lookup j with
  | some D =>
   rw [e,K0] at hj
   injection hj with hj
   subst hj
   obtain ⟨D',hD'⟩:=j1.1 (hA.whole j D e i x hx q hq)
   rw [hD']; simp
  | none =>
   rw [e,l0] at hj
   obtain ⟨D',hD'⟩:=j1.1 (hB.whole j C hj i x hx q hq)
   rw [hD']; simp
theorem F1g {k:Nat}(hk:1000≤k){e:TypeId}(xs:List L2):R5 (pvB k e xs):=by
 cases xs with
 | nil=>exact ⟨fun _ _=>rfl,List.nodup_nil,fun _ _=>rfl,fun j B hj=>by cases hj⟩
 | cons a v =>
  refine ⟨fun q hq=>?_,by simp,fun q hq=>by simp [X2,Cells.free],fun j B hj i x hx q hq=>?_⟩
  ·have:q<1000:=by simpa [Nat.blt_eq] using hq
   simp only [pvB,i0]
   rw [show (q == k)=false by simp; omega]; rfl
  ·have:=PV.only_mem (Cells.only_get (q0j hj).2 hx) hq
   simp at this
end Go.Proofs.YtjagfionflbjbaaGreat.SH
namespace Go.Proofs.YtjagfionflbjbaaGreat.SH
open Go
theorem K1b {sl:List (Nat×PV)}{R:List (Nat×Blk)}{k:Nat}{e:TypeId}{xs:List L2}(pre:List (Nat×Blk))(hp:l6 pre=true)(hk:1000≤k):P6 ⟨sl,pre++(pvB k e xs++R)⟩ (pvB k e xs):=by
 cases xs with
 | nil=>trivial
 | cons a v =>
  refine ⟨?_,trivial⟩
  show (pre++_).lookup k=_
  rw [T1,n5 hp hk,l0]; simp [pvB]
theorem W1c {k:Nat}(hk:1000≤k){e:TypeId}{xs:List L2}:∀ p∈pvB k e xs,cls p.1∈[1000]:=by
 intro p hp
 cases xs with
 | nil=>cases hp
 | cons a v=>obtain rfl:=List.mem_singleton.1 hp; rw [J0f hk]; exact List.mem_singleton.2 rfl
end Go.Proofs.YtjagfionflbjbaaGreat.SH
namespace Go.Proofs.YtjagfionflbjbaaGreat.SH
open Go
theorem X3 {k d:Nat}{xs:List L2}(h:k≠d):(pvV k xs).free d=true:=by
 cases xs with
 | nil=>rfl
 | cons a v=>simp [PV.free,h]
end Go.Proofs.YtjagfionflbjbaaGreat.SH
namespace Go.Proofs.YtjagfionflbjbaaGreat.SH
open Go
theorem J1k {P:Program}{F:Fr}{Q:Exit→St→Prop}{S:St}{x y:Code}{sl sl0:List (Nat×PV)}{hb T:List (Nat×Blk)}(_:q7 S sl0)(h:n4 P F x S (J0q (fun S1=>q7 S1 (sl++sl0)∧O5 S1 (hb++T)) Q))(hn:n4 P F y ⟨sl++sl0,hb++T⟩ Q):n4 P F x S (J0q (fun S'=>n4 P F y S' Q) Q):=by
 refine ⟨fun n a w hS=>wpIn_mono (h.run n a w hS) fun e a' w' hq=>hq.elim (fun ⟨S',h1,h4⟩=>.inl ⟨S',?_,h4⟩) .inr⟩
 cases e with
 | normal=>exact hn.weak (l3 h1.1 h1.2)
 | _=>exact h1
end Go.Proofs.YtjagfionflbjbaaGreat.SH
set_option maxRecDepth 100000
set_option maxHeartbeats 4000000
namespace Go.Proofs.YtjagfionflbjbaaGreat.N
open Go Go.Proofs.YtjagfionflbjbaaGreat.SH Go.Proofs.YtjagfionflbjbaaGreat.NumA
open Go.Proofs.Tryz renaming call126→cl126,call52→cl52,call55→cl55,call56→cl56,call66→cl66,call67→cl67,call90→cl90,call91→cl91,call92→cl92,call97→cl97,isAgg3→ag3,isAgg47→ag47,isAgg73→ag73,isAgg77→ag77,sizeOf3→sz3,sizeOf47→sz47,sizeOf77→sz77,typeInfo3→ti3,underlying27→un27,underlying77→un77,underlying79→un79,zeroValue3→zv3,zeroValue47→zv47
theorem y1n {m:List (List Rat)}{p c i:Nat}(hi:i<m.length)(ho:h0q m p c i=true):(F5 m p c).getD (X9 m p c i) 0=i∧X9 m p c i<(F5 m p c).length:=by
 obtain ⟨d,hd⟩:∃ d,m.length=i+(1+d):=⟨m.length - i - 1,by omega⟩
 have e:F5 m p c=(List.range i).filter (h0q m p c)++(i :: ((List.range' (i+1) d).filter (h0q m p c))):=by
  rw [F5,hd,List.range_eq_range',← List.range'_append,List.filter_append,List.range_eq_range']
  congr 1
  rw [Nat.add_comm 1 d,List.range'_succ,F1,Nat.one_mul,List.filter_cons_of_pos ho]
 rw [e,X9]
 constructor
 ·rw [f0,D0 (Nat.le_refl _)]; simp
 ·simp
theorem g1x {m:List (List Rat)}{p c i:Nat}(hi:i≤m.length):(F5 m p c).take (X9 m p c i)=(List.range i).filter (h0q m p c):=by
 obtain ⟨d,hd⟩:∃ d,m.length=i+d:=⟨m.length - i,by omega⟩
 have e:F5 m p c=(List.range i).filter (h0q m p c)++(List.range' i d).filter (h0q m p c):=by
  rw [F5,hd,List.range_eq_range',← List.range'_append,List.filter_append,List.range_eq_range',F1,Nat.one_mul]
 rw [e,X9,List.take_left]
theorem F1y {m:List (List Rat)}{p c i n cc:Nat}(h:RC n cc m)(hp:p<n)(hi:i<m.length):(O6 m m p c (X9 m p c i)).getD i []=m.getD i []:=by
 rw [f0x h.1 h hp _ (m1v (Nat.le_of_lt hi)),if_neg]
 rw [g1x (Nat.le_of_lt hi)]
 intro hm
 have:=(List.mem_filter.1 hm).1
 simp at this
theorem v1c {m:List (List Rat)}{p c:Nat}:(F5 m p c).length=X9 m p c m.length:=rfl
def bv (s:Bool)(n:Nat):PV:=if s then .ref 1002 0 n n else .p (.a (.slice none 0 0))
def bsT (s:Bool)(b:List (List Rat)):List (Nat×Blk):=if s then I2 1 b else []
def W3 (s:Bool)(m b:List (List Rat)):List (Nat×Blk):=I2 0 m++bsT s b
theorem Q0d {s:Bool}{n k:Nat}(h:1002≠k):(bv s n).free k=true:=by cases s <;> simp [bv,PV.free,h]
theorem J1z {s:Bool}{n:Nat}:(bv s n).only [999,1001,1002]=true:=by cases s <;> rfl
theorem n0v {m b:List (List Rat)}:W3 false m b=I2 0 m:=by simp [W3,bsT]
theorem P1j {m b:List (List Rat)}:W3 true m b=I2 0 m++I2 1 b:=rfl
theorem U7 (s:Bool)(m b:List (List Rat)):R5 (W3 s m b):=by
 cases s
 ·rw [n0v]; exact y2 dC m
 ·exact P7 m b
theorem j0n {s:Bool}{m b:List (List Rat)}:∀ k B,(I2 0 m).lookup k=some B→(W3 s m b).lookup k=some B:=fun k B h=>by rw [W3,T1,h]; rfl
theorem j1s {s:Bool}{m b:List (List Rat)}:(W3 s m b).lookup 1001=some (hdB 0 m):=j0n _ _ hdL
theorem b0x {s:Bool}{m b:List (List Rat)}{k:Nat}{B:Blk}(h:(W3 s m b).lookup k=some B):(I2 0 m).lookup k=some B∨(s=true∧(I2 1 b).lookup k=some B):=by
 rw [W3,T1] at h
 cases e:(I2 0 m).lookup k with
 | some C=>rw [e] at h; exact .inl h
 | none =>
  rw [e,l0] at h
  cases s
  ·cases h
  ·exact .inr ⟨rfl,h⟩
theorem k0v {s:Bool}{m b:List (List Rat)}{k:Nat}{B:Blk}(h:(W3 s m b).lookup k=some B):1000≤k:=by
 rcases b0x h with h | ⟨_,h⟩ <;> exact i5 dC h
theorem m0d {m b:List (List Rat)}:∀ k B,(I2 1 b).lookup k=some B→(W3 true m b).lookup k=some B:=fun k B h=>by
 rw [P1j,T1,L8 (m:=b) (b:=m) (k:=k) (s:=1) (s':=0) dC dC dC (by rw [h]; simp),l0,h]
theorem G1x {s:Bool}{m m' b b':List (List Rat)}(hl:m'.length=m.length)(hl2:b'.length=b.length){q:Nat}{B1:Blk}(hq:q<1100)(h:(W3 s m' b').lookup q=some B1):∃ B0,(W3 s m b).lookup q=some B0∧B1.sz=B0.sz∧B1.cs.len=B0.cs.len:=by
 rcases b0x h with hx | ⟨rfl,hx⟩
 ·obtain ⟨B0,h0,h1⟩:=f0y (s:=0) dC hl hq hx
  exact ⟨B0,j0n _ _ h0,h1⟩
 ·obtain ⟨B0,h0,h1⟩:=f0y (s:=1) dC hl2 hq hx
  exact ⟨B0,m0d _ _ h0,h1⟩
theorem N0j {s:Bool}{m m' b b':List (List Rat)}(hl:K9 m m')(hl2:K9 b b'){q:Nat}{B1:Blk}(h:(W3 s m' b').lookup q=some B1):∃ B0,(W3 s m b).lookup q=some B0∧B1.sz=B0.sz∧B1.cs.len=B0.cs.len:=by
 rcases b0x h with hx | ⟨rfl,hx⟩
 ·obtain ⟨B0,h0,h1⟩:=b0c (s:=0) dC hl hx
  exact ⟨B0,j0n _ _ h0,h1⟩
 ·obtain ⟨B0,h0,h1⟩:=b0c (s:=1) dC hl2 hx
  exact ⟨B0,m0d _ _ h0,h1⟩
theorem P0a {s k:Nat}{m m':List (List Rat)}(h2:s<9)(hl:m'.length=m.length)(h:(I2 s m').lookup k≠none):(I2 s m).lookup k≠none:=fun e=>h (n1m h2 hl e)
theorem B1a {s:Bool}{m m' b b':List (List Rat)}(hl:m'.length=m.length)(hl2:b'.length=b.length){k:Nat}(h:(W3 s m' b').lookup k≠none):(W3 s m b).lookup k≠none:=by
 obtain ⟨B,hB⟩:=j1.1 h
 rcases b0x hB with hx | ⟨rfl,hx⟩
 ·have:=P0a (s:=0) (m:=m) (m':=m') (k:=k) dC hl (by rw [hx]; simp)
  obtain ⟨C,hC⟩:=j1.1 this
  rw [j0n _ _ hC]; simp
 ·have:=P0a (s:=1) (m:=b) (m':=b') (k:=k) dC hl2 (by rw [hx]; simp)
  obtain ⟨C,hC⟩:=j1.1 this
  rw [m0d _ _ hC]; simp
theorem Y1k (s:Bool)(c:Nat)(m b:List (List Rat))(i p:Nat)(hi:i<m.length)(hp:p<m.length)(hne:i≠p)(hb:b.length=m.length):R4 E G8 92 [.at_ 999 0 3,.clo (.func 93) [] [.at_ 6 0 1,.at_ 5 0 1]] ([bxI 5 p,bxI 6 i,wV c m.length (bv s m.length)]++W3 s m b) ([bxI 5 p,bxI 6 i,wV c m.length (bv s m.length)]++W3 s (K5 m i p) (K5 b i p)) (.p (.tup [])):=by
 cases s
 ·rw [n0v,n0v]; exact Q1v c m i p hi hp hne
 ·have:=V1v c m b i p hi hp hne oM oM
  rw [hb] at this; exact this
theorem b2h (s:Bool)(c:Nat)(m b:List (List Rat))(p:Nat)(q:Rat)(hp:p<m.length)(hb:b.length=m.length)(hl:(m.getD p []).length<1000000000)(hs:∀ a∈m.getD p [],qw a<1000000000)(hc:qw q<1000000000)(hlb:(b.getD p []).length<1000000000)(hsb:∀ a∈b.getD p [],qw a<1000000000):R4 E G8 92 [.at_ 999 0 3,.clo (.func 95) [] [.at_ 5 0 1,.at_ 8 0 4]] ([bxI 5 p,bxQ 8 q,wV c m.length (bv s m.length)]++W3 s m b) ([bxI 5 p,bxQ 8 q,wV c m.length (bv s m.length)]++W3 s (R9 m p q) (R9 b p q)) (.p (.tup [])):=by
 cases s
 ·rw [n0v,n0v]; exact P1d c m p q hp hl hs hc
 ·have:=V1q c m b p q hp hl hs hc oM hlb hsb
  rw [hb] at this; exact this
theorem Y1p (s:Bool)(c:Nat)(m b:List (List Rat))(i p:Nat)(q:Rat)(B C D:Nat)(hi:i<m.length)(hp:p<m.length)(hne:i≠p)(hb:b.length=m.length)(hlen:(m.getD p []).length=(m.getD i []).length)(hl:(m.getD i []).length<1000000000)(hB:∀ a∈m.getD i [],qw a≤B)(hC:∀ a∈m.getD p [],qw a≤C)(hD:qw q≤D)(hlenb:(b.getD p []).length=(b.getD i []).length)(hlb:(b.getD i []).length<1000000000)(hBb:∀ a∈b.getD i [],qw a≤B)(hCb:∀ a∈b.getD p [],qw a≤C)(hbd:B+(D+C)+1<1000000000):R4 E stA 92 [.at_ 999 0 3,.clo (.func 98) [] [.at_ 10 0 1,.at_ 5 0 1,.at_ 11 0 4]] ([bxI 5 p,bxI 10 i,bxQ 11 q,wV c m.length (bv s m.length)]++W3 s m b) ([bxI 5 p,bxI 10 i,bxQ 11 q,wV c m.length (bv s m.length)]++W3 s (Z7 m i p q) (Z7 b i p q)) (.p (.tup [])):=by
 cases s
 ·rw [n0v,n0v]; exact Q1f c m i p q B C D hi hp hne hlen hl hB hC hD hbd
 ·have:=V1y c m b i p q B C D hi hp hne hlen hl hB hC hD hbd B C oM oM hlenb hlb hBb hCb hbd
  rw [hb] at this; exact this
theorem Y0b (s:Bool)(cols n p c:Nat)(T:List (Nat×Blk))(hT:R5 T):R4 E stO 97 [.at_ 999 0 3,.p (vZ p),.p (vZ c)] ([wV cols n (bv s n)]++T) ([(603,⟨73,1,.mix [.at_ 999 0 3]⟩),bxI 604 p,bxI 605 c,wV cols n (bv s n)]++T) (.clo (.func 126) [] [.at_ 603 0 1,.at_ 604 0 1,.at_ 605 0 1]):=by
 cases s
 ·exact P0q cols n p c T hT
 ·exact P0s cols n n p c T hT
def V6 (pv:List Nat):List L2:=pv.map fun k:Nat=>vZ (k:Int)
@[simp] theorem v8 (pv:List Nat):(V6 pv).length=pv.length:=by simp [V6]
@[reducible] def tlP (pv:List Nat)(R:List (Nat×Blk)):List (Nat×Blk):=pvB 1003 3 (V6 pv)++R
theorem G1n {s k:Nat}{m:List (List Rat)}(h2:s<2)(hk:k=1003):(I2 s m).lookup k=none:=by
 cases e:(I2 s m).lookup k with
 | none=>rfl
 | some B=>rcases V5 oM (show (I2 s m).lookup k≠none by rw [e]; simp) with h3 | ⟨q',_,h3⟩ <;> (try simp only [I3] at h3) <;> omega
theorem f8 {s:Bool}{k:Nat}{m b:List (List Rat)}(hk:k=1003):(W3 s m b).lookup k=none:=by
 cases e:(W3 s m b).lookup k with
 | none=>rfl
 | some B=>rcases b0x e with h | ⟨_,h⟩ <;> rw [G1n dC hk] at h <;> cases h
theorem V1w {pv:List Nat}{R:List (Nat×Blk)}(hR:R5 R)(h:R.lookup 1003=none):R5 (tlP pv R) :=
 F1r (F1g dC _) hR fun k hk=>by
  obtain ⟨B,hB⟩:=j1.1 hk
  rw [(q0j hB).1]; exact h
theorem C3 {pv:List Nat}{s:Bool}{m b:List (List Rat)}:R5 (tlP pv (W3 s m b)):=V1w (U7 s m b) (f8 rfl)
theorem K8 {pv:List Nat}{s:Bool}{m b:List (List Rat)}:∀ k B,(W3 s m b).lookup k=some B→(tlP pv (W3 s m b)).lookup k=some B:=fun k B h=>by
 rw [tlP,T1]
 cases e:(pvB 1003 3 (V6 pv)).lookup k with
 | none=>rw [l0,h]
 | some C =>
  have:=(q0j e).1
  rw [f8 this] at h; cases h
theorem D0h {pv:List Nat}{s:Bool}{m b:List (List Rat)}:∀ k B,(I2 0 m).lookup k=some B→(tlP pv (W3 s m b)).lookup k=some B:=fun k B h=>K8 _ _ (j0n _ _ h)
theorem H1h {pv:List Nat}{s:Bool}{m b:List (List Rat)}:(tlP pv (W3 s m b)).lookup 1001=some (hdB 0 m):=D0h _ _ hdL
@[reducible] def hC (cols n c:Nat)(v:PV)(T:List (Nat×Blk)):List (Nat×Blk):=[bxW,bxI 4 c,wV cols n v]++T
theorem N1z {cols n c:Nat}{v:PV}{T:List (Nat×Blk)}(hT:R5 T):((hC cols n c v T).map (·.1)).Nodup:=by
 have h:∀ k,k<1000→k ∉ T.map (·.1):=fun k hk hm=>by
  obtain ⟨⟨q,B⟩,hp,e⟩:=G0.1 hm
  simp only at e
  subst e
  have:=hT.low q (by simpa [Nat.blt_eq] using hk)
  rw [U5 hT.nd hp] at this; cases this
 simp only [hC,L1,List.nil_append,R0,List.nodup_cons,List.mem_cons,not_or]
 exact ⟨⟨by decide,by decide,h 1 dC⟩,⟨by decide,h 4 dC⟩,h 999 dC,hT.nd⟩
theorem X8 {bx T:List (Nat×Blk)}(ks:List Nat)(hb:(bx.all fun p=>p.2.cs.only ks)=true)(hk:∀ k∈ks,(bx++T).lookup k≠none)(hT:Whole T):Whole (bx++T):=by
 intro j B hj i x hx q hq
 rw [T1] at hj
 cases e:bx.lookup j with
 | some C =>
  rw [e,K0] at hj
  injection hj with hj
  subst hj
  rw [s0] at hb
  exact hk q (PV.only_mem (Cells.only_get (hb _ (L3 e)) hx) hq)
 | none =>
  rw [e,l0] at hj
  exact O8 (hT j B hj i x hx q hq)
def ksB (s:Bool):List Nat:=if s then [999,1001,1002] else [999,1001]
theorem F0q {s:Bool}{c n:Nat}:(wV c n (bv s n)).2.cs.only (ksB s)=true:=by cases s <;> rfl
theorem F0z {s:Bool}{m b:List (List Rat)}{T bx:List (Nat×Blk)}(h9:bx.lookup 999≠none)(hT:∀ k B,(W3 s m b).lookup k=some B→T.lookup k=some B):∀ k∈ksB s,(bx++T).lookup k≠none:=by
 intro k hk
 have h1:T.lookup 1001≠none:=by rw [hT _ _ j1s]; simp
 cases s
 ·simp only [ksB,Bool.false_eq_true,if_false,List.mem_cons,List.not_mem_nil,or_false] at hk
  rcases hk with rfl | rfl
  ·exact m0c h9
  ·exact O8 h1
 ·simp only [ksB,if_true,List.mem_cons,List.not_mem_nil,or_false] at hk
  rcases hk with rfl | rfl | rfl
  ·exact m0c h9
  ·exact O8 h1
  ·exact O8 (by rw [hT _ _ (m0d _ _ (show (I2 1 b).lookup 1002=some (hdB 1 b) from hdL))]; simp)
theorem Y1j {s:Bool}{cols n c:Nat}{m b:List (List Rat)}{T:List (Nat×Blk)}(hT:R5 T)(hs:∀ k B,(W3 s m b).lookup k=some B→T.lookup k=some B):Whole (hC cols n c (bv s n) T) :=
 X8 (ksB s) (by simp only [List.all_cons,List.all_nil,Bool.and_true,j0]; exact ⟨by cases s <;> rfl,by cases s <;> rfl,F0q⟩) (F0z (by simp [i0]) hs) hT.whole
theorem J0a {xs:List L2}:(pvV 1003 xs).only ks8=true:=by cases xs <;> rfl
theorem ncE {F:Fr}{n:Nat}{s:Bool}{sl slR:List (Nat×PV)}{w0 bx pre pre':List (Nat×Blk)}{pv:List Nat}{m0 b0 m b m' b':List (List Rat)}(hl:m'.length=m.length)(hlb:b'.length=b.length)(hl0:m.length=m0.length)(hlb0:b.length=b0.length)(G:GFr E G8 (w0++W3 s m0 b0) n F)(hp:l6 pre=true)(hbp:O5 ⟨[],pre⟩ bx)(hpp:O5 ⟨[],pre⟩ pre')(hbx:(bx.all fun p=>p.2.cs.only (ksB s))=true)(h9:bx.lookup 999≠none)(hpo:(pre'.all fun p=>p.2.cs.only ks8)=true)(hso:(slR.all fun p=>p.2.only ks8)=true)(hS:q7 ⟨sl,pre++tlP pv (W3 s m b)⟩ slR) :
  d0w G8 F ⟨sl,pre++tlP pv (W3 s m b)⟩ (bx++W3 s m b) (bx++W3 s m' b') slR (pre'++tlP pv (W3 s m' b')):=by
 refine ncT (T:=W3 s m b) (T':=W3 s m' b') (U:=tlP pv (W3 s m b)) (U':=tlP pv (W3 s m' b')) ks8 rfl hp (fun k B h=>hbp.all k B h) (fun k B h=>hpp.all k B h) (fun k B h=>⟨K8 k B h,k0v h⟩) (fun k B h=>k0v h) (fun k B h=>?_) (fun q B1 hq h=>G1x hl hlb hq h) hpo hso hS
  (k1f (pre:=[]) G fun k h=>O8 (B1a hl0 hlb0 h)) G.ps (X8 (ksB s) hbx (F0z h9 fun _ _ h=>h) (U7 s m' b').whole)
 rw [tlP,T1] at h
 cases e:(pvB 1003 3 (V6 pv)).lookup k with
 | none=>rw [e,l0] at h; exact .inl h
 | some C =>
  rw [e,K0] at h
  injection h with h
  subst h
  obtain ⟨h1,h2⟩:=q0j e
  refine .inr ⟨by omega,by rw [tlP,T1,e]; rfl,f8 h1,f8 h1,fun i x hx q hq _=>?_⟩
  have:=PV.only_mem (Cells.only_get h2 hx) hq
  simp at this
@[simp] theorem W1v {s:Bool}{n k:Nat}(h:1002≠k):(bv s n).free k=true:=Q0d h
theorem n1k {s:Bool}{m b:List (List Rat)}{k:Nat}(h:k<1100):X2 k (W3 s m b)=true:=by
 have h1:∀ (q:Nat) (x:List (List Rat)),X2 k (I2 q x)=true:=fun q x=>by
  simp only [I2,X2,Cells.free,j0]; exact ⟨v0s h 0 x,f0j 0 x⟩
 rw [W3,P4,h1]
 cases s
 ·rfl
 ·exact h1 1 b
@[reducible] def bxs (s:Bool)(cols n c p:Nat)(q:Rat):List (Nat×Blk):=[wV cols n (bv s n),(1,⟨73,1,.mix [.at_ 999 0 3]⟩),(3,bQ q),bxI 4 c,bxI 5 p]
theorem k1y {s:Bool}{cols n c p:Nat}{q:Rat}{k:Nat}(h:(bxs s cols n c p q).lookup k≠none):k=999∨k=1∨k=3∨k=4∨k=5:=by
 simp only [bxs,i0,List.lookup_nil] at h
 by_cases e1:k=999; exact .inl e1
 by_cases e2:k=1; exact .inr (.inl e2)
 by_cases e3:k=3; exact .inr (.inr (.inl e3))
 by_cases e4:k=4; exact .inr (.inr (.inr (.inl e4)))
 by_cases e5:k=5; exact .inr (.inr (.inr (.inr e5)))
 rw [show (k == 999)=false by simpa using e1,show (k == 1)=false by simpa using e2,show (k == 3)=false by simpa using e3,show (k == 4)=false by simpa using e4,show (k == 5)=false by simpa using e5] at h
 exact absurd rfl h
@[reducible] def hR (s:Bool)(cols n c p:Nat)(q:Rat)(pv:List Nat)(m b:List (List Rat)):List (Nat×Blk):=bxs s cols n c p q++tlP pv (W3 s m b)
theorem k1a {s:Bool}{cols n c p:Nat}{q:Rat}{pv:List Nat}{m b:List (List Rat)}{k:Nat}(h:k<1000)(h1:k≠999)(h2:k≠1)(h3:k≠3)(h4:k≠4)(h5:k≠5):(hR s cols n c p q pv m b).lookup k=none:=by
 rw [hR,T1,C3.low k (by simpa [Nat.blt_eq] using h),Option.or_none]
 cases e:(bxs s cols n c p q).lookup k with
 | none=>rfl
 | some B=>rcases k1y (by rw [e]; simp) with h | h | h | h | h <;> contradiction
theorem b2z {s:Bool}{cols n c p:Nat}{q:Rat}{pv:List Nat}{m b:List (List Rat)}:Whole (hR s cols n c p q pv m b) :=
 X8 (ksB s) (by simp only [List.all_cons,List.all_nil,Bool.and_true,j0]; exact ⟨F0q,by cases s <;> rfl,by cases s <;> rfl,by cases s <;> rfl,by cases s <;> rfl⟩) (F0z (by simp [i0]) fun k B h=>K8 k B h) C3.whole
theorem G1g {s:Bool}{cols n c p:Nat}{q:Rat}{pv:List Nat}{m b:List (List Rat)}{k:Nat}{B:Blk}(h:(hR s cols n c p q pv m b).lookup k=some B):(bxs s cols n c p q).lookup k=some B∨((bxs s cols n c p q).lookup k=none∧((pvB 1003 3 (V6 pv)).lookup k=some B∨((pvB 1003 3 (V6 pv)).lookup k=none∧(W3 s m b).lookup k=some B))):=by
 rw [hR,T1] at h
 cases e:(bxs s cols n c p q).lookup k with
 | some C=>rw [e,K0] at h; exact .inl h
 | none =>
  rw [e,l0,tlP,T1] at h
  cases e2:(pvB 1003 3 (V6 pv)).lookup k with
  | some C=>rw [e2,K0] at h; exact .inr ⟨rfl,.inl h⟩
  | none=>rw [e2,l0] at h; exact .inr ⟨rfl,.inr ⟨rfl,h⟩⟩
theorem g1j {s:Bool}{cols n c p:Nat}{q:Rat}{pv:List Nat}{m b m' b':List (List Rat)}(hm:K9 m m')(hb:K9 b b'){k:Nat}{B1:Blk}(h:(hR s cols n c p q pv m' b').lookup k=some B1):∃ B0,(hR s cols n c p q pv m b).lookup k=some B0∧B1.sz=B0.sz∧B1.cs.len=B0.cs.len:=by
 rw [hR,T1]
 rcases G1g h with h | ⟨h0,h | ⟨h1,h⟩⟩
 ·exact ⟨B1,by rw [h]; rfl,rfl,rfl⟩
 ·exact ⟨B1,by rw [h0,l0,tlP,T1,h]; rfl,rfl,rfl⟩
 ·obtain ⟨B0,h2,h3⟩:=N0j hm hb h
  exact ⟨B0,by rw [h0,l0,tlP,T1,h1,l0,h2],h3⟩
theorem H0f {m m':List (List Rat)}(h:K9 m m'):K9 m' m:=⟨h.1.symm,fun i=>(h.2 i).symm⟩
theorem f0n {n c:Nat}{m m':List (List Rat)}(h:RC n c m)(h':RC n c m'):K9 m m':=by
 refine ⟨by rw [h.1,h'.1],fun i=>?_⟩
 by_cases e:i<n
 ·rw [h.get e,h'.get e]
 ·rw [f0,f0,List.getElem?_eq_none (by have:=h'.1; omega),List.getElem?_eq_none (by have:=h.1; omega)]
theorem d2c {s:Bool}{c p:Nat}{q:Rat}{pv:List Nat}{m b:List (List Rat)}:j0g w1g ([(1,⟨73,1,.mix [.at_ 999 0 3]⟩),(3,bQ q),bxI 4 c,bxI 5 p]++tlP pv (W3 s m b)):=by
 refine ⟨fun k hk=>?_,?_⟩
 ·have hk:k=603∨k=604∨k=605∨k=999:=by simpa using hk
  rw [T1,C3.low k (by simp [Nat.blt_eq]; omega),Option.or_none]
  rcases hk with rfl | rfl | rfl | rfl <;> rfl
 ·have hno:∀ k,k<1000→k ∉ (tlP pv (W3 s m b)).map (·.1):=fun k hk hm=>by
   obtain ⟨⟨q,B⟩,hp,e⟩:=G0.1 hm
   simp only at e
   subst e
   have:=(C3 (pv:=pv) (s:=s) (m:=m) (b:=b)).low q (by simpa [Nat.blt_eq] using hk)
   rw [U5 C3.nd hp] at this; cases this
  simp only [L1,List.nil_append,R0,List.nodup_cons,List.mem_cons,not_or]
  exact ⟨⟨by decide,by decide,by decide,hno 1 dC⟩,⟨by decide,by decide,hno 3 dC⟩,⟨by decide,hno 4 dC⟩,hno 5 dC,C3.nd⟩
theorem d2s {F:Fr}{s:Bool}{sl slR:List (Nat×PV)}{bx pre pre':List (Nat×Blk)}{pv:List Nat}{m b m' b':List (List Rat)}(hl:K9 m m')(hlb:K9 b b')(hp:l6 pre=true)(hbp:O5 ⟨[],pre⟩ bx)(hpp:O5 ⟨[],pre⟩ pre')(hbx:(bx.all fun p=>p.2.cs.only (ksB s))=true)(h9:bx.lookup 999≠none)(hS:q7 ⟨sl,pre++tlP pv (W3 s m b)⟩ slR) :
  d0w stA F ⟨sl,pre++tlP pv (W3 s m b)⟩ (bx++W3 s m b) (bx++W3 s m' b') slR (pre'++tlP pv (W3 s m' b')):=by
 refine w1v (T:=W3 s m b) (T':=W3 s m' b') (U:=tlP pv (W3 s m b)) (U':=tlP pv (W3 s m' b')) hp (fun k B h=>hbp.all k B h) (fun k B h=>hpp.all k B h) (fun k B h=>⟨K8 k B h,k0v h⟩) (fun k B h=>k0v h) (fun k B h=>?_) (fun q B1 h=>N0j hl hlb h) hS (X8 (ksB s) hbx (F0z h9 fun _ _ h=>h) (U7 s m' b').whole)
 rw [tlP,T1] at h
 cases e:(pvB 1003 3 (V6 pv)).lookup k with
 | none=>rw [e,l0] at h; exact .inl h
 | some C =>
  rw [e,K0] at h
  injection h with h
  subst h
  obtain ⟨h1,h2⟩:=q0j e
  exact .inr ⟨by omega,by rw [tlP,T1,e]; rfl,f8 h1,f8 h1⟩
@[reducible] def bx3 (p c:Nat):List (Nat×Blk):=[(603,⟨73,1,.mix [.at_ 999 0 3]⟩),bxI 604 p,bxI 605 c]
theorem k1h {p c k:Nat}(h:(bx3 p c).lookup k≠none):k=603∨k=604∨k=605:=by
 simp only [bx3,i0,List.lookup_nil] at h
 by_cases e1:k=603; exact .inl e1
 by_cases e2:k=604; exact .inr (.inl e2)
 by_cases e3:k=605; exact .inr (.inr e3)
 rw [show (k == 603)=false by simpa using e1,show (k == 604)=false by simpa using e2,show (k == 605)=false by simpa using e3] at h
 exact absurd rfl h
theorem m1w {k:Nat}(h:stO k=false):k=603∨k=604∨k=605:=by
 simp only [stO,Bool.not_eq_false',Bool.or_eq_true,beq_iff_eq] at h
 omega
theorem n1r {f:Fn}{q:Nat}(h:(PV.clo f [] [.at_ 603 0 1,.at_ 604 0 1,.at_ 605 0 1]).free q=false):q=603∨q=604∨q=605:=by
 by_cases h1:q=603; exact .inl h1
 by_cases h2:q=604; exact .inr (.inl h2)
 by_cases h3:q=605; exact .inr (.inr h3)
 simp [PV.free,PV.freeL,Ne.symm h1,Ne.symm h2,Ne.symm h3] at h
theorem ncO {F:Fr}{s:Bool}{sl slR:List (Nat×PV)}{pre:List (Nat×Blk)}{cols n c p p' c':Nat}{q:Rat}{pv:List Nat}{m b:List (List Rat)}(hp:O5 ⟨[],pre⟩ (bxs s cols n c p q))(hb:l6 pre=true)(hpin:∀ k,k=603∨k=604∨k=605→F.pin k=none)(hso:(slR.all fun p=>p.2.only ks8)=true)(hS:q7 ⟨sl,pre++tlP pv (W3 s m b)⟩ slR) :
  d0w stO F ⟨sl,pre++tlP pv (W3 s m b)⟩ ([wV cols n (bv s n)]++tlP pv (W3 s m b)) (bx3 p' c'++([wV cols n (bv s n)]++tlP pv (W3 s m b))) slR (bx3 p' c'++(bxs s cols n c p q++tlP pv (W3 s m b))):=by
 have hpre:∀ k,1000≤k→pre.lookup k=none:=fun k hk=>n5 hb hk
 have htl:∀ k,k<1000→(tlP pv (W3 s m b)).lookup k=none:=fun k hk=>C3.low k (by simpa [Nat.blt_eq] using hk)
 have h999:∀ k B,([wV cols n (bv s n)]:List (Nat×Blk)).lookup k=some B→k=999∧B=(wV cols n (bv s n)).2:=fun k B h=>by
  simp only [i0,List.lookup_nil] at h
  by_cases e:k=999
  ·subst e; simp at h; exact ⟨rfl,h.symm⟩
  ·rw [show (k == 999)=false by simpa using e] at h; cases h
 have hbl:∀ k B,(bxs s cols n c p q).lookup k=some B→pre.lookup k=some B:=fun k B h=>hp.all k B h
 refine ⟨fun j B hj=>?_,hS,fun k B hk=>?_,fun k B1 hst h=>?_,fun t v ht k hk hst=>?_,fun j hj hst=>?_,fun j hj=>?_,?_⟩
 ·show (pre++_).lookup j=some B
  rw [T1] at hj ⊢
  cases e:([wV cols n (bv s n)]:List (Nat×Blk)).lookup j with
  | some C =>
   rw [e,K0] at hj
   injection hj with hj
   subst hj
   obtain ⟨rfl,rfl⟩:=h999 j C e
   rw [hbl 999 _ rF]; rfl
  | none =>
   rw [e,l0] at hj
   rw [hpre j (by apply Classical.byContradiction; intro h2; rw [htl j oM] at hj; cases hj),l0,hj]
 ·rw [T1] at hk
  cases e:(bx3 p' c').lookup k with
  | some C=>rw [e,K0] at hk; exact .inl (by rw [T1,e]; exact hk)
  | none =>
   rw [e,l0,T1] at hk
   cases e2:(bxs s cols n c p q).lookup k with
   | some C =>
    rw [e2,K0] at hk
    injection hk with hk
    subst hk
    rcases k1y (by rw [e2]; simp) with rfl | h5
    ·refine .inl ?_
     rw [T1,e,l0,T1]
     rw [show (bxs s cols n c p q).lookup 999=some (wV cols n (bv s n)).2 from rfl] at e2
     rw [← e2]; rfl
    ·refine .inr ⟨?_,?_,?_,fun i x hx k2 hk2 hst=>?_⟩
     ·show (pre++_).lookup k=_
      rw [T1,hbl k C e2]; rfl
     ·rw [T1,htl k oM,Option.or_none]
      rcases h5 with rfl | rfl | rfl | rfl <;> rfl
     ·rw [T1,e,l0,T1,htl k oM,Option.or_none]
      rcases h5 with rfl | rfl | rfl | rfl <;> rfl
     ·have ho:C.cs.only [999]=true:=by
       rcases h5 with rfl | rfl | rfl | rfl <;> (injection e2 with e2; subst e2; rfl)
      have:=PV.only_mem (Cells.only_get ho hx) hk2
      have:=m1w hst
      simp at *
      omega
   | none =>
    rw [e2,l0] at hk
    refine .inl ?_
    rw [T1,e,l0,T1,hk]
    cases e3:([wV cols n (bv s n)]:List (Nat×Blk)).lookup k with
    | none=>rfl
    | some C =>
     obtain ⟨rfl,_⟩:=h999 k C e3
     cases e2
 ·rw [T1] at h
  cases e:(bx3 p' c').lookup k with
  | some C =>
   rcases k1h (by rw [e]; simp) with rfl | rfl | rfl <;> cases hst
  | none=>rw [e,l0] at h; exact ⟨B1,h,rfl,rfl⟩
 ·rw [s0] at hso
  have h5:=PV.only_mem (hso _ (s8 ht)) hk
  have:=m1w hst
  simp only [ks8,List.mem_cons,List.not_mem_nil,or_false] at h5
  omega
 ·have h5:=m1w hst
  rw [T1,htl j oM,Option.or_none] at hj
  rcases h5 with rfl | rfl | rfl <;> exact absurd rfl hj
 ·cases e:stO j with
  | true=>rfl
  | false=>exact absurd (hpin j (m1w e)) hj
 ·refine X8 [999] rfl (fun k hk=>?_) (X8 (ksB s) (by simp only [List.all_cons,List.all_nil,Bool.and_true]; exact F0q) (F0z (by simp [i0]) fun k B h=>K8 k B h) C3.whole)
  simp only [List.mem_singleton] at hk
  subst hk
  exact O8 (m0c (by simp [i0]))
theorem W0v (pv:List Nat)(c:Nat):V6 (pv++[c])=V6 pv++[vZ (c:Int)]:=by simp [V6]
theorem d2f {s:Bool}{sl:List (Nat×PV)}{pre:List (Nat×Blk)}{pv:List Nat}{m b:List (List Rat)}(hp:l6 pre=true)(hf:pv=[]→(J3 1003 sl && X2 1003 pre)=true):g0v ⟨sl,pre++tlP pv (W3 s m b)⟩ (pvF 1003 (V6 pv)):=by
 cases pv with
 | cons a l=>trivial
 | nil =>
  have h:=hf rfl
  simp only [j0] at h
  refine ⟨?_,?_⟩
  ·show (pre++_).lookup 1003=none
   rw [T1,n5 hp dC,l0]
   exact f8 rfl
  ·show (J3 1003 sl && X2 1003 (pre++_))=true
   rw [P4,h.1,h.2]
   exact n1k dC
theorem J0c {xs:List L2}{y:L2}{k:Nat}{e:TypeId}:∃ B,pvB k e (xs++[y])=[(k,B)]:=by
 cases xs with
 | nil=>exact ⟨_,rfl⟩
 | cons a l=>exact ⟨_,rfl⟩
theorem h1r {sl:List (Nat×PV)}{pre T:List (Nat×Blk)}{xs:List L2}{y:L2}{e:TypeId}{k:Nat}{B:Blk}(hk:k<1000)(h:pre.lookup k=some B):St.blk ⟨sl,pvB 1003 e (xs++[y])++(pre++T)⟩ k=some B:=by
 obtain ⟨C,hC⟩:=J0c (xs:=xs) (y:=y) (k:=1003) (e:=e)
 show (pvB 1003 e (xs++[y])++_).lookup k=_
 rw [hC,List.singleton_append,i0,show (k == 1003)=false by simp; omega,T1,h]; rfl
theorem d2a {s:Bool}{sl:List (Nat×PV)}{pre:List (Nat×Blk)}{pv:List Nat}{c:Nat}{m b:List (List Rat)}(hp:l6 pre=true):O5 ⟨sl,pvB 1003 3 (V6 pv++[vZ (c:Int)])++(pre++tlP pv (W3 s m b))⟩ (tlP (pv++[c]) (W3 s m b)):=by
 obtain ⟨C,hC⟩:=J0c (xs:=V6 pv) (y:=vZ (c:Int)) (k:=1003) (e:=3)
 refine v5 C3.nd fun k B hk=>?_
 show (pvB 1003 3 (V6 pv++[vZ (c:Int)])++_).lookup k=_
 rw [tlP,W0v,hC,List.singleton_append,i0] at hk
 rw [hC,List.singleton_append,i0]
 by_cases e:k=1003
 ·subst e; exact hk
 ·rw [show (k == 1003)=false by simpa using e] at hk ⊢
  show (pre++tlP pv (W3 s m b)).lookup k=some B
  rw [T1,n5 hp (k0v hk),l0]
  exact K8 _ _ hk
theorem Y1v {s:Bool}{sl:List (Nat×PV)}{pre:List (Nat×Blk)}{pv:List Nat}{m b:List (List Rat)}(hp:l6 pre=true):Cv (St.blk ⟨sl,pre++tlP pv (W3 s m b)⟩) [1003] (pvV 1003 (V6 pv)) (.p (.sl pv.length (V6 pv))):=by
 cases pv with
 | nil=>exact .p .nil
 | cons a l =>
  have hB:St.blk ⟨sl,pre++tlP (a :: l) (W3 s m b)⟩ 1003=some ⟨3,1,.pure (V6 (a :: l))⟩:=by
   show (pre++_).lookup 1003=_
   rw [T1,n5 hp dC]; rfl
  have:=Cv.ref (n:=(a :: l).length) (z:=[1003]) rfl hB (by rw [v8]) (Nat.mul_one _)
  simp only [V6,R0,D1,O0,Nat.mul_one] at this ⊢
  simp only [pvV,O0]
  exact this
theorem q0v {S:St}{z:List Nat}:∀ {l:List (Nat×Blk)},(∀ p∈l,z.contains p.1=false∧S.blk p.1=some p.2)→h0z S z l
 | [],_=>trivial
 | p :: l,h=>⟨⟨(h p sM).1,p.2,(h p sM).2,.same⟩,q0v fun q hq=>h q (by simp [hq])⟩
theorem q0f {l:List (Nat×Blk)}:∀ {l':List (Nat×Blk)},O5 ⟨[],l⟩ l'→∀ {p:Nat×Blk},p∈l'→l.lookup p.1=some p.2
 | (k,B) :: l',h,p,hp=>by
  rcases List.mem_cons.1 hp with rfl | hp
  ·exact h.1
  ·exact q0f h.2 hp
theorem W1w {s:Bool}{sl:List (Nat×PV)}{pre pre':List (Nat×Blk)}{pv:List Nat}{m b:List (List Rat)}(hp:l6 pre=true)(hb:O5 ⟨[],pre⟩ pre')(hp':l6 pre'=true):h0z ⟨sl,pre++tlP pv (W3 s m b)⟩ [1003] (pre'++W3 s m b):=by
 refine q0v fun p hp2=>?_
 rcases List.mem_append.1 hp2 with h | h
 ·have h1:p.1<1000:=by
   unfold l6 at hp'
   rw [s0] at hp'
   simpa [Nat.blt_eq] using hp' p h
  refine ⟨by simp; omega,?_⟩
  show (pre++_).lookup p.1=_
  have:pre.lookup p.1=some p.2:=q0f hb h
  rw [T1,this]; rfl
 ·have h1:=U5 (j:=p.1) (B:=p.2) (U7 s m b).nd h
  refine ⟨?_,?_⟩
  ·by_cases e:p.1=1003
   ·rw [f8 e] at h1; cases h1
   ·simpa using e
  ·show (pre++_).lookup p.1=_
   rw [T1,n5 hp (k0v h1),l0]
   exact K8 _ _ h1
theorem W0k {m b:List (List Rat)}{c:Nat}(h:¬ (ech m b c).pv.length<(ech m b c).m.length):∀ d,ech m b (c+d)=ech m b c
 | 0=>rfl
 | d+1=>by rw [← Nat.add_assoc,q9,W0k h d,T9,if_neg h]
theorem d1m {m x:List (List Rat)}{p c n cc k:Nat}(hm:m.length=n)(h:RC n cc x)(hp:p<n)(hk:k<(F5 m p c).length):(O6 m x p c k).getD ((F5 m p c).getD k 0) []=x.getD ((F5 m p c).getD k 0) []∧(O6 m x p c k).getD p []=x.getD p []:=by
 constructor
 ·rw [f0x hm h hp k oM,if_neg]
  intro hh
  obtain ⟨i,hi,he⟩:=List.getElem_of_mem hh
  simp only [J0] at hi
  rw [List.getElem_take,f0,J1 hk,Option.getD_some] at he
  have:=(List.getElem_inj (m0n (m:=m) (p:=p) (c:=c))).1 he
  omega
 ·rw [f0x hm h hp k oM,if_neg (fun hh=>(G9.1 (List.mem_of_mem_take hh)).2.1 rfl)]
theorem h0c {B:Nat}{m:List (List Rat)}{i j:Nat}(h:MB B m)(h0:0<B):qw (ent m i j)≤B:=by
 rcases v0h (m:=m) (i:=i) (j:=j) with e | ⟨r,hr,e⟩
 ·rw [e,d0m]; exact h0
 ·exact h r hr _ e
theorem g0r {m:List (List Rat)}{i:Nat}{a:Rat}(h:a∈m.getD i []):∃ j,a=ent m i j:=by
 obtain ⟨j,hj,e⟩:=List.getElem_of_mem h
 refine ⟨j,?_⟩
 have:∀ (r:List Rat) (h:j<r.length),r[j]=r.getD j 0:=fun r h=>by simp [f0,h]
 rw [← e,this _ hj]; rfl
structure EB (n cols d B DB:Nat) (m b:List (List Rat)):Prop where
 rc:RC n cols m
 rb:RC n d b
 n0:0<n
 nl:n<1000
 cl:cols<1000
 dl:d<1000
 b0:0<B
 bl:B<100000000
 dbl:DB+B<1000000000
 me:∀ c,c≤cols→MB B (ech m b c).m
 be:∀ c,c≤cols→MB B (ech m b c).b
 de:∀ c,c≤cols→qw (ech m b c).det≤DB
theorem B1b (s:Bool)(n cols d B DB:Nat)(m b:List (List Rat))(H:EB n cols d B DB m b):R4 E G8 51 [.at_ 999 0 3] ([wV cols n (bv s n)]++W3 s m b) ([wV cols n (bv s n)]++W3 s (ech m b cols).m (ech m b cols).b) (.p (.tup [.sl (ech m b cols).pv.length (V6 (ech m b cols).pv),pQ (ech m b cols).det])):=by
 refine v4 (xs:=[.sl (ech m b cols).pv.length (V6 (ech m b cols).pv),pQ (ech m b cols).det]) Tryz.func51 rfl Tryz.ntmps51 Tryz.results51 sM fun F G=>?_
 have L:=@lti _ _ G.nt
 have hG:=G.g
 have hX:=G.x
 have hN:=Y5 hG
 have P0:=fun k (hk:(Nat.blt k 1000 && (List.lookup k _).isNone)=true)=>G.p0 k (p0T (U7 s m b) hk)
 have H1:=H.nl
 have H2:=H.cl
 have H3:=H.bl
 have H4:=H.dbl
 have H5:=H.rc.1
 have H6:=H.rb.1
 subst H5
 have hlo:F.lo 1003=true:=by rw [G.lo,T1,f8 rfl,Option.or_none]; rfl
 have hpin3:F.pin 1003=none:=G.p0 _ (by rw [T1,f8 rfl,Option.or_none]; rfl)
 refine exr (swb (g0m (k:=1) rX rfl (P0 _ rfl) L) t1 t1 (frT [_] (U7 s m b) rfl rfl (by simp [J3,X2,Cells.free,PV.freeL,PV.free,X3,i3])) ?_)
 refine aV L rfl (swb (R3 (k:=3) (n:=4) zv47 (.cons rfl (.cons rfl (.cons rfl (.cons rfl .nil)))) rfl (P0 _ rfl) L) t0 t0 (frT [_,_] (U7 s m b) rfl rfl (by simp [J3,X2,Cells.free,PV.freeL,PV.free,X3,i3])) ?_)
 refine O1 ⟨[(1,_),(2,_),(3,_)],(1,_) :: (3,_) :: (999,_) :: ((W3 s m b)),t3,⟨rfl,rfl,rfl,(hbT [_,_,_] (U7 s m b) rfl)⟩,?_⟩
 refine exr (cK hG hX cl55 hN (l7 1 dC dC) L t1 (sb (U2 sz47 rF pa4 rfl pu4) t2 t1 ?_))
 refine O1 ⟨[(1,_),(2,pvV 1003 (V6 [])),(3,_)],(1,_) :: (3,_) :: (999,_) :: ((tlP [] (W3 s m b))),t3,⟨rfl,rfl,rfl,(hbT [_,_,_,_] (U7 s m b) rfl)⟩,?_⟩
 refine R1 (exr (swb (R3 (k:=4) (n:=1) zv3 (.cons rfl .nil) rfl (P0 _ rfl) L) t0 t0 (frT [_,_,_] (C3 (pv:=[]) (s:=s) (m:=m) (b:=b)) rfl rfl (by simp [J3,X2,Cells.free,PV.freeL,PV.free,X3,i3])) ?_))
 refine sb (U2 sz3 rF (.atom rfl) rfl pu1) t2 t1 ?_
 refine O1 ⟨[(1,_),(2,_),(3,_),(4,_)],(1,_) :: (3,_) :: (4,_) :: (999,_) :: ((tlP [] (W3 s m b))),t4,⟨rfl,rfl,rfl,rfl,(hbT [_,_,_,_,_] (C3 (pv:=[]) (s:=s) (m:=m) (b:=b)) rfl)⟩,?_⟩
 refine V1 ?_
 refine J0n (α:=(Nat×ESt)) (fun x=>[(2,pvV 1003 (V6 x.2.pv))]) (fun x=>[(3,bQ x.2.det),(4,⟨3,1,.mix [.p (vZ (x.1:Int))]⟩)]) (fun x=>(tlP x.2.pv (W3 s x.2.m x.2.b))) (fun x=>x.1≤cols∧x.2=ech m b x.1) (fun x=>cols - x.1) ((0,⟨m,b,[],1⟩)) (sl:=[(1,_),(3,_),(4,_)]) (hb:=[(1,_),(999,_)]) ?_ ⟨oR,rfl,rfl,rfl,trivial⟩ ⟨rfl,rfl,rfl,rfl,(hbT [_,_,_,_] (C3 (pv:=[]) (s:=s) (m:=m) (b:=b)) rfl)⟩ ?_
 ·exact ⟨Nat.zero_le _,rfl⟩
 intro x hx
 obtain ⟨c,t⟩:=x
 obtain ⟨hc,hs⟩:=hx
 simp only at hc hs
 dsimp only
 have hrc:=v6 H.rc H.rb c hc
 have hme:=H.me c hc
 have hbe:=H.be c hc
 have hde:=H.de c hc
 rw [← hs] at hrc hme hbe hde
 obtain ⟨r1,r2,r3,-⟩:=hrc
 have hn:t.m.length=m.length:=r1.1
 by_cases hcc:c<cols
 ·refine R1 (exd rF ?_)
  refine sw (Y1 ag3 rF rF L) t1 t1 ?_
  refine sw (Y1 ag73 rF rF L) t1 t1 ?_
  refine sw (Z2 rX L) t1 t1 ?_
  refine sw (i2 un79 rfl sz3 dC rX L) t1 t1 ?_
  refine sw (Y1 ag3 rF rF L) t1 t1 ?_
  refine sw (P3 L) t2 t0 (mV L rfl (gV (g:=19) rfl sO L rfl rfl (swg (g:=19) rfl sO (M0v un27 L) rfl t1 (K1b [_,_,_,_] rfl dC) (swg (g:=19) rfl sO (Y1 ag73 rF rF L) rfl t1 t1 ?_))))
  refine swg (g:=19) rfl sO (Z2 rX L) rfl t1 t1 ?_
  refine swg (g:=19) rfl sO (i2 un79 rfl sz77 dC rX L) rfl t1 t1 ?_
  refine swg (g:=19) rfl sO (Y1 ag77 rF rF L) rfl t1 t1 ?_
  refine swg (g:=19) rfl sO (p0m un77 (by first | exact E2 _ _ _ | exact (E2 _ _ _).trans sM | exact (E2 _ _ _).trans (by assumption)) L) rfl t1 ⟨rdT [_,_,_,_] (C3 (pv:=t.pv) (s:=s) (m:=t.m) (b:=t.b)) rfl H1h,trivial⟩ ?_
  refine swg (g:=19) rfl sO (P3 L) rfl t2 t0 (sw (O4 sO L) t2 t0 ?_)
  refine O1 ⟨h0n [⟨[4],[4],[13],[]⟩,⟨[1],[1],[14],[]⟩,⟨[14],[999],[15],[]⟩,⟨[15],[999],[16],[]⟩,⟨[16],[999],[17],[]⟩,⟨[13,17],[],[18],[]⟩,⟨[18],[],[19],[]⟩,⟨[19,2],[],[20],[]⟩,⟨[19,20],[1000],[21],[]⟩,⟨[19,1],[1],[22],[]⟩,⟨[19,22],[999],[23],[]⟩,⟨[19,23],[999],[24],[]⟩,⟨[19,24],[999],[25],[]⟩,⟨[19,25],[1000],[26],[]⟩,⟨[19,21,26],[],[27],[]⟩,⟨[19,27],[],[28],[]⟩] (.cons (cf0 rfl) (.cons (cf0 rfl) (.cons (cf0 rfl) (.cons (cf0 rfl) (.cons (cf0 rfl) (.cons (cf0 rfl) (.cons (cf0 rfl) (.cons (cf0 rfl) (.cons (cfT rfl rfl (W1c dC) rfl (fun _ h=>by cases h)) (.cons (cf0 rfl) (.cons (cf0 rfl) (.cons (cf0 rfl) (.cons (cf0 rfl) (.cons (cfT rfl rfl (V8 dC) rfl (fun _ h=>by cases h)) (.cons (cf0 rfl) (.cons (cf0 rfl)  .nil)))))))))))))))) rfl (frS [] [_,_,_,_] (C3 (pv:=t.pv) (s:=s) (m:=t.m) (b:=t.b)) rfl (by simp [J3,X2,Cells.free,PV.freeL,PV.free,X3,i3])) dC,[(1,_),(2,_),(3,_),(4,_),(28,_)],(1,_) :: (3,_) :: (4,_) :: (999,_) :: ((tlP t.pv (W3 s t.m t.b))),t5,⟨rfl,rfl,rfl,rfl,(hbT [_,_,_,_] (C3 (pv:=t.pv) (s:=s) (m:=t.m) (b:=t.b)) rfl)⟩,?_⟩
  refine j2 rfl (fun hp=>?_) (fun hp=>?_)
  ·have hp:=dt hp
   rw [v8] at hp
   have hpn:t.pv.length<m.length:=by omega
   have f1:=n7 90 [.at_ 1 0 1,.at_ 4 0 1] (hC cols m.length c (bv s m.length) (tlP t.pv (W3 s t.m t.b))) (N1z C3) (Y1j C3 fun k B h=>K8 k B h) cl90 (nzI t.m c) t.pv.length m.length oM (fun i _ hi=>by
    have h4:=r1.get hi
    have:=v1p t.m cols c i (bv s m.length) (tlP t.pv (W3 s t.m t.b)) C3 D0h oM oM (by have:=h0c (i:=i) (j:=c) hme H.b0; unfold ent at this; omega)
    rw [hn] at this; exact this)
   refine U1 (xq ?_)
   refine R1 (V1 (exr (mV L rfl (sw (M0v un27 L) t1 (K1b [_,_,_,_] rfl dC) (swb (R3 (k:=5) (n:=1) zv3 (.cons rfl .nil) rfl (P0 _ rfl) L) t0 t0 (frT [_,_,_,_] (C3 (pv:=t.pv) (s:=s) (m:=t.m) (b:=t.b)) rfl rfl (by simp [J3,X2,Cells.free,PV.freeL,PV.free,X3,i3])) ?_)))))
   refine sb (U2 sz3 rF (.atom rfl) rfl pu1) t2 t1 ?_
   refine O1 ⟨[(1,_),(2,_),(3,_),(4,_),(5,_)],(1,_) :: (3,_) :: (4,_) :: (5,⟨3,1,.mix [.p (vZ (t.pv.length:Int))]⟩) :: (999,_) :: ((tlP t.pv (W3 s t.m t.b))),t5,⟨rfl,rfl,rfl,obl rfl (by rw [v8]),rfl,(hbT [_,_,_,_,_,_] (C3 (pv:=t.pv) (s:=s) (m:=t.m) (b:=t.b)) rfl)⟩,?_⟩
   refine exd rF ?_
   refine sw (Y1 ag3 rF rF L) t1 t1 ?_
   refine sw (Y1 ag73 rF rF L) t1 t1 ?_
   refine sw (Z2 rX L) t1 t1 ?_
   refine sw (i2 un79 rfl sz77 dC rX L) t1 t1 ?_
   refine sw (Y1 ag77 rF rF L) t1 t1 ?_
   refine sw (p0m un77 (by first | exact E2 _ _ _ | exact (E2 _ _ _).trans sM | exact (E2 _ _ _).trans (by assumption)) L) t1 ⟨rdT [_,_,_,_,_] (C3 (pv:=t.pv) (s:=s) (m:=t.m) (b:=t.b)) rfl H1h,trivial⟩ ?_
   refine sw (j0k (vs:=[]) (us:=[_,_]) rfl rfl L) t2 t0 (sw (o5 hG hX hN f1 rfl L (K4 (ys:=[_,_,_]) cl52 rfl rfl) (N1z C3) (Y1j C3 fun k B h=>K8 k B h) (fun q h=>by cases h)) t3 ⟨rfl,rfl,rfl,W7 (hbT [_,_,_,_,_] C3 rfl)⟩ ?_)
   refine swb (R3 (k:=6) (n:=1) zv3 (.cons rfl .nil) rfl (P0 _ rfl) L) t0 t0 (frT [_,_,_,_,_] (C3 (pv:=t.pv) (s:=s) (m:=t.m) (b:=t.b)) rfl rfl (by simp [J3,X2,Cells.free,PV.freeL,PV.free,X3,i3])) ?_
   refine sb (U2 sz3 rF (.atom rfl) rfl pu1) t2 t1 ?_
   refine O1 ⟨h0n [⟨[5],[5],[33],[]⟩,⟨[1],[1],[34],[]⟩,⟨[34],[999],[35],[]⟩,⟨[35],[999],[36],[]⟩,⟨[36],[999],[37],[]⟩,⟨[37],[1000],[38],[]⟩,⟨[1,4],[],[39],[]⟩,⟨[33,38,39],[1,4,999,1000],[40],[]⟩,⟨[],[],[6],[6]⟩,⟨[6,40],[6],[],[6]⟩] (.cons (cf0 rfl) (.cons (cf0 rfl) (.cons (cf0 rfl) (.cons (cf0 rfl) (.cons (cf0 rfl) (.cons (cfT rfl rfl (V8 dC) rfl (fun _ h=>by cases h)) (.cons (cf0 rfl) (.cons (cfT rfl rfl (K1h (l:=[_,_,_]) rF (d0d C3) rfl) rfl (fun _ h=>by cases h)) (.cons (cf0 rfl) (.cons (cf0 rfl)  .nil)))))))))) rfl (frS [6] [_,_,_,_,_] (C3 (pv:=t.pv) (s:=s) (m:=t.m) (b:=t.b)) rfl (by simp [J3,X2,Cells.free,PV.freeL,PV.free,X3,i3])) dC,[(1,_),(2,_),(3,_),(4,_),(5,_),(6,_)],(1,_) :: (3,_) :: (4,_) :: (5,_) :: (6,_) :: (999,_) :: ((tlP t.pv (W3 s t.m t.b))),t6,⟨rfl,rfl,rfl,rfl,rfl,rfl,(hbT [_,_,_,_,_,_,_] (C3 (pv:=t.pv) (s:=s) (m:=t.m) (b:=t.b)) rfl)⟩,?_⟩
   have hpe:l4 (nzI t.m c) t.pv.length (m.length - t.pv.length)=g0a t.m c t.pv.length:=by rw [g0a,hn]
   rw [hpe]
   refine R1 (exr (sw (Y1 ag3 rF rF L) t1 t1 ?_))
   refine sw (P3 L) t2 t0 ?_
   refine O1 ⟨[(1,_),(2,_),(3,_),(4,_),(5,_),(6,_),(42,_)],(1,_) :: (3,_) :: (4,_) :: (5,_) :: (6,_) :: (999,_) :: ((tlP t.pv (W3 s t.m t.b))),t7,⟨rfl,rfl,rfl,rfl,rfl,rfl,(hbT [_,_,_,_,_,_] (C3 (pv:=t.pv) (s:=s) (m:=t.m) (b:=t.b)) rfl)⟩,?_⟩
   refine j2 rfl (fun hneg=>?_) (fun hneg=>?_)
   ·have hneg:=dt hneg
    have hst:ech m b (c+1)=t:=by rw [q9,← hs,T9,if_pos oM,if_pos hneg]
    refine G2 (xq ?_)
    refine R1 (exr (sw (Y1 ag3 rF rF L) t1 t1 ?_))
    refine O1 ⟨[(1,_),(2,_),(3,_),(83,_)],(1,_) :: (3,_) :: (999,_) :: ((tlP t.pv (W3 s t.m t.b))),t4,⟨rfl,rfl,rfl,(hbT [_,_,_,_,_,_] (C3 (pv:=t.pv) (s:=s) (m:=t.m) (b:=t.b)) rfl)⟩,?_⟩
    refine j3 (swb (R3 (k:=4) (n:=1) zv3 (.cons rfl .nil) rfl (P0 _ rfl) L) t0 t0 (frT [_,_,_] (C3 (pv:=t.pv) (s:=s) (m:=t.m) (b:=t.b)) rfl rfl (by simp [J3,X2,Cells.free,PV.freeL,PV.free,X3,i3])) ?_)
    refine sb (U2 sz3 rF (.atom rfl) rfl pu1) t2 t1 ?_
    refine O1 (show n4 _ _ _ _ _ from exw (sl:=[(1,_),(2,_),(3,_),(4,_)]) (hb:=(1,_) :: (3,_) :: (4,_) :: (999,_) :: ((tlP t.pv (W3 s t.m t.b)))) t4 ⟨rfl,rfl,rfl,rfl,(hbT [_,_,_,_,_] (C3 (pv:=t.pv) (s:=s) (m:=t.m) (b:=t.b)) rfl)⟩ ?_)
    refine j3 (sw (Y1 ag3 rF rF L) t1 t1 ?_)
    refine sw (B3 L (w64 oM oM)) t2 t0 (sb (U2 sz3 rF (.atom rfl) rfl pu1) t2 t1 ?_)
    refine O1 ?_
    exact ⟨(c+1,t),⟨by simp only; omega,hst.symm⟩,(by simp only; omega),l3 ⟨oR,rfl,rfl,rfl,trivial⟩ ⟨rfl,rfl,rfl,rfl,(hbT [_,_,_,_,_] (C3 (pv:=t.pv) (s:=s) (m:=t.m) (b:=t.b)) rfl)⟩⟩
   ·have hneg:=df hneg
    have hst:ech m b (c+1)=stp t.m t.b t.pv t.det (g0a t.m c t.pv.length).toNat c:=by rw [q9,← hs,T9,if_pos oM,if_neg hneg]
    obtain ⟨hp1,hp2,hp3,hp4⟩:=p0j hneg (show t.pv.length<t.m.length by omega)
    obtain ⟨i,hi⟩:∃ i,i=(g0a t.m c t.pv.length).toNat:=⟨_,rfl⟩
    rw [← hi] at hp1 hp2 hp3 hp4 hst
    rw [← hp4]
    have hl0:ent t.m i c≠0:=by simpa [nzI,ent] using hp3
    have hin:i<m.length:=by omega
    have hnm:=H.me (c+1) hcc
    have hnb:=H.be (c+1) hcc
    rw [hst] at hnm hnb
    have hld:T5 (swapped t.m i t.pv.length) t.pv.length c=ent t.m i c:=by
     have:=W5 (k:=t.pv.length) (j:=c) r1.1 hin hpn
     rw [if_pos rfl] at this; exact this
    obtain ⟨p,hpp⟩:∃ p,p=t.pv.length:=⟨_,rfl⟩
    rw [← hpp] at hp1 hpn hld
    rw [← hpp]
    have hbl:t.b.length=m.length:=r2.1
    refine U1 (xq ?_)
    refine R1 (exr (sw (Y1 ag3 rF rF L) t1 t1 ?_))
    refine sw (Y1 ag3 rF rF L) t1 t1 ?_
    refine sw (c_n L) t2 t0 ?_
    refine O1 ⟨[(1,_),(2,_),(3,_),(4,_),(5,_),(6,_),(45,_)],(1,_) :: (3,_) :: (4,_) :: (5,_) :: (6,_) :: (999,_) :: ((tlP t.pv (W3 s t.m t.b))),t7,⟨rfl,rfl,rfl,rfl,rfl,rfl,(hbT [_,_,_,_,_,_] (C3 (pv:=t.pv) (s:=s) (m:=t.m) (b:=t.b)) rfl)⟩,?_⟩
    refine J1k (sl:=[]) (sl0:=[(1,_),(2,_),(3,_),(4,_),(5,_)]) (hb:=[(1,⟨73,1,.mix [.at_ 999 0 3]⟩),(3,bQ (if i=p then t.det else -t.det)),(4,⟨3,1,.mix [.p (vZ (c:Int))]⟩),(5,⟨3,1,.mix [.p (vZ (p:Int))]⟩),(999,(wV cols m.length (bv s m.length)).2)]) (T:=(tlP t.pv (W3 s (swapped t.m i p) (swapped t.b i p)))) t5 ?_ ?_
    ·refine j2 rfl (fun hne=>?_) (fun hne=>?_)
     ·have hne:=nt hne
      have hne':i≠p:=fun e=>hne (by rw [e])
      have hb2:=Y1k s cols t.m t.b i p hp2 oM hne' oM
      rw [hn] at hb2
      refine p0r (nsw (Y1 ag73 rF rF L) t1 t1 ?_)
      refine nsw (j0k (vs:=[]) (us:=[_,_]) rfl rfl L) t2 t0 (nsI hG hX hN [(1,.at_ 1 0 1),(2,pvV 1003 (V6 t.pv)),(3,.at_ 3 0 4),(4,.at_ 4 0 1),(5,.at_ 5 0 1)] ([(1,_),(3,_),(4,_),(5,_),(999,_)]++(tlP t.pv (W3 s (K5 t.m i p) (K5 t.b i p)))) hb2 L (K4 (ys:=[_,_]) cl92 rfl rfl) t2 (by exact ncE (pre:=[_,_,_,_,_,_]) (pre':=[_,_,_,_,_]) (bx:=[bxI 5 p,bxI 6 i,wV cols m.length (bv s m.length)]) sM sM hn (hbl.trans H6.symm) G rfl t3 t5 (by cases s <;> rfl) (by simp [i0]) (by cases s <;> rfl) (by simp [PV.only,J0a]) t5) (fun q h=>by cases h) rfl ?_)
      refine .nil ⟨[(1,_),(2,_),(3,_),(4,_),(5,_)],(1,_) :: (3,_) :: (4,_) :: (5,_) :: (999,_) :: tlP t.pv (W3 s (K5 t.m i p) (K5 t.b i p)),t5,⟨rfl,rfl,rfl,rfl,rfl,(hbT [_,_,_,_,_] (C3 (pv:=t.pv) (s:=s) (m:=K5 t.m i p) (b:=K5 t.b i p)) rfl)⟩,?_⟩
      refine j3 (lp4 ag47 sz47 L rfl rfl (cK hG hX cl56 hN (y0j t.det oM) L t1 (sb (U2 sz47 rF pa4 rfl pu4) t2 t1 ?_)))
      refine O1 ?_
      exact ⟨⟨oR,oR,oR,oR,oR,trivial⟩,⟨rfl,obl rfl (by rw [if_neg hne']),rfl,rfl,rfl,(by rw [swapped,if_neg hne',swapped,if_neg hne']; exact hbT [_,_,_,_,_,_] C3 rfl)⟩⟩
     ·have hne:=nf hne
      have hne':i=p:=by omega
      refine U1 ?_
      exact ⟨⟨oR,oR,oR,oR,oR,trivial⟩,⟨rfl,obl rfl (by rw [if_pos hne']),rfl,rfl,rfl,(by rw [swapped,if_pos hne',swapped,if_pos hne']; exact hbT [_,_,_,_,_,_] C3 rfl)⟩⟩
    ·obtain ⟨m1,hm1⟩:∃ m1,m1=swapped t.m i p:=⟨_,rfl⟩
     obtain ⟨b1,hb1⟩:∃ b1,b1=swapped t.b i p:=⟨_,rfl⟩
     obtain ⟨d1,hd1⟩:∃ d1,d1=(if i=p then t.det else -t.det):=⟨_,rfl⟩
     rw [← hm1,← hb1,← hd1]
     have hrc1:RC m.length cols m1:=by rw [hm1]; exact r1.swapped hin hpn
     have hrb1:RC m.length d b1:=by rw [hb1]; exact r2.swapped hin hpn
     have hn1:=hrc1.1
     have hcp:c<(m1.getD p []).length:=by rw [hrc1.get hpn]; exact hcc
     rw [← hm1] at hld
     refine exd rF ?_
     refine sw (Y1 ag73 rF rF L) t1 t1 ?_
     refine sw (Z2 rX L) t1 t1 ?_
     refine sw (i2 un79 rfl sz77 dC rX L) t1 t1 ?_
     refine sw (Y1 ag77 rF rF L) t1 t1 ?_
     refine sw (Y1 ag3 rF rF L) t1 t1 ?_
     refine sw (Y1 ag3 rF rF L) t1 t1 ?_
     refine sw (o5 hG hX hN (atM (M:=m1) (m:=m1) hn1 rfl hpn hcp) rfl L (K4 (ys:=[_,_,_]) cl91 rfl rfl) (y2 dC m1).nd (y2 dC m1).whole (fun q h=>by cases h)) t3 (W7 (v5 (y2 dC m1).nd fun k B h=>rdT [_,_,_,_,_] C3 rfl (D0h k B h))) ?_
     refine swb (R3 (k:=7) (n:=4) zv47 (.cons rfl (.cons rfl (.cons rfl (.cons rfl .nil)))) rfl (P0 _ rfl) L) t0 t0 (frT [_,_,_,_,_] (C3 (pv:=t.pv) (s:=s) (m:=m1) (b:=b1)) rfl rfl (by simp [J3,X2,Cells.free,PV.freeL,PV.free,X3,i3])) ?_
     refine sb (U2 sz47 rF pa4 rfl pu4) t2 t1 ?_
     refine O1 ⟨h0n [⟨[1],[1],[51],[]⟩,⟨[51],[999],[52],[]⟩,⟨[52],[999],[53],[]⟩,⟨[53],[999],[54],[]⟩,⟨[5],[5],[55],[]⟩,⟨[4],[4],[56],[]⟩,⟨[54,55,56],[1000],[57],[]⟩,⟨[],[],[7],[7]⟩,⟨[7,57],[7],[],[7]⟩] (.cons (cf0 rfl) (.cons (cf0 rfl) (.cons (cf0 rfl) (.cons (cf0 rfl) (.cons (cf0 rfl) (.cons (cf0 rfl) (.cons (cfT rfl rfl (fun p hp=>by rw [J0f (d0d (y2 dC m1) p hp)]; exact List.mem_singleton.2 rfl) rfl (fun _ h=>by cases h)) (.cons (cf0 rfl) (.cons (cf0 rfl)  .nil))))))))) rfl (frS [7] [_,_,_,_,_] (C3 (pv:=t.pv) (s:=s) (m:=m1) (b:=b1)) rfl (by simp [J3,X2,Cells.free,PV.freeL,PV.free,X3,i3])) dC,[(1,_),(2,_),(3,_),(4,_),(5,_),(7,_)],(1,_) :: (3,_) :: (4,_) :: (5,_) :: (7,_) :: (999,_) :: ((tlP t.pv (W3 s m1 b1))),t6,⟨rfl,rfl,rfl,rfl,rfl,rfl,(hbT [_,_,_,_,_,_,_] (C3 (pv:=t.pv) (s:=s) (m:=m1) (b:=b1)) rfl)⟩,?_⟩
     have hq1:qw (T5 m1 p c)≤B:=by rw [hld]; exact h0c hme H.b0
     have hq2:T5 m1 p c≠0:=by rw [hld]; exact hl0
     have hq3:qw d1≤DB:=by rw [hd1]; split; exact hde; rw [G0m]; exact hde
     have hq4:qw (1 / T5 m1 p c)≤B+1:=by have:=f1r (a:=1) hq2; rw [H0g] at this; omega
     refine exr (lp4 ag47 sz47 L rfl rfl (lp4 ag47 sz47 L rfl rfl (cK hG hX cl67 hN (q8 d1 (T5 m1 p c) oM oM) L t2 (sb (U2 sz47 rF pa4 rfl pu4) t2 t1 ?_))))
     refine O1 ⟨[(1,_),(2,_),(3,_),(4,_),(5,_),(7,_)],(1,_) :: (3,_) :: (4,_) :: (5,_) :: (7,_) :: (999,_) :: ((tlP t.pv (W3 s m1 b1))),t6,⟨rfl,rfl,rfl,rfl,rfl,rfl,(hbT [_,_,_,_,_,_,_] (C3 (pv:=t.pv) (s:=s) (m:=m1) (b:=b1)) rfl)⟩,?_⟩
     refine exd rF ?_
     refine cK hG hX cl55 hN (l7 1 dC dC) L t1 (lp4 ag47 sz47 L rfl rfl (cK hG hX cl66 hN (w0v 1 (T5 m1 p c) (by rw [H0g]; decide) oM hq2) L t2 ?_))
     refine mV L rfl (sw (O3 rfl L) t1 t0 (sw (O3 rfl L) t1 t0 (swb (R3 (k:=8) (n:=4) zv47 (.cons rfl (.cons rfl (.cons rfl (.cons rfl .nil)))) rfl (P0 _ rfl) L) t0 t0 (frT [_,_,_,_,_,_] (C3 (pv:=t.pv) (s:=s) (m:=m1) (b:=b1)) rfl rfl (by simp [J3,X2,Cells.free,PV.freeL,PV.free,X3,i3])) ?_)))
     refine sb (U2 sz47 rF pa4 rfl pu4) t2 t1 ?_
     refine aV L rfl ?_
     refine O1 ⟨h0n [⟨[],[],[62],[]⟩,⟨[7],[7],[63],[]⟩,⟨[62,63],[],[64],[]⟩,⟨[64],[],[61],[]⟩,⟨[61],[],[65],[]⟩,⟨[61],[],[66],[]⟩,⟨[],[],[8],[8]⟩,⟨[8,65],[8],[],[8]⟩,⟨[66],[],[9],[]⟩] (.cons (cf0 rfl) (.cons (cf0 rfl) (.cons (cf0 rfl) (.cons (cf0 rfl) (.cons (cf0 rfl) (.cons (cf0 rfl) (.cons (cf0 rfl) (.cons (cf0 rfl) (.cons (cf0 rfl)  .nil))))))))) rfl (frS [8] [_,_,_,_,_,_] (C3 (pv:=t.pv) (s:=s) (m:=m1) (b:=b1)) rfl (by simp [J3,X2,Cells.free,PV.freeL,PV.free,X3,i3])) dC,[(1,_),(2,_),(3,_),(4,_),(5,_),(8,_)],(1,_) :: (3,_) :: (4,_) :: (5,_) :: (8,_) :: (999,_) :: ((tlP t.pv (W3 s m1 b1))),t6,⟨rfl,rfl,rfl,rfl,rfl,rfl,(hbT [_,_,_,_,_,_,_,_] (C3 (pv:=t.pv) (s:=s) (m:=m1) (b:=b1)) rfl)⟩,?_⟩
     have hm1B:∀ i j,qw (ent m1 i j)≤B:=fun i' j=>by rw [hm1,W5 r1.1 hin hpn]; exact h0c hme H.b0
     have hb1B:∀ i j,qw (ent b1 i j)≤B:=fun i' j=>by rw [hb1,W5 r2.1 hin hpn]; exact h0c hbe H.b0
     have hb3:=b2h s cols m1 b1 p (1 / T5 m1 p c) oM (by rw [hrb1.1,hn1]) (by rw [hrc1.get hpn]; omega) (fun a ha=>by obtain ⟨j,rfl⟩:=g0r ha; have:=hm1B p j; omega) oM (by rw [hrb1.get hpn]; have:=H.dl; omega) (fun a ha=>by obtain ⟨j,rfl⟩:=g0r ha; have:=hb1B p j; omega)
     rw [hn1] at hb3
     refine p0r (nsw (Y1 ag73 rF rF L) t1 t1 ?_)
     refine nsw (j0k (vs:=[]) (us:=[_,_]) rfl rfl L) t2 t0 (nsI hG hX hN [(1,.at_ 1 0 1),(2,pvV 1003 (V6 t.pv)),(3,.at_ 3 0 4),(4,.at_ 4 0 1),(5,.at_ 5 0 1)] ([(1,_),(3,_),(4,_),(5,_),(999,_)]++(tlP t.pv (W3 s (R9 m1 p (1 / T5 m1 p c)) (R9 b1 p (1 / T5 m1 p c))))) hb3 L (K4 (ys:=[_,_]) cl92 rfl rfl) t2 (by exact ncE (pre:=[_,_,_,_,_,_]) (pre':=[_,_,_,_,_]) (bx:=[bxI 5 p,bxQ 8 (1 / T5 m1 p c),wV cols m.length (bv s m.length)]) (by simp [R9]) (by simp [R9]) hn1 (hrb1.1.trans H6.symm) G rfl t3 t5 (by cases s <;> rfl) (by simp [i0]) (by cases s <;> rfl) (by simp [PV.only,J0a]) t5) (fun q h=>by cases h) rfl ?_)
     refine .nil ⟨[(1,_),(2,_),(3,_),(4,_),(5,_)],(1,_) :: (3,_) :: (4,_) :: (5,_) :: (999,_) :: tlP t.pv (W3 s (R9 m1 p (1 / T5 m1 p c)) (R9 b1 p (1 / T5 m1 p c))),t5,⟨rfl,rfl,rfl,rfl,rfl,(hbT [_,_,_,_,_] (C3 (pv:=t.pv) (s:=s) (m:=R9 m1 p (1 / T5 m1 p c)) (b:=R9 b1 p (1 / T5 m1 p c))) rfl)⟩,?_⟩
     have hrc2:=hrc1.scl (q:=1 / T5 m1 p c) hpn
     have hrb2:=hrb1.scl (q:=1 / T5 m1 p c) hpn
     have hm2B:∀ i j,qw (ent (R9 m1 p (1 / T5 m1 p c)) i j)≤B+(B+1):=fun i' j=>by
      rw [d0k hrc1 hpn]
      split
      ·have:=d9 (ent m1 p j) (1 / T5 m1 p c); have:=hm1B p j; omega
      ·have:=hm1B i' j; omega
     have hb2B:∀ i j,qw (ent (R9 b1 p (1 / T5 m1 p c)) i j)≤B+(B+1):=fun i' j=>by
      rw [d0k hrb1 hpn]
      split
      ·have:=d9 (ent b1 p j) (1 / T5 m1 p c); have:=hb1B p j; omega
      ·have:=hb1B i' j; omega
     have hst2:stp t.m t.b t.pv t.det i c=⟨q0d (R9 m1 p (1 / T5 m1 p c)) (R9 m1 p (1 / T5 m1 p c)) p c,q0d (R9 m1 p (1 / T5 m1 p c)) (R9 b1 p (1 / T5 m1 p c)) p c,t.pv++[c],d1*T5 m1 p c⟩:=by
      rw [stp,hm1,hb1,hd1,hpp]
     obtain ⟨m2,hm2⟩:∃ m2,m2=R9 m1 p (1 / T5 m1 p c):=⟨_,rfl⟩
     obtain ⟨b2,hb2⟩:∃ b2,b2=R9 b1 p (1 / T5 m1 p c):=⟨_,rfl⟩
     obtain ⟨q2,hq⟩:∃ q2,q2=d1*T5 m1 p c:=⟨_,rfl⟩
     rw [← hm2,← hb2,← hq] at hst2
     rw [← hm2] at hrc2 hm2B
     rw [← hb2] at hrb2 hb2B
     rw [← hm2,← hb2,← hq]
     obtain ⟨N,hN2⟩:∃ N,N=(F5 m2 p c).length:=⟨_,rfl⟩
     have hpin:∀ k,k<1000→k≠999→F.pin k=none:=fun k hk hk9=>G.p0 k (by rw [T1,(U7 s m b).low k (by simpa [Nat.blt_eq] using hk),Option.or_none,i0,show (k == 999)=false by simpa using hk9]; rfl)
     refine R1 (p0r (nsw (Y1 ag73 rF rF L) t1 t1 ?_))
     refine nsw (Y1 ag3 rF rF L) t1 t1 ?_
     refine nsw (Y1 ag3 rF rF L) t1 t1 ?_
     refine nsI hG hX hN [(1,.at_ 1 0 1),(2,pvV 1003 (V6 t.pv)),(3,.at_ 3 0 4),(4,.at_ 4 0 1),(5,.at_ 5 0 1)] ([(603,_),(604,_),(605,_),(999,_),(1,_),(3,_),(4,_),(5,_)]++(tlP t.pv (W3 s m2 b2))) (Y0b s cols m.length p c (tlP t.pv (W3 s m2 b2)) C3) L (K4 (ys:=[_,_,_]) cl97 rfl rfl) t3 (by exact ncO (q:=q2) (c:=c) (p:=p) (pre:=[_,_,_,_,_]) t5 rfl (fun k hk=>hpin k oM oM) (by simp [PV.only,J0a]) t5) (fun q h=>by rcases n1r h with rfl | rfl | rfl <;> exact m0c (by simp [i0])) rfl ?_
     refine .nil ⟨[(1,_),(2,_),(3,_),(4,_),(5,_),(73,_)],(1,_) :: (3,_) :: (4,_) :: (5,_) :: (603,_) :: (604,_) :: (605,_) :: (999,_) :: tlP t.pv (W3 s m2 b2),t6,⟨rfl,rfl,rfl,rfl,rfl,rfl,rfl,rfl,(hbT [_,_,_,_,_,_,_,_] (C3 (pv:=t.pv) (s:=s) (m:=m2) (b:=b2)) rfl)⟩,?_⟩
     refine V1 ?_
     have hMr:∀ k,k≤N→RC m.length cols (O6 m2 m2 p c k):=fun k hk=>j0h hrc2.1 hrc2 hpn k oM
     have hBr:∀ k,k≤N→RC m.length d (O6 m2 b2 p c k):=fun k hk=>j0h hrc2.1 hrb2 hpn k oM
     refine y1z (fn:=Tryz.f126) (n:=N) (nI:=42) (Hc:=bx3 p c) (Hc':=bx3 p c) (fun k=>hR s cols m.length c p q2 t.pv (O6 m2 m2 p c k) (O6 m2 b2 p c k)) (fun k=>(vZ ((F5 m2 p c).getD k 0:Nat),pQ (ent m2 ((F5 m2 p c).getD k 0) c))) (sl:=[(1,.at_ 1 0 1),(2,pvV 1003 (V6 t.pv)),(3,.at_ 3 0 4),(4,.at_ 4 0 1),(5,.at_ 5 0 1)]) hG hX hN G.ro rfl ?_ cl126 Tryz.func126 rfl Tryz.ntmps126 Tryz.results126 dC ⟨L,L⟩ ?_ ?_ ?_ ?_ (fun q h=>h) ?_ ?_ ?_ ?_
     ·exact l3 t5 ⟨rfl,rfl,rfl,rfl,rfl,rfl,rfl,rfl,hbT [_,_,_,_,_,_,_,_] C3 rfl⟩
     ·intro k hk j hj
      rcases k1h hk with rfl | rfl | rfl <;> exact k1a dC dC dC dC dC dC
     ·intro k hk q'
      have h1:=f0n (hMr k oM) (hMr (k+1) oM)
      have h2:=f0n (hBr k oM) (hBr (k+1) oM)
      constructor
      ·intro h
       obtain ⟨B1,hB1⟩:=j1.1 h
       obtain ⟨B0,h0,_⟩:=g1j h1 h2 hB1
       rw [h0]; simp
      ·intro h
       obtain ⟨B1,hB1⟩:=j1.1 h
       obtain ⟨B0,h0,_⟩:=g1j (H0f h1) (H0f h2) hB1
       rw [h0]; simp
     ·intro k hk q' B0 B1 h0 h1
      obtain ⟨B2,h2,h3⟩:=g1j (f0n (hMr k oM) (hMr (k+1) oM)) (f0n (hBr k oM) (hBr (k+1) oM)) h1
      rw [h0] at h2
      injection h2 with h2
      subst h2; exact h3
     ·exact fun k hk=>b2z
     ·intro tt v hv q' hq'
      have hm:(tt,v)∈_:=s8 hv
      simp only [List.mem_cons,List.not_mem_nil,or_false,Prod.mk.injEq] at hm
      have hb:∀ k,(k=1∨k=3∨k=4∨k=5)→(hR s cols m.length c p q2 t.pv (O6 m2 m2 p c 0) (O6 m2 b2 p c 0)).lookup k≠none:=fun k hk=>m0c (by rcases hk with rfl | rfl | rfl | rfl <;> simp [i0])
      rcases hm with ⟨_,rfl⟩ | ⟨_,rfl⟩ | ⟨_,rfl⟩ | ⟨_,rfl⟩ | ⟨_,rfl⟩
      ·obtain rfl:1=q':=by simpa [PV.free] using hq'
       exact hb 1 sM
      ·cases hpv:t.pv with
       | nil=>rw [hpv] at hq'; cases hq'
       | cons a l =>
        rw [hpv] at hq'
        obtain rfl:1003=q':=by simpa [PV.free,V6] using hq'
        exact O8 (by simp [tlP,V6,pvB])
      ·obtain rfl:3=q':=by simpa [PV.free] using hq'
       exact hb 3 sM
      ·obtain rfl:4=q':=by simpa [PV.free] using hq'
       exact hb 4 sM
      ·obtain rfl:5=q':=by simpa [PV.free] using hq'
       exact hb 5 sM
     ·intro l F' XF hro' hY
      have hlen2:m2.length=m.length:=hrc2.1
      have hit:=b1k cols p c N l m2 (bv s m.length) (fun k=>O6 m2 m2 p c k) (fun k=>[(1,⟨73,1,.mix [.at_ 999 0 3]⟩),(3,bQ q2),bxI 4 c,bxI 5 p]++tlP t.pv (W3 s (O6 m2 m2 p c k) (O6 m2 b2 p c k))) (fun k=>(vZ ((F5 m2 p c).getD k 0:Nat),pQ (ent m2 ((F5 m2 p c).getD k 0) c))) (fun k hk=>d2c) (fun k hk q' B' h=>by
        rw [T1,show ([(1,⟨73,1,.mix [.at_ 999 0 3]⟩),(3,bQ q2),bxI 4 c,bxI 5 p]:List (Nat×Blk)).lookup q'=none from n5 rF (i5 dC h),l0]
        exact D0h q' B' h) (fun k hk=>(hMr k hk).1.trans hlen2.symm) (fun i' hi'=>F1y hrc2 hpn hi') (fun i' hi'=>by rw [hrc2.get oM]; exact hcc) (fun i' hi'=>by have:=hm2B i' c; unfold ent at this; omega) (by rw [hN2]; exact v1c) (fun i' hi' ho=>by rw [(y1n hi' ho).1]; rfl) oM
      rw [hlen2] at hit
      exact hit F' _ rfl XF hY
     ·intro k hk
      obtain ⟨ix,hix⟩:∃ ix,ix=(F5 m2 p c).getD k 0:=⟨_,rfl⟩
      have hmem:=G9.1 (d6 (show k<(F5 m2 p c).length by omega))
      have hat:=d1m (k:=k) hrc2.1 hrc2 hpn (by omega:k<(F5 m2 p c).length)
      have hatb:=d1m (m:=m2) (c:=c) (k:=k) hrc2.1 hrb2 hpn (by omega:k<(F5 m2 p c).length)
      have hMk:=hMr k oM
      have hBk:=hBr k oM
      have e1:O6 m2 m2 p c (k+1)=Z7 (O6 m2 m2 p c k) ix p (ent m2 ix c):=by rw [h0b oM,hix]; rfl
      have e2:O6 m2 b2 p c (k+1)=Z7 (O6 m2 b2 p c k) ix p (ent m2 ix c):=by rw [h0b oM,hix]; rfl
      rw [← hix] at hmem hat hatb
      simp only
      rw [e1,e2,← hix]
      obtain ⟨mk,hmk⟩:∃ mk,mk=O6 m2 m2 p c k:=⟨_,rfl⟩
      obtain ⟨bk,hbk⟩:∃ bk,bk=O6 m2 b2 p c k:=⟨_,rfl⟩
      rw [← hmk] at hat hMk ⊢
      rw [← hbk] at hatb hBk ⊢
      have hixn:ix<m.length:=by have:=hrc2.1; omega
      refine ⟨⟨[(10,.at_ 10 0 1),(11,.at_ 11 0 4),(1,.at_ 1 0 1),(2,pvV 1003 (V6 t.pv)),(3,.at_ 3 0 4),(4,.at_ 4 0 1),(5,.at_ 5 0 1)],[bxI 10 ix,bxQ 11 (ent m2 ix c),wV cols m.length (bv s m.length),(1,⟨73,1,.mix [.at_ 999 0 3]⟩),(3,bQ q2),bxI 4 c,bxI 5 p]++tlP t.pv (W3 s mk bk)⟩,fun F' XF=>?_,fun F' XF=>?_⟩
      ·have L:=@lti _ _ (XF.nt.trans G.nt)
       have P0:∀ k,(k == 10 || k == 11)=true→F'.pin k=none:=fun k hk=>XF.p0 k (by simp only [Bool.or_eq_true,beq_iff_eq] at hk; rcases hk with rfl | rfl <;> exact k1a dC dC dC dC dC dC)
       skip
       refine exr (swb (R3 (k:=10) (n:=1) zv3 (.cons rfl .nil) rfl (P0 _ rfl) L) t0 t0 (frT [_,_,_,_,_] (C3 (pv:=t.pv) (s:=s) (m:=mk) (b:=bk)) rfl rfl (by simp [J3,X2,Cells.free,PV.freeL,PV.free,X3,i3])) ?_)
       refine sb (U2 sz3 rF (.atom rfl) rfl pu1) t2 t1 ?_
       refine O1 ⟨[(1,_),(2,_),(3,_),(4,_),(5,_),(10,_),(74,_),(75,_)],(1,_) :: (3,_) :: (4,_) :: (5,_) :: (10,_) :: (999,_) :: ((tlP t.pv (W3 s mk bk))),t8,⟨rfl,rfl,rfl,rfl,rfl,rfl,(hbT [_,_,_,_,_,_,_] (C3 (pv:=t.pv) (s:=s) (m:=mk) (b:=bk)) rfl)⟩,?_⟩
       refine j3 (swb (R3 (k:=11) (n:=4) zv47 (.cons rfl (.cons rfl (.cons rfl (.cons rfl .nil)))) rfl (P0 _ rfl) L) t0 t0 (frT [_,_,_,_,_,_] (C3 (pv:=t.pv) (s:=s) (m:=mk) (b:=bk)) rfl rfl (by simp [J3,X2,Cells.free,PV.freeL,PV.free,X3,i3])) ?_)
       refine sb (U2 sz47 rF pa4 rfl pu4) t2 t1 ?_
       refine O1 ?_
       exact ⟨rfl,l3 t7 ⟨rfl,rfl,rfl,rfl,rfl,rfl,rfl,hbT [_,_,_,_,_,_,_,_] C3 rfl⟩⟩
      ·have L:=@lti _ _ (XF.nt.trans G.nt)
       have hG:=XF.g
       have hX:=XF.x
       have hN:=XF.ng
       have hb4:=Y1p s cols mk bk ix p (ent m2 ix c) (B+(B+1)) (B+(B+1)) (B+(B+1)) (by rw [hMk.1]; exact hixn) (by rw [hMk.1]; exact hpn) hmem.2.1 (by rw [hBk.1,hMk.1]) (by rw [hMk.get hpn,hMk.get hixn]) (by rw [hMk.get hixn]; omega) (fun a ha=>by rw [hat.1] at ha; obtain ⟨j,rfl⟩:=g0r ha; exact hm2B ix j) (fun a ha=>by rw [hat.2] at ha; obtain ⟨j,rfl⟩:=g0r ha; exact hm2B p j) (hm2B ix c) (by rw [hBk.get hpn,hBk.get hixn]) (by rw [hBk.get hixn]; have:=H.dl; omega) (fun a ha=>by rw [hatb.1] at ha; obtain ⟨j,rfl⟩:=g0r ha; exact hb2B ix j) (fun a ha=>by rw [hatb.2] at ha; obtain ⟨j,rfl⟩:=g0r ha; exact hb2B p j) oM
       rw [hMk.1] at hb4
       have hs1:=f0n hMk (hMk.take (q:=ent m2 ix c) hixn hpn)
       have hs2:=f0n hBk (hBk.take (q:=ent m2 ix c) hixn hpn)
       skip
       refine V1 (H0a (nsw (Y1 ag73 rF rF L) t1 t1 ?_))
       refine nsw (j0k (vs:=[]) (us:=[_,_,_]) rfl rfl L) t3 t0 (nsI hG hX hN [] ([(999,_),(1,_),(3,_),(4,_),(5,_)]++(tlP t.pv (W3 s (Z7 mk ix p (ent m2 ix c)) (Z7 bk ix p (ent m2 ix c))))) hb4 L (K4 (ys:=[_,_]) cl92 rfl rfl) t2 (by exact d2s (pre:=[_,_,_,_,_,_,_]) (pre':=[_,_,_,_,_]) (bx:=[bxI 5 p,bxI 10 ix,bxQ 11 (ent m2 ix c),wV cols m.length (bv s m.length)]) hs1 hs2 rfl t4 t5 (by cases s <;> rfl) (by simp [i0]) trivial) (fun q h=>by cases h) rfl ?_)
       refine .nil ?_
       exact ⟨rfl,rfl,rfl,rfl,rfl,rfl,hbT [_,_,_,_,_] C3 rfl⟩
     ·show n4 _ _ _ ⟨_,bx3 p c++(bxs s cols m.length c p q2++tlP t.pv (W3 s (O6 m2 m2 p c N) (O6 m2 b2 p c N)))⟩ _
      obtain ⟨mN,hmN⟩:∃ mN,mN=O6 m2 m2 p c N:=⟨_,rfl⟩
      obtain ⟨bN,hbN⟩:∃ bN,bN=O6 m2 b2 p c N:=⟨_,rfl⟩
      have hst3:ech m b (c+1)=⟨mN,bN,t.pv++[c],q2⟩:=by rw [hst,hst2,q0d,q0d,← hN2,hmN,hbN]
      rw [← hmN,← hbN]
      skip
      refine j3 (mV L rfl (sw (Y1 ag3 rF rF L) t1 t1 ?_))
      refine sw (q4 (vs:=[_]) un27 ti3 rfl rfl dC dC rfl (K2 (.cons rfl .nil) rfl) rfl (.cons rfl (.atom rfl) rfl pu1 .nil) (.cons .nil) L) t1 t0 (swA (M0h (k:=1003) un27 un27 ti3 rfl rfl rfl (by first | (simp [Tryz.t3]; done) | (simp [Tryz.t3]; omega)) sO hpin3 L) t2 ((K1b [_,_,_,_,_,_,_,_] rfl dC)) (d2f (pre:=[_,_,_,_,_,_,_,_]) rfl (fun e=>by rw [e]; simp [J3,X2,Cells.free,PV.freeL,PV.free,V6])) ?_)
      refine aV L rfl ?_
      refine O1 (show n4 _ _ _ _ _ from exw (sl:=[(1,_),(2,pvV 1003 (V6 (t.pv++[c]))),(3,_),(4,_)]) (hb:=(1,_) :: (3,_) :: (4,_) :: (999,_) :: ((tlP (t.pv++[c]) (W3 s mN bN)))) ⟨rfl,(by rw [W0v]; rfl),rfl,rfl,trivial⟩ ⟨(h1r (pre:=[_,_,_,_,_,_,_,_]) dC rfl),(h1r (pre:=[_,_,_,_,_,_,_,_]) dC rfl),(h1r (pre:=[_,_,_,_,_,_,_,_]) dC rfl),(h1r (pre:=[_,_,_,_,_,_,_,_]) dC rfl),(d2a (pre:=[_,_,_,_,_,_,_,_]) rfl)⟩ ?_)
      refine R1 (exr (sw (Y1 ag3 rF rF L) t1 t1 ?_))
      refine O1 ⟨[(1,_),(2,_),(3,_),(83,_)],(1,_) :: (3,_) :: (999,_) :: ((tlP (t.pv++[c]) (W3 s mN bN))),t4,⟨rfl,rfl,rfl,(hbT [_,_,_,_] (C3 (pv:=t.pv++[c]) (s:=s) (m:=mN) (b:=bN)) rfl)⟩,?_⟩
      refine j3 (swb (R3 (k:=4) (n:=1) zv3 (.cons rfl .nil) rfl (P0 _ rfl) L) t0 t0 (frT [_,_,_] (C3 (pv:=t.pv++[c]) (s:=s) (m:=mN) (b:=bN)) rfl rfl (by simp [J3,X2,Cells.free,PV.freeL,PV.free,X3,i3])) ?_)
      refine sb (U2 sz3 rF (.atom rfl) rfl pu1) t2 t1 ?_
      refine O1 (show n4 _ _ _ _ _ from exw (sl:=[(1,_),(2,_),(3,_),(4,_)]) (hb:=(1,_) :: (3,_) :: (4,_) :: (999,_) :: ((tlP (t.pv++[c]) (W3 s mN bN)))) t4 ⟨rfl,rfl,rfl,rfl,(hbT [_,_,_,_,_] (C3 (pv:=t.pv++[c]) (s:=s) (m:=mN) (b:=bN)) rfl)⟩ ?_)
      refine j3 (sw (Y1 ag3 rF rF L) t1 t1 ?_)
      refine sw (B3 L (w64 oM oM)) t2 t0 (sb (U2 sz3 rF (.atom rfl) rfl pu1) t2 t1 ?_)
      refine O1 ?_
      exact ⟨(c+1,⟨mN,bN,t.pv++[c],q2⟩),⟨by simp only; omega,hst3.symm⟩,(by simp only; omega),l3 ⟨oR,rfl,rfl,rfl,trivial⟩ ⟨rfl,rfl,rfl,rfl,(hbT [_,_,_,_,_] (C3 (pv:=t.pv++[c]) (s:=s) (m:=mN) (b:=bN)) rfl)⟩⟩
  ·have hp:=df hp
   rw [v8] at hp
   have hfin:ech m b cols=t:=by
    have:=W0k (m:=m) (b:=b) (c:=c) (by rw [← hs]; omega) (cols - c)
    rw [show c+(cols - c)=cols by omega,← hs] at this; exact this
   rw [hfin]
   refine G2 (xq ?_)
   refine exd rF ?_
   refine mV L rfl (lp4 ag47 sz47 L rfl rfl (aV L rfl (sb (U2 sz47 rF pa4 rfl pu4) t2 t1 ?_)))
   refine O1 ⟨h0n [⟨[2],[],[84],[]⟩,⟨[3],[3],[85],[]⟩,⟨[84],[],[2],[]⟩,⟨[3,85],[3],[],[3]⟩] (.cons (cf0 rfl) (.cons (cf0 rfl) (.cons (cf0 rfl) (.cons (cf0 rfl)  .nil)))) rfl (frS [] [_,_,_,_] (C3 (pv:=t.pv) (s:=s) (m:=t.m) (b:=t.b)) rfl (by simp [J3,X2,Cells.free,PV.freeL,PV.free,X3,i3])) dC,[(2,_),(3,_)],(3,_) :: (999,_) :: ((tlP t.pv (W3 s t.m t.b))),t2,⟨rfl,rfl,(hbT [_,_,_,_,_] (C3 (pv:=t.pv) (s:=s) (m:=t.m) (b:=t.b)) rfl)⟩,?_⟩
   refine s4 [1003] (sl:=[(2,.p (.sl t.pv.length (V6 t.pv))),(3,.at_ 3 0 4)]) (hb:=[(3,bQ t.det),wV cols m.length (bv s m.length)]++W3 s t.m t.b) (g0y (by simp [hlo])) ⟨⟨_,rfl,Y1v (pre:=[_,_]) rfl⟩,⟨_,rfl,.same⟩,trivial⟩ (W1w (pre:=[_,_]) rfl t2 rfl) ?_
   refine X1 ?_
   exact ⟨.inr rfl,.cons (.tmp rfl) (.cons (.agg rfl rfl rfl ag47 sz47 (.cons (.cons (.cons (.cons .nil))))) .nil),rfl,hbT [_,_] (U7 s t.m t.b) rfl⟩
 ·refine R1 (exd rF ?_)
  refine sw (Y1 ag3 rF rF L) t1 t1 ?_
  refine sw (Y1 ag73 rF rF L) t1 t1 ?_
  refine sw (Z2 rX L) t1 t1 ?_
  refine sw (i2 un79 rfl sz3 dC rX L) t1 t1 ?_
  refine sw (Y1 ag3 rF rF L) t1 t1 ?_
  refine sw (P3 L) t2 t0 (mV L rfl (swn (g:=19) rfl sO L rfl (swn (g:=19) rfl sO L rfl (swn (g:=19) rfl sO L rfl (swn (g:=19) rfl sO L rfl (swn (g:=19) rfl sO L rfl (swn (g:=19) rfl sO L rfl (swn (g:=19) rfl sO L rfl (swn (g:=19) rfl sO L rfl (sw (y4 sO L) t2 t0 ?_))))))))))
  refine O1 ⟨h0n [⟨[4],[4],[13],[]⟩,⟨[1],[1],[14],[]⟩,⟨[14],[999],[15],[]⟩,⟨[15],[999],[16],[]⟩,⟨[16],[999],[17],[]⟩,⟨[13,17],[],[18],[]⟩,⟨[18],[],[19],[]⟩,⟨[19],[],[20],[]⟩,⟨[19],[],[21],[]⟩,⟨[19],[],[22],[]⟩,⟨[19],[],[23],[]⟩,⟨[19],[],[24],[]⟩,⟨[19],[],[25],[]⟩,⟨[19],[],[26],[]⟩,⟨[19],[],[27],[]⟩,⟨[19],[],[28],[]⟩] (.cons (cf0 rfl) (.cons (cf0 rfl) (.cons (cf0 rfl) (.cons (cf0 rfl) (.cons (cf0 rfl) (.cons (cf0 rfl) (.cons (cf0 rfl) (.cons (cf0 rfl) (.cons (cf0 rfl) (.cons (cf0 rfl) (.cons (cf0 rfl) (.cons (cf0 rfl) (.cons (cf0 rfl) (.cons (cf0 rfl) (.cons (cf0 rfl) (.cons (cf0 rfl)  .nil)))))))))))))))) rfl (frS [] [_,_,_,_] (C3 (pv:=t.pv) (s:=s) (m:=t.m) (b:=t.b)) rfl (by simp [J3,X2,Cells.free,PV.freeL,PV.free,X3,i3])) dC,[(1,_),(2,_),(3,_),(4,_),(28,_)],(1,_) :: (3,_) :: (4,_) :: (999,_) :: ((tlP t.pv (W3 s t.m t.b))),t5,⟨rfl,rfl,rfl,rfl,(hbT [_,_,_,_] (C3 (pv:=t.pv) (s:=s) (m:=t.m) (b:=t.b)) rfl)⟩,?_⟩
  refine Z3 rfl rfl ?_
  have hfin:ech m b cols=t:=by rw [hs,show c=cols by omega]
  rw [hfin]
  refine G2 (xq ?_)
  refine exd rF ?_
  refine mV L rfl (lp4 ag47 sz47 L rfl rfl (aV L rfl (sb (U2 sz47 rF pa4 rfl pu4) t2 t1 ?_)))
  refine O1 ⟨h0n [⟨[2],[],[84],[]⟩,⟨[3],[3],[85],[]⟩,⟨[84],[],[2],[]⟩,⟨[3,85],[3],[],[3]⟩] (.cons (cf0 rfl) (.cons (cf0 rfl) (.cons (cf0 rfl) (.cons (cf0 rfl)  .nil)))) rfl (frS [] [_,_,_,_] (C3 (pv:=t.pv) (s:=s) (m:=t.m) (b:=t.b)) rfl (by simp [J3,X2,Cells.free,PV.freeL,PV.free,X3,i3])) dC,[(2,_),(3,_)],(3,_) :: (999,_) :: ((tlP t.pv (W3 s t.m t.b))),t2,⟨rfl,rfl,(hbT [_,_,_,_,_] (C3 (pv:=t.pv) (s:=s) (m:=t.m) (b:=t.b)) rfl)⟩,?_⟩
  refine s4 [1003] (sl:=[(2,.p (.sl t.pv.length (V6 t.pv))),(3,.at_ 3 0 4)]) (hb:=[(3,bQ t.det),wV cols m.length (bv s m.length)]++W3 s t.m t.b) (g0y (by simp [hlo])) ⟨⟨_,rfl,Y1v (pre:=[_,_]) rfl⟩,⟨_,rfl,.same⟩,trivial⟩ (W1w (pre:=[_,_]) rfl t2 rfl) ?_
  refine X1 ?_
  exact ⟨.inr rfl,.cons (.tmp rfl) (.cons (.agg rfl rfl rfl ag47 sz47 (.cons (.cons (.cons (.cons .nil))))) .nil),rfl,hbT [_,_] (U7 s t.m t.b) rfl⟩
end Go.Proofs.YtjagfionflbjbaaGreat.N
set_option maxRecDepth 100000
set_option maxHeartbeats 4000000
namespace Go.Proofs.YtjagfionflbjbaaGreat.SH
open Go Go.RowKit
def rvV (k:Nat):List PV→PV
 | []=>.p (.a (.slice none 0 0))
 | _ :: v=>.ref k 0 (v.length+1) (v.length+1)
def rvB (k:Nat)(e:TypeId):List PV→List (Nat×Blk)
 | []=>[]
 | a :: v=>[(k,⟨e,1,.mix (a :: v)⟩)]
def rvF (k:Nat):List PV→Option Nat
 | []=>some k
 | _ :: _=>none
section
variable {P:Program} {F:Fr} {d:Nat} {T:TypeId} {pos:String} {aft:Array Edge} {g:Option (Nat×Bool)} {t tx:TypeId}
theorem n1w {x y:Operand}{k j:Nat}{e:TypeId}{ie:TypeInfo}{z:Value}{cs:List PV}{u:PV}(hu:P.underlying t=some (.slice e))(hux:P.underlying tx=some (.slice e))(hi:∀ w,(typeInfo e).run P w = .ok ie w)(hz:ie.zero=some z)(hsz:ie.size=1)
  (hzl:z.cells.size=1) (hf:u.free k=true) (hby:2*(cs.length+1)*ie.bytes≤281474976710656) (h63:cs.length+1≤9223372036854775807) (hpk:F.pin k=none) (hlt:d<F.nt) :
  O2 P F ⟨some d,.call ⟨.builtin .append,#[x,y],#[t,tx]⟩,T,pos,aft,g⟩ ⟨[(x,rvV k cs),(y,.ref j 0 1 1)],rvB k e cs++[(j,⟨e,1,.mix [u]⟩)],rvF k cs,[(d,rvV k (cs++[u]))],rvB k e (cs++[u])⟩:=by
 cases cs with
 | nil=>exact M0f (k:=k) (m:=1) (us:=[u]) hu hi hz hsz hzl oM (Q1p hux rfl rfl rfl) rfl (.inr rfl) (by simp [PV.freeL,hf]) rfl (by simpa using hby) oM hpk hlt
 | cons a v =>
  have:=J0b (P:=P) (F:=F) (d:=d) (T:=T) (pos:=pos) (aft:=aft) (g:=g) (t:=t) (tx:=tx) (x:=x) (y:=y) (k:=k) (n:=v.length+1) (m:=1) (sz:=1) (cs:=.mix (a :: v)) (us:=[u]) hu hi hz hsz hzl oM rfl sM (Q1p (B:=⟨e,1,.mix [u]⟩) (k:=j) (o:=0) hux rfl rfl rfl) rfl .mix rfl (by simpa using hby) (by simpa using h63) hpk hlt
  simpa [rvV,rvB,rvF] using this
theorem v1k {x y:Operand}{k j:Nat}{e:TypeId}{ie:TypeInfo}{z:Value}{cs:List PV}{u:PV}(hu:P.underlying t=some (.slice e))(hux:P.underlying tx=some (.slice e))(hi:∀ w,(typeInfo e).run P w = .ok ie w)(hz:ie.zero=some z)(hsz:ie.size=1)
  (hzl:z.cells.size=1) (hf:u.free k=true) (hby:2*(cs.length+1)*ie.bytes≤281474976710656) (h63:cs.length+1≤9223372036854775807) (hpk:F.pin k=none) (hlt:d<F.nt) :
  O2 P F ⟨some d,.call ⟨.builtin .append,#[x,y],#[t,tx]⟩,T,pos,aft,g⟩ ⟨[(x,rvV k cs),(y,.ref j 0 1 1)],rvB k e cs++[(j,⟨e,1,.mix [u]⟩)],rvF k cs,[(d,.ref k 0 (cs.length+1) (cs.length+1))],[(k,⟨e,1,.mix (cs++[u])⟩)]⟩:=by
 have:=n1w (P:=P) (F:=F) (d:=d) (T:=T) (pos:=pos) (aft:=aft) (g:=g) (x:=x) (y:=y) (j:=j) hu hux hi hz hsz hzl hf hby h63 hpk hlt
 cases cs <;> simpa [rvV,rvB] using this
end
theorem k0d {k q:Nat}{cs:List PV}(h:k≠q):(rvV k cs).free q=true:=by cases cs <;> simp [rvV,PV.free,h]
theorem y1v {k q:Nat}{e:TypeId}{cs:List PV}(h:PV.freeL q cs=true):X2 q (rvB k e cs)=true:=by
 cases cs with
 | nil=>rfl
 | cons a v=>simp only [rvB,X2,Cells.free,h]; rfl
theorem K1s {k:Nat}{e:TypeId}{cs:List PV}{u:PV}:rvB k e (cs++[u])=[(k,⟨e,1,.mix (cs++[u])⟩)]:=by cases cs <;> rfl
theorem M1b {k:Nat}{cs:List PV}{u:PV}:rvV k (cs++[u]) = .ref k 0 (cs.length+1) (cs.length+1):=by cases cs <;> simp [rvV]
end Go.Proofs.YtjagfionflbjbaaGreat.SH
namespace Go.Proofs.YtjagfionflbjbaaGreat.N
open Go Go.Proofs.YtjagfionflbjbaaGreat.SH Go.Proofs.YtjagfionflbjbaaGreat.NumA
theorem k0s {s:Nat}:∀ {i:Nat} {a:List (List Rat)} {v:List Rat},V4 s i (a++[v])=V4 s i a++[.ref (I3 s (i+a.length)) 0 v.length (v.length*4)]
 | i,[],v=>rfl
 | i,x :: a,v=>by simp only [L1,V4,k0s (i:=i+1) (a:=a),D1]; rw [show i+1+a.length=i+(a.length+1) by omega]
theorem v0z {s:Nat}:∀ {i:Nat} {a:List (List Rat)} {v:List Rat},d7 s i (a++[v])=d7 s i a++[(I3 s (i+a.length),T3 v)]
 | i,[],v=>rfl
 | i,x :: a,v=>by simp only [L1,d7,v0z (i:=i+1) (a:=a),D1]; rw [show i+1+a.length=i+(a.length+1) by omega]
def B0x (s:Nat)(m:List (List Rat)):List (Nat×Blk):=rvB (s+1001) 40 (V4 s 0 m)++d7 s 0 m
theorem v0q {s:Nat}{m:List (List Rat)}(h:0<m.length):B0x s m=I2 s m:=by
 cases m with
 | nil=>cases h
 | cons v m=>rfl
theorem N0m {s j:Nat}{m:List (List Rat)}(h2:s<9)(h:(B0x s m).lookup j≠none):j=s+1001∨∃ q,q<m.length∧j=I3 s q:=by
 cases m with
 | nil=>exact absurd rfl h
 | cons v m=>exact V5 h2 h
end Go.Proofs.YtjagfionflbjbaaGreat.N
namespace Go.Proofs.YtjagfionflbjbaaGreat.SH
open Go
end Go.Proofs.YtjagfionflbjbaaGreat.SH
namespace Go.Proofs.YtjagfionflbjbaaGreat.SH
open Go Go.RowKit
end Go.Proofs.YtjagfionflbjbaaGreat.SH
namespace Go.Proofs.YtjagfionflbjbaaGreat.SH
open Go Go.RowKit
end Go.Proofs.YtjagfionflbjbaaGreat.SH
namespace Go.Proofs.YtjagfionflbjbaaGreat.SH
open Go Go.RowKit
section
variable {P:Program} {F:Fr} {ops:Array Oper} {sl:List (Nat×PV)} {hb:List (Nat×Blk)} {op:Op} {T:TypeId} {pos:String} {aft:Array Edge} {os:List Oper} {dst:Option Nat} {rs:List (Operand×PV)} {rb:List (Nat×Blk)} {K:St→Prop}
end
end Go.Proofs.YtjagfionflbjbaaGreat.SH
namespace Go.Proofs.YtjagfionflbjbaaGreat.SH
open Go Go.RowKit
end Go.Proofs.YtjagfionflbjbaaGreat.SH
namespace Go.Proofs.YtjagfionflbjbaaGreat.SH
open Go Go.RowKit
end Go.Proofs.YtjagfionflbjbaaGreat.SH
