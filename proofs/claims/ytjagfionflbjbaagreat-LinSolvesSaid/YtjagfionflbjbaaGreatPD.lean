/- Part D of the proof: lemmas for the walks of the given functions. No statement of its own. -/
import Derived.Laws.Cover3
import Derived.Test.YtjagfionflbjbaaGreatPC
set_option linter.unusedVariables false
set_option linter.unusedSimpArgs false
set_option linter.deprecated false
namespace Go.Proofs.YtjagfionflbjbaaGreat.SH
open Go Go.RowKit
theorem Y0g {n:Nat}{H:Nat→List (Nat×Blk)}(keys:∀ k,k<n→∀ q,(H (k+1)).lookup q≠none↔(H k).lookup q≠none)(same:∀ k,k<n→∀ q B B',(H k).lookup q=some B→(H (k+1)).lookup q=some B'→B'.sz=B.sz∧B'.cs.len=B.cs.len) :
  ∀ k,k≤n→∀ q,((H k).lookup q≠none↔(H 0).lookup q≠none)∧∀ B B',(H 0).lookup q=some B→(H k).lookup q=some B'→B'.sz=B.sz∧B'.cs.len=B.cs.len
 | 0,_,q=>⟨Iff.rfl,fun B B' h h'=>by rw [h] at h'; injection h' with h'; subst h'; exact ⟨rfl,rfl⟩⟩
 | k+1,hk,q=>by
  obtain ⟨h1,h2⟩:=Y0g keys same k (by omega) q
  have h3:=keys k (by omega) q
  refine ⟨h3.trans h1,fun B B' h h'=>?_⟩
  obtain ⟨B1,hB1⟩:=J3 (h3.1 (by simp [h']))
  obtain ⟨a1,a2⟩:=h2 B B1 h hB1
  obtain ⟨b1,b2⟩:=same k (by omega) q B1 B' hB1 h'
  exact ⟨b1.trans a1,b2.trans a2⟩
theorem y1q {E:Env}{F:Fr}{S:St}{Q:Exit→St→Prop}{tg p1 p2 gf n nI:Nat}{asx bd c:Code}{fn:Func}{caps:List PV}{Hc Hc':List (Nat×Blk)}(H:Nat→List (Nat×Blk))(encs:Nat→O2×O2){sl:List (Nat×PV)}
  (hG:E.G F.w0) (hX:∀ b,F.X b→E.ng≤b) (hng:E.ng≤F.w0.heap.size) (hro:F.ro=none) (htg:S.slot tg=some (.clo (.func gf) [] caps)) (hle:St.le ⟨sl,Hc++H 0⟩ S)
  (eg:∀ args w,(callFunc gf args).run E.P w = .ok (.enter gf args) w) (hf:E.P.funcs[gf]? = some fn) (hb:fn.body=some c) (hn:fn.ntmps=nI) (hr:fn.results = #[]) (hcl:caps.length+1≤nI) (hlt:p1<F.nt∧p2<F.nt)
  (hdis:∀ q,Hc.lookup q≠none→∀ k,k≤n→(H k).lookup q=none)
  (keys:∀ k,k<n→∀ q,(H (k+1)).lookup q≠none↔(H k).lookup q≠none) (same:∀ k,k<n→∀ q B B',(H k).lookup q=some B→(H (k+1)).lookup q=some B'→B'.sz=B.sz∧B'.cs.len=B.cs.len)
  (cont:∀ k,k≤n→∀ j B,(H k).lookup j=some B→∀ i x,B.cs.get i=some x→∀ q,x.free q=false→(H k).lookup q≠none)
  (keysc:∀ q,Hc'.lookup q≠none→Hc.lookup q≠none) (hsl:∀ t v,sl.lookup t=some v→∀ q,v.free q=false→(H 0).lookup q≠none)
  (hit:∀ l F',XFr E (Hc++H 0) nI F'→F'.ro=none→Yields E.P F' l n encs H→y4 E.P F' c ⟨(0,.clo (.yield l) [] []) :: l3 1 caps,Hc++H 0⟩ (fun e S'=>(e = .normal∨e = .ret)∧O5 S' (Hc'++H n)))
  (hround:∀ k,k<n→∃ S1,(∀ F',XFr E (H k) F.nt F'→y4 E.P F' asx ⟨(p2,.p (encs k).2) :: (p1,.p (encs k).1) :: sl,H k⟩ (fun e S'=>e = .normal∧S1.le S')) ∧
   (∀ F',XFr E (H k) F.nt F'→y4 E.P F' bd S1 (fun e S'=>e = .normal∧O5 S' (H (k+1)))))
  (hQ:Q .normal ⟨sl,Hc'++H n⟩):y4 E.P F (.rangeFunc (.tmp tg) #[p1,p2] asx bd) S Q:=by
 refine ⟨fun nn a w ⟨ρ,h⟩=>wpIn_rangeFunc ?_⟩
 intro fid _
 have hsa:=Y0g keys same
 obtain ⟨uT,huT,hrT⟩:=h.slots tg _ htg
 simp only [P2,G3] at hrT
 obtain ⟨fs,cs,rfl,rfl,hcs⟩:=hrT
 have htgv:a.eval (.tmp tg) = .func (.func gf) #[] cs.toArray:=by simp [Act.eval,Array.getD_eq_getD_getElem?,huT]
 have h0:=h.weakR hle
 let S0:St:=⟨sl,Hc++H 0⟩
 have hS0:∀ q,S0.blk q=(Hc.lookup q).or ((H 0).lookup q):=fun q=>U1 _ _ _
 have hS0H:∀ q B,(H 0).lookup q=some B→S0.blk q=some B:=fun q B hq=>by
  rw [hS0]
  cases e:Hc.lookup q with
  | none=>simp [hq]
  | some B'=>have:=hdis q (by simp [e]) 0 (by omega); rw [hq] at this; cases this
 obtain ⟨W1,hW1⟩:∃ W1,W1=(w.alloc (.deferred (some []))).alloc (.loop (mkL fid a.tmps p1 p2 asx bd w.heap.size .ready none)):=⟨_,rfl⟩
 have hsz1:W1.heap.size=w.heap.size+2:=by rw [hW1]; simp
 have hl1:W1.heap[w.heap.size+1]? = some (.loop (mkL fid a.tmps p1 p2 asx bd w.heap.size .ready none)):=by
  rw [hW1]; have:=World.alloc_heap_new (w.alloc (.deferred (some []))) (.loop (mkL fid a.tmps p1 p2 asx bd w.heap.size .ready none)); rwa [World.size_alloc] at this
 have hD1:W1.heap[w.heap.size]? = some (.deferred (some [])):=by
  rw [hW1]; exact (Below.heap_alloc _ _ _ (by simp)).trans (World.alloc_heap_new w _)
 have hold1:∀ b,b<w.heap.size→W1.heap[b]? = w.heap[b]?:=fun b hb=>by
  rw [hW1]; exact (Below.heap_alloc _ _ _ (by simp; omega)).trans (Below.heap_alloc _ _ _ hb)
 have hos1:W1.os=w.os∧W1.tape=w.tape∧W1.output=w.output:=by rw [hW1]; exact ⟨rfl,rfl,rfl⟩
 have hfsz:=h.frame.size
 have hne:∀ q,S0.blk q≠none→ρ q<w.heap.size:=fun q hq=>by
  obtain ⟨B,hB⟩:=D1.1 hq
  obtain ⟨c,e1,_⟩:=h0.blks q B hB; exact World.size_lt e1
 have hXng:∀ q,S0.blk q≠none→E.ng≤ρ q:=fun q hq=>by
  obtain ⟨B,hB⟩:=D1.1 hq
  obtain ⟨_,_,e2,_⟩:=h0.blks q B hB
  rcases e2 with e2 | e2
  ·exact hX _ e2.1
  ·omega
 obtain ⟨FI,hFI⟩:∃ FI:Fr,FI=⟨W1,fun b=>okI F S0.blk ρ b∧b<w.heap.size,fun b=>∃ q,S0.blk q≠none∧b=ρ q,nI,[],fun q=>if S0.blk q≠none then match hp w (ρ q) with | some (.cells c _ _)=>some (ρ q,c.size) | _=>none else none,none,fun _ _=>False,fun q=>(S0.blk q).isNone⟩:=⟨_,rfl⟩
 have iw:FI.w0=W1:=by rw [hFI]
 have ix:∀ b,FI.X b↔∃ q,S0.blk q≠none∧b=ρ q:=fun b=>by rw [hFI]
 have ik:∀ b,FI.okA b↔okI F S0.blk ρ b∧b<w.heap.size:=fun b=>by rw [hFI]
 have ipin:∀ q B c,S0.blk q=some B→hp w (ρ q)=some (.cells c B.T (0,0))→FI.pin q=some (ρ q,c.size):=fun q B c h1 h2=>by
  rw [hFI]; simp only; rw [if_pos (by rw [h1]; simp),h2]
 have iXlt:∀ b,FI.X b→b<w.heap.size:=fun b hb=>by obtain ⟨q,h1,h2⟩:=(ix b).1 hb; rw [h2]; exact hne q h1
 have hGw:E.G w:=E.stab F.w0 w hG fun b hb=>h.frame.block b (by omega) (fun hx'=>by have:=hX b hx'; omega)
 have hG1:E.G W1:=E.stab w W1 hGw fun b hb=>hold1 b (by omega)
 have iX:XFr E (Hc++H 0) nI FI:=⟨by rw [iw]; exact hG1,fun b hb=>by obtain ⟨q,h1,h2⟩:=(ix b).1 hb; rw [h2]; exact hXng q h1,by rw [hFI],by rw [hFI],fun q hq=>by
  rw [hFI]; simp only; rw [if_neg (by show ¬ (S0.blk q≠none); simp only [S0,St.blk]; simp [hq])],fun q=>by rw [hFI]; rfl,by rw [iw]; omega⟩
 have hcarW:∀ {ρ' S' a' W},j5 FI ρ' S' a' W→Carry (okI F S0.blk ρ) (okI FI S'.blk ρ') (hp w) (hp W):=fun {ρ' S' a' W} hs b hb hne'=>by
  have hbs:b<w.heap.size:=by obtain ⟨o,ho⟩:=D1.1 hne'; exact World.size_lt ho
  have hnX:¬ FI.X b:=fun hx'=>by obtain ⟨q,h1,h2⟩:=(ix b).1 hx'; exact hb.2 q h1 h2
  refine ⟨⟨.inl ((ik b).2 ⟨hb,hbs⟩),fun q hq e=>?_⟩,(hs.frame.block b (by rw [iw]; omega) hnX).trans (by rw [iw]; exact hold1 b hbs)⟩
  obtain ⟨B,hB⟩:=D1.1 hq
  obtain ⟨_,_,e2,_⟩:=hs.blks q B hB
  rw [← e] at e2
  rcases e2 with e2 | e2
  ·exact hnX e2.1
  ·rw [iw] at e2; omega
 have hpinW:∀ {ρ' S' a' W},j5 FI ρ' S' a' W→∀ q B,S0.blk q=some B→S'.blk q≠none→ρ' q=ρ q∧∀ c T,hp w (ρ q)=some (.cells c T (0,0))→∃ c' T',hp W (ρ q)=some (.cells c' T' (0,0))∧c'.size=c.size:=fun {ρ' S' a' W} hs q B hB hS'=>by
  obtain ⟨c,e1,_⟩:=h0.blks q B hB
  obtain ⟨q1,c',T',q2,q3⟩:=hs.pin q _ _ (ipin q B c hB e1) hS'
  refine ⟨q1,fun c2 T2 h2=>⟨c',T',q2,?_⟩⟩
  rw [e1] at h2; injection h2 with h2; injection h2 with h2; rw [q3,h2]
 have hkeepW:∀ {ρ' S' a' W} (β:Nat→Option Blk),j5 FI ρ' S' a' W→∀ k,k≤n→(∀ q B,(H k).lookup q=some B→S'.blk q=some B)→(∀ q,(H 0).lookup q≠none→∀ B,β q=some B→(H k).lookup q=some B)→d0h (fun q=>(H 0).lookup q≠none) S0.blk β ρ ρ' (hp w) (hp W):=fun {ρ' S' a' W} β hs k hk hH hβ q hq B' hB'=>by
  have hB':=hβ q hq B' hB'
  obtain ⟨B0,hB0⟩:=J3 hq
  obtain ⟨s1,s2⟩:=(hsa k hk q).2 B0 B' hB0 hB'
  have hb0:=hS0H q B0 hB0
  obtain ⟨q1,q2⟩:=hpinW hs q B0 hb0 (by rw [hH q B' hB']; simp)
  refine ⟨B0,hb0,s1,by omega,fun _=>⟨q1,fun c T fr hc=>?_⟩⟩
  obtain ⟨c0,e1,_⟩:=h0.blks q B0 hb0
  have hc':=hc
  rw [e1] at hc'; injection hc' with hc'; injection hc' with r1 r2 r3; subst r1
  obtain ⟨c',T',g1,g2⟩:=q2 _ _ e1
  exact ⟨c',T',(0,0),g1,g2⟩
 have hIt:Y1m FI (w.heap.size+1) w.heap.size (mkL fid a.tmps p1 p2 asx bd w.heap.size .ready none) H n:=by
  refine ⟨by rw [hFI],by rw [iw]; exact hl1,fun hh=>by have:=iXlt _ hh; omega,fun hh=>by have:=((ik _).1 hh).2; omega,by rw [iw]; omega,fun k hk q B hq=>?_,keys,same,fun k hk q hq=>?_,cont⟩
  ·obtain ⟨B0,hB0⟩:=J3 ((hsa k hk q).1.1 (by simp [hq]))
   obtain ⟨c,e1,_⟩:=h0.blks q B0 (hS0H q B0 hB0)
   exact ⟨_,_,ipin q B0 c (hS0H q B0 hB0) e1⟩
  ·obtain ⟨B0,hB0⟩:=J3 ((hsa k hk q).1.1 hq)
   rw [hFI]; simp only; rw [hS0H q B0 hB0]; rfl
 have hY:Yields E.P FI (w.heap.size+1) n encs H:=by
  refine w1j (nt:=F.nt) (sl:=sl) hIt (by rw [iw]; exact hG1) iX.x iX.ng (by omega) h.nt hlt (fun k hk ρ' S' a' W hs hH t v ht=>?_) hround
  obtain ⟨u,hu,hr'⟩:=h0.slots t v ht
  refine ⟨u,hu,P2.mono (hcarW hs) (hkeepW (lk (H k)) hs k hk hH (fun q _ B hB=>hB)) v u (hsl t v ht) hr'⟩
 refine ⟨w.heap.size+1,[{ target:=.collected w.heap.size,args:=#[] }],W1,{ target:=.fn (.func gf) cs.toArray,args:=#[.func (.yield (w.heap.size+1)) #[] #[]] },W1,gf,#[.func (.yield (w.heap.size+1)) #[] #[]]++cs.toArray,W1,?_,?_,fun _ _=>trivial,?_,fun hh=>by simp [Fence.wide] at hh,?_⟩
 ·show (Instr.enterLoop fid a.tmps #[p1,p2] asx bd F.ro).run E.P w=_
  rw [hro,hW1]; exact run_enterLoop_outer _ _ _ _ _
 ·simp only [resolve,rangeCall,htgv]; simp [Deferred.ofValue,Act.eval]
 ·simp [invoke,eg]
 have hfw:fen F=Fence.wide:=by simp [fen,hro,Fence.wide]
 rw [hfw]
 refine callsIn_wide.2 ?_
 rw [show (#[Value.func (.yield (w.heap.size+1)) #[] #[]]++cs.toArray:Array Value)=(Value.func (.yield (w.heap.size+1)) #[] #[] :: cs).toArray by simp]
 have hcl':cs.length=caps.length:=F5 hcs
 have hSI:j5 FI ρ ⟨(0,.clo (.yield (w.heap.size+1)) [] []) :: l3 1 caps,Hc++H 0⟩ { tmps:=(Value.func (.yield (w.heap.size+1)) #[] #[] :: cs).toArray++Array.replicate (fn.ntmps - (Value.func (.yield (w.heap.size+1)) #[] #[] :: cs).toArray.size) undef,defers:=[] } W1:=by
  have hcar:Carry (okI F S.blk ρ) (okI FI (St.blk ⟨(0,.clo (.yield (w.heap.size+1)) [] []) :: l3 1 caps,Hc++H 0⟩) ρ) (hp w) (hp W1):=fun b hb hne'=>by
   have hbs:b<w.heap.size:=by obtain ⟨o,ho⟩:=D1.1 hne'; exact World.size_lt ho
   have hsub:∀ q,S0.blk q≠none→S.blk q≠none:=fun q hq=>by obtain ⟨B,hB⟩:=D1.1 hq; rw [hle.2 q B hB]; simp
   exact ⟨⟨.inl ((ik b).2 ⟨⟨hb.1,fun q hq=>hb.2 q (hsub q hq)⟩,hbs⟩),fun q hq=>hb.2 q (hsub q hq)⟩,hold1 b hbs⟩
  have hkp:d0h (fun _=>True) S.blk (St.blk ⟨(0,.clo (.yield (w.heap.size+1)) [] []) :: l3 1 caps,Hc++H 0⟩) ρ ρ (hp w) (hp W1):=fun q _ B hB=>⟨B,hle.2 q B hB,rfl,Nat.le_refl _,fun _=>⟨rfl,fun c T fr hc=>⟨c,T,fr,(hold1 _ (hne q (by have hB':S0.blk q=some B:=hB; simp [hB']))).trans hc,rfl⟩⟩⟩
  refine h.move (Kp:=fun _=>True) (by rw [hFI]; exact ⟨rfl,rfl,rfl,Nat.le_refl _,fun _ _ _=>rfl⟩) (by rw [iX.nt]; simp [hn,hcl']; omega) (h0y.nil iX.df) hcar hkp (fun q q' h1 h2 e=>h0.inj q q' h1 h2 e) (fun j b m hj hS=>?_) (fun t v ht=>.inr ?_) (fun q B hB=>.inl ⟨hle.2 q B hB,rfl,hold1 _ (hne q (by have hB':S0.blk q=some B:=hB; simp [hB'])),.inl ⟨(ix _).2 ⟨q,by have hB':S0.blk q=some B:=hB; simp [hB'],rfl⟩,by have hB':S0.blk q=some B:=hB; rw [hFI]; simp [hB']⟩,fun _ _ _ _ _=>trivial⟩)
  ·have hS':S0.blk j≠none:=hS
   obtain ⟨B,hB⟩:=D1.1 hS'
   obtain ⟨c,e1,_⟩:=h0.blks j B hB
   rw [ipin j B c hB e1] at hj
   injection hj with hj; injection hj with hj1 hj2
   subst hj1 hj2
   exact ⟨rfl,c,B.T,(hold1 _ (hne j hS')).trans e1,rfl⟩
  ·simp only [St.slot,i0] at ht
   split at ht
   ·rename_i e; injection ht with ht; subst ht
    obtain rfl:t=0:=by simpa using e
    exact ⟨.func (.yield (w.heap.size+1)) #[] #[],by rw [Array.getElem?_append_left (by simp)]; simp,by simp [P2,G3]⟩
   ·obtain ⟨j,rfl,hx⟩:=q8 ht
    obtain ⟨u,hu,hru⟩:=U6 hcs hx
    refine ⟨u,?_,P2.mono hcar hkp v u (fun _ _=>trivial) hru⟩
    have hjl:=(j1.1 hu).1
    rw [Array.getElem?_append_left (by simp; omega)]
    simp [Nat.add_comm 1 j,hu]
 refine i9 hf hb (by rw [hFI]) iX.df (by rw [hFI]; exact fun _ _ h=>h) ⟨ρ,hSI⟩ (hit _ FI iX (by rw [hFI]) hY) fun e SE hq=>⟨hq.1,fun ρE tmps W2 hE=>?_⟩
 have hHB:=hq.2
 refine ⟨.tuple #[],by unfold results; rw [hr]; simp,?_⟩
 have hSE:∀ q B,(Hc'++H n).lookup q=some B→SE.blk q=some B:=fun q B hq=>hHB.all q B hq
 have hl2:W2.heap[w.heap.size+1]? = some (.loop (mkL fid a.tmps p1 p2 asx bd w.heap.size .ready none)):=(hE.frame.block _ (by rw [iw]; omega) (fun hh=>by have:=iXlt _ hh; omega)).trans (by rw [iw]; exact hl1)
 have hD2:W2.heap[w.heap.size]? = some (.deferred (some [])):=(hE.frame.block _ (by rw [iw]; omega) (fun hh=>by have:=iXlt _ hh; omega)).trans (by rw [iw]; exact hD1)
 obtain ⟨W4,hW4⟩:∃ W4,W4=W2.putObj (w.heap.size+1) (.loop (mkL fid a.tmps p1 p2 asx bd w.heap.size .exhausted none)):=⟨_,rfl⟩
 have hend:(Instr.endLoop (w.heap.size+1)).run E.P W2 = .ok none W4:=by rw [hW4]; exact run_endLoop hl2 (by simp [mkL])
 refine ⟨none,W4,hend,?_⟩
 have hother:∀ b,b≠w.heap.size+1→W4.heap[b]? = W2.heap[b]?:=fun b hb=>by rw [hW4]; exact World.putObj_heap_other hb
 have hsz2:=hE.frame.size
 rw [iw] at hsz2
 have hown:∀ q,SE.blk q≠none→ρE q≠w.heap.size+1∧ρE q≠w.heap.size:=fun q hq=>by
  obtain ⟨B,hB⟩:=D1.1 hq
  obtain ⟨c2,q1,_⟩:=hE.blks q B hB
  refine ⟨fun e2=>?_,fun e2=>?_⟩
  ·rw [e2] at q1
   have:hp W2 (w.heap.size+1)=some (.loop (mkL fid a.tmps p1 p2 asx bd w.heap.size .ready none)):=hl2
   rw [this] at q1; cases q1
  ·rw [e2] at q1
   have:hp W2 w.heap.size=some (.deferred (some [])):=hD2
   rw [this] at q1; cases q1
 have hend0:∀ q B,(Hc'++H n).lookup q=some B→∃ B0,S0.blk q=some B0:=fun q B hq=>by
  rw [U1] at hq
  cases e:Hc'.lookup q with
  | some B1 =>
   obtain ⟨B0,hB0⟩:=J3 (keysc q (by simp [e]))
   exact ⟨B0,by rw [hS0,hB0]; rfl⟩
  | none =>
   rw [e,l0] at hq
   obtain ⟨B0,hB0⟩:=J3 ((hsa n (Nat.le_refl _) q).1.1 (by simp [hq]))
   exact ⟨B0,hS0H q B0 hB0⟩
 have hplace:∀ q B,(Hc'++H n).lookup q=some B→ρE q=ρ q:=fun q B hq=>by
  obtain ⟨B0,hB0⟩:=hend0 q B hq
  exact (hpinW hE q B0 hB0 (by rw [hSE q B hq]; simp)).1
 have hlI:∀ b,okI FI SE.blk ρE b→b≠w.heap.size+1:=fun b hb e=>by
  subst e
  rcases hb.1 with hb1 | hb1
  ·exact hIt.lok hb1
  ·rw [iw] at hb1; omega
 have hokE:∀ b,okI FI SE.blk ρE b→okI F (St.blk ⟨sl,Hc'++H n⟩) ρE b:=fun b hb=>by
  refine ⟨?_,fun q hq=>?_⟩
  ·rcases hb.1 with hb1 | hb1
   ·exact ((ik b).1 hb1).1.1
   ·rw [iw] at hb1; exact .inr (by omega)
  ·obtain ⟨B,hB⟩:=D1.1 hq
   exact hb.2 q (by rw [hSE q B hB]; simp)
 have hnX:∀ b,b<F.w0.heap.size→¬ F.X b→¬ FI.X b:=fun b hb hx' hh=>by
  obtain ⟨q,h1,h2⟩:=(ix b).1 hh
  obtain ⟨B,hB⟩:=D1.1 h1
  obtain ⟨_,_,e2,_⟩:=h0.blks q B hB
  rw [← h2] at e2
  rcases e2 with e2 | e2
  ·exact hx' e2.1
  ·omega
 refine .inl ⟨⟨sl,Hc'++H n⟩,hQ,ρE,?_⟩
 have hfr4:F0j F W4:=by
  have hfE:=hE.frame
  refine ⟨?_,?_,?_,?_,fun b hb hx'=>?_⟩
  ·rw [hW4]; show W2.os=_; rw [hfE.os,iw,hos1.1]; exact h.frame.os
  ·rw [hW4]; show W2.tape=_; rw [hfE.tape,iw,hos1.2.1]; exact h.frame.tape
  ·rw [hW4]; show W2.output=_; rw [hfE.output,iw,hos1.2.2]; exact h.frame.output
  ·rw [hW4]; simp; omega
  ·rw [hother b (by omega),hfE.block b (by rw [iw]; omega) (hnX b hb hx'),iw,hold1 b (by omega)]; exact h.frame.block b hb hx'
 obtain ⟨Ds,d1,d2,d3⟩:=h.df
 have hcar4:Carry (okI FI SE.blk ρE) (okI F (St.blk ⟨sl,Hc'++H n⟩) ρE) (hp W2) (hp W4):=fun b hb _=>⟨hokE b hb,hother b (hlI b hb)⟩
 have hkeep4:d0h (fun _=>True) SE.blk (St.blk ⟨sl,Hc'++H n⟩) ρE ρE (hp W2) (hp W4):=fun q _ B hB=>⟨B,hSE q B hB,rfl,Nat.le_refl _,fun _=>⟨rfl,fun c T fr hc=>⟨c,T,fr,(hother _ (hown q (by rw [hSE q B hB]; simp)).1).trans hc,rfl⟩⟩⟩
 have hsub:∀ q,St.blk ⟨sl,Hc'++H n⟩ q≠none→SE.blk q≠none:=fun q hq=>by
  obtain ⟨B,hB⟩:=D1.1 hq
  rw [hSE q B hB]; simp
 refine hE.move (Kp:=fun _=>True) hfr4 h.nt ⟨w.heap.size :: Ds,by rw [d1]; rfl,List.nodup_cons.2 ⟨fun hm=>?_,d2⟩,fun D' hD'=>?_⟩ hcar4 hkeep4 (fun q q' h1 h2 e=>hE.inj q q' (hsub q h1) (hsub q' h2) e) (fun j b m hj hS=>?_) (fun t v ht=>.inr ?_) (fun q B hB=>.inl ⟨hSE q B hB,rfl,hother _ (hown q (by rw [hSE q B hB]; simp)).1,?_,fun _ _ _ _ _=>trivial⟩)
 ·obtain ⟨_,q2⟩:=d3 _ hm; have:=World.size_lt q2; omega
 ·rcases List.mem_cons.1 hD' with rfl | hD'
  ·exact ⟨hfsz,(hother _ (by omega)).trans hD2⟩
  ·obtain ⟨q1,q2⟩:=d3 D' hD'
   have hlt':=World.size_lt q2
   refine ⟨q1,(hother _ (by omega)).trans ((hE.frame.block D' (by rw [iw]; omega) (fun hh=>?_)).trans (by rw [iw]; exact (hold1 _ hlt').trans q2))⟩
   obtain ⟨q,h1,h2⟩:=(ix _).1 hh
   obtain ⟨B,hB⟩:=D1.1 h1
   obtain ⟨c,e1,_⟩:=h0.blks q B hB
   have:hp w D'=some (.deferred (some [])):=q2
   rw [← h2,this] at e1; cases e1
 ·obtain ⟨B,hB⟩:=D1.1 hS
  obtain ⟨B0,hB0⟩:=hend0 j B hB
  obtain ⟨q1,c,T,q2,q3⟩:=h0.pin j b m hj (by show S0.blk j≠none; rw [hB0]; simp)
  obtain ⟨r1,r2⟩:=hpinW hE j B0 hB0 (by rw [hSE j B hB]; simp)
  rw [← q1] at q2
  obtain ⟨c',T',g1,g2⟩:=r2 c T q2
  refine ⟨r1.trans q1,c',T',?_,g2.trans q3⟩
  rw [← q1]
  exact (hother _ (by rw [← r1]; exact (hown j (by rw [hSE j B hB]; simp)).1)).trans g1
 ·obtain ⟨u,hu,hr'⟩:=h0.slots t v ht
  refine ⟨u,hu,?_⟩
  have m1:=P2.mono (hcarW hE) (hkeepW (fun q=>(Hc'++H n).lookup q) hE n (Nat.le_refl _) (fun q B hq=>?_) (fun q hq B hB=>?_)) v u (hsl t v ht) hr'
  ·exact P2.mono (K:=fun _=>True) hcar4 (fun q _ B hB=>⟨B,hB,rfl,Nat.le_refl _,fun _=>⟨rfl,fun c T fr hc=>⟨c,T,fr,(hother _ (hown q (by rw [hSE q B hB]; simp)).1).trans hc,rfl⟩⟩⟩) v u (fun _ _=>trivial) m1
  ·refine hSE q B ?_
   rw [U1]
   cases e:Hc'.lookup q with
   | none=>simp [hq]
   | some B1=>have:=hdis q (keysc q (by simp [e])) n (Nat.le_refl _); rw [hq] at this; cases this
  ·rw [U1] at hB
   cases e:Hc'.lookup q with
   | none=>rw [e,l0] at hB; exact hB
   | some B1=>exact absurd (hdis q (keysc q (by simp [e])) 0 (by omega)) hq
 ·obtain ⟨B0,hB0⟩:=hend0 q B hB
  rw [hplace q B hB]
  obtain ⟨_,_,e2,_⟩:=h0.blks q B0 hB0
  exact e2
end Go.Proofs.YtjagfionflbjbaaGreat.SH
namespace Go.Proofs.YtjagfionflbjbaaGreat.SH
open Go Go.RowKit
theorem W0p {H H':List (Nat×Blk)}(h:H'.map (·.1)=H.map (·.1))(j:Nat):H'.lookup j≠none↔H.lookup j≠none:=by
 have:∀ l:List (Nat×Blk),l.lookup j≠none↔j∈l.map (·.1):=by
  intro l
  induction l with
  | nil=>simp
  | cons p l ih =>
   obtain ⟨s,u⟩:=p
   rw [i0]
   by_cases e:j=s
   ·simp [e]
   ·rw [show (j == s)=false by simpa using e]
    simp only [R0,List.mem_cons,e,false_or]
    exact ih
 rw [this,this,h]
inductive m0w (κ:Nat→Nat):List (Nat×Blk)→List (Nat×Blk)→Prop
 | nil:m0w κ [] []
 | cons {j k:Nat} {B B':Blk} {H H':List (Nat×Blk)}:κ j=k→B'=B.ren κ→m0w κ H H'→m0w κ ((j,B) :: H) ((k,B') :: H')
theorem m0w.mem {κ:Nat→Nat}{H Hc:List (Nat×Blk)}(h:m0w κ H Hc):∀ j B,(j,B)∈H→(κ j,B.ren κ)∈Hc:=by
 induction h with
 | nil=>intro j B h; cases h
 | cons a b _ ih =>
  intro j B hm
  rcases List.mem_cons.1 hm with e | hm
  ·injection e with e1 e2; subst e1 e2; subst a b; simp
  ·exact List.mem_cons_of_mem _ (ih j B hm)
theorem m0w.lk {κ:Nat→Nat}{H Hc:List (Nat×Blk)}(h:m0w κ H Hc)(inj:∀ j j',H.lookup j≠none→H.lookup j'≠none→κ j=κ j'→j=j'):∀ j B,H.lookup j=some B→Hc.lookup (κ j)=some (B.ren κ):=by
 induction h with
 | nil=>intro j B h; simp at h
 | @cons i k B0 B1 H H' a b _ ih =>
  intro j B hj
  subst a b
  rw [i0] at hj ⊢
  by_cases e:j=i
  ·subst e
   simp only [BEq.rfl,U0] at hj ⊢
   rw [hj]
  ·rw [show (j == i)=false by simpa using e] at hj
   have hne:¬ κ j=κ i:=fun e2=>e (inj j i (by rw [i0,show (j == i)=false by simpa using e]; simp [hj]) (by rw [i0]; simp) e2)
   rw [show (κ j == κ i)=false by simpa using hne]
   refine ih (fun p p' h1 h2 e2=>?_) j B hj
   have ex:∀ q,H.lookup q≠none→List.lookup q ((i,B0) :: H)≠none:=fun q hq=>by rw [i0]; split <;> simp [hq]
   exact inj p p' (ex p h1) (ex p' h2) e2
theorem m0w.back {κ:Nat→Nat}{H Hc:List (Nat×Blk)}(h:m0w κ H Hc):∀ k B',Hc.lookup k=some B'→∃ j B,κ j=k∧(j,B)∈H∧B'=B.ren κ:=by
 induction h with
 | nil=>intro k B' h; simp at h
 | @cons i k0 B0 B1 H H' a b _ ih =>
  intro k B' hk
  rw [i0] at hk
  split at hk
  ·rename_i e; injection hk with hk; subst hk
   exact ⟨i,B0,by rw [a]; exact (by simpa using e:k=k0).symm,by simp,b⟩
  ·obtain ⟨j,B,h1,h2,h3⟩:=ih k B' hk
   exact ⟨j,B,h1,by simp [h2],h3⟩
structure GH (κ:Nat→Nat) (H H' Hc Hc':List (Nat×Blk)):Prop where
 ren:m0w κ H Hc
 ren':m0w κ H' Hc'
 inj:∀ j j',H.lookup j≠none→H.lookup j'≠none→κ j=κ j'→j=j'
 keys:H'.map (·.1)=H.map (·.1)
 nd:(H.map (·.1)).Nodup
 same:∀ j B B',H.lookup j=some B→H'.lookup j=some B'→B'.sz=B.sz∧B'.cs.len=B.cs.len
 cont:∀ j B,H'.lookup j=some B→∀ i x,B.cs.get i=some x→∀ q,x.free q=false→H'.lookup q≠none
theorem W5:∀ {H:List (Nat×Blk)},(H.map (·.1)).Nodup→∀ {j:Nat} {B:Blk},(j,B)∈H→H.lookup j=some B
 | [],_,j,B,h=>by cases h
 | (k,C) :: H,hn,j,B,h=>by
  rw [R0,List.nodup_cons] at hn
  rw [i0]
  rcases List.mem_cons.1 h with h0 | h0
  ·injection h0 with h1 h2; subst h1 h2; simp
  ·have:j≠k:=fun e=>by subst e; exact hn.1 (G0.2 ⟨(j,B),h0,rfl⟩)
   rw [show (j == k)=false by simpa using this]
   exact W5 hn.2 h0
theorem f1k {E:Env}{st:Nat→Bool}{F:Fr}(hG:E.G F.w0)(hX:∀ b,F.X b→E.ng≤b)(hng:E.ng≤F.w0.heap.size){d:Nat}{f:FuncId}{dst:Option Nat}{op:Op}{T:TypeId}{pos:String}{aft:Array Edge}{g:Option (Nat×Bool)}{rs:List (Operand×PV)}{xs:List PV}{H H' Hc Hc':List (Nat×Blk)}{r r':PV}(κ:Nat→Nat)(hst:∀ j,H.lookup j≠none→st j=true)(hs:T4 E st f xs H H' r)(hd:dst=some d)(hlt:d<F.nt)
  (hargs:∀ ρ S a w,j5 F ρ S a w→(∀ p∈rs,S.opd p.1=some p.2)→∃ vals:List Value,(execOp a.eval ⟨dst,op,T,pos,aft,g⟩).run E.P w = .ok (.enter f vals.toArray) w∧G3 S.blk ρ (okI F S.blk ρ) (hp w) (xs.map (PV.ren κ)) vals)
  (h:GH κ H H' Hc Hc') (hr':r'=r.ren κ) (hres:∀ q,r.free q=false→H'.lookup q≠none):R2 E.P F ⟨dst,op,T,pos,aft,g⟩ ⟨rs,Hc,none,[(d,r')],Hc'⟩:=by
 intro S a w hS hA Q K hK
 subst hr'
 have hkeys:=W0p h.keys
 have h1:∀ j B,H.lookup j=some B→S.blk (κ j)=some (B.ren κ):=fun j B hj=>hA.rb (κ j,B.ren κ) (h.ren.mem j B (R3 hj))
 have nd':(H'.map (·.1)).Nodup:=by rw [h.keys]; exact h.nd
 have hb':∀ k,(S.app ⟨rs,Hc,none,[(d,r.ren κ)],Hc'⟩).blk k=(Hc'.lookup k).or (S.blk k):=fun k=>St.app_blk _ _ _
 have inj':∀ j j',(H.lookup j≠none∨H'.lookup j≠none)→(H.lookup j'≠none∨H'.lookup j'≠none)→κ j=κ j'→j=j':=fun j j' a b e =>
  h.inj j j' (a.elim id (hkeys j).1) (b.elim id (hkeys j').1) e
 have hc':∀ j B,H'.lookup j=some B→Hc'.lookup (κ j)=some (B.ren κ):=h.ren'.lk fun j j' a b e=>inj' j j' (.inr a) (.inr b) e
 have hstay:∀ q,J0b st S (S.app ⟨rs,Hc,none,[(d,r.ren κ)],Hc'⟩) κ H H' q:=fun q=>by
  by_cases hq:∃ j,κ j=q∧H.lookup j≠none
  ·obtain ⟨j,rfl,hj⟩:=hq
   obtain ⟨B0,hB0⟩:=J3 hj
   obtain ⟨B1,hB1⟩:=J3 ((hkeys j).2 hj)
   obtain ⟨s1,s2⟩:=h.same j B0 B1 hB0 hB1
   exact .inr (.inr ⟨j,B0,B1,rfl,hst j hj,hB0,hB1,s1,s2⟩)
  ·have hq':∀ j,(H.lookup j≠none∨H'.lookup j≠none)→κ j≠q:=fun j hj e=>hq ⟨j,e,hj.elim id (hkeys j).1⟩
   refine .inr (.inl ⟨?_,hq'⟩)
   rw [hb']
   cases e:Hc'.lookup q with
   | none=>simp
   | some B' =>
    obtain ⟨j,B,e1,e2,_⟩:=h.ren'.back q B' e
    exact absurd e1 (hq' j (.inr (by rw [W5 nd' e2]; simp)))
 have C:F1z st F S (S.app ⟨rs,Hc,none,[(d,r.ren κ)],Hc'⟩) κ H H' r d:=by
  refine ⟨h1,inj',fun i j _ hj _ hf=>(by rw [hst j hj] at hf; cases hf),fun k B' hk=>?_,fun t v ht=>?_,hres,h.cont,fun j hj _=>⟨(hkeys j).1 hj,hst j ((hkeys j).1 hj)⟩⟩
  ·rw [hb'] at hk
   cases e:Hc'.lookup k with
   | some B1 =>
    rw [e,K0] at hk; injection hk with hk; subst hk
    obtain ⟨j,B,e1,e2,e3⟩:=h.ren'.back k B1 e
    exact .inl ⟨j,B,e1,W5 nd' e2,e3⟩
   | none =>
    rw [e,l0] at hk
    refine .inr ⟨hk,fun j hj e1=>?_,fun i x _ q _=>hstay q⟩
    obtain ⟨B,hB⟩:=J3 (hj.elim (hkeys j).2 id)
    rw [← e1,hc' j B hB] at e; cases e
  ·rw [St.app_slot] at ht
   simp only [i0,List.lookup_nil] at ht
   by_cases e:t=d
   ·subst e; simp only [BEq.rfl,K0,U0] at ht; exact .inl ⟨rfl,ht.symm⟩
   ·rw [show (t == d)=false by simpa using e,l0] at ht
    exact .inr ⟨e,ht,fun q _=>hstay q⟩
 exact d1y hG hX hng κ hs (o:=⟨dst,op,T,pos,aft,g⟩) hd hlt (fun ρ a w hS=>by
  obtain ⟨vals,v1,v2⟩:=hargs ρ S a w hS hA.rs
  exact ⟨vals,v1,by rw [g0a]; exact v2⟩) C a w hS Q K hK
end Go.Proofs.YtjagfionflbjbaaGreat.SH
namespace Go.Proofs.YtjagfionflbjbaaGreat.SH
open Go Go.RowKit
mutual
theorem PV.ren_id:∀ x:PV,x.ren (fun j=>j)=x
 | .p _=>rfl
 | .at_ _ _ _=>rfl
 | .im _ _=>rfl
 | .ref _ _ _ _=>rfl
 | .agg xs=>by simp only [PV.ren]; rw [PV.renL_id xs]
 | .tup xs=>by simp only [PV.ren]; rw [PV.renL_id xs]
 | .clo _ a b=>by simp only [PV.ren]; rw [PV.renL_id a,PV.renL_id b]
 | .ifc _ x=>by simp only [PV.ren]; rw [PV.ren_id x]
 | .dead=>rfl
theorem PV.renL_id:∀ xs:List PV,PV.renL (fun j=>j) xs=xs
 | []=>rfl
 | x :: xs=>by simp only [PV.renL]; rw [PV.ren_id x,PV.renL_id xs]
end
theorem G0q (xs:List PV):xs.map (PV.ren fun j=>j)=xs:=by rw [← g0a,PV.renL_id]
theorem Blk.ren_id (B:Blk):B.ren (fun j=>j)=B:=by
 obtain ⟨T,sz,cs⟩:=B
 cases cs with
 | pure xs=>rfl
 | mix vs=>simp only [Blk.ren,Cells.ren,G0q]
theorem m0w.id:∀ H:List (Nat×Blk),m0w (fun j=>j) H H
 | []=>.nil
 | (j,B) :: H=>.cons rfl (Blk.ren_id B).symm (m0w.id H)
def Whole (H:List (Nat×Blk)):Prop:=∀ j B,H.lookup j=some B→∀ i x,B.cs.get i=some x→∀ q,x.free q=false→H.lookup q≠none
theorem v6 {E:Env}{F:Fr}(hG:E.G F.w0)(hX:∀ b,F.X b→E.ng≤b)(hng:E.ng≤F.w0.heap.size){d:Nat}{f:FuncId}{dst:Option Nat}{op:Op}{T:TypeId}{pos:String}{aft:Array Edge}{g:Option (Nat×Bool)}{rs:List (Operand×PV)}{xs:List PV}{H:List (Nat×Blk)}{r:PV}(hs:T4 E (fun _=>true) f xs H H r)(hd:dst=some d)(hlt:d<F.nt)
  (hargs:∀ ρ S a w,j5 F ρ S a w→(∀ p∈rs,S.opd p.1=some p.2)→∃ vals:List Value,(execOp a.eval ⟨dst,op,T,pos,aft,g⟩).run E.P w = .ok (.enter f vals.toArray) w∧G3 S.blk ρ (okI F S.blk ρ) (hp w) xs vals)
  (nd:(H.map (·.1)).Nodup) (hw:Whole H) (hres:∀ q,r.free q=false→H.lookup q≠none):R2 E.P F ⟨dst,op,T,pos,aft,g⟩ ⟨rs,H,none,[(d,r)],[]⟩:=by
 intro S a w hS hA Q K hK
 refine f1k hG hX hng (fun j=>j) (fun _ _=>rfl) hs hd hlt (by rw [G0q]; exact hargs) ⟨m0w.id H,m0w.id H,fun _ _ _ _ h=>h,rfl,nd,fun j B B' h h'=>by rw [h] at h'; injection h' with h'; subst h'; exact ⟨rfl,rfl⟩,hw⟩ (PV.ren_id r).symm hres S a w hS ⟨hA.rs,hA.rb,hA.fresh⟩ Q K fun a' w' hS'=>hK a' w' (hS'.congr (fun t=>?_) fun k=>?_)
 ·rw [St.app_slot,St.app_slot]
 ·rw [St.app_blk,St.app_blk]
  cases e:H.lookup k with
  | none=>simp
  | some B=>rw [hA.rb (k,B) (R3 e)]; simp
theorem P1g {E:Env}{st:Nat→Bool}{F:Fr}(hG:E.G F.w0)(hX:∀ b,F.X b→E.ng≤b)(hng:E.ng≤F.w0.heap.size){ops:Array Oper}{d:Nat}{f:FuncId}{op:Op}{T:TypeId}{pos:String}{aft:Array Edge}{xs:List PV}{S:St}{H H':List (Nat×Blk)}{r:PV}{rs:List (Operand×PV)}(ks:List Nat)(slR:List (Nat×PV))(hbR:List (Nat×Blk))(hs:T4 E st f xs H H' r)(hlt:d<F.nt)
  (hargs:∀ ρ S a w,j5 F ρ S a w→(∀ p∈rs,S.opd p.1=some p.2)→∃ vals:List Value,(execOp a.eval ⟨some d,op,T,pos,aft,none⟩).run E.P w = .ok (.enter f vals.toArray) w∧G3 S.blk ρ (okI F S.blk ρ) (hp w) xs vals)
  (hr:E8 S rs) (hH:O5 S H) (hsl:m7 S slR) (hR:O5 S hbR) (hd:slR.lookup d=none) (nd:(H.map (·.1)).Nodup) (nd':(H'.map (·.1)).Nodup) (dis:∀ k,hbR.lookup k≠none→H.lookup k=none∧H'.lookup k=none) (hw:Whole H') (hres:∀ q,r.free q=false→H'.lookup q≠none)
  (honly:(slR.all fun p=>p.2.only ks)=true) (hbonly:∀ k B,hbR.lookup k=some B→B.cs.only ks=true) (hks:∀ k∈ks,hbR.lookup k≠none∨∃ B0 B1,st k=true∧H.lookup k=some B0∧H'.lookup k=some B1∧B1.sz=B0.sz∧B1.cs.len=B0.cs.len)
  (hlo:∀ i j,H.lookup i≠none→H.lookup j≠none→st j=false→F.lo i=false→F.lo j=false) (hpin:∀ j,H'.lookup j≠none→F.pin j≠none→H.lookup j≠none∧st j=true):J0j E.P F ops ⟨some d,op,T,pos,aft,none⟩ S ⟨(d,r) :: slR,H'++hbR⟩:=by
 have hHl:∀ j B,H.lookup j=some B→S.blk j=some B:=fun j B hj=>hH.all j B hj
 have hb':∀ k,St.blk ⟨(d,r) :: slR,H'++hbR⟩ k=(H'.lookup k).or (hbR.lookup k):=fun k=>U1 _ _ _
 have hstay:∀ k∈ks,J0b st S ⟨(d,r) :: slR,H'++hbR⟩ (fun j=>j) H H' k:=fun k hk=>by
  rcases hks k hk with h | ⟨B0,B1,h⟩
  ·obtain ⟨h1,h2⟩:=dis k h
   obtain ⟨B,hB⟩:=J3 h
   refine .inr (.inl ⟨by rw [hb',h2,l0,hB,hR.all k B hB],fun j hj e=>?_⟩)
   subst e; exact hj.elim (fun h=>h h1) (fun h=>h h2)
  ·exact .inr (.inr ⟨k,B0,B1,rfl,h⟩)
 refine N1v hG hX hng (fun j=>j) hs rfl rfl hlt (fun ρ a w hS=>?_) ⟨fun j B hj=>by rw [Blk.ren_id]; exact hHl j B hj,fun _ _ _ _ h=>h,fun i j h1 h2 _ h4 h5=>hlo i j h1 h2 h4 h5,fun k B' hk=>?_,fun t v ht=>?_,hres,hw,hpin⟩
 ·rw [PV.renL_id]; exact hargs ρ S a w hS hr.all
 ·rw [hb'] at hk
  cases e:H'.lookup k with
  | some B=>rw [e,K0] at hk; injection hk with hk; subst hk; exact .inl ⟨k,B,rfl,e,(Blk.ren_id B).symm⟩
  | none =>
   rw [e,l0] at hk
   obtain ⟨h1,h2⟩:=dis k (by simp [hk])
   exact .inr ⟨hR.all k B' hk,fun j hj e2=>by subst e2; exact hj.elim (fun h=>h h1) (fun h=>h h2),fun i x hx q hq=>hstay q (PV.only_mem (Cells.only_get (hbonly k B' hk) hx) hq)⟩
 ·simp only [St.slot,i0] at ht
  by_cases e:t=d
  ·subst e; simp only [BEq.rfl,U0] at ht; exact .inl ⟨rfl,by rw [PV.ren_id]; exact ht.symm⟩
  ·rw [show (t == d)=false by simpa using e] at ht
   refine .inr ⟨e,hsl.all t v ht,fun q hq=>hstay q (PV.only_mem ?_ hq)⟩
   rw [s0] at honly
   have:(t,v)∈slR:=by
    have:∀ l:List (Nat×PV),l.lookup t=some v→(t,v)∈l:=by
     intro l
     induction l with
     | nil=>simp
     | cons p l ih =>
      obtain ⟨s,u⟩:=p
      intro h
      rw [i0] at h
      split at h
      ·rename_i e; injection h with h; subst h; simp [beq_iff_eq.1 e]
      ·simp [ih h]
    exact this slR ht
   exact honly _ this
structure R5 (T:List (Nat×Blk)):Prop where
 low:∀ k,Nat.blt k 1000=true→T.lookup k=none
 nd:(T.map (·.1)).Nodup
 free:∀ k,Nat.blt k 1000=true→Y2 k T=true
 whole:Whole T
theorem C5:∀ {S:St}{l:List (Nat×Blk)},(l.map (·.1)).Nodup→(∀ k B,l.lookup k=some B→S.blk k=some B)→O5 S l
 | _,[],_,_=>trivial
 | S,(k,B) :: l,hn,h=>by
  rw [R0,List.nodup_cons] at hn
  refine ⟨h k B (by rw [i0]; simp),C5 hn.2 fun j C hj=>h j C ?_⟩
  have:j≠k:=fun e=>by subst e; exact hn.1 (G0.2 ⟨(j,C),R3 hj,rfl⟩)
  rw [i0,show (j == k)=false by simpa using this]; exact hj
theorem hbT {sl:List (Nat×PV)}{T:List (Nat×Blk)}(pre:List (Nat×Blk))(h:R5 T)(hp:(pre.all fun p=>Nat.blt p.1 1000)=true):O5 ⟨sl,pre++T⟩ T:=C5 h.nd fun k B hk=>by
 show (pre++T).lookup k=some B
 rw [U1]
 cases e:pre.lookup k with
 | none=>simpa using hk
 | some C =>
  rw [s0] at hp
  have:=hp _ (R3 e)
  rw [h.low k this] at hk; cases hk
theorem U4 {k:Nat}:∀ {l r:List (Nat×Blk)},Y2 k (l++r)=(Y2 k l && Y2 k r)
 | [],r=>rfl
 | p :: l,r=>by simp only [M1,Y2,U4,Bool.and_assoc]
theorem frT {sl:List (Nat×PV)}{T:List (Nat×Blk)}{d:Nat}(pre:List (Nat×Blk))(h:R5 T)(hd:Nat.blt d 1000=true)(h1:pre.lookup d=none)(h2:(L3 d sl && Y2 d pre)=true):h0d ⟨sl,pre++T⟩ (some d):=by
 refine ⟨?_,?_⟩
 ·show (pre++T).lookup d=none
  rw [U1,h1,h.low d hd]; rfl
 ·simp only [j0] at h2
  show (L3 d sl && Y2 d (pre++T))=true
  rw [U4,h2.1,h2.2,h.free d hd]; rfl
def cls (k:Nat):Nat:=if k<1000 then k else 1000
theorem K8 {xs ys:List Nat}:hit xs ys=false↔∀ x∈xs,x ∉ ys:=by simp [hit]
theorem h1x {cf:Nat→Nat}{l l':List (Nat×Blk)}{xs ys:List Nat}(h1:∀ p∈l,cf p.1∈xs)(h2:∀ p∈l',cf p.1∈ys)(h:hit xs ys=false):H7 l (l'.map (·.1))=false:=by
 rw [f0m,K8]
 intro x hx hy
 obtain ⟨p,hp,rfl⟩:=G0.1 hx
 obtain ⟨q,hq,e⟩:=G0.1 hy
 exact K8.1 h _ (h1 p hp) (e ▸ h2 q hq)
theorem K0m {P:Program}{F:Fr}{Q:Exit→St→Prop}{S:St}{c:Code}{α:Type}(ws:α→List (Nat×PV))(wb:α→List (Nat×Blk))(T:α→List (Nat×Blk))(ok:α→Prop)(μ:α→Nat)(x:α){sl:List (Nat×PV)}{hb:List (Nat×Blk)}(h0:ok x)(h1:m7 S (ws x++sl))(h2:O5 S (wb x++(hb++T x)))
  (round:∀ x,ok x→y4 P F c ⟨ws x++sl,wb x++(hb++T x)⟩ (K0b (fun S'=>∃ y,ok y∧μ y<μ x∧St.le ⟨ws y++sl,wb y++(hb++T y)⟩ S') Q)):y4 P F (.loop c) S Q :=
 P0v (fun x=>⟨ws x++sl,wb x++(hb++T x)⟩) ok μ x h0 (B3 h1 h2) round
end Go.Proofs.YtjagfionflbjbaaGreat.SH
namespace Go.Proofs.YtjagfionflbjbaaGreat.SH
open Go Go.RowKit
structure f1a (cf:Nat→Nat) (A:Ann) (sk:Sk):Prop where
 fresh:∀ k,A.fresh=some k→A.wb.any (fun p=>p.1 == k)=true
 rs:b8 A.rs=sk.rs
 rb:∀ p∈A.rb,cf p.1∈sk.rb
 ws:A.ws.map (·.1)=sk.ws
 wb:∀ p∈A.wb,cf p.1∈sk.wb
inductive b0j (cf:Nat→Nat):List Ann→List Sk→Prop
 | nil:b0j cf [] []
 | cons {A:Ann} {sk:Sk} {As:List Ann} {sks:List Sk}:f1a cf A sk→b0j cf As sks→b0j cf (A :: As) (sk :: sks)
theorem k1c {cf:Nat→Nat}{A B:Ann}{a b:Sk}(hA:f1a cf A a)(hB:f1a cf B b)(h1:hit a.wb b.rb=false)(h2:hit a.wb b.wb=false):H7 A.wb B.rbk=false:=by
 rw [f0m,K8]
 intro x hx hy
 obtain ⟨p,hp,rfl⟩:=G0.1 hx
 simp only [Ann.rbk,List.mem_append,Option.mem_toList] at hy
 rcases hy with hy | hy
 ·have:=hB.fresh _ hy
  rw [List.any_eq_true] at this
  obtain ⟨q,hq,e⟩:=this
  have e:q.1=p.1:=by simpa using e
  exact K8.1 h2 _ (hA.wb p hp) (e ▸ hB.wb q hq)
 ·obtain ⟨q,hq,e⟩:=G0.1 hy
  exact K8.1 h1 _ (hA.wb p hp) (e ▸ hB.rb q hq)
def w0m (A B:Ann):Bool:=(A.fresh.all fun k=>B.free k) && (B.fresh.all fun k=>A.free k)
theorem H0f {cf:Nat→Nat}{A B:Ann}{a b:Sk}(hA:f1a cf A a)(hB:f1a cf B b)(hf:w0m A B=true)(h:F0h a b=true):J7 A B=true:=by
 simp only [F0h,j0,Bool.not_eq_true'] at h
 obtain ⟨⟨⟨⟨⟨h1,h2⟩,h3⟩,h4⟩,h5⟩,h6⟩:=h
 simp only [w0m,j0] at hf
 simp only [J7,j0,Bool.not_eq_true']
 have h6':hit b.wb a.wb=false:=by rw [K8] at h6 ⊢; exact fun x hx hy=>h6 x hy hx
 refine ⟨⟨⟨⟨⟨⟨⟨?_,?_⟩,?_⟩,?_⟩,?_⟩,?_⟩,hf.1⟩,hf.2⟩
 ·rw [f0m,hA.ws,hB.rs]; exact h1
 ·rw [f0m,hB.ws,hA.rs]; exact h2
 ·rw [f0m,hA.ws,hB.ws]; exact h3
 ·exact k1c hA hB h4 h6
 ·exact k1c hB hA h5 h6'
 ·exact h1x hA.wb hB.wb h6
theorem P0d {cf:Nat→Nat}{As:List Ann}{sks:List Sk}(h:b0j cf As sks):∀ (i:Nat) (A:Ann),As[i]? = some A→∃ sk,sks[i]? = some sk∧f1a cf A sk:=by
 induction h with
 | nil=>intro i A h; simp at h
 | cons hc _ ih =>
  intro i A hA
  cases i with
  | zero =>
    obtain rfl := by simpa using hA
    exact ⟨_,rfl,hc⟩
  | succ i=>simpa using ih i A (by simpa using hA)
theorem K0q {cf:Nat→Nat}{As As':List Ann}{sks sks':List Sk}(h:b0j cf As sks)(h':b0j cf As' sks'):b0j cf (As++As') (sks++sks'):=by
 induction h with
 | nil=>exact h'
 | cons hc _ ih=>exact .cons hc ih
def J0v:List Ann→List Ann→Bool
 | [],_=>true
 | B :: As,done=>(done.all fun A=>w0m A B) && J0v As (done++[B])
theorem G0d {cf:Nat→Nat}:∀ (os:List Oper) (As:List Ann) (sks:List Sk) (ms:List Nat) (done:List Ann) (dsk:List Sk),b0j cf As sks→b0j cf done dsk→done.length=ms.length→J0v As done=true→g8 os sks ms dsk=true→d8 os As ms done=true
 | [],[],[],_,_,_,_,_,_,_,_=>rfl
 | o :: os,B :: As,b :: sks,ms,done,dsk,h,h',hl,hf,hh=>by
  cases h with
  | cons hB hAs =>
   simp only [g8,j0] at hh
   simp only [J0v,j0] at hf
   obtain ⟨⟨h1,h2⟩,h3⟩:=hh
   simp only [d8,j0]
   refine ⟨⟨h1,?_⟩,G0d os As sks _ _ _ hAs (K0q h' (.cons hB .nil)) (by simp [hl]) hf.2 h3⟩
   rw [s0] at h2 ⊢
   intro i hi
   have hi':i<done.length:=by simpa using hi
   have:=h2 i (by simpa [← hl] using hi')
   rw [Bool.or_eq_true] at this ⊢
   rcases this with h | h
   ·exact .inl h
   ·refine .inr ?_
    obtain ⟨A,hA⟩:∃ A,done[i]? = some A:=⟨done[i],by simp [hi']⟩
    obtain ⟨sk,hs,hc⟩:=P0d h' i A hA
    rw [hs] at h
    rw [hA]
    have hff:=hf.1
    rw [s0] at hff
    exact H0f hc hB (hff A (O1 hA)) h
 | [],_ :: _,_ :: _,_,_,_,_,_,_,_,hh=>by simp [g8] at hh
 | _ :: _,[],[],_,_,_,_,_,_,_,hh=>by simp [g8] at hh
 | _ :: _,_ :: _,[],_,_,_,h,_,_,_,_=>by cases h
 | _,[],_ :: _,_,_,_,h,_,_,_,_=>by cases h
 | [],_ :: _,[],_,_,_,h,_,_,_,_=>by cases h
def n7:List Ann→List Nat
 | []=>[]
 | A :: As=>A.fresh.toList++n7 As
theorem b0n {S:St}:∀ {As:List Ann},(∀ k∈n7 As,S.free k=true)→d6 S As=true
 | [],_=>rfl
 | A :: As,h=>by
  simp only [d6,j0]
  refine ⟨?_,b0n fun k hk=>h k (by simp [n7,hk])⟩
  cases e:A.fresh with
  | none=>rfl
  | some k=>exact h k (by simp [n7,e])
theorem frS {sl:List (Nat×PV)}{T:List (Nat×Blk)}{As:List Ann}(ns:List Nat)(pre:List (Nat×Blk))(h:R5 T)(hn:n7 As=ns)(h1:(ns.all fun k=>Nat.blt k 1000 && (L3 k sl && Y2 k pre))=true):∀ k∈n7 As,St.free ⟨sl,pre++T⟩ k=true:=by
 subst hn
 intro k hk
 rw [s0] at h1
 have:=h1 k hk
 simp only [j0] at this
 show (L3 k sl && Y2 k (pre++T))=true
 rw [U4,this.2.1,this.2.2,h.free k this.1]; rfl
theorem N1x (cf:Nat→Nat){os:List Oper}{As:List Ann}{S:St}(sks:List Sk)(h1:b0j cf As sks)(hf:J0v As []=true)(hS:∀ k∈n7 As,S.free k=true)(h2:g8 os sks [] []=true):(d8 os As [] [] && d6 S As)=true:=by
 rw [G0d os As sks [] [] [] h1 .nil rfl hf h2,b0n hS]; rfl
theorem j0c {os:List Oper}{As:List Ann}{S:St}(sks:List Sk)(h1:b0j cls As sks)(hf:J0v As []=true)(hS:∀ k∈n7 As,S.free k=true)(h2:g8 os sks [] []=true):(d8 os As [] [] && d6 S As)=true:=N1x cls sks h1 hf hS h2
theorem cf0 {cf:Nat→Nat}{A:Ann}{sk:Sk}(h:((A.fresh.all fun k=>A.wb.any fun p=>p.1 == k) && decide (b8 A.rs=sk.rs) && decide (A.ws.map (·.1)=sk.ws) && (A.rb.all fun p=>sk.rb.contains (cf p.1)) && (A.wb.all fun p=>sk.wb.contains (cf p.1)))=true):f1a cf A sk:=by
 simp only [j0,decide_eq_true_eq,s0,List.contains_eq_mem] at h
 refine ⟨fun k hk=>?_,h.1.1.1.2,fun p hp=>h.1.2 p hp,h.1.1.2,fun p hp=>h.2 p hp⟩
 have:=h.1.1.1.1
 rw [hk] at this
 simpa using this
theorem cfT {cf:Nat→Nat}{A:Ann}{sk:Sk}(h0:A.fresh=none)(hr:b8 A.rs=sk.rs)(h1:∀ p∈A.rb,cf p.1∈sk.rb)(hw:A.ws.map (·.1)=sk.ws)(h2:∀ p∈A.wb,cf p.1∈sk.wb):f1a cf A sk:=⟨fun k hk=>(by rw [h0] at hk; cases hk),hr,h1,hw,h2⟩
theorem F0n {k:Nat}(h:1000≤k):cls k=1000:=by unfold cls; rw [if_neg (by omega)]
theorem K1x {l r:List (Nat×Blk)}{ks:List Nat}(h1:(l.all fun p=>ks.contains (cls p.1))=true)(h2:∀ p∈r,1000≤p.1)(h3:ks.contains 1000=true):∀ p∈l++r,cls p.1∈ks:=by
 intro p hp
 rcases List.mem_append.1 hp with hp | hp
 ·rw [s0] at h1; simpa using h1 p hp
 ·rw [F0n (h2 p hp)]; simpa using h3
theorem d0j {T:List (Nat×Blk)}(h:R5 T):∀ p∈T,1000≤p.1:=by
 intro p hp
 obtain ⟨k,B⟩:=p
 by_cases hk:Nat.blt k 1000=true
 ·have:=h.low k hk
  rw [W5 h.nd hp] at this; cases this
 ·simp [Nat.blt_eq] at hk; exact hk
theorem rdT {sl:List (Nat×PV)}{T:List (Nat×Blk)}{k:Nat}{B:Blk}(pre:List (Nat×Blk))(h:R5 T)(hp:(pre.all fun p=>Nat.blt p.1 1000)=true)(hk:T.lookup k=some B):St.blk ⟨sl,pre++T⟩ k=some B:=by
 show (pre++T).lookup k=some B
 rw [U1]
 cases e:pre.lookup k with
 | none=>simpa using hk
 | some C =>
  rw [s0] at hp
  have:=hp _ (R3 e)
  rw [h.low k this] at hk; cases hk
theorem b9 {k:Nat}{B:Blk}{ks:List Nat}(h:1000≤k)(h2:ks.contains 1000=true:=by rfl):∀ p∈[(k,B)],cls p.1∈ks:=by
 intro p hp
 obtain rfl:=List.mem_singleton.1 hp
 rw [F0n h]; simpa using h2
theorem U7 {S:St}:∀ {l:List (Nat×Blk)},O5 S l→P6 S l
 | [],_=>trivial
 | _ :: _,h=>⟨h.1,U7 h.2⟩
theorem n0g {P:Program}{F:Fr}{d:Nat}{t T:TypeId}{pos:String}{aft:Array Edge}{g:Option (Nat×Bool)}{x y:Operand}{k n tot j sz:Nat}{B:Blk}{e:TypeId}{kd:IntKind}{i:Int}(hu:P.underlying t=some (.slice e))(hsz:∀ w,(sizeOf e).run P w = .ok sz w)(hl:B.cs.len=tot)(hi:i=(j:Int))(h1:j<n)(hlt:d<F.nt) :
  R2 P F ⟨some d,.indexAddr t x y,T,pos,aft,g⟩ { rs:=[(x,.ref k 0 n tot),(y,.p (.a (.int kd i)))],rb:=[(k,B)],ws:=[(d,.at_ k (j*sz) tot)] }:=by
 subst hi
 have:=b0r (P:=P) (F:=F) (d:=d) (t:=t) (T:=T) (pos:=pos) (aft:=aft) (g:=g) (x:=x) (y:=y) (kd:=kd) (off:=0) (k:=k) (n:=n) hu hsz hl (i:=j) (by omega) (by omega) hlt
 simpa using this
end Go.Proofs.YtjagfionflbjbaaGreat.SH
set_option maxRecDepth 100000
set_option maxHeartbeats 4000000
namespace Go.Proofs.YtjagfionflbjbaaGreat.N
open Go Go.Proofs.YtjagfionflbjbaaGreat.SH Go.Proofs.YtjagfionflbjbaaGreat.NumA
open Go.Proofs.Tryz renaming call100→cl100,call101→cl101,call106→cl106,call107→cl107,call108→cl108,call112→cl112,call127→cl127,call40→cl40,call52→cl52,call55→cl55,call64→cl64,call65→cl65,call67→cl67,call68→cl68,call70→cl70,call85→cl85,isAgg22→ag22,isAgg24→ag24,isAgg3→ag3,isAgg40→ag40,isAgg47→ag47,sizeOf22→sz22,sizeOf24→sz24,sizeOf3→sz3,sizeOf40→sz40,sizeOf47→sz47,typeInfo40→ti40,typeInfo47→ti47,underlying22→un22,underlying24→un24,underlying40→un40,underlying77→un77,zeroValue24→zv24,zeroValue47→zv47
@[reducible] def cQ (a:Rat):List O2:=[.a (.bool (decide (a.num<0))),.sl (D3 a.num.natAbs).length (M4 (D3 a.num.natAbs)),.a (.bool (decide ((a.den:Int)<0))),.sl (D3 (a.den:Int).natAbs).length (M4 (D3 (a.den:Int).natAbs))]
def X5:List Rat→List O2
 | []=>[]
 | a :: v=>cQ a++X5 v
@[simp] theorem i3:∀ v:List Rat,(X5 v).length=v.length*4
 | []=>rfl
 | a :: v=>by simp only [X5,L1,i3 v,cQ,E1,List.length_nil]; omega
theorem q0a:∀ v u:List Rat,X5 (v++u)=X5 v++X5 u
 | [],u=>rfl
 | a :: v,u=>by simp only [M1,X5,q0a v u,List.append_assoc]
theorem X6:∀ {v:List Rat}{i:Nat},i<v.length→((X5 v).drop (i*4)).take 4=cQ (v.getD i 0)
 | [],i,h=>by simp at h
 | a :: v,0,_=>by simp [X5,cQ]
 | a :: v,i+1,h=>by
  have:=X6 (v:=v) (i:=i) (by simpa using h)
  rw [show (i+1)*4=i*4+1+1+1+1 by omega]
  simp only [X5,cQ,M1,List.nil_append,List.drop_succ_cons,List.getD_cons_succ]
  exact this
theorem Q1r:∀ {v:List Rat}{i:Nat}(b:Rat),i<v.length→(X5 v).take (i*4)++cQ b++(X5 v).drop (i*4+4)=X5 (v.set i b)
 | [],i,_,h=>by simp at h
 | a :: v,0,b,_=>by simp [X5,cQ]
 | a :: v,i+1,b,h=>by
  have:=Q1r (v:=v) (i:=i) b (by simpa using h)
  rw [show (i+1)*4=i*4+1+1+1+1 by omega,show i*4+1+1+1+1+4=i*4+4+1+1+1+1 by omega]
  simp only [List.set_cons_succ,X5,← this]
  simp only [cQ,M1,List.nil_append,List.drop_succ_cons,List.take_succ_cons]
@[reducible] def pV (v:List Rat):O2:=.sl v.length (X5 v)
def U5 (m:List (List Rat)):List O2:=m.map pV
@[simp] theorem m6 (m:List (List Rat)):(U5 m).length=m.length:=by simp [U5]
theorem j7 {m:List (List Rat)}{i:Nat}(h:i<m.length):(U5 m)[i]? = some (pV (m.getD i [])):=by
 simp [U5,h,f0]
def K3 (s i:Nat):Nat:=2*i+s+1100
@[reducible] def j4 (v:List Rat):Blk:=⟨47,4,.pure (X5 v)⟩
theorem j0w {v:List Rat}{k:Nat}(b:Rat)(h:k<v.length):(⟨47,4,.pure ((X5 v).take (k*4)++cQ b++(X5 v).drop (k*4+4))⟩:Blk)=j4 (v.set k b):=by rw [Q1r b h]
def e7 (s:Nat):Nat→List (List Rat)→List (Nat×Blk)
 | _,[]=>[]
 | i,v :: m=>(K3 s i,j4 v) :: e7 s (i+1) m
def Y4 (s:Nat):Nat→List (List Rat)→List PV
 | _,[]=>[]
 | i,v :: m=>.ref (K3 s i) 0 v.length (v.length*4) :: Y4 s (i+1) m
@[simp] theorem G2 (s:Nat):∀ (i:Nat) (m:List (List Rat)),(Y4 s i m).length=m.length
 | _,[]=>rfl
 | i,v :: m=>by simp [Y4,G2 s (i+1) m]
theorem k0v {s:Nat}:∀ {i j:Nat} {m:List (List Rat)},(Y4 s i m)[j]? = (m[j]?).map fun v=>.ref (K3 s (i+j)) 0 v.length (v.length*4)
 | i,j,[]=>by simp [Y4]
 | i,0,v :: m=>by simp [Y4]
 | i,j+1,v :: m=>by
  simp only [Y4,List.getElem?_cons_succ]
  rw [k0v (i:=i+1) (j:=j) (m:=m),show i+1+j=i+(j+1) by omega]
theorem h0s {s:Nat}:∀ {i j:Nat} {m:List (List Rat)},(e7 s i m).lookup (K3 s (i+j))=(m[j]?).map j4
 | i,j,[]=>by simp [e7]
 | i,0,v :: m=>by simp [e7]
 | i,j+1,v :: m=>by
  simp only [e7,i0,List.getElem?_cons_succ]
  rw [show (K3 s (i+(j+1)) == K3 s i)=false by simp [K3]; omega,show i+(j+1)=i+1+j by omega]
  exact h0s
theorem q0p {s:Nat}:∀ {i k:Nat} {m:List (List Rat)},(∀ j,j<m.length→k≠K3 s (i+j))→(e7 s i m).lookup k=none
 | i,k,[],_=>rfl
 | i,k,v :: m,h=>by
  simp only [e7,i0]
  rw [show (k == K3 s i)=false by simpa using h 0 sM]
  exact q0p fun j hj=>by have:=h (j+1) (by simpa using hj); rwa [show i+1+j=i+(j+1) by omega]
theorem L9 {s:Nat}:∀ {i k:Nat} {m:List (List Rat)},k∈(e7 s i m).map (·.1)→∃ j,j<m.length∧k=K3 s (i+j)
 | i,k,[],h=>by simp [e7] at h
 | i,k,v :: m,h=>by
  simp only [e7,R0,List.mem_cons] at h
  rcases h with h | h
  ·exact ⟨0,by simp,h⟩
  ·obtain ⟨j,h1,h2⟩:=L9 h
   exact ⟨j+1,by simpa using h1,by rw [h2,show i+1+j=i+(j+1) by omega]⟩
theorem m1p {s:Nat}:∀ (i:Nat) (m:List (List Rat)),((e7 s i m).map (·.1)).Nodup
 | i,[]=>List.nodup_nil
 | i,v :: m=>by
  simp only [e7,R0]
  refine List.nodup_cons.2 ⟨fun h=>?_,m1p (i+1) m⟩
  obtain ⟨j,_,h2⟩:=L9 h
  simp only [K3] at h2; omega
theorem f0q {s k:Nat}:∀ (i:Nat) (m:List (List Rat)),Y2 k (e7 s i m)=true
 | _,[]=>rfl
 | i,v :: m=>by simp [e7,Y2,Cells.free,f0q (i+1) m]
theorem y0m {s k:Nat}(h:k<1100):∀ (i:Nat) (m:List (List Rat)),PV.freeL k (Y4 s i m)=true
 | _,[]=>rfl
 | i,v :: m=>by
  simp only [Y4,PV.freeL,PV.free,j0]
  exact ⟨by simp [K3]; omega,y0m h (i+1) m⟩
theorem F0w {s:Nat}:∀ {i j q:Nat} {m:List (List Rat)} {x:PV},(Y4 s i m)[j]? = some x→x.free q=false→∃ v,m[j]? = some v∧q=K3 s (i+j):=by
 intro i j q m x h hq
 rw [k0v,M0] at h
 obtain ⟨v,hv,rfl⟩:=h
 simp only [PV.free,bne_eq_false_iff_eq] at hq
 exact ⟨v,hv,hq.symm⟩
@[reducible] def hdB (s:Nat)(m:List (List Rat)):Blk:=⟨40,1,.mix (Y4 s 0 m)⟩
def J2 (s:Nat)(m:List (List Rat)):List (Nat×Blk):=(s+1001,hdB s m) :: e7 s 0 m
theorem E2 {s:Nat}(h2:s<9)(m:List (List Rat)):R5 (J2 s m):=by
 have hno:∀ k,k<1100→(e7 s 0 m).lookup k=none:=fun k hk=>q0p fun j _=>by simp only [K3]; omega
 refine ⟨fun k hk=>?_,?_,fun k hk=>?_,fun j B hj i x hx q hq=>?_⟩
 ·simp only [Nat.blt_eq] at hk
  rw [J2,i0,show (k == s+1001)=false by simp; omega]
  exact hno k oM
 ·simp only [J2,R0]
  refine List.nodup_cons.2 ⟨fun hm=>?_,m1p 0 m⟩
  obtain ⟨j,_,h3⟩:=L9 hm
  simp only [K3] at h3; omega
 ·simp only [Nat.blt_eq] at hk
  simp only [J2,Y2,Cells.free,j0]
  exact ⟨y0m oM 0 m,f0q 0 m⟩
 ·rw [J2,i0] at hj
  split at hj
  ·injection hj with hj; subst hj
   obtain ⟨v,hv,rfl⟩:=F0w hx hq
   rw [J2,i0,show (K3 s (0+i) == s+1001)=false by simp [K3]; omega,h0s,hv]; simp
  ·obtain ⟨j',_,rfl⟩:=L9 (G0.2 ⟨_,R3 hj,rfl⟩)
   rw [h0s,M0] at hj
   obtain ⟨v,hv,rfl⟩:=hj
   simp only [Cells.get,M0] at hx
   obtain ⟨y,_,rfl⟩:=hx
   simp [PV.free] at hq
theorem M0h {s i:Nat}{m:List (List Rat)}(h:i<m.length):(Cells.mix (Y4 s 0 m)).get i=some (.ref (K3 s i) 0 (m.getD i []).length ((m.getD i []).length*4)):=by
 show (Y4 s 0 m)[i]? = _
 rw [k0v]; simp [h,f0]
theorem hdL {s:Nat}{m:List (List Rat)}:(J2 s m).lookup (s+1001)=some (hdB s m):=by simp [J2]
theorem rwL {s i:Nat}{m:List (List Rat)}(hh:s<9)(hi:i<m.length):(J2 s m).lookup (K3 s i)=some (j4 (m.getD i [])):=by
 rw [J2,i0,show (K3 s i == s+1001)=false by simp [K3]; omega]
 have:=h0s (s:=s) (i:=0) (j:=i) (m:=m)
 rw [G1] at this
 rw [this]; simp [hi,f0]
theorem rwS {s i:Nat}{m:List (List Rat)}{r:List Rat}(hh:s<9)(hi:i<m.length):(J2 s (m.set i r)).lookup (K3 s i)=some (j4 r):=by
 have:=rwL (s:=s) (i:=i) (m:=m.set i r) hh (by simpa using hi)
 rw [this,f0,List.getElem?_set_self hi]; rfl
theorem rwO {s i j:Nat}{m:List (List Rat)}{r:List Rat}(hh:s<9)(hj:j<m.length)(hne:i≠j):(J2 s (m.set i r)).lookup (K3 s j)=some (j4 (m.getD j [])):=by
 have:=rwL (s:=s) (i:=j) (m:=m.set i r) hh (by simpa using hj)
 rw [this,f0,f0,List.getElem?_set_ne hne]
theorem Y0m {s:Nat}:∀ {i j:Nat} {m:List (List Rat)} {r r':List Rat},r'.length=r.length→Y4 s i (m.set j r')=Y4 s i (m.set j r)
 | i,j,[],r,r',_=>rfl
 | i,0,v :: m,r,r',h=>by simp [Y4,h]
 | i,j+1,v :: m,r,r',h=>by simp only [List.set_cons_succ,Y4,Y0m (i:=i+1) (j:=j) h]
theorem H0c {s i j:Nat}:K3 s i=K3 s j↔i=j:=by simp only [K3]; omega
theorem hbS {sl:List (Nat×PV)}{s i:Nat}{m:List (List Rat)}{r r':List Rat}{B:Blk}(pre:List (Nat×Blk))(hp:(pre.all fun p=>Nat.blt p.1 1000)=true)(h2:s<9)(hi:i<m.length)(hB:B=j4 r')(hl:r'.length=r.length):O5 ⟨sl,(K3 s i,B) :: (pre++J2 s (m.set i r))⟩ (J2 s (m.set i r')):=by
 subst hB
 refine C5 (E2 h2 _).nd fun k C hk=>?_
 show List.lookup k _=some C
 rw [i0]
 have hno:∀ k,k<1000→(J2 s (m.set i r')).lookup k=none:=fun k hk=>(E2 h2 _).low k (by simpa [Nat.blt_eq] using hk)
 have hpre:pre.lookup k=none:=by
  cases e:pre.lookup k with
  | none=>rfl
  | some D =>
   rw [s0] at hp
   have:=hp _ (R3 e)
   rw [(E2 h2 _).low k this] at hk; cases hk
 by_cases e:k=K3 s i
 ·subst e
  rw [rwS h2 hi] at hk
  simpa using hk
 ·rw [show (k == K3 s i)=false by simpa using e,U1,hpre,l0]
  rw [J2,i0] at hk ⊢
  by_cases e1:k=s+1001
  ·subst e1
   simp only [BEq.rfl,U0] at hk ⊢
   rw [← hk,hdB,hdB,Y0m hl]
  ·rw [show (k == s+1001)=false by simpa using e1] at hk ⊢
   obtain ⟨j,hj,e2⟩:=L9 (G0.2 ⟨_,R3 hk,rfl⟩)
   simp only [G1] at e2
   subst e2
   have hne:i≠j:=fun h=>e (by rw [h])
   have h3:=h0s (s:=s) (i:=0) (j:=j) (m:=m.set i r')
   have h4:=h0s (s:=s) (i:=0) (j:=j) (m:=m.set i r)
   rw [G1,List.getElem?_set_ne hne] at h3 h4
   rw [h4,← h3]; exact hk
theorem j1f {s i:Nat}{m:List (List Rat)}{r:List Rat}{n:Nat}(h:i<m.length)(hr:r.length=n):(Cells.mix (Y4 s 0 (m.set i r))).get i=some (.ref (K3 s i) 0 n (n*4)):=by
 subst hr
 have:=M0h (s:=s) (i:=i) (m:=m.set i r) (by simpa using h)
 rwa [f0,List.getElem?_set_self h] at this
theorem E5 (s i:Nat):1000≤K3 s i:=by simp only [K3]; omega
theorem C6 (s:Nat):1000≤s+1001:=by omega
theorem m1c (s:Nat)(m:List (List Rat))(i c:Nat)(h2:s<9)(hi:i<m.length)(hc:c<(m.getD i []).length):T4 E (fun _=>true) 91 [.ref (s+1001) 0 m.length m.length,.p (vZ i),.p (vZ c)] (J2 s m) (J2 s m) (.p (pQ ((m.getD i []).getD c 0))):=by
 refine D4 (xs:=[pQ ((m.getD i []).getD c 0)]) Tryz.func91 rfl Tryz.ntmps91 Tryz.results91 sM fun F G=>?_
 have L:=@lti _ _ G.nt
 have hG:=G.g
 have hX:=G.x
 have hN:=i6 hG
 have P0:∀ k,Nat.blt k 1000=true→F.pin k=none:=fun k hk=>G.p0 k ((E2 h2 m).low k hk)
 refine exr (swb (Y3 (k:=6) (n:=4) zv47 (.cons rfl (.cons rfl (.cons rfl (.cons rfl .nil)))) rfl (P0 _ rfl) L) t0 t0 (frT [] (E2 h2 m) rfl rfl rfl) ?_)
 refine R1 ⟨[(0,_),(1,_),(2,_),(6,_)],(6,_) :: ((J2 s m)),t4,⟨rfl,(hbT [_] (E2 h2 m) rfl)⟩,?_⟩
 refine exr (mV L rfl (mV L rfl (sw (E6 un77 sz40 (by first | exact G2 _ _ _ | exact (G2 _ _ _).trans sM | simp [Cells.len]) (j:=i) rO oM L) t2 ⟨rdT [_] (E2 h2 m) rfl hdL,trivial⟩ ?_)))
 refine sw (Z1 ag40 (by first | exact G2 _ _ _ | exact (G2 _ _ _).trans sM) (M0h hi) L) t1 ⟨rdT [_] (E2 h2 m) rfl hdL,trivial⟩ ?_
 refine mV L rfl (sw (n0g un40 sz47 (by first | exact i3 _ | exact (i3 _).trans oM) (j:=c) rO oM L) t2 ⟨rdT [_] (E2 h2 m) rfl (rwL h2 hi),trivial⟩ ?_)
 refine sw (K1w ag47 sz47 (by first | exact i3 _ | exact (i3 _).trans oM) (X6 oM) rfl L) t1 ⟨rdT [_] (E2 h2 m) rfl (rwL h2 hi),trivial⟩ ?_
 refine sb (Z2 sz47 rF pa4 rfl pu4) t2 t1 ?_
 refine R1 ⟨[(6,_)],(6,_) :: ((J2 s m)),t1,⟨rfl,(hbT [_,_] (E2 h2 m) rfl)⟩,?_⟩
 refine Y1 ?_
 refine ⟨.inr rfl,Z4.cast (.cons (.agg rfl rfl rfl ag47 sz47 (.cons (.cons (.cons (.cons .nil))))) .nil) ?_,(hbT [_] (E2 h2 m) rfl)⟩
 rfl
def scl (v:List Rat)(c:Rat)(k:Nat):List Rat:=(v.take k).map (· * c)++v.drop k
@[simp] theorem f1j (v:List Rat)(c:Rat)(k:Nat):(scl v c k).length=v.length:=by simp [scl]; omega
theorem m1z {v:List Rat}{c:Rat}{k:Nat}(h:k<v.length):(scl v c k).getD k 0=v.getD k 0:=by
 simp [scl,f0,D0,I1 (Nat.le_of_lt h)]
theorem B1b {v:List Rat}{c:Rat}{k:Nat}(h:k<v.length):(scl v c k).set k ((scl v c k).getD k 0*c)=scl v c (k+1):=by
 rw [m1z h,scl,scl,List.set_append,if_neg sO]
 have e:k - (List.map (· * c) (v.take k)).length=0:=by simp; omega
 rw [e,J1,List.map_append,List.append_assoc]
 have e2:(List.drop k v).set 0 (v.getD k 0*c)=(v.getD k 0*c) :: List.drop (k+1) v:=by
  rw [List.drop_eq_getElem_cons h,List.set_cons_zero]
 have e3:List.map (· * c) v[k]?.toList=[v.getD k 0*c]:=by simp [f0,h]
 rw [e2,e3]; rfl
theorem K1g {v:List Rat}{c:Rat}:scl v c v.length=v.map (· * c):=by simp [scl]
theorem y1r {v:List Rat}{c:Rat}:scl v c 0=v:=by simp [scl]
theorem H0y {m:List (List Rat)}{i:Nat}:m.set i (m.getD i [])=m:=by
 by_cases h:i<m.length
 ·rw [f0,K1 h]; simp
 ·rw [List.set_eq_of_length_le oM]
theorem v4 {v:List Rat}{k:Nat}(h:k<v.length):v.getD k 0∈v:=by simp [f0,h]
theorem j1k (s:Nat)(m:List (List Rat))(i:Nat)(c:Rat)(h2:s<9)(hi:i<m.length)(hl:(m.getD i []).length<1000000000)(hs:∀ a∈m.getD i [],qw a<1000000000)(hc:qw c<1000000000):T4 E (fun _=>true) 96 [.ref (s+1001) 0 m.length m.length,.p (vZ i),.p (pQ c)] (J2 s m) (J2 s (m.set i ((m.getD i []).map (· * c)))) (.p (.tup [])):=by
 refine D4 (xs:=[]) Tryz.func96 rfl Tryz.ntmps96 Tryz.results96 sM fun F G=>?_
 have L:=@lti _ _ G.nt
 have hG:=G.g
 have hX:=G.x
 have hN:=i6 hG
 have P0:∀ k,Nat.blt k 1000=true→F.pin k=none:=fun k hk=>G.p0 k ((E2 h2 m).low k hk)
 refine exr (swb (X3 (k:=5) (n:=4) pa4 rfl rfl (P0 _ rfl) L) t1 t0 (frT [] (E2 h2 m) rfl rfl rfl) ?_)
 refine R1 ⟨[(0,_),(1,_),(5,_)],(5,_) :: ((J2 s m)),t3,⟨rfl,(hbT [_] (E2 h2 m) rfl)⟩,?_⟩
 refine exr (mV L rfl (mV L rfl (sw (E6 un77 sz40 (by first | exact G2 _ _ _ | exact (G2 _ _ _).trans sM | simp [Cells.len]) (j:=i) rO oM L) t2 ⟨rdT [_] (E2 h2 m) rfl hdL,trivial⟩ ?_)))
 refine sw (Z1 ag40 (by first | exact G2 _ _ _ | exact (G2 _ _ _).trans sM) (M0h hi) L) t1 ⟨rdT [_] (E2 h2 m) rfl hdL,trivial⟩ ?_
 refine sw (v0b un40 (by first | exact i3 _ | exact (i3 _).trans oM) L) t1 ⟨rdT [_] (E2 h2 m) rfl (rwL h2 hi),trivial⟩ ?_
 refine mV L rfl ?_
 refine R1 ⟨[(0,_),(1,_),(5,_),(11,_),(12,_),(13,_)],(5,_) :: ((J2 s m)),t6,⟨rfl,(hbT [_] (E2 h2 m) rfl)⟩,?_⟩
 obtain ⟨v,hv⟩:∃ v,v=m.getD i []:=⟨_,rfl⟩
 rw [← hv] at hl hs ⊢
 refine X1 ?_
 refine K0m (α:=Nat) (fun k=>[(13,vi (k:Int))]) (fun k=>[]) (fun k=>(J2 s (m.set i (scl v c k)))) (fun k=>k≤v.length) (fun k=>v.length - k) (0) (sl:=[(0,_),(1,_),(5,_),(11,_),(12,_)]) (hb:=[(5,_)]) ?_ ⟨oR,rfl,rfl,rfl,rfl,rfl,trivial⟩ ⟨rfl,(by rw [y1r,hv,H0y]; exact hbT [_] (E2 h2 m) rfl)⟩ ?_
 ·exact Nat.zero_le _
 intro k hk
 have hlen:=f1j v c k
 refine exr (sw (Z3 L) t2 t0 ?_)
 refine R1 ⟨[(0,_),(1,_),(5,_),(11,_),(12,_),(13,_),(14,_)],(5,_) :: ((J2 s (m.set i (scl v c k)))),t7,⟨rfl,(hbT [_] (E2 h2 (m.set i (scl v c k))) rfl)⟩,?_⟩
 refine T1 ?_
 refine D2 rfl (fun hc2=>?_) (fun hc2=>?_)
 ·have hc2:=dt hc2
  have hk2:k<v.length:=by omega
  refine V1 (xq ?_)
  refine T1 (X1 (exr (mV L rfl (sw (n0g un40 sz47 (by first | exact i3 _ | exact (i3 _).trans oM) (j:=k) rO oM L) t2 ⟨rdT [_] (E2 h2 (m.set i (scl v c k))) rfl (rwS h2 hi),trivial⟩ ?_))))
  refine sw (K1w ag47 sz47 (by first | exact i3 _ | exact (i3 _).trans oM) (X6 oM) rfl L) t1 ⟨rdT [_] (E2 h2 (m.set i (scl v c k))) rfl (rwS h2 hi),trivial⟩ ?_
  refine swb (Y3 (k:=7) (n:=4) zv47 (.cons rfl (.cons rfl (.cons rfl (.cons rfl .nil)))) rfl (P0 _ rfl) L) t0 t0 (frT [_] (E2 h2 (m.set i (scl v c k))) rfl rfl rfl) (aV L rfl (sb (Z2 sz47 rF pa4 rfl pu4) t2 t1 ?_))
  refine R1 ⟨[(0,_),(1,_),(5,_),(6,_),(7,_),(11,_),(12,_),(13,_)],(5,_) :: (7,_) :: ((J2 s (m.set i (scl v c k)))),t8,⟨rfl,rfl,(hbT [_,_,_] (E2 h2 (m.set i (scl v c k))) rfl)⟩,?_⟩
  refine d0d rF ?_
  refine mV L rfl (mV L rfl (sw (E6 un77 sz40 (by first | exact G2 _ _ _ | exact (G2 _ _ _).trans sM | simp [Cells.len]) (j:=i) rO oM L) t2 ⟨rdT [_,_] (E2 h2 (m.set i (scl v c k))) rfl hdL,trivial⟩ ?_))
  refine sw (Z1 ag40 (by first | exact G2 _ _ _ | exact (G2 _ _ _).trans sM) (j1f hi hlen) L) t1 ⟨rdT [_,_] (E2 h2 (m.set i (scl v c k))) rfl hdL,trivial⟩ ?_
  refine mV L rfl (lp4 ag47 sz47 L rfl rfl (lp4 ag47 sz47 L rfl rfl (cK hG hX cl67 hN (F8 ((scl v c k).getD k 0) c (by rw [m1z hk2]; exact hs _ (v4 hk2)) hc) L t2 ?_)))
  refine sw (n0g un40 sz47 (by first | exact i3 _ | exact (i3 _).trans oM) (j:=k) rO oM L) t2 ⟨rdT [_,_] (E2 h2 (m.set i (scl v c k))) rfl (rwS h2 hi),trivial⟩ ?_
  refine sb (D0c (n:=4) sz47 (by first | exact i3 _ | exact (i3 _).trans oM) rfl oM) t2 ⟨rdT [_,_] (E2 h2 (m.set i (scl v c k))) rfl (rwS h2 hi),trivial⟩ ?_
  refine R1 ⟨j0c [⟨[0],[],[18],[]⟩,⟨[1],[],[19],[]⟩,⟨[18,19],[1000],[20],[]⟩,⟨[20],[1000],[21],[]⟩,⟨[6],[],[22],[]⟩,⟨[7],[7],[23],[]⟩,⟨[5],[5],[24],[]⟩,⟨[23,24],[],[25],[]⟩,⟨[21,22],[1000],[26],[]⟩,⟨[26,25],[1000],[],[1000]⟩] (.cons (cf0 rfl) (.cons (cf0 rfl) (.cons (cfT rfl rfl (b9 (by first | exact C6 _ | exact E5 _ _)) rfl (fun _ h=>by cases h)) (.cons (cfT rfl rfl (b9 (by first | exact C6 _ | exact E5 _ _)) rfl (fun _ h=>by cases h)) (.cons (cf0 rfl) (.cons (cf0 rfl) (.cons (cf0 rfl) (.cons (cf0 rfl) (.cons (cfT rfl rfl (b9 (by first | exact C6 _ | exact E5 _ _)) rfl (fun _ h=>by cases h)) (.cons (cfT rfl rfl (b9 (by first | exact C6 _ | exact E5 _ _)) rfl (b9 (by first | exact C6 _ | exact E5 _ _)))  .nil)))))))))) rfl (frS [] [_,_] (E2 h2 (m.set i (scl v c k))) rfl rfl) dC,(show y4 _ _ _ _ _ from exw (sl:=[(0,_),(1,_),(5,_),(11,_),(12,_),(13,_)]) (hb:=(5,_) :: ((J2 s (m.set i (scl v c (k+1)))))) t6 ⟨rfl,(hbS [_,_] rfl h2 hi ((j0w ((scl v c k).getD k 0*c) oM).trans (by rw [B1b hk2])) sM)⟩ ?_)⟩
  refine C3 (sw (I3 L (w64 oM oM)) t2 t0 (mV L rfl (R1 ?_)))
  exact ⟨k+1,oM,by omega,B3 ⟨oR,rfl,rfl,rfl,rfl,rfl,trivial⟩ ⟨rfl,(hbT [_] (E2 h2 (m.set i (scl v c (k+1)))) rfl)⟩⟩
 ·have hc2:=df hc2
  refine K2 ?_
  refine ⟨.inl rfl,Z4.cast .nil ?_,(by rw [← K1g,show v.length=k by omega]; exact hbT [_] (E2 h2 _) rfl)⟩
  rfl
def tak (v u:List Rat)(c:Rat)(k:Nat):List Rat:=(List.zipWith (fun a b=>a - c*b) v u).take k++v.drop k
theorem p0d {v u:List Rat}(c:Rat)(k:Nat)(h:u.length=v.length):(tak v u c k).length=v.length:=by simp [tak]; omega
theorem M1c {v u:List Rat}{c:Rat}{k:Nat}(h:k<v.length)(hu:u.length=v.length):(tak v u c k).getD k 0=v.getD k 0:=by
 simp only [tak,f0]
 rw [D0 sO]
 congr 1; simp; congr 1; omega
theorem Y0n {v u:List Rat}{c:Rat}{k:Nat}(h:k<v.length)(hu:u.length=v.length):(tak v u c k).set k ((tak v u c k).getD k 0 - c*u.getD k 0)=tak v u c (k+1):=by
 rw [M1c h hu,tak,tak,List.set_append,if_neg sO]
 have e:k - ((List.zipWith (fun a b=>a - c*b) v u).take k).length=0:=by simp; omega
 rw [e,J1,List.append_assoc]
 have e2:(List.drop k v).set 0 (v.getD k 0 - c*u.getD k 0)=(v.getD k 0 - c*u.getD k 0) :: List.drop (k+1) v:=by
  rw [List.drop_eq_getElem_cons h,List.set_cons_zero]
 have e3:(List.zipWith (fun a b=>a - c*b) v u)[k]?.toList=[v.getD k 0 - c*u.getD k 0]:=by
  have h2:k<u.length:=by omega
  simp [List.getElem?_zipWith,f0,h,h2]
 rw [e2,e3]; rfl
theorem w1z {v u:List Rat}{c:Rat}{k:Nat}(h:k<v.length)(hu:u.length=v.length)(h0:u.getD k 0=0):tak v u c k=tak v u c (k+1):=by
 rw [← Y0n h hu,h0,Rat.mul_zero,show ∀ x:Rat,x - 0=x from fun x=>by grind]
 have hl:=p0d (v:=v) (u:=u) c k hu
 simp [f0,show k<(tak v u c k).length by omega]
theorem M1s {v u:List Rat}{c:Rat}(hu:u.length=v.length):tak v u c v.length=List.zipWith (fun a b=>a - c*b) v u:=by
 simp [tak,C0,hu]
theorem D1c {v u:List Rat}{c:Rat}:tak v u c 0=v:=by simp [tak]
theorem W1h (a:Rat):n0f a 0=0↔a=0:=by
 unfold n0f
 constructor
 ·intro h
  split at h
  ·cases h
  ·split at h
   ·cases h
   ·rename_i h1 h2; exact Rat.le_antisymm (Rat.not_lt.1 h2) (Rat.not_lt.1 h1)
 ·rintro rfl; simp [Rat.lt_irrefl]
theorem T6 (a:Rat)(ha:qw a<1000000000):y3 E 65 [pQ a] (bZ (decide (a=0))):=by
 refine F2 (xs:=[bZ (decide (a=0))]) Tryz.func65 rfl Tryz.ntmps65 Tryz.results65 sM fun F hG hX0 hnt hdf P0=>?_
 obtain ⟨L,hX,hN⟩:=pro hnt hX0 hG
 refine exr (swb (X3 (k:=1) (n:=4) pa4 rfl rfl (P0 _ rfl) L) t1 t0 ⟨rfl,rfl⟩ (aV L rfl (zn [(1,_)] [(1,_)] t1 t1 (exr (lp4 ag47 sz47 L rfl rfl (cK hG hX cl108 hN (F0r a ha) L t1 (sw (c_e L) t2 t0 (aV L rfl (zn [(2,_)] [] t1 trivial (Y1 ?_))))))))))
 refine Q0 (.tmp rfl) ?_
 rw [show decide (n0f a 0=0)=decide (a=0) from decide_eq_decide.2 (W1h a)]
theorem s7 (n:Int)(h : -9223372036854775808≤n)(h1:n<9223372036854775808):y3 E 55 [vZ n] (pQ (n:Rat)):=by
 refine F2 (xs:=[pQ (n:Rat)]) Tryz.func55 rfl Tryz.ntmps55 Tryz.results55 sM fun F hG hX0 hnt hdf P0=>?_
 obtain ⟨L,hX,hN⟩:=pro hnt hX0 hG
 refine exr (swb (Y3 (k:=2) (n:=4) zv47 (.cons rfl (.cons rfl (.cons rfl (.cons rfl .nil)))) rfl (P0 _ rfl) L) t0 t0 ⟨rfl,rfl⟩ (zn [(0,_),(2,_)] [(2,_)] t2 t1 (exr (mV L rfl (cK hG hX cl101 hN (Q0d n h h1) L t1 (cK hG hX cl100 hN (B0k n) L t1 (sb (Z2 sz47 rF pa4 rfl pu4) t2 t1 ?_)))))))
 refine zn [(2,_)] [(2,_)] t1 t1 (Y1 ?_)
 refine Q0 (.agg rfl rfl rfl ag47 sz47 (.cons (.cons (.cons (.cons .nil))))) ?_
 rfl
@[reducible] def bQ (a:Rat):Blk:=⟨47,4,.mix [.p (.a (.bool (decide (a.num<0)))),.p (.sl (D3 a.num.natAbs).length (M4 (D3 a.num.natAbs))),.p (.a (.bool (decide ((a.den:Int)<0)))),.p (.sl (D3 (a.den:Int).natAbs).length (M4 (D3 (a.den:Int).natAbs)))]⟩
def M8 (v:List Rat):Rat:=v.foldl (· + ·) 0
theorem K0y (v:List Rat)(a:Rat):M8 (v++[a])=M8 v+a:=by simp [M8]
theorem N0x {v:List Rat}{k:Nat}(h:k<v.length):M8 (v.take (k+1))=M8 (v.take k)+v.getD k 0:=by
 rw [J1,show v[k]?.toList=[v.getD k 0] by simp [f0,h],K0y]
theorem f1x {B:Nat}:∀ {v:List Rat},(∀ a∈v,qw a≤B)→qw (M8 v)≤v.length*(B+1)+1:=by
 intro v
 suffices h:∀ (n:Nat) (l:List Rat),l.length=n→(∀ a∈l,qw a≤B)→qw (M8 l)≤l.length*(B+1)+1 from h _ v rfl
 intro n
 induction n with
 | zero=>intro l hl _; rw [E0 hl]; simp [M8,d0y]
 | succ n ih =>
  intro l hl hB
  obtain ⟨l',a,rfl⟩:∃ l' a,l=l'++[a]:=⟨l.dropLast,l.getLast (by intro e; simp [e] at hl),(List.dropLast_concat_getLast _).symm⟩
  simp only [L1,E1,List.length_nil] at hl
  have h1:=ih l' oM (fun b hb=>hB b (by simp [hb]))
  have h2:=hB a sM
  have h3:=G1r (M8 l') a
  rw [K0y,L1,E1,List.length_nil,Nat.add_mul]
  omega
theorem B0p {B:Nat}{v:List Rat}{k:Nat}(h:∀ a∈v,qw a≤B):qw (M8 (v.take k))≤v.length*(B+1)+1:=by
 have h1:=f1x (v:=v.take k) (B:=B) fun a ha=>h a (List.mem_of_mem_take ha)
 have h2:(v.take k).length*(B+1)≤v.length*(B+1):=V0 _ sO
 omega
theorem q0x (v:List Rat)(B:Nat)(hl:v.length<1000000000)(hB:∀ a∈v,qw a≤B)(hb:v.length*(B+1)+1<900000000):y3 E 68 [pV v] (pQ (M8 v)):=by
 refine F2 (xs:=[pQ (M8 v)]) Tryz.func68 rfl Tryz.ntmps68 Tryz.results68 sM fun F hG hX0 hnt hdf P0=>?_
 obtain ⟨L,hX,hN⟩:=pro hnt hX0 hG
 have hBB:∀ a∈v,qw a<1000000000:=fun a ha=>by
  have h1:=hB a ha
  have h2:0<v.length:=List.length_pos_of_mem ha
  have h3:1*(B+1)≤v.length*(B+1):=V0 _ h2
  omega
 refine exr (swb (Y3 (k:=2) (n:=4) zv47 (.cons rfl (.cons rfl (.cons rfl (.cons rfl .nil)))) rfl (P0 _ rfl) L) t0 t0 ⟨rfl,rfl⟩ (zn [(0,_),(2,_)] [(2,_)] t2 t1 (exr (cK hG hX cl55 hN (s7 0 dC dC) L t1 (swb (Y3 (k:=3) (n:=4) zv47 (.cons rfl (.cons rfl (.cons rfl (.cons rfl .nil)))) rfl (P0 _ rfl) L) t0 t0 ⟨rfl,rfl⟩ (sb (Z2 sz47 rF pa4 rfl pu4) t2 t1 ?_))))))
 refine zn [(0,_),(2,_),(3,_)] [(2,_),(3,_)] t3 t2 (T1 (exr (mV L rfl (sw (X2 un40 L) t1 t0 (mV L rfl (zn [(2,_),(3,_),(7,_),(8,_),(9,_)] [(2,_),(3,_)] t5 t2 (X1 ?_)))))))
 refine exl (α:=Nat) (fun k=>[(9,vi (k:Int))]) (fun k=>[(3,bQ (M8 (v.take k)))]) (fun k=>k≤v.length) (fun k=>v.length - k) (0) (sl:=[(2,_),(3,_),(7,_),(8,_)]) (hb:=[(2,_)]) ?_ ⟨oR,rfl,rfl,rfl,rfl,trivial⟩ t2 ?_
 ·exact Nat.zero_le _
 intro k hk
 refine exr (sw (Z3 L) t2 t0 (zn [(2,_),(3,_),(7,_),(8,_),(9,_),(10,_)] [(2,_),(3,_)] t6 t2 (T1 ?_)))
 refine D2 rfl (fun hc=>?_) (fun hc=>?_)
 ·have hc:=dt hc
  have hkl:k<v.length:=by omega
  have hq:=B0p (k:=k) hB
  refine V1 (xq ?_)
  refine T1 (X1 (exr (sw (y2 un40 sz47 oM oM sM dC L) t2 t0 ?_)))
  refine sw (Y6 ag47 sz47 (X6 hkl) rfl L) t1 t0 (swb (Y3 (k:=5) (n:=4) zv47 (.cons rfl (.cons rfl (.cons rfl (.cons rfl .nil)))) rfl (P0 _ rfl) L) t0 t0 ⟨rfl,rfl⟩ (sb (Z2 sz47 rF pa4 rfl pu4) t2 t1 ?_))
  refine zn [(2,_),(3,_),(5,_),(7,_),(8,_),(9,_)] [(2,_),(3,_),(5,_)] t6 t3 (C3 (lp4 ag47 sz47 L rfl rfl (lp4 ag47 sz47 L rfl rfl (cK hG hX cl112 hN (N0n (M8 (v.take k)) (v.getD k 0) oM (hBB _ (v4 hkl))) L t2 (sb (Z2 sz47 rF pa4 rfl pu4) t2 t1 ?_)))))
  refine R1 (C3 (sw (I3 L (w64 oM oM)) t2 t0 (mV L rfl (R1 ?_))))
  exact ⟨k+1,oM,by omega,B3 ⟨oR,rfl,rfl,rfl,rfl,trivial⟩ ⟨obl rfl (by rw [N0x hkl]),rfl,trivial⟩⟩
 ·have hc:=df hc
  refine K2 (xq ?_)
  refine exr (lp4 ag47 sz47 L rfl rfl (sb (Z2 sz47 rF pa4 rfl pu4) t2 t1 ?_))
  refine zn [(2,_)] [(2,_)] t1 t1 (Y1 ?_)
  refine Q0 (.agg rfl rfl rfl ag47 sz47 (.cons (.cons (.cons (.cons .nil))))) ?_
  rw [C0 oM]
theorem hbI {S:St}{l l':List (Nat×Blk)}(e:l=l')(h:O5 S l'):O5 S l:=e ▸ h
@[reducible] def p1n (k:Nat):List Rat→PV
 | []=>.p (.a (.slice none 0 0))
 | a :: v=>.ref k 0 (a :: v).length ((a :: v).length*4)
@[reducible] def p1p (k:Nat):List Rat→List (Nat×Blk)
 | []=>[]
 | a :: v=>[(k,⟨47,4,.pure (X5 (a :: v))⟩)]
theorem b0q (v:List Rat)(a:Rat):(⟨47,4,.pure (X5 v++cQ a)⟩:Blk)=j4 (v++[a]):=by rw [j4,q0a]; simp [X5]
def K0c (u v:List Rat):List Rat:=((List.zip u v).filter fun p=>decide (p.1≠0∧p.2≠0)).map fun p=>p.1*p.2
def Z8 (u v:List Rat):Rat:=M8 (K0c u v)
theorem m0b {u v:List Rat}:(K0c u v).length≤u.length:=by
 unfold K0c; rw [O0]
 refine Nat.le_trans (List.length_filter_le _ _) ?_
 simp; omega
theorem N0j {u v:List Rat}{k:Nat}(h:k<u.length)(hv:u.length=v.length):K0c (u.take (k+1)) v=K0c (u.take k) v++(if u.getD k 0≠0∧v.getD k 0≠0 then [u.getD k 0*v.getD k 0] else []):=by
 have h2:k<v.length:=by omega
 have e:List.zip (u.take (k+1)) v=List.zip (u.take k) v++[(u.getD k 0,v.getD k 0)]:=by
  apply List.ext_getElem?
  intro i
  rw [List.getElem?_append]
  simp only [List.zip,List.getElem?_zipWith,List.length_zipWith,J0,List.getElem?_take]
  by_cases h3:i<k
  ·rw [if_pos oM,if_pos oM,if_pos oM]
  ·rw [if_neg (show ¬ i<min (min k u.length) v.length by omega)]
   by_cases h4:i=k
   ·subst h4
    rw [if_pos oM]
    have:i - min (min i u.length) v.length=0:=by omega
    rw [this]; simp [f0,h,h2]
   ·rw [if_neg oM]
    obtain ⟨m,hm⟩:∃ m,i - min (min k u.length) v.length=m+1:=⟨i - min (min k u.length) v.length - 1,by omega⟩
    rw [hm]; rfl
 unfold K0c
 rw [e,List.filter_append,List.map_append]
 congr 1
 by_cases hc:u.getD k 0≠0∧v.getD k 0≠0
 ·rw [if_pos hc,List.filter_cons_of_pos (by simpa using hc)]; rfl
 ·rw [if_neg hc,List.filter_cons_of_neg (by simpa using hc)]; rfl
theorem P0z {B C:Nat}{u v:List Rat}(hB:∀ a∈u,qw a≤B)(hC:∀ a∈v,qw a≤C):∀ a∈K0c u v,qw a≤B+C:=by
 intro a ha
 simp only [K0c,G0,List.mem_filter] at ha
 obtain ⟨p,⟨h1,-⟩,rfl⟩:=ha
 have h2:=List.of_mem_zip (a:=p.1) (b:=p.2) h1
 have:=m9 p.1 p.2
 have:=hB _ h2.1
 have:=hC _ h2.2
 omega
theorem H0v (u v:List Rat)(B C:Nat)(huv:u.length=v.length)(hl:u.length<1000000000)(hB:∀ a∈u,qw a≤B)(hC:∀ a∈v,qw a≤C)(hBl:B<1000000000)(hCl:C<1000000000)(hb:u.length*(B+C+1)+1<900000000):y3 E 70 [pV u,pV v] (pQ (Z8 u v)):=by
 refine F2 (xs:=[pQ (Z8 u v)]) Tryz.func70 rfl Tryz.ntmps70 Tryz.results70 sM fun F hG hX0 hnt hdf P0=>?_
 obtain ⟨L,hX,hN⟩:=pro hnt hX0 hG
 refine exr (swb (Y3 (k:=4) (n:=4) zv47 (.cons rfl (.cons rfl (.cons rfl (.cons rfl .nil)))) rfl (P0 _ rfl) L) t0 t0 ⟨rfl,rfl⟩ (zn [(0,_),(1,_),(4,_)] [(4,_)] t3 t1 (exr (aV L rfl (zn [(0,_),(1,_),(4,_),(5,_)] [(4,_)] t4 t1 (T1 (exr (mV L rfl (sw (X2 un40 L) t1 t0 (mV L rfl (zn [(1,_),(4,_),(5,_),(8,_),(9,_),(10,_)] [(4,_)] t6 t1 ?_)))))))))))
 refine X1 ?_
 refine exl (α:=(Nat×List Rat)) (fun x=>[(10,vi (x.1:Int)),(5,p1n 34 x.2)]) (fun x=>[]++p1p 34 x.2) (fun x=>x.1≤u.length∧K0c (u.take x.1) v=x.2) (fun x=>u.length - x.1) ((0,[])) (sl:=[(1,_),(4,_),(8,_),(9,_)]) (hb:=[(4,_)]) ?_ ⟨oR,oR,rfl,rfl,rfl,rfl,trivial⟩ (hbI (l':=[(4,_)]) rfl t1) ?_
 ·exact ⟨Nat.zero_le _,rfl⟩
 intro x hk
 obtain ⟨k,T⟩:=x
 obtain ⟨hk,hT⟩:=hk
 simp only at hk hT
 rcases T with _ | ⟨q,T⟩
 ·dsimp only [p1n,p1p,List.append_nil]
  refine exr (sw (Z3 L) t2 t0 (zn [(1,_),(4,_),(5,_),(8,_),(9,_),(10,_),(11,_)] [(4,_)] t7 t1 (T1 ?_)))
  refine D2 rfl (fun hc=>?_) (fun hc=>?_)
  ·have hc:=dt hc
   have hk2:k<u.length:=by omega
   have hk3:k<v.length:=by omega
   have ht:=N0j hk2 huv
   have b1:qw (u.getD k 0)≤B:=hB _ (v4 hk2)
   have b2:qw (v.getD k 0)≤C:=hC _ (v4 hk3)
   refine V1 (xq ?_)
   refine T1 (X1 (exr (mV L rfl (sw (y2 un40 sz47 oM oM sM dC L) t2 t0 ?_))))
   refine sw (Y6 ag47 sz47 (X6 hk2) rfl L) t1 t0 (swb (Y3 (k:=7) (n:=4) zv47 (.cons rfl (.cons rfl (.cons rfl (.cons rfl .nil)))) rfl (P0 _ rfl) L) t0 t0 ⟨rfl,rfl⟩ (aV L rfl (sb (Z2 sz47 rF pa4 rfl pu4) t2 t1 ?_)))
   refine zn [(1,_),(4,_),(5,_),(6,_),(7,_),(8,_),(9,_),(10,_)] [(4,_),(7,_)] t8 t2 ?_
   refine exm (sl:=[(25,vb (decide (u.getD k 0≠0∧v.getD k 0≠0)))]) (sl0:=[(1,_),(4,_),(5,_),(6,_),(7,_),(8,_),(9,_),(10,_)]) (hb:=[]) (hb0:=[(4,_),(7,_)]) t8 t2 ?_ ?_
   ·by_cases h0:u.getD k 0=0
    ·refine lp4 ag47 sz47 L rfl rfl (cK hG hX cl65 hN (T6 (u.getD k 0) oM) L t1 (sw (P3 L) t1 t0 (mV L rfl (swn (g:=18) rfl (by rw [h0]; rfl) L rfl ?_))))
     refine swn (g:=18) rfl (by rw [h0]; rfl) L rfl ?_
     refine swn (g:=18) rfl (by rw [h0]; rfl) L rfl ?_
     refine swn (g:=18) rfl (by rw [h0]; rfl) L rfl ?_
     refine swn (g:=18) rfl (by rw [h0]; rfl) L rfl ?_
     refine swn (g:=18) rfl (by rw [h0]; rfl) L rfl ?_
     refine sw (U3 (by rw [h0]; rfl) L) t2 t0 ?_
     exact R1 ⟨⟨ob rfl (by simp only [h0]; rfl),rfl,rfl,rfl,rfl,rfl,rfl,rfl,rfl,trivial⟩,t2⟩
    ·refine lp4 ag47 sz47 L rfl rfl (cK hG hX cl65 hN (T6 (u.getD k 0) oM) L t1 (sw (P3 L) t1 t0 (mV L rfl (gV (g:=18) rfl (by simp only [h0]; rfl) L rfl rfl ?_))))
     refine gV (g:=18) rfl (by simp only [h0]; rfl) L rfl rfl ?_
     refine swg (g:=18) rfl (by simp only [h0]; rfl) (y2 un40 sz47 oM oM sM dC L) rfl t2 t0 ?_
     refine swg (g:=18) rfl (by simp only [h0]; rfl) (Y6 ag47 sz47 (X6 hk3) rfl L) rfl t1 t0 ?_
     refine swg (g:=18) rfl (by simp only [h0]; rfl) (c_c hG hX cl65 rfl hN (T6 (v.getD k 0) oM) L) rfl t1 t0 ?_
     refine swg (g:=18) rfl (by simp only [h0]; rfl) (P3 L) rfl t1 t0 ?_
     refine sw (m4 (by simp only [h0]; rfl) L) t2 t0 ?_
     exact R1 ⟨⟨ob rfl (by rw [decide_eq_decide.2 (show (¬ (v.getD k 0=0))↔(u.getD k 0≠0∧v.getD k 0≠0) from ⟨fun h=>⟨h0,h⟩,fun h=>h.2⟩).symm]; exact (decide_not).symm),rfl,rfl,rfl,rfl,rfl,rfl,rfl,rfl,trivial⟩,t2⟩
   refine D2 rfl (fun h1=>?_) (fun h1=>?_)
   ·have h1:=dt h1
    rw [if_pos h1,hT] at ht
    refine d0d rF ?_
    refine mV L rfl (lp4 ag47 sz47 L rfl rfl (mV L rfl (mV L rfl (sw (y2 un40 sz47 oM oM sM dC L) t2 t0 ?_))))
    refine sw (Y6 ag47 sz47 (X6 hk3) rfl L) t1 t0 (cK hG hX cl67 hN (F8 (u.getD k 0) (v.getD k 0) oM oM) L t2 (sw (E4 (vs:=[_]) un40 ti47 rfl rfl dC dC rfl (M2 (.cons rfl (.cons rfl (.cons rfl (.cons rfl .nil)))) rfl) rfl (.cons rfl pa4 rfl pu4 .nil) (.cons (.cons (.cons (.cons .nil)))) L) t1 t0 (swb (apN (k:=34) (sz:=4) un40 un40 ti47 rfl rfl rfl dC sM rfl (by first | (simp [Tryz.t47]; done) | (simp [Tryz.t47]; omega)) oM (P0 _ rfl) L) t2 t0 ⟨rfl,rfl⟩ ?_)))
    refine aV L rfl ?_
    refine R1 ⟨aok rfl rfl,?_⟩
    refine C3 (sw (I3 L (w64 oM oM)) t2 t0 (mV L rfl (R1 ?_)))
    exact ⟨(k+1,[u.getD k 0*v.getD k 0]),⟨by simp only; omega,ht⟩,(by simp only; omega),B3 ⟨oR,oR,rfl,rfl,rfl,rfl,trivial⟩ (hbI (l':=[(34,_),(4,_)]) rfl t2)⟩
   ·have h1:=df h1
    rw [if_neg h1,hT,List.append_nil] at ht
    refine V1 (xq ?_)
    refine C3 (sw (I3 L (w64 oM oM)) t2 t0 (mV L rfl (R1 ?_)))
    exact ⟨(k+1,[]),⟨by simp only; omega,ht⟩,(by simp only; omega),B3 ⟨oR,oR,rfl,rfl,rfl,rfl,trivial⟩ (hbI (l':=[(4,_)]) rfl t1)⟩
  ·have hc:=df hc
   have hku:k=u.length:=by omega
   rw [hku,I0] at hT
   refine K2 (xq ?_)
   refine G4 [] (sl:=[(4,_),(5,_)]) (hb:=[(4,_)]) (M3 hX0) ⟨⟨_,rfl,.same⟩,⟨_,rfl,(.p .nil)⟩,trivial⟩ ⟨⟨rfl,_,rfl,.same⟩,trivial⟩ (exr (mV L rfl (cK hG hX cl68 hN (q0x [] (B+C) (by rw [← hT]; have:=m0b (u:=u) (v:=v); omega) (by rw [← hT]; exact P0z hB hC) (by rw [← hT]; have:=V0 (B+C+1) (m0b (u:=u) (v:=v)); omega)) L t1 ?_)))
   refine sb (Z2 sz47 rF pa4 rfl pu4) t2 t1 ?_
   refine zn [(4,_)] [(4,_)] t1 t1 (Y1 ?_)
   refine Q0 (.agg rfl rfl rfl ag47 sz47 (.cons (.cons (.cons (.cons .nil))))) ?_
   rw [Z8,hT]
 ·dsimp only [p1n,p1p]
  have hTl:T.length+1≤u.length:=by
   have h1:=m0b (u:=u.take k) (v:=v)
   rw [hT] at h1; simp at h1; omega
  have hTl2:(q :: T).length≤u.length:=hTl
  refine exr (sw (Z3 L) t2 t0 (zn [(1,_),(4,_),(5,_),(8,_),(9,_),(10,_),(11,_)] [(4,_),(34,_)] t7 t2 (T1 ?_)))
  refine D2 rfl (fun hc=>?_) (fun hc=>?_)
  ·have hc:=dt hc
   have hk2:k<u.length:=by omega
   have hk3:k<v.length:=by omega
   have ht:=N0j hk2 huv
   have b1:qw (u.getD k 0)≤B:=hB _ (v4 hk2)
   have b2:qw (v.getD k 0)≤C:=hC _ (v4 hk3)
   refine V1 (xq ?_)
   refine T1 (X1 (exr (mV L rfl (sw (y2 un40 sz47 oM oM sM dC L) t2 t0 ?_))))
   refine sw (Y6 ag47 sz47 (X6 hk2) rfl L) t1 t0 (swb (Y3 (k:=7) (n:=4) zv47 (.cons rfl (.cons rfl (.cons rfl (.cons rfl .nil)))) rfl (P0 _ rfl) L) t0 t0 ⟨rfl,rfl⟩ (aV L rfl (sb (Z2 sz47 rF pa4 rfl pu4) t2 t1 ?_)))
   refine zn [(1,_),(4,_),(5,_),(6,_),(7,_),(8,_),(9,_),(10,_)] [(4,_),(7,_),(34,_)] t8 t3 ?_
   refine exm (sl:=[(25,vb (decide (u.getD k 0≠0∧v.getD k 0≠0)))]) (sl0:=[(1,_),(4,_),(5,_),(6,_),(7,_),(8,_),(9,_),(10,_)]) (hb:=[]) (hb0:=[(4,_),(7,_),(34,_)]) t8 t3 ?_ ?_
   ·by_cases h0:u.getD k 0=0
    ·refine lp4 ag47 sz47 L rfl rfl (cK hG hX cl65 hN (T6 (u.getD k 0) oM) L t1 (sw (P3 L) t1 t0 (mV L rfl (swn (g:=18) rfl (by rw [h0]; rfl) L rfl ?_))))
     refine swn (g:=18) rfl (by rw [h0]; rfl) L rfl ?_
     refine swn (g:=18) rfl (by rw [h0]; rfl) L rfl ?_
     refine swn (g:=18) rfl (by rw [h0]; rfl) L rfl ?_
     refine swn (g:=18) rfl (by rw [h0]; rfl) L rfl ?_
     refine swn (g:=18) rfl (by rw [h0]; rfl) L rfl ?_
     refine sw (U3 (by rw [h0]; rfl) L) t2 t0 ?_
     exact R1 ⟨⟨ob rfl (by simp only [h0]; rfl),rfl,rfl,rfl,rfl,rfl,rfl,rfl,rfl,trivial⟩,t3⟩
    ·refine lp4 ag47 sz47 L rfl rfl (cK hG hX cl65 hN (T6 (u.getD k 0) oM) L t1 (sw (P3 L) t1 t0 (mV L rfl (gV (g:=18) rfl (by simp only [h0]; rfl) L rfl rfl ?_))))
     refine gV (g:=18) rfl (by simp only [h0]; rfl) L rfl rfl ?_
     refine swg (g:=18) rfl (by simp only [h0]; rfl) (y2 un40 sz47 oM oM sM dC L) rfl t2 t0 ?_
     refine swg (g:=18) rfl (by simp only [h0]; rfl) (Y6 ag47 sz47 (X6 hk3) rfl L) rfl t1 t0 ?_
     refine swg (g:=18) rfl (by simp only [h0]; rfl) (c_c hG hX cl65 rfl hN (T6 (v.getD k 0) oM) L) rfl t1 t0 ?_
     refine swg (g:=18) rfl (by simp only [h0]; rfl) (P3 L) rfl t1 t0 ?_
     refine sw (m4 (by simp only [h0]; rfl) L) t2 t0 ?_
     exact R1 ⟨⟨ob rfl (by rw [decide_eq_decide.2 (show (¬ (v.getD k 0=0))↔(u.getD k 0≠0∧v.getD k 0≠0) from ⟨fun h=>⟨h0,h⟩,fun h=>h.2⟩).symm]; exact (decide_not).symm),rfl,rfl,rfl,rfl,rfl,rfl,rfl,rfl,trivial⟩,t3⟩
   refine D2 rfl (fun h1=>?_) (fun h1=>?_)
   ·have h1:=dt h1
    rw [if_pos h1,hT] at ht
    refine d0d rF ?_
    refine mV L rfl (lp4 ag47 sz47 L rfl rfl (mV L rfl (mV L rfl (sw (y2 un40 sz47 sM (by simp; trace_state; omega) sM dC L) t2 t0 ?_))))
    refine sw (Y6 ag47 sz47 (X6 hk3) rfl L) t1 t0 (cK hG hX cl67 hN (F8 (u.getD k 0) (v.getD k 0) oM oM) L t2 (sw (E4 (vs:=[_]) un40 ti47 rfl rfl dC dC rfl (M2 (.cons rfl (.cons rfl (.cons rfl (.cons rfl .nil)))) rfl) rfl (.cons rfl pa4 rfl pu4 .nil) (.cons (.cons (.cons (.cons .nil)))) L) t1 t0 (swb (apP (sz:=4) un40 un40 ti47 rfl rfl rfl dC (by exact sM) oF sM rfl rfl rfl (by first | (simp [Tryz.t47]; done) | (simp [Tryz.t47]; omega)) oM (P0 _ rfl) L) t2 t1 t0 ?_)))
    refine aV L rfl ?_
    refine R1 ⟨i5 [⟨[5],[],[26],[]⟩,⟨[7],[7],[27],[]⟩,⟨[1],[],[28],[]⟩,⟨[6],[],[29],[]⟩,⟨[28,29],[],[30],[]⟩,⟨[30],[],[31],[]⟩,⟨[27,31],[],[32],[]⟩,⟨[32],[],[33],[]⟩,⟨[26,33],[34],[34],[34]⟩,⟨[34],[],[5],[]⟩] rF rF dC,?_⟩
    refine C3 (sw (I3 L (w64 oM oM)) t2 t0 (mV L rfl (R1 ?_)))
    exact ⟨(k+1,q :: T++[u.getD k 0*v.getD k 0]),⟨by simp only; omega,ht⟩,(by simp only; omega),B3 ⟨oR,(by exact ov rfl sO),rfl,rfl,rfl,rfl,trivial⟩ (hbI (l':=[(34,_),(4,_)]) rfl ⟨(obl rfl (b0q (q :: T) _)),rfl,trivial⟩)⟩
   ·have h1:=df h1
    rw [if_neg h1,hT,List.append_nil] at ht
    refine V1 (xq ?_)
    refine C3 (sw (I3 L (w64 oM oM)) t2 t0 (mV L rfl (R1 ?_)))
    exact ⟨(k+1,q :: T),⟨by simp only; omega,ht⟩,(by simp only; omega),B3 ⟨oR,oR,rfl,rfl,rfl,rfl,trivial⟩ (hbI (l':=[(34,_),(4,_)]) rfl t2)⟩
  ·have hc:=df hc
   have hku:k=u.length:=by omega
   rw [hku,I0] at hT
   refine K2 (xq ?_)
   refine G4 [34] (sl:=[(4,_),(5,_)]) (hb:=[(4,_)]) (M3 hX0) ⟨⟨_,rfl,.same⟩,⟨_,rfl,(.ref rfl rfl (by exact sM) (by first | rfl | omega))⟩,trivial⟩ ⟨⟨rfl,_,rfl,.same⟩,trivial⟩ ?_
   refine exr (mV L rfl (cK hG hX cl68 hN (q0x (q :: T) (B+C) (by rw [← hT]; have:=m0b (u:=u) (v:=v); omega) (by rw [← hT]; exact P0z hB hC) (by rw [← hT]; have:=V0 (B+C+1) (m0b (u:=u) (v:=v)); omega)) L t1 ?_))
   refine sb (Z2 sz47 rF pa4 rfl pu4) t2 t1 ?_
   refine zn [(4,_)] [(4,_)] t1 t1 (Y1 ?_)
   refine Q0 (.agg rfl rfl rfl ag47 sz47 (.cons (.cons (.cons (.cons .nil))))) ?_
   rw [Z8,hT]
theorem b1q (v:List Rat)(hl:v.length<1000000000):B0w E 89 [pV v] 47 4 v.length (X5 v):=by
 refine q0b (k:=3) (tot:=v.length*4) Tryz.func89 rfl Tryz.ntmps89 Tryz.results89 sM fun F hG hX0 hnt hdf P0=>?_
 obtain ⟨L,hX,hN⟩:=pro hnt hX0 hG
 refine exr (aV L rfl (zn [(0,_)] [] t1 trivial (exr (swb (g0c (k:=3) (sz:=4) un40 ti47 (P0 _ rfl) L) t0 t0 ⟨rfl,rfl⟩ (mV L rfl (swb (apP (sz:=4) un40 un40 ti47 rfl rfl rfl dC rX oF sM rfl rfl rfl (by simp [Tryz.t47]; omega) oM (P0 _ rfl) L) t2 t1 t0 ?_))))))
 refine aV L rfl ?_
 refine R1 ⟨[(2,.ref 3 0 v.length (v.length*4))],[(3,_)],⟨ov rfl sM,trivial⟩,t1,?_⟩
 refine Y1 ?_
 refine ⟨.inr rfl,rfl,_,rfl,by simp,?_,by simp⟩
 rw [C0 sM]; rfl
def zq (n:Nat):List Rat:=List.replicate n 0
@[simp] theorem b0h (n:Nat):(zq n).length=n:=by simp [zq]
theorem V0n (n:Nat):zq (n+1)=zq n++[0]:=by simp [zq,List.replicate_succ']
def zc0:List O2:=[.a (.bool false),.a (.slice none 0 0),.a (.bool false),.a (.slice none 0 0)]
theorem w1n (n:Nat)(z:List O2):e9 (n+1) z=z++e9 n z:=by simp [e9,List.replicate_succ]
theorem w0d {v:List Rat}{n k:Nat}(hv:v.length=k)(h:k<n)(a:Rat):(X5 v++e9 (n - k) zc0).take (k*4)++cQ a++(X5 v++e9 (n - k) zc0).drop (k*4+4)=X5 (v++[a])++e9 (n - (k+1)) zc0:=by
 have e:(X5 v).length=k*4:=by rw [i3,hv]
 obtain ⟨m,hm⟩:∃ m,n - k=m+1:=⟨n - k - 1,by omega⟩
 rw [hm,show n - (k+1)=m by omega,w1n]
 rw [List.take_append_of_le_length oM,C0 oM,← List.append_assoc (X5 v),List.drop_append,List.drop_eq_nil_of_le (by rw [L1,e]; simp [zc0])]
 have e2:k*4+4 - (X5 v++zc0).length=0:=by rw [L1,e]; simp [zc0]
 rw [e2,q0a]
 simp [X5]
theorem Z6 {v:List Rat}{n k:Nat}(hv:v.length=k)(h:k≤n):(X5 v++e9 (n - k) zc0).length=n*4:=by
 rw [L1,i3,I9,hv]; simp only [zc0,E1,List.length_nil]; omega
theorem n0k (n:Nat)(hn:n<1000000000):B0w E 54 [vZ n] 47 4 n (X5 (zq n)):=by
 refine q0b (k:=6) (tot:=n*4) Tryz.func54 rfl Tryz.ntmps54 Tryz.results54 sM fun F hG hX0 hnt hdf P0=>?_
 obtain ⟨L,hX,hN⟩:=pro hnt hX0 hG
 refine exr (aV L rfl (zn [(0,_)] [] t1 trivial (exr (mV L rfl (swb (j6 (sz:=4) (k:=6) un40 ti47 rfl rfl dC rfl rfl rfl rfl rfl (Nat.le_refl _) (by simp [Tryz.t47]; omega) oM (P0 _ rfl) L) t2 t0 ⟨rfl,rfl⟩ ?_)))))
 refine aV L rfl (zn [(3,_)] [(6,_)] t1 t1 (T1 (exr (mV L rfl (sw (v0b un40 (by exact (I9 _ _)) L) t1 t1 ?_)))))
 refine mV L rfl (zn [(3,_),(8,_),(9,_)] [(6,_)] t3 t1 (X1 ?_))
 refine exl (α:=Nat) (fun k=>[(9,vi (k:Int))]) (fun k=>[(6,⟨47,4,.pure (X5 (zq k)++e9 (n - k) zc0)⟩)]) (fun k=>k≤n) (fun k=>n - k) (0) (sl:=[(3,_),(8,_)]) (hb:=[]) ?_ ⟨oR,rfl,rfl,trivial⟩ t1 ?_
 ·exact Nat.zero_le _
 intro k hk
 refine exr (sw (Z3 L) t2 t0 (zn [(3,_),(8,_),(9,_),(10,_)] [(6,_)] t4 t1 (T1 ?_)))
 refine D2 rfl (fun hc=>?_) (fun hc=>?_)
 ·have hc:=dt hc
  refine V1 (xq ?_)
  refine T1 (X1 (exr (mV L rfl (aV L rfl (zn [(3,_),(4,_),(8,_),(9,_)] [(6,_)] t4 t1 (C3 (mV L rfl (mV L rfl (cK hG hX cl55 hN (s7 0 dC dC) L t1 (sw (n0g (sz:=4) un40 sz47 (by exact (Z6 (b0h _) hk)) (j:=k) rO oM L) t2 t1 ?_))))))))))
  refine sb (D0c (n:=4) sz47 (by exact (Z6 (b0h _) hk)) rfl oM) t2 t1 ?_
  refine R1 (C3 (sw (I3 L (w64 oM oM)) t2 t0 (mV L rfl (R1 ?_))))
  exact ⟨k+1,oM,by omega,B3 ⟨oR,rfl,rfl,trivial⟩ ⟨obl rfl (congrArg (fun c=>(⟨47,4,.pure c⟩:Blk)) ((w0d (b0h k) (show k<n by omega) 0).trans (by rw [V0n]))),trivial⟩⟩
 ·have hc:=df hc
  refine K2 (xq ?_)
  refine exr (mV L rfl (aV L rfl (zn [(2,_)] [(6,_)] t1 t1 (Y1 ?_))))
  refine ⟨.inr rfl,rfl,_,rfl,(Z6 (b0h _) hk),?_,by simp⟩
  have e:k=n:=by omega
  subst e
  simp [e9,C0]
theorem d1g {p:Nat→Bool}{i b:Nat}(h:i<b):C4 p i (b - i)=if p i=true then (i:Int) else C4 p (i+1) (b - (i+1)):=by
 obtain ⟨m,hm⟩:∃ m,b - i=m+1:=⟨b - i - 1,by omega⟩
 rw [hm,show b - (i+1)=m by omega]; rfl
theorem l9 (g:FuncId)(caps:List PV)(H:List (Nat×Blk))(hnd:(H.map (·.1)).Nodup)(hw:Whole H)(hcall:∀ args w,(callFunc g args).run E.P w = .ok (.enter g args) w)(p:Nat→Bool)(a b:Nat)(hb:b<9000000000000)(hg:∀ i:Nat,a≤i→i<b→T4 E (fun _=>true) g (List.cons (.p (vZ i)) caps) H H (.p (bZ (p i)))):T4 E (fun _=>true) 52 [.p (vZ a),.p (vZ b),.clo (.func g) [] caps] (H) (H) (.p (vZ (C4 p a (b - a)))):=by
 refine D4 (xs:=[vZ (C4 p a (b - a))]) Tryz.func52 rfl Tryz.ntmps52 Tryz.results52 sM fun F G=>?_
 have L:=@lti _ _ G.nt
 have hG:=G.g
 have hX:=G.x
 have hN:=i6 hG
 refine exr (aV L rfl ?_)
 refine R1 ⟨[(0,_),(1,_),(2,_)],H,t3,(C5 (l:=H) hnd (fun _ _ h=>h)),?_⟩
 refine T1 (exr (mV L rfl (aV L rfl ?_)))
 refine R1 ⟨[(1,_),(2,_),(7,_)],H,t3,(C5 (l:=H) hnd (fun _ _ h=>h)),?_⟩
 refine X1 ?_
 refine K0m (α:=Nat) (fun i=>[(7,vi (i:Int))]) (fun i=>[]) (fun i=>H) (fun i=>a≤i∧C4 p i (b - i)=C4 p a (b - a)) (fun i=>b - i) (a) (sl:=[(1,_),(2,_)]) (hb:=[]) ?_ ⟨oR,rfl,rfl,trivial⟩ (C5 (l:=H) hnd (fun _ _ h=>h)) ?_
 ·exact ⟨Nat.le_refl _,rfl⟩
 intro i hi
 obtain ⟨hi,hI⟩:=hi
 refine T1 (exr (mV L rfl (mV L rfl (sw (Z3 L) t2 t0 ?_))))
 refine R1 ⟨[(1,_),(2,_),(7,_),(11,_)],H,t4,(C5 (l:=H) hnd (fun _ _ h=>h)),?_⟩
 refine D2 rfl (fun hc=>?_) (fun hc=>?_)
 ·have hc:=dt hc
  have hib:i<b:=by omega
  rw [d1g hib] at hI
  refine V1 (xq ?_)
  refine T1 (X1 (exr (mV L rfl (mV L rfl (sw (v6 hG hX hN (hg i hi hib) rfl L (C7 (fst:=[]) (ys:=[_]) (cap:=caps) hcall rfl rfl) hnd hw (fun q h=>by cases h)) t2 (U7 (C5 hnd fun _ _ h=>h)) ?_)))))
  refine R1 ⟨[(1,_),(2,_),(7,_),(16,_)],H,t4,(C5 (l:=H) hnd (fun _ _ h=>h)),?_⟩
  refine D2 rfl (fun hp=>?_) (fun hp=>?_)
  ·rw [if_pos hp] at hI
   refine exr (mV L rfl (aV L rfl ?_))
   refine R1 ⟨[(6,_)],H,t1,(C5 (l:=H) hnd (fun _ _ h=>h)),?_⟩
   refine Y1 ?_
   refine ⟨.inr rfl,Z4.cast (.cons (.tmp rfl) .nil) ?_,(C5 (l:=H) hnd (fun _ _ h=>h))⟩
   rw [← hI]
  ·rw [hp,if_neg Bool.false_ne_true] at hI
   refine V1 (xq ?_)
   refine C3 (mV L rfl (sw (I3 L (w64 oM oM)) t2 t0 (aV L rfl (R1 ?_))))
   exact ⟨i+1,⟨by omega,hI⟩,by omega,B3 ⟨oR,rfl,rfl,trivial⟩ (C5 (l:=H) hnd (fun _ _ h=>h))⟩
 ·have hc:=df hc
  have e:b - i=0:=by omega
  rw [e] at hI
  refine K2 (xq ?_)
  refine exr (aV L rfl ?_)
  refine R1 ⟨[(6,_)],H,t1,(C5 (l:=H) hnd (fun _ _ h=>h)),?_⟩
  refine Y1 ?_
  refine ⟨.inr rfl,Z4.cast (.cons (.tmp rfl) .nil) ?_,(C5 (l:=H) hnd (fun _ _ h=>h))⟩
  rw [← hI]; rfl
structure RQ where
 m:Bool
 ws:List Int
 n:Bool
 vs:List Int
instance:Inhabited RQ:=⟨⟨false,[],false,[]⟩⟩
def RQ.of (a:Rat):RQ:=⟨decide (a.num<0),D3 a.num.natAbs,decide ((a.den:Int)<0),D3 (a.den:Int).natAbs⟩
def RQ.is (r:RQ):Bool:=U2 r.m r.ws && (U2 r.n r.vs && decide (0<sg r.n (val r.vs)∧(Int.gcd (sg r.m (val r.ws)) (sg r.n (val r.vs)):Int)=1))
def RQ.wd (r:RQ):Prop:=Wd r.ws∧Wd r.vs
theorem N1n (n:Int):sg (decide (n<0)) (val (D3 n.natAbs))=n:=by
 rw [V4]; unfold sg; split <;> rename_i h <;> simp at h <;> omega
theorem RQ.is_of (a:Rat):(RQ.of a).is=true:=by
 simp only [RQ.is,RQ.of,O3,N1n,Bool.true_and,decide_eq_true_eq]
 refine ⟨by exact_mod_cast a.den_pos,?_⟩
 have:=a.reduced
 unfold Nat.Coprime at this
 unfold Int.gcd
 exact_mod_cast this
theorem RQ.of_is {r:RQ}(h:r.wd)(hi:r.is=true):∃ a:Rat,r=RQ.of a:=by
 obtain ⟨m,ws,n,vs⟩:=r
 simp only [RQ.is,j0,decide_eq_true_eq] at hi
 obtain ⟨h1,h2,h3,h4⟩:=hi
 obtain ⟨e1,e2⟩:=g0h h.1 h1
 obtain ⟨e3,e4⟩:=g0h h.2 h2
 simp only at e1 e2 e3 e4
 refine ⟨⟨sg m (val ws),(sg n (val vs)).natAbs,by omega,?_⟩,?_⟩
 ·unfold Int.gcd at h4; exact_mod_cast h4
 ·have e5:(((sg n (val vs)).natAbs:Nat):Int)=sg n (val vs):=by omega
  simp only [RQ.of,e5,e1,e2,e3,e4]
@[reducible] def cR (r:RQ):List O2:=[.a (.bool r.m),.sl r.ws.length (M4 r.ws),.a (.bool r.n),.sl r.vs.length (M4 r.vs)]
def v0r:List RQ→List O2
 | []=>[]
 | a :: v=>cR a++v0r v
@[simp] theorem B0s:∀ v:List RQ,(v0r v).length=v.length*4
 | []=>rfl
 | a :: v=>by simp only [v0r,L1,B0s v,cR,E1,List.length_nil]; omega
theorem n1m:∀ {v:List RQ}{i:Nat},i<v.length→((v0r v).drop (i*4)).take 4=cR (v.getD i default)
 | [],i,h=>by simp at h
 | a :: v,0,_=>by simp [v0r,cR]
 | a :: v,i+1,h=>by
  have:=n1m (v:=v) (i:=i) (by simpa using h)
  rw [show (i+1)*4=i*4+1+1+1+1 by omega]
  simp only [v0r,cR,M1,List.nil_append,List.drop_succ_cons,List.getD_cons_succ]
  exact this
theorem k1x:∀ v:List Rat,v0r (v.map RQ.of)=X5 v
 | []=>rfl
 | a :: v=>by simp only [R0,v0r,X5,k1x v]; rfl
@[reducible] def pVR (v:List RQ):O2:=.sl v.length (v0r v)
theorem g0p (v:List Rat):pVR (v.map RQ.of)=pV v:=by rw [pVR,pV,k1x,O0]
theorem B1h {r:RQ}(hw:r.wd)(hl:r.ws.length<1000000000)(hl2:r.vs.length<1000000000):y3 E 107 [.agg (cR r)] (bZ r.is):=by
 obtain ⟨m,ws,n,vs⟩:=r
 by_cases h:U2 m ws=true∧U2 n vs=true
 ·obtain ⟨e1,e2⟩:=g0h hw.1 h.1
  obtain ⟨e3,e4⟩:=g0h hw.2 h.2
  have:=Y1h (sg m (val ws)) (sg n (val vs)) (by unfold nw; simp only at e2 hl; rw [e2]; exact hl) (by unfold nw; simp only at e4 hl2; rw [e4]; exact hl2)
  rw [pN,e1,e2,e3,e4] at this
  rw [RQ.is,show U2 (RQ.mk m ws n vs).m (RQ.mk m ws n vs).ws=true from h.1,show U2 (RQ.mk m ws n vs).n (RQ.mk m ws n vs).vs=true from h.2]
  exact this
 ·have:=W1m m n ws vs hl hl2 h
  have e:(RQ.mk m ws n vs).is=false:=by
   rw [RQ.is,Bool.eq_false_iff]; simp only [j0,ne_eq]; exact fun hh=>h ⟨hh.1,hh.2.1⟩
  rw [e]; exact this
theorem n1j {r:RQ}(hw:r.wd)(hl:r.ws.length<1000000000)(hl2:r.vs.length<1000000000):y3 E 36 [.agg (cR r)] (bZ r.is):=by
 obtain ⟨m,ws,n,vs⟩:=r
 by_cases h:U2 m ws=true∧U2 n vs=true
 ·obtain ⟨e1,e2⟩:=g0h hw.1 h.1
  obtain ⟨e3,e4⟩:=g0h hw.2 h.2
  have:=Q1s (sg m (val ws)) (sg n (val vs)) (by unfold nw; simp only at e2 hl; rw [e2]; exact hl) (by unfold nw; simp only at e4 hl2; rw [e4]; exact hl2)
  rw [pN,e1,e2,e3,e4] at this
  rw [RQ.is,show U2 (RQ.mk m ws n vs).m (RQ.mk m ws n vs).ws=true from h.1,show U2 (RQ.mk m ws n vs).n (RQ.mk m ws n vs).vs=true from h.2]
  exact this
 ·have:=M1y m n ws vs hl hl2 h
  have e:(RQ.mk m ws n vs).is=false:=by
   rw [RQ.is,Bool.eq_false_iff]; simp only [j0,ne_eq]; exact fun hh=>h ⟨hh.1,hh.2.1⟩
  rw [e]; exact this
def RQ.sm (r:RQ):Prop:=r.wd∧r.ws.length<1000000000∧r.vs.length<1000000000
theorem RQ.sm_of {a:Rat}(h:qw a<1000000000):(RQ.of a).sm:=by
 have h1:=P4 a
 have h2:=q5 a
 exact ⟨⟨V3 _,V3 _⟩,by show nw a.num<_; omega,by show nw (a.den:Int)<_; omega⟩
theorem gD {v:List RQ}{i:Nat}(h:i<v.length):v.getD i default∈v:=by simp [f0,h]
@[reducible] def bV (v:List RQ):List (Nat×Blk):=[(1,⟨40,1,.mix [.p (pVR v)]⟩)]
theorem D0k (v:List RQ)(i:Nat)(hi:i<v.length)(hl:v.length<1000000000)(hs:∀ r∈v,r.sm):T4 E (fun _=>true) 106 [.p (vZ i),.at_ 1 0 1] (bV v) (bV v) (.p (bZ (!(v.getD i default).is))):=by
 refine D4 (xs:=[bZ (!(v.getD i default).is)]) Tryz.func106 rfl Tryz.ntmps106 Tryz.results106 sM fun F G=>?_
 have L:=@lti _ _ G.nt
 have hG:=G.g
 have hX:=G.x
 have hN:=i6 hG
 have P0:=G.p0
 have hr:=hs _ (gD hi)
 refine exr (aV L rfl (zn [(0,_),(1,_)] [(1,_)] t2 t1 (exr (sw (Z1 ag40 rF rF L) t1 t1 ?_))))
 refine mV L rfl (sw (y2 un40 sz47 oM oM sM dC L) t2 t0 ?_)
 refine sw (Y6 ag47 sz47 (n1m hi) rfl L) t1 t0 (cK hG hX cl107 hN (B1h hr.1 hr.2.1 hr.2.2) L t1 (sw (P3 L) t1 t0 (aV L rfl (zn [(3,_)] [(1,_)] t1 t1 (Y1 ?_)))))
 refine ⟨.inr rfl,Z4.cast (.cons (.tmp rfl) .nil) ?_,t1⟩
 rfl
theorem n0n {p:Nat→Bool}:∀ {n a:Nat},(C4 p a n<0)↔(List.range' a n).all (fun i=>!p i)=true
 | 0,a=>by simp [C4]
 | n+1,a=>by
  simp only [C4,List.range'_succ,List.all_cons]
  by_cases h:p a=true
  ·simp [h]
  ·simp only [Bool.not_eq_true] at h
   rw [h,if_neg Bool.false_ne_true,n0n]; simp
theorem l8 {H:List (Nat×Blk)}(h:(H.all fun p=>p.2.cs.only (H.map (·.1)))=true):Whole H:=by
 intro j B hj i x hx q hq
 rw [s0] at h
 have h1:=PV.only_mem (Cells.only_get (h _ (R3 hj)) hx) hq
 obtain ⟨p,hp,e⟩:=G0.1 h1
 intro hn
 rw [List.lookup_eq_none_iff] at hn
 have:=hn p hp
 simp [e] at this
theorem p1m {p:RQ→Bool}{v:List RQ}:((List.range' 0 v.length).all fun i=>p (v.getD i default))=v.all p:=by
 rw [← List.range_eq_range']
 induction v with
 | nil=>rfl
 | cons a v ih =>
  rw [E1,List.range_succ_eq_map,List.all_cons,List.all_map,List.all_cons]
  simp only [List.getD_cons_zero,Function.comp_def,List.getD_cons_succ]
  rw [← ih]
theorem j1j {p:RQ→Bool}{v:List RQ}:decide (C4 (fun i=>!p (v.getD i default)) 0 (v.length - 0)<0)=v.all p:=by
 rw [Bool.eq_iff_iff,decide_eq_true_iff,n0n,Nat.sub_zero]
 simp only [Bool.not_not]
 rw [p1m]
theorem n5 (v:List RQ)(hl:v.length<1000000000)(hs:∀ r∈v,r.sm):y3 E 64 [pVR v] (bZ (v.all RQ.is)):=by
 refine F2 (xs:=[bZ (v.all RQ.is)]) Tryz.func64 rfl Tryz.ntmps64 Tryz.results64 sM fun F hG hX0 hnt hdf P0=>?_
 obtain ⟨L,hX,hN⟩:=pro hnt hX0 hG
 have hcl:=fun i (h:0≤i) (hi:i<v.length)=>D0k v i hi hl hs
 refine exr (swb (X3 (k:=1) (n:=1) .sl rfl rfl (P0 _ rfl) L) t1 t0 ⟨rfl,rfl⟩ (aV L rfl (zn [(1,_)] [(1,_)] t1 t1 (exr (sw (Z1 ag40 rF rF L) t1 t1 ?_)))))
 refine sw (X2 un40 L) t1 t0 (sw (w0v (vs:=[]) (us:=[_]) rfl rfl L) t1 t0 (sw (v6 hG hX hN (l9 106 [.at_ 1 0 1] (bV v) sM (l8 rfl) cl106 _ 0 v.length oM hcl) rfl L (l5 (ys:=[_,_,_]) cl52 rfl rfl) sM (l8 rfl) (fun q h=>by cases h)) t3 t1 ?_))
 refine sw (Z3 L) t2 t0 (aV L rfl (zn [(2,_)] [] t1 trivial (Y1 ?_)))
 refine Q0 (.tmp rfl) ?_
 rw [← j1j]
def f0z (m:List (List RQ)):List O2:=m.map pVR
@[simp] theorem V0y (m:List (List RQ)):(f0z m).length=m.length:=by simp [f0z]
@[reducible] def pMR (c:Int)(m:List (List RQ)):O2:=.agg [vZ c,.sl m.length (f0z m)]
theorem h0w {m:List (List RQ)}{i:Nat}(h:i<m.length):(f0z m)[i]? = some (pVR (m.getD i [])):=by
 simp [f0z,h,f0]
theorem gDL {α:Type}{v:List (List α)}{i:Nat}(h:i<v.length):v.getD i []∈v:=by simp [f0,h]
@[reducible] def bM (c:Int)(m:List (List RQ)):List (Nat×Blk):=[(1,⟨24,2,.mix [.p (vZ c),.p (.sl m.length (f0z m))]⟩)]
def d0c (c:Int)(r:List RQ):Bool:=decide ((r.length:Int)=c) && r.all RQ.is
def MSm (m:List (List RQ)):Prop:=m.length<1000000000∧∀ r∈m,r.length<1000000000∧∀ a∈r,a.sm
theorem B1j (c:Int)(m:List (List RQ))(i:Nat)(hi:i<m.length)(hm:MSm m):T4 E (fun _=>true) 85 [.p (vZ i),.at_ 1 0 2] (bM c m) (bM c m) (.p (bZ (!d0c c (m.getD i [])))):=by
 refine D4 (xs:=[bZ (!d0c c (m.getD i []))]) Tryz.func85 rfl Tryz.ntmps85 Tryz.results85 sM fun F G=>?_
 have L:=@lti _ _ G.nt
 have hG:=G.g
 have hX:=G.x
 have hN:=i6 hG
 have P0:=G.p0
 have hr:=hm.2 _ (gDL hi)
 have hl:=hm.1
 refine exr (aV L rfl (zn [(0,_),(1,_)] [(1,_)] t2 t1 ?_))
 refine Y1x (sl:=[(3,vb (!d0c c (m.getD i [])))]) (sl0:=[]) (hb:=[]) (hb0:=[(1,_)]) rF t0 t1 ?_ ?_
 ·by_cases h:((m.getD i []).length:Int)=c
  ·refine sw (j2 un24 rfl sz22 dC rX L) t1 t1 ?_
   refine sw (Z1 ag22 rF rF L) t1 t1 ?_
   refine mV L rfl (sw (ixJ un22 sz40 (j:=i) rO oM sM L) t2 t0 ?_)
   refine sw (s4 ag40 (h0w hi) L) t1 t0 (sw (X2 un40 L) t1 t0 (sw (j2 un24 rfl sz3 dC rX L) t1 t1 ?_))
   refine sw (Z1 ag3 rF rF L) t1 t1 ?_
   refine sw (c_n L) t2 t0 (mV L rfl (swg (g:=13) rfl (by rw [h]; simp) (j2 un24 rfl sz22 dC rX L) rfl t1 t1 ?_))
   refine swg (g:=13) rfl (by rw [h]; simp) (Z1 ag22 rF rF L) rfl t1 t1 ?_
   refine gV (g:=13) rfl (by rw [h]; simp) L rfl rfl ?_
   refine swg (g:=13) rfl (by rw [h]; simp) (ixJ un22 sz40 (j:=i) rO oM sM L) rfl t2 t0 ?_
   refine swg (g:=13) rfl (by rw [h]; simp) (s4 ag40 (h0w hi) L) rfl t1 t0 ?_
   refine swg (g:=13) rfl (by rw [h]; simp) (c_c hG hX cl64 rfl hN (n5 (m.getD i []) hr.1 hr.2) L) rfl t1 t0 ?_
   refine swg (g:=13) rfl (by rw [h]; simp) (P3 L) rfl t1 t0 ?_
   refine sw (U3 (by rw [h]; simp) L) t2 t0 ?_
   refine aV L rfl ?_
   exact R1 ⟨i5 [⟨[1],[1],[4],[]⟩,⟨[4],[1],[5],[]⟩,⟨[0],[],[6],[]⟩,⟨[5,6],[],[7],[]⟩,⟨[7],[],[8],[]⟩,⟨[8],[],[9],[]⟩,⟨[1],[1],[10],[]⟩,⟨[10],[1],[11],[]⟩,⟨[9,11],[],[12],[]⟩,⟨[12],[],[13],[]⟩,⟨[13,1],[1],[14],[]⟩,⟨[13,14],[1],[15],[]⟩,⟨[13,0],[],[16],[]⟩,⟨[13,15,16],[],[17],[]⟩,⟨[13,17],[],[18],[]⟩,⟨[13,18],[],[19],[]⟩,⟨[13,19],[],[20],[]⟩,⟨[13,20],[],[21],[]⟩,⟨[21],[],[3],[]⟩] rF rF dC,⟨ob rfl (by rw [d0c,h]; simp),trivial⟩,t1⟩
  ·refine sw (j2 un24 rfl sz22 dC rX L) t1 t1 ?_
   refine sw (Z1 ag22 rF rF L) t1 t1 ?_
   refine mV L rfl (sw (ixJ un22 sz40 (j:=i) rO oM sM L) t2 t0 ?_)
   refine sw (s4 ag40 (h0w hi) L) t1 t0 (sw (X2 un40 L) t1 t0 (sw (j2 un24 rfl sz3 dC rX L) t1 t1 ?_))
   refine sw (Z1 ag3 rF rF L) t1 t1 ?_
   refine sw (c_n L) t2 t0 (mV L rfl (swn (g:=13) rfl (by rw [decide_eq_false h]) L rfl ?_))
   refine swn (g:=13) rfl (by rw [decide_eq_false h]) L rfl ?_
   refine swn (g:=13) rfl (by rw [decide_eq_false h]) L rfl ?_
   refine swn (g:=13) rfl (by rw [decide_eq_false h]) L rfl ?_
   refine swn (g:=13) rfl (by rw [decide_eq_false h]) L rfl ?_
   refine swn (g:=13) rfl (by rw [decide_eq_false h]) L rfl ?_
   refine swn (g:=13) rfl (by rw [decide_eq_false h]) L rfl ?_
   refine sw (m4 (by rw [decide_eq_false h]; rfl) L) t2 t0 ?_
   refine aV L rfl ?_
   exact R1 ⟨i5 [⟨[1],[1],[4],[]⟩,⟨[4],[1],[5],[]⟩,⟨[0],[],[6],[]⟩,⟨[5,6],[],[7],[]⟩,⟨[7],[],[8],[]⟩,⟨[8],[],[9],[]⟩,⟨[1],[1],[10],[]⟩,⟨[10],[1],[11],[]⟩,⟨[9,11],[],[12],[]⟩,⟨[12],[],[13],[]⟩,⟨[13],[],[14],[]⟩,⟨[13],[],[15],[]⟩,⟨[13],[],[16],[]⟩,⟨[13],[],[17],[]⟩,⟨[13],[],[18],[]⟩,⟨[13],[],[19],[]⟩,⟨[13],[],[20],[]⟩,⟨[13],[],[21],[]⟩,⟨[21],[],[3],[]⟩] rF rF dC,⟨ob rfl (by rw [d0c,decide_eq_false h]; rfl),trivial⟩,t1⟩
 refine Y1 ?_
 refine ⟨.inr rfl,Z4.cast (.cons (.tmp rfl) .nil) ?_,t1⟩
 rfl
def isM (c:Int)(m:List (List RQ)):Bool:=decide (m.length≤400∧0≤c∧c≤60) && m.all (d0c c)
theorem h1r {p:List RQ→Bool}{v:List (List RQ)}:((List.range' 0 v.length).all fun i=>p (v.getD i []))=v.all p:=by
 rw [← List.range_eq_range']
 induction v with
 | nil=>rfl
 | cons a v ih =>
  rw [E1,List.range_succ_eq_map,List.all_cons,List.all_map,List.all_cons]
  simp only [List.getD_cons_zero,Function.comp_def,List.getD_cons_succ]
  rw [← ih]
theorem W0z {p:List RQ→Bool}{v:List (List RQ)}:decide (C4 (fun i=>!p (v.getD i [])) 0 (v.length - 0)<0)=v.all p:=by
 rw [Bool.eq_iff_iff,decide_eq_true_iff,n0n,Nat.sub_zero]
 simp only [Bool.not_not]
 rw [h1r]
theorem H9 (c:Int)(m:List (List RQ))(hm:MSm m):y3 E 40 [pMR c m] (bZ (isM c m)):=by
 refine F2 (xs:=[bZ (isM c m)]) Tryz.func40 rfl Tryz.ntmps40 Tryz.results40 sM fun F hG hX0 hnt hdf P0=>?_
 obtain ⟨L,hX,hN⟩:=pro hnt hX0 hG
 have hl:=hm.1
 have hcl:=fun i (h:0≤i) (hi:i<m.length)=>B1j c m i hi hm
 refine exr (swb (X3 (k:=1) (n:=2) pa2 rfl rfl (P0 _ rfl) L) t1 t0 ⟨rfl,rfl⟩ (aV L rfl (zn [(1,_)] [(1,_)] t1 t1 (T1 ?_))))
 refine exm (sl:=[(16,vb (!decide (m.length≤400∧0≤c∧c≤60)))]) (sl0:=[(1,_)]) (hb:=[]) (hb0:=[(1,_)]) t1 t1 ?_ ?_
 ·rcases (by omega:400<m.length∨m.length≤400∧c<0∨m.length≤400∧0≤c) with h | h | h
  ·refine sw (j2 un24 rfl sz22 dC rX L) t1 t1 ?_
   refine sw (Z1 ag22 rF rF L) t1 t1 ?_
   refine sw (X2 un22 L) t1 t0 (sw (b7 L) t2 t0 (mV L rfl (swn (g:=7) rfl sO L rfl (swn (g:=7) rfl sO L rfl (swn (g:=7) rfl sO L rfl (sw (m4 sO L) t2 t0 (mV L rfl (swn (g:=12) rfl rfl L rfl (swn (g:=12) rfl rfl L rfl (swn (g:=12) rfl rfl L rfl (sw (m4 rfl L) t2 t0 ?_)))))))))))
   exact R1 ⟨⟨ob rfl sO,rfl,trivial⟩,t1⟩
  ·refine sw (j2 un24 rfl sz22 dC rX L) t1 t1 ?_
   refine sw (Z1 ag22 rF rF L) t1 t1 ?_
   refine sw (X2 un22 L) t1 t0 (sw (b7 L) t2 t0 (mV L rfl (swg (g:=7) rfl sO (j2 un24 rfl sz3 dC rX L) rfl t1 t1 ?_)))
   refine swg (g:=7) rfl sO (Z1 ag3 rF rF L) rfl t1 t1 ?_
   refine swg (g:=7) rfl sO (Z3 L) rfl t2 t0 (sw (U3 sO L) t2 t0 (mV L rfl (swn (g:=12) rfl sO L rfl (swn (g:=12) rfl sO L rfl (swn (g:=12) rfl sO L rfl (sw (m4 sO L) t2 t0 ?_))))))
   exact R1 ⟨⟨ob rfl sO,rfl,trivial⟩,t1⟩
  ·refine sw (j2 un24 rfl sz22 dC rX L) t1 t1 ?_
   refine sw (Z1 ag22 rF rF L) t1 t1 ?_
   refine sw (X2 un22 L) t1 t0 (sw (b7 L) t2 t0 (mV L rfl (swg (g:=7) rfl sO (j2 un24 rfl sz3 dC rX L) rfl t1 t1 ?_)))
   refine swg (g:=7) rfl sO (Z1 ag3 rF rF L) rfl t1 t1 ?_
   refine swg (g:=7) rfl sO (Z3 L) rfl t2 t0 (sw (U3 sO L) t2 t0 (mV L rfl (swg (g:=12) rfl sO (j2 un24 rfl sz3 dC rX L) rfl t1 t1 ?_)))
   refine swg (g:=12) rfl sO (Z1 ag3 rF rF L) rfl t1 t1 ?_
   refine swg (g:=12) rfl sO (b7 L) rfl t2 t0 (sw (U3 sO L) t2 t0 ?_)
   exact R1 ⟨⟨ob rfl (by rw [Bool.eq_iff_iff]; simp; omega),rfl,trivial⟩,t1⟩
 refine D2 rfl (fun hc=>?_) (fun hc=>?_)
 ·refine exr (aV L rfl (zn [(2,_)] [] t1 trivial (Y1 ?_)))
  refine Q0 (.tmp rfl) ?_
  simp only [isM]; rw [show decide (m.length≤400∧0≤c∧c≤60)=false by simpa only [Bool.not_eq_true'] using hc]; rfl
 ·refine V1 (xq ?_)
  refine exr (sw (j2 un24 rfl sz22 dC rX L) t1 t1 ?_)
  refine sw (Z1 ag22 rF rF L) t1 t1 ?_
  refine sw (X2 un22 L) t1 t0 (sw (w0v (vs:=[]) (us:=[_]) rfl rfl L) t1 t0 (sw (v6 hG hX hN (l9 85 [.at_ 1 0 2] (bM c m) sM (l8 rfl) cl85 _ 0 m.length oM hcl) rfl L (l5 (ys:=[_,_,_]) cl52 rfl rfl) sM (l8 rfl) (fun q h=>by cases h)) t3 t1 ?_))
  refine sw (Z3 L) t2 t0 (aV L rfl (zn [(2,_)] [] t1 trivial (Y1 ?_)))
  refine Q0 (.tmp rfl) ?_
  rw [isM,show decide (m.length≤400∧0≤c∧c≤60)=true by simpa only [Bool.not_eq_false'] using hc,Bool.true_and,← W0z]
@[reducible] def pMq (c:Int)(M:List (List Rat)):O2:=.agg [vZ c,.sl M.length (U5 M)]
theorem k0j (M:List (List Rat)):f0z (M.map (List.map RQ.of))=U5 M:=by
 simp only [f0z,U5,List.map_map,Function.comp_def,g0p]
theorem P0w (c:Int)(M:List (List Rat)):pMR c (M.map (List.map RQ.of))=pMq c M:=by rw [pMR,pMq,k0j,O0]
structure MOk (c:Nat) (M:List (List Rat)):Prop where
 rows:M.length≤400
 cols:c≤60
 len:∀ r∈M,r.length=c
def MB (B:Nat)(M:List (List Rat)):Prop:=∀ r∈M,∀ a∈r,qw a≤B
theorem MOk.get {c:Nat}{M:List (List Rat)}(h:MOk c M){i:Nat}(hi:i<M.length):(M.getD i []).length=c:=h.len _ (gDL hi)
theorem Q0n (v:List Rat):(v.map RQ.of).all RQ.is=true:=by
 rw [s0]; intro r hr
 obtain ⟨a,_,rfl⟩:=G0.1 hr
 exact RQ.is_of a
theorem F1r {c:Nat}{M:List (List Rat)}(h:MOk c M):isM c (M.map (List.map RQ.of))=true:=by
 rw [isM,j0,decide_eq_true_iff,s0]
 have:=h.rows; have:=h.cols
 refine ⟨⟨by simp; omega,by omega,by omega⟩,fun r hr=>?_⟩
 obtain ⟨v,hv,rfl⟩:=G0.1 hr
 rw [d0c,Q0n,O0,h.len v hv]; simp
theorem Q1z:∀ {r:List RQ},(∀ a∈r,a.sm)→r.all RQ.is=true→∃ v:List Rat,r=v.map RQ.of
 | [],_,_=>⟨[],rfl⟩
 | a :: r,hs,h=>by
  simp only [List.all_cons,j0] at h
  obtain ⟨q,hq⟩:=RQ.of_is (hs a sM).1 h.1
  obtain ⟨v,hv⟩:=Q1z (fun b hb=>hs b (by simp [hb])) h.2
  exact ⟨q :: v,by rw [hq,hv]; rfl⟩
theorem Y1b:∀ {m:List (List RQ)},(∀ r∈m,∀ a∈r,a.sm)→(m.all fun r=>r.all RQ.is)=true→∃ M:List (List Rat),m=M.map (List.map RQ.of)
 | [],_,_=>⟨[],rfl⟩
 | r :: m,hs,h=>by
  simp only [List.all_cons,j0] at h
  obtain ⟨v,hv⟩:=Q1z (hs r sM) h.1
  obtain ⟨M,hM⟩:=Y1b (fun b hb=>hs b (by simp [hb])) h.2
  exact ⟨v :: M,by rw [hv,hM]; rfl⟩
theorem Q1q {c:Int}{m:List (List RQ)}(hs:MSm m)(h:isM c m=true):∃ (k:Nat) (M:List (List Rat)),c=k∧m=M.map (List.map RQ.of)∧MOk k M:=by
 rw [isM,j0,decide_eq_true_iff,s0] at h
 obtain ⟨⟨h1,h2,h3⟩,h4⟩:=h
 obtain ⟨M,rfl⟩:=Y1b (fun r hr=>(hs.2 r hr).2) (by
  rw [s0]; intro r hr
  have:=h4 r hr
  rw [d0c,j0] at this; exact this.2)
 refine ⟨c.toNat,M,by omega,rfl,by simpa using h1,by omega,fun r hr=>?_⟩
 have:=h4 _ (List.mem_map_of_mem hr)
 rw [d0c,j0,decide_eq_true_iff,O0] at this
 omega
theorem B1v {c B:Nat}{M:List (List Rat)}(h:MOk c M)(hB:MB B M)(hb:B<1000000000):MSm (M.map (List.map RQ.of)):=by
 have:=h.rows; have:=h.cols
 refine ⟨by simp; omega,fun r hr=>?_⟩
 obtain ⟨v,hv,rfl⟩:=G0.1 hr
 refine ⟨by rw [O0,h.len v hv]; omega,fun a ha=>?_⟩
 obtain ⟨q,hq,rfl⟩:=G0.1 ha
 have:=hB v hv q hq
 exact RQ.sm_of oM
theorem g9 {c B:Nat}{M:List (List Rat)}(h:MOk c M)(hB:MB B M)(hb:B<1000000000):y3 E 40 [pMq c M] (bZ true):=by
 have:=H9 c _ (B1v h hB hb)
 rwa [F1r h,P0w] at this
@[reducible] def P0y (k:Nat):List (List Rat)→PV
 | []=>.p (.a (.slice none 0 0))
 | a :: v=>.ref k 0 (a :: v).length (a :: v).length
@[reducible] def Q0a (k:Nat):List (List Rat)→List (Nat×Blk)
 | []=>[]
 | a :: v=>[(k,⟨40,1,.pure (U5 (a :: v))⟩)]
theorem g0b (u v:List (List Rat)):U5 (u++v)=U5 u++U5 v:=by simp [U5]
theorem P1j (n:Nat)(T:List (List Rat))(v:List Rat)(h:v.length=n):(⟨40,1,.pure (U5 T++[.sl n (X5 v)])⟩:Blk)=⟨40,1,.pure (U5 (T++[v]))⟩:=by subst h; rw [g0b]; rfl
def w7 (M:List (List Rat))(j:Nat):List Rat:=M.map (·.getD j 0)
def trM (c:Nat)(M:List (List Rat)):List (List Rat):=(List.range c).map (w7 M)
theorem g0m {M:List (List Rat)}{j k:Nat}(h:k<M.length):w7 (M.take (k+1)) j=w7 (M.take k) j++[(M.getD k []).getD j 0]:=by
 rw [J1,show M[k]?.toList=[M.getD k []] by simp [f0,h],w7,List.map_append]; rfl
theorem b1r (j:Nat)(M:List (List Rat)):trM (j+1) M=trM j M++[w7 M j]:=by simp [trM,List.range_succ]
@[simp] theorem h1y (j:Nat)(M:List (List Rat)):(trM j M).length=j:=by simp [trM]
@[simp] theorem T7 (j:Nat)(M:List (List Rat)):(w7 M j).length=M.length:=by simp [w7]
def f0h (r:List Rat)(N:List (List Rat))(j:Nat):List Rat:=(List.range j).map fun k=>Z8 r (w7 N k)
def Q0h (d:Nat)(M N:List (List Rat)):List (List Rat):=M.map fun r=>f0h r N d
@[simp] theorem Y5 (r:List Rat)(N:List (List Rat))(j:Nat):(f0h r N j).length=j:=by simp [f0h]
theorem w0h {r:List Rat}{N:List (List Rat)}{j:Nat}:f0h r N j++[Z8 r (w7 N j)]=f0h r N (j+1):=by simp [f0h,List.range_succ]
@[simp] theorem W0n (d:Nat)(M N:List (List Rat)):(Q0h d M N).length=M.length:=by simp [Q0h]
theorem N0w {d:Nat}{M N:List (List Rat)}{i:Nat}(h:i<M.length):Q0h d (M.take (i+1)) N=Q0h d (M.take i) N++[f0h (M.getD i []) N d]:=by
 rw [J1,show M[i]?.toList=[M.getD i []] by simp [f0,h],Q0h,List.map_append]; rfl
theorem q1k {B d j:Nat}{N:List (List Rat)}(h:MB B N)(hj:j<d)(hl:∀ r∈N,r.length=d):∀ a∈w7 N j,qw a≤B:=by
 intro a ha
 obtain ⟨r,hr,rfl⟩:=G0.1 ha
 have h1:j<r.length:=by rw [hl r hr]; exact hj
 exact h r hr _ (v4 h1)
theorem q1m (c d B:Nat)(M N:List (List Rat))(h:MOk c M)(h2:MOk d N)(hB:MB B M)(hB2:MB B N)(hb:B<1000000)(hcN:c=N.length):y3 E 41 [pMq c M,pMq d N] (.tup [pMq d (Q0h d M N),vZ 0]):=by
 refine F2 (xs:=[pMq d (Q0h d M N),vZ 0]) Tryz.func41 rfl Tryz.ntmps41 Tryz.results41 sM fun F hG hX0 hnt hdf P0=>?_
 obtain ⟨L,hX,hN⟩:=pro hnt hX0 hG
 have hc60:=h.cols
 have hd60:=h2.cols
 have hr4:=h.rows
 have hr5:=h2.rows
 refine exr (swb (X3 (k:=2) (n:=2) pa2 rfl rfl (P0 _ rfl) L) t1 t0 ⟨rfl,rfl⟩ (swb (X3 (k:=3) (n:=2) pa2 rfl rfl (P0 _ rfl) L) t1 t0 ⟨rfl,rfl⟩ (swb (Y3 (k:=4) (n:=2) zv24 (.cons rfl (.cons rfl .nil)) rfl (P0 _ rfl) L) t0 t0 ⟨rfl,rfl⟩ (aV L rfl (zn [(2,_),(3,_),(4,_)] [(2,_),(3,_),(4,_)] t3 t3 (T1 (exr (lp2 ag24 sz24 L rfl rfl (cK hG hX cl40 hN (g9 h hB oM) L t1 (sw (P3 L) t1 t0 (mV L rfl ?_)))))))))))
 refine swg (g:=17) rfl rfl (R6 ag24 sz24 rF (by exact al2) rfl L) rfl t1 t1 ?_
 refine swg (g:=17) rfl rfl (c_c hG hX cl40 rfl hN (g9 h2 hB2 oM) L) rfl t1 t0 (swg (g:=17) rfl rfl (P3 L) rfl t1 t0 (sw (U3 rfl L) t2 t0 (zn [(2,_),(3,_),(4,_),(21,_)] [(2,_),(3,_),(4,_)] t4 t3 (T3 rfl rfl ?_))))
 refine V1 (xq ?_)
 refine T1 (exr (sw (j2 un24 rfl sz3 dC rX L) t1 t1 ?_))
 refine sw (Z1 ag3 rF rF L) t1 t1 ?_
 refine sw (j2 un24 rfl sz22 dC rX L) t1 t1 ?_
 refine sw (Z1 ag22 rF rF L) t1 t1 ?_
 refine sw (X2 un22 L) t1 t0 (sw (c_n L) t2 t0 (zn [(2,_),(3,_),(4,_),(28,_)] [(2,_),(3,_),(4,_)] t4 t3 (T3 rfl sO ?_)))
 refine V1 (xq ?_)
 refine exr (sw (j2 un24 rfl sz3 dC rX L) t1 t1 ?_)
 refine sw (Z1 ag3 rF rF L) t1 t1 ?_
 refine sw (L7 (vs:=[_]) un24 zv24 (.cons rfl (.cons rfl .nil)) ((L2.cons sz3 (L2.cons sz22 L2.nil))).to rfl (.cons rfl (.atom rfl) rfl pu1 .nil) (.cons (.cons .nil)) L) t1 t0 (swb (Y3 (k:=6) (n:=2) zv24 (.cons rfl (.cons rfl .nil)) rfl (P0 _ rfl) L) t0 t0 ⟨rfl,rfl⟩ (sb (Z2 sz24 rF pa2 rfl pu2) t2 t1 ?_))
 refine zn [(2,_),(3,_),(4,_),(6,_)] [(2,_),(3,_),(4,_),(6,_)] t4 t4 (T1 (exr (sw (j2 un24 rfl sz22 dC rX L) t1 t1 ?_)))
 refine sw (Z1 ag22 rF rF L) t1 t1 ?_
 refine sw (X2 un22 L) t1 t0 (mV L rfl (zn [(3,_),(4,_),(6,_),(34,_),(35,_),(36,_)] [(3,_),(4,_),(6,_)] t6 t3 (X1 ?_)))
 refine exl (α:=(Nat×List (List Rat))) (fun x=>[(36,vi (x.1:Int))]) (fun x=>[(6,⟨24,2,.mix [.p (vZ d),P0y 78 x.2]⟩)]++Q0a 78 x.2) (fun x=>x.1≤M.length∧Q0h d (M.take x.1) N=x.2) (fun x=>M.length - x.1) ((0,[])) (sl:=[(3,_),(4,_),(6,_),(34,_),(35,_)]) (hb:=[(3,_),(4,_)]) ?_ ⟨oR,rfl,rfl,rfl,rfl,rfl,trivial⟩ (hbI (l':=[(6,_),(3,_),(4,_)]) rfl t3) ?_
 ·exact ⟨Nat.zero_le _,rfl⟩
 intro x hx
 obtain ⟨i,T⟩:=x
 obtain ⟨hi,hT⟩:=hx
 simp only at hi hT
 rcases T with _ | ⟨q,T⟩
 ·dsimp only [P0y,Q0a,List.append_nil]
  refine exr (sw (Z3 L) t2 t0 (zn [(3,_),(4,_),(6,_),(34,_),(35,_),(36,_),(37,_)] [(3,_),(4,_),(6,_)] t7 t3 (T1 ?_)))
  refine D2 rfl (fun hc=>?_) (fun hc=>?_)
  ·have hc:=dt hc
   have hia:i<M.length:=by omega
   have ht:=N0w (N:=N) (d:=d) hia
   rw [hT] at ht
   have hrl:=h.get hia
   refine V1 (xq ?_)
   refine T1 (X1 (exr (sw (ixJ un22 sz40 (j:=i) rO oM sM L) t2 t0 ?_)))
   refine sw (s4 ag40 (j7 hia) L) t1 t0 (aV L rfl (zn [(3,_),(4,_),(6,_),(8,_),(34,_),(35,_),(36,_)] [(3,_),(4,_),(6,_)] t7 t3 (exr (sw (j2 un24 rfl sz3 dC rX L) t1 t1 ?_))))
   refine sw (Z1 ag3 rF rF L) t1 t1 ?_
   refine swb (j6 (sz:=4) (k:=42) un40 ti47 rfl rfl dC rfl rfl rfl rfl rfl (Nat.le_refl _) (by simp [Tryz.t47]; omega) oM (P0 _ rfl) L) t2 t0 ⟨rfl,rfl⟩ ?_
   refine aV L rfl ?_
   refine R1 ⟨[(3,_),(4,_),(6,_),(8,_),(9,_),(34,_),(35,_),(36,_)],[(3,_),(4,_),(6,_),(42,⟨47,4,.pure (X5 []++e9 (d - 0) zc0)⟩)],t8,t4,?_⟩
   refine T1 (exr (mV L rfl (sw (v0b un40 (by exact (I9 _ _)) L) t1 t1 ?_)))
   refine mV L rfl (zn [(3,_),(4,_),(6,_),(8,_),(9,_),(34,_),(35,_),(36,_),(44,_),(45,_)] [(3,_),(4,_),(6,_),(42,_)] t10 t4 (X1 ?_))
   refine exl (α:=Nat) (fun j=>[(45,vi (j:Int))]) (fun j=>[(42,⟨47,4,.pure (X5 (f0h (M.getD i []) N j)++e9 (d - j) zc0)⟩)]) (fun j=>j≤d) (fun j=>d - j) (0) (sl:=[(3,_),(4,_),(6,_),(8,_),(9,_),(34,_),(35,_),(36,_),(44,_)]) (hb:=[(3,_),(4,_),(6,_)]) ?_ ⟨oR,rfl,rfl,rfl,rfl,rfl,rfl,rfl,rfl,rfl,trivial⟩ t4 ?_
   ·exact Nat.zero_le _
   intro j hj
   refine exr (sw (Z3 L) t2 t0 (zn [(3,_),(4,_),(6,_),(8,_),(9,_),(34,_),(35,_),(36,_),(44,_),(45,_),(46,_)] [(3,_),(4,_),(6,_),(42,_)] t11 t4 (T1 ?_)))
   refine D2 rfl (fun he=>?_) (fun he=>?_)
   ·have he:=dt he
    have hjd:j<d:=by omega
    refine V1 (xq ?_)
    refine T1 (X1 (exr (mV L rfl (aV L rfl (zn [(3,_),(4,_),(6,_),(8,_),(9,_),(10,_),(34,_),(35,_),(36,_),(44,_),(45,_)] [(3,_),(4,_),(6,_),(42,_)] t11 t4 (exr (sw (j2 un24 rfl sz22 dC rX L) t1 t1 ?_)))))))
    refine sw (Z1 ag22 rF rF L) t1 t1 ?_
    refine sw (X2 un22 L) t1 t0 (swb (j6 (sz:=4) (k:=51) un40 ti47 rfl rfl dC rfl rfl rfl (show (0:Int)=((0:Nat):Int) from rfl) rfl (Nat.zero_le _) (by simp [Tryz.t47]; omega) oM (P0 _ rfl) L) t2 t0 ⟨rfl,rfl⟩ ?_)
    refine aV L rfl ?_
    refine R1 ⟨[(3,_),(4,_),(6,_),(8,_),(9,_),(10,_),(11,.ref 51 0 0 0),(34,_),(35,_),(36,_),(44,_),(45,_)],[(3,_),(4,_),(6,_),(42,_),(51,j4 [])],t12,t5,?_⟩
    refine T1 (exr (sw (j2 un24 rfl sz22 dC rX L) t1 t1 ?_))
    refine sw (Z1 ag22 rF rF L) t1 t1 ?_
    refine sw (X2 un22 L) t1 t0 (mV L rfl (zn [(3,_),(4,_),(6,_),(8,_),(9,_),(10,_),(11,_),(34,_),(35,_),(36,_),(44,_),(45,_),(53,_),(54,_),(55,_)] [(3,_),(4,_),(6,_),(42,_),(51,_)] t15 t5 (X1 ?_)))
    refine exl (α:=Nat) (fun k=>[(55,vi (k:Int)),(11,.ref 51 0 k (k*4))]) (fun k=>[(51,j4 (w7 (N.take k) j))]) (fun k=>k≤N.length) (fun k=>N.length - k) (0) (sl:=[(3,_),(4,_),(6,_),(8,_),(9,_),(10,_),(34,_),(35,_),(36,_),(44,_),(45,_),(53,_),(54,_)]) (hb:=[(3,_),(4,_),(6,_),(42,_)]) ?_ ⟨oR,oR,rfl,rfl,rfl,rfl,rfl,rfl,rfl,rfl,rfl,rfl,rfl,rfl,rfl,trivial⟩ t5 ?_
    ·exact Nat.zero_le _
    intro k hk
    refine exr (sw (Z3 L) t2 t0 (zn [(3,_),(4,_),(6,_),(8,_),(9,_),(10,_),(11,_),(34,_),(35,_),(36,_),(44,_),(45,_),(53,_),(54,_),(55,_),(56,_)] [(3,_),(4,_),(6,_),(42,_),(51,_)] t16 t5 (T1 ?_)))
    refine D2 rfl (fun hf=>?_) (fun hf=>?_)
    ·have hf:=dt hf
     have hk2:k<N.length:=by omega
     have hrl2:=h2.get hk2
     refine V1 (xq ?_)
     refine T1 (X1 (exr (sw (ixJ un22 sz40 (j:=k) rO oM sM L) t2 t0 ?_)))
     refine sw (s4 ag40 (j7 hk2) L) t1 t0 (aV L rfl (zn [(3,_),(4,_),(6,_),(8,_),(9,_),(10,_),(11,_),(13,_),(34,_),(35,_),(36,_),(44,_),(45,_),(53,_),(54,_),(55,_)] [(3,_),(4,_),(6,_),(42,_),(51,_)] t16 t5 (C3 (mV L rfl (mV L rfl (mV L rfl (sw (y2 un40 sz47 oM oM sM dC L) t2 t0 ?_)))))))
     refine sw (Y6 ag47 sz47 (X6 (show j<(N.getD k []).length by omega)) rfl L) t1 t0 ?_
     refine sw (E4 (vs:=[_]) un40 ti47 rfl rfl dC dC rfl (M2 (.cons rfl (.cons rfl (.cons rfl (.cons rfl .nil)))) rfl) rfl (.cons rfl pa4 rfl pu4 .nil) (.cons (.cons (.cons (.cons .nil)))) L) t1 t0 (swb (apP (sz:=4) un40 un40 ti47 rfl rfl rfl dC (by exact (by first | (simp; done) | (simp; omega))) oF sM rfl rfl rfl (by first | (simp [Tryz.t47]; done) | (simp [Tryz.t47]; omega)) oM (P0 _ rfl) L) t2 t1 t0 ?_)
     refine aV L rfl (R1 (C3 (sw (I3 L (w64 oM oM)) t2 t0 (mV L rfl (R1 ?_)))))
     exact ⟨k+1,oM,by omega,B3 ⟨oR,ov rfl sO,rfl,rfl,rfl,rfl,rfl,rfl,rfl,rfl,rfl,rfl,rfl,rfl,rfl,trivial⟩ ⟨obl rfl ((b0q _ _).trans (by rw [g0m hk2])),rfl,rfl,rfl,rfl,trivial⟩⟩
    ·have hf:=df hf
     have hkM:k=N.length:=by omega
     subst hkM
     rw [I0]
     refine K2 (xq ?_)
     refine G4 [51] (sl:=[(3,_),(4,_),(6,_),(8,_),(9,_),(10,_),(11,_),(34,_),(35,_),(36,_),(44,_),(45,_)]) (hb:=[(3,_),(4,_),(6,_),(42,_)]) (M3 hX0) ⟨⟨_,rfl,.same⟩,⟨_,rfl,.same⟩,⟨_,rfl,.same⟩,⟨_,rfl,.same⟩,⟨_,rfl,.same⟩,⟨_,rfl,.same⟩,⟨_,rfl,(.ref rfl rfl (by exact (by first | (simp; done) | (simp; omega))) (by first | rfl | omega))⟩,⟨_,rfl,.same⟩,⟨_,rfl,.same⟩,⟨_,rfl,.same⟩,⟨_,rfl,.same⟩,⟨_,rfl,.same⟩,trivial⟩ ⟨⟨rfl,_,rfl,.same⟩,⟨rfl,_,rfl,.same⟩,⟨rfl,_,rfl,.same⟩,⟨rfl,_,rfl,.same⟩,trivial⟩ ?_
     rw [show O2.sl N.length (X5 (w7 N j))=pV (w7 N j) by rw [pV,T7]]
     refine C3 (mV L rfl (mV L rfl (mV L rfl (mV L rfl (cK hG hX cl70 hN (H0v (M.getD i []) (w7 N j) B B (by rw [hrl,T7,hcN]) oM (fun a ha=>hB _ (gDL hia) a ha) (fun a ha=>q1k hB2 hjd h2.len a ha) oM oM (by rw [hrl]; have:=V0 (B+B+1) hc60; omega)) L t2 ?_)))))
     refine sw (n0g (sz:=4) un40 sz47 (by exact (Z6 (Y5 _ _ _) hj)) (j:=j) rO oM L) t2 t1 ?_
     refine sb (D0c (n:=4) sz47 (by exact (Z6 (Y5 _ _ _) hj)) rfl oM) t2 t1 ?_
     refine R1 (C3 (sw (I3 L (w64 oM oM)) t2 t0 (mV L rfl (R1 ?_))))
     exact ⟨j+1,oM,by omega,B3 ⟨oR,rfl,rfl,rfl,rfl,rfl,rfl,rfl,rfl,rfl,trivial⟩ ⟨obl rfl (congrArg (fun c=>(⟨47,4,.pure c⟩:Blk)) ((w0d (Y5 _ _ _) hjd (Z8 (M.getD i []) (w7 N j))).trans (by rw [w0h]))),rfl,rfl,rfl,trivial⟩⟩
   ·have he:=df he
    have hjd:j=d:=by omega
    subst hjd
    refine K2 (xq ?_)
    refine G4 [42] (sl:=[(3,_),(4,_),(6,_),(9,_),(34,_),(35,_),(36,_)]) (hb:=[(3,_),(4,_),(6,_)]) (M3 hX0) ⟨⟨_,rfl,.same⟩,⟨_,rfl,.same⟩,⟨_,rfl,.same⟩,⟨_,rfl,(.ref rfl rfl (by exact (Z6 (Y5 _ _ _) hj)) (by first | rfl | omega))⟩,⟨_,rfl,.same⟩,⟨_,rfl,.same⟩,⟨_,rfl,.same⟩,trivial⟩ ⟨⟨rfl,_,rfl,.same⟩,⟨rfl,_,rfl,.same⟩,⟨rfl,_,rfl,.same⟩,trivial⟩ ?_
    rw [show X5 (f0h (M.getD i []) N j)++e9 (j - j) zc0=X5 (f0h (M.getD i []) N j) by simp [e9]]
    refine C3 (sw (j2 un24 rfl sz22 dC rX L) t1 t1 ?_)
    refine sw (Z1 ag22 rF rF L) t1 t1 ?_
    refine mV L rfl (sw (E4 (vs:=[_]) un22 ti40 rfl rfl dC dC rfl (M2 (.cons rfl .nil) rfl) rfl (.cons rfl .sl rfl pu1 .nil) (.cons .nil) L) t1 t0 (swb (apN (k:=78) (sz:=1) un22 un22 ti40 rfl rfl rfl dC sM rfl (by first | (simp [Tryz.t40]; done) | (simp [Tryz.t40]; omega)) oM (P0 _ rfl) L) t2 t0 ⟨rfl,rfl⟩ ?_))
    refine sw (j2 un24 rfl sz22 dC rX L) t1 t1 ?_
    refine sb (Z2 sz22 rF .ref rfl (.skip pu1)) t2 t1 ?_
    refine R1 (C3 (sw (I3 L (w64 oM oM)) t2 t0 (mV L rfl (R1 ?_))))
    exact ⟨(i+1,[f0h (M.getD i []) N j]),⟨by simp only; omega,ht⟩,(by simp only; omega),B3 ⟨oR,rfl,rfl,rfl,rfl,rfl,trivial⟩ (hbI (l':=[(6,_),(78,_),(3,_),(4,_)]) rfl ⟨rfl,obl rfl (by simp [U5]),rfl,rfl,trivial⟩)⟩
  ·have hc:=df hc
   have hia:i=M.length:=by omega
   subst hia
   rw [I0] at hT
   refine K2 (xq ?_)
   refine exr (sw (b0s (R6 ag24 sz24 rF (by exact al2) rfl L) (.agg (.cons .same (.cons .nil .nil)))) t1 t1 ?_)
   refine sb (Z2 sz24 rF pa2 rfl pu2) t2 t1 ?_
   refine aV L rfl (zn [(4,_),(5,_)] [(4,_)] t2 t1 (Y1 ?_))
   refine Y0 (.agg rfl rfl rfl ag24 sz24 (.cons (.cons .nil))) (.tmp rfl) ?_
   rw [hT]; rfl
 ·dsimp only [P0y,Q0a]
  have hTl:(q :: T).length=i:=by rw [← hT,W0n,J0]; omega
  have hTl2:T.length+1=i:=hTl
  refine exr (sw (Z3 L) t2 t0 (zn [(3,_),(4,_),(6,_),(34,_),(35,_),(36,_),(37,_)] [(3,_),(4,_),(6,_),(78,_)] t7 t4 (T1 ?_)))
  refine D2 rfl (fun hc=>?_) (fun hc=>?_)
  ·have hc:=dt hc
   have hia:i<M.length:=by omega
   have ht:=N0w (N:=N) (d:=d) hia
   rw [hT] at ht
   have hrl:=h.get hia
   refine V1 (xq ?_)
   refine T1 (X1 (exr (sw (ixJ un22 sz40 (j:=i) rO oM sM L) t2 t0 ?_)))
   refine sw (s4 ag40 (j7 hia) L) t1 t0 (aV L rfl (zn [(3,_),(4,_),(6,_),(8,_),(34,_),(35,_),(36,_)] [(3,_),(4,_),(6,_),(78,_)] t7 t4 (exr (sw (j2 un24 rfl sz3 dC rX L) t1 t1 ?_))))
   refine sw (Z1 ag3 rF rF L) t1 t1 ?_
   refine swb (j6 (sz:=4) (k:=42) un40 ti47 rfl rfl dC rfl rfl rfl rfl rfl (Nat.le_refl _) (by simp [Tryz.t47]; omega) oM (P0 _ rfl) L) t2 t0 ⟨rfl,rfl⟩ ?_
   refine aV L rfl ?_
   refine R1 ⟨[(3,_),(4,_),(6,_),(8,_),(9,_),(34,_),(35,_),(36,_)],[(3,_),(4,_),(6,_),(42,⟨47,4,.pure (X5 []++e9 (d - 0) zc0)⟩),(78,_)],t8,t5,?_⟩
   refine T1 (exr (mV L rfl (sw (v0b un40 (by exact (I9 _ _)) L) t1 t1 ?_)))
   refine mV L rfl (zn [(3,_),(4,_),(6,_),(8,_),(9,_),(34,_),(35,_),(36,_),(44,_),(45,_)] [(3,_),(4,_),(6,_),(42,_),(78,_)] t10 t5 (X1 ?_))
   refine exl (α:=Nat) (fun j=>[(45,vi (j:Int))]) (fun j=>[(42,⟨47,4,.pure (X5 (f0h (M.getD i []) N j)++e9 (d - j) zc0)⟩)]) (fun j=>j≤d) (fun j=>d - j) (0) (sl:=[(3,_),(4,_),(6,_),(8,_),(9,_),(34,_),(35,_),(36,_),(44,_)]) (hb:=[(3,_),(4,_),(6,_),(78,_)]) ?_ ⟨oR,rfl,rfl,rfl,rfl,rfl,rfl,rfl,rfl,rfl,trivial⟩ t5 ?_
   ·exact Nat.zero_le _
   intro j hj
   refine exr (sw (Z3 L) t2 t0 (zn [(3,_),(4,_),(6,_),(8,_),(9,_),(34,_),(35,_),(36,_),(44,_),(45,_),(46,_)] [(3,_),(4,_),(6,_),(42,_),(78,_)] t11 t5 (T1 ?_)))
   refine D2 rfl (fun he=>?_) (fun he=>?_)
   ·have he:=dt he
    have hjd:j<d:=by omega
    refine V1 (xq ?_)
    refine T1 (X1 (exr (mV L rfl (aV L rfl (zn [(3,_),(4,_),(6,_),(8,_),(9,_),(10,_),(34,_),(35,_),(36,_),(44,_),(45,_)] [(3,_),(4,_),(6,_),(42,_),(78,_)] t11 t5 (exr (sw (j2 un24 rfl sz22 dC rX L) t1 t1 ?_)))))))
    refine sw (Z1 ag22 rF rF L) t1 t1 ?_
    refine sw (X2 un22 L) t1 t0 (swb (j6 (sz:=4) (k:=51) un40 ti47 rfl rfl dC rfl rfl rfl (show (0:Int)=((0:Nat):Int) from rfl) rfl (Nat.zero_le _) (by simp [Tryz.t47]; omega) oM (P0 _ rfl) L) t2 t0 ⟨rfl,rfl⟩ ?_)
    refine aV L rfl ?_
    refine R1 ⟨[(3,_),(4,_),(6,_),(8,_),(9,_),(10,_),(11,.ref 51 0 0 0),(34,_),(35,_),(36,_),(44,_),(45,_)],[(3,_),(4,_),(6,_),(42,_),(51,j4 []),(78,_)],t12,t6,?_⟩
    refine T1 (exr (sw (j2 un24 rfl sz22 dC rX L) t1 t1 ?_))
    refine sw (Z1 ag22 rF rF L) t1 t1 ?_
    refine sw (X2 un22 L) t1 t0 (mV L rfl (zn [(3,_),(4,_),(6,_),(8,_),(9,_),(10,_),(11,_),(34,_),(35,_),(36,_),(44,_),(45,_),(53,_),(54,_),(55,_)] [(3,_),(4,_),(6,_),(42,_),(51,_),(78,_)] t15 t6 (X1 ?_)))
    refine exl (α:=Nat) (fun k=>[(55,vi (k:Int)),(11,.ref 51 0 k (k*4))]) (fun k=>[(51,j4 (w7 (N.take k) j))]) (fun k=>k≤N.length) (fun k=>N.length - k) (0) (sl:=[(3,_),(4,_),(6,_),(8,_),(9,_),(10,_),(34,_),(35,_),(36,_),(44,_),(45,_),(53,_),(54,_)]) (hb:=[(3,_),(4,_),(6,_),(42,_),(78,_)]) ?_ ⟨oR,oR,rfl,rfl,rfl,rfl,rfl,rfl,rfl,rfl,rfl,rfl,rfl,rfl,rfl,trivial⟩ t6 ?_
    ·exact Nat.zero_le _
    intro k hk
    refine exr (sw (Z3 L) t2 t0 (zn [(3,_),(4,_),(6,_),(8,_),(9,_),(10,_),(11,_),(34,_),(35,_),(36,_),(44,_),(45,_),(53,_),(54,_),(55,_),(56,_)] [(3,_),(4,_),(6,_),(42,_),(51,_),(78,_)] t16 t6 (T1 ?_)))
    refine D2 rfl (fun hf=>?_) (fun hf=>?_)
    ·have hf:=dt hf
     have hk2:k<N.length:=by omega
     have hrl2:=h2.get hk2
     refine V1 (xq ?_)
     refine T1 (X1 (exr (sw (ixJ un22 sz40 (j:=k) rO oM sM L) t2 t0 ?_)))
     refine sw (s4 ag40 (j7 hk2) L) t1 t0 (aV L rfl (zn [(3,_),(4,_),(6,_),(8,_),(9,_),(10,_),(11,_),(13,_),(34,_),(35,_),(36,_),(44,_),(45,_),(53,_),(54,_),(55,_)] [(3,_),(4,_),(6,_),(42,_),(51,_),(78,_)] t16 t6 (C3 (mV L rfl (mV L rfl (mV L rfl (sw (y2 un40 sz47 oM oM sM dC L) t2 t0 ?_)))))))
     refine sw (Y6 ag47 sz47 (X6 (show j<(N.getD k []).length by omega)) rfl L) t1 t0 ?_
     refine sw (E4 (vs:=[_]) un40 ti47 rfl rfl dC dC rfl (M2 (.cons rfl (.cons rfl (.cons rfl (.cons rfl .nil)))) rfl) rfl (.cons rfl pa4 rfl pu4 .nil) (.cons (.cons (.cons (.cons .nil)))) L) t1 t0 (swb (apP (sz:=4) un40 un40 ti47 rfl rfl rfl dC (by exact (by first | (simp; done) | (simp; omega))) oF sM rfl rfl rfl (by first | (simp [Tryz.t47]; done) | (simp [Tryz.t47]; omega)) oM (P0 _ rfl) L) t2 t1 t0 ?_)
     refine aV L rfl (R1 (C3 (sw (I3 L (w64 oM oM)) t2 t0 (mV L rfl (R1 ?_)))))
     exact ⟨k+1,oM,by omega,B3 ⟨oR,ov rfl sO,rfl,rfl,rfl,rfl,rfl,rfl,rfl,rfl,rfl,rfl,rfl,rfl,rfl,trivial⟩ ⟨obl rfl ((b0q _ _).trans (by rw [g0m hk2])),rfl,rfl,rfl,rfl,rfl,trivial⟩⟩
    ·have hf:=df hf
     have hkM:k=N.length:=by omega
     subst hkM
     rw [I0]
     refine K2 (xq ?_)
     refine G4 [51] (sl:=[(3,_),(4,_),(6,_),(8,_),(9,_),(10,_),(11,_),(34,_),(35,_),(36,_),(44,_),(45,_)]) (hb:=[(3,_),(4,_),(6,_),(42,_),(78,_)]) (M3 hX0) ⟨⟨_,rfl,.same⟩,⟨_,rfl,.same⟩,⟨_,rfl,.same⟩,⟨_,rfl,.same⟩,⟨_,rfl,.same⟩,⟨_,rfl,.same⟩,⟨_,rfl,(.ref rfl rfl (by exact (by first | (simp; done) | (simp; omega))) (by first | rfl | omega))⟩,⟨_,rfl,.same⟩,⟨_,rfl,.same⟩,⟨_,rfl,.same⟩,⟨_,rfl,.same⟩,⟨_,rfl,.same⟩,trivial⟩ ⟨⟨rfl,_,rfl,.same⟩,⟨rfl,_,rfl,.same⟩,⟨rfl,_,rfl,.same⟩,⟨rfl,_,rfl,.same⟩,⟨rfl,_,rfl,.same⟩,trivial⟩ ?_
     rw [show O2.sl N.length (X5 (w7 N j))=pV (w7 N j) by rw [pV,T7]]
     refine C3 (mV L rfl (mV L rfl (mV L rfl (mV L rfl (cK hG hX cl70 hN (H0v (M.getD i []) (w7 N j) B B (by rw [hrl,T7,hcN]) oM (fun a ha=>hB _ (gDL hia) a ha) (fun a ha=>q1k hB2 hjd h2.len a ha) oM oM (by rw [hrl]; have:=V0 (B+B+1) hc60; omega)) L t2 ?_)))))
     refine sw (n0g (sz:=4) un40 sz47 (by exact (Z6 (Y5 _ _ _) hj)) (j:=j) rO oM L) t2 t1 ?_
     refine sb (D0c (n:=4) sz47 (by exact (Z6 (Y5 _ _ _) hj)) rfl oM) t2 t1 ?_
     refine R1 (C3 (sw (I3 L (w64 oM oM)) t2 t0 (mV L rfl (R1 ?_))))
     exact ⟨j+1,oM,by omega,B3 ⟨oR,rfl,rfl,rfl,rfl,rfl,rfl,rfl,rfl,rfl,trivial⟩ ⟨obl rfl (congrArg (fun c=>(⟨47,4,.pure c⟩:Blk)) ((w0d (Y5 _ _ _) hjd (Z8 (M.getD i []) (w7 N j))).trans (by rw [w0h]))),rfl,rfl,rfl,rfl,trivial⟩⟩
   ·have he:=df he
    have hjd:j=d:=by omega
    subst hjd
    refine K2 (xq ?_)
    refine G4 [42] (sl:=[(3,_),(4,_),(6,_),(9,_),(34,_),(35,_),(36,_)]) (hb:=[(3,_),(4,_),(6,_),(78,_)]) (M3 hX0) ⟨⟨_,rfl,.same⟩,⟨_,rfl,.same⟩,⟨_,rfl,.same⟩,⟨_,rfl,(.ref rfl rfl (by exact (Z6 (Y5 _ _ _) hj)) (by first | rfl | omega))⟩,⟨_,rfl,.same⟩,⟨_,rfl,.same⟩,⟨_,rfl,.same⟩,trivial⟩ ⟨⟨rfl,_,rfl,.same⟩,⟨rfl,_,rfl,.same⟩,⟨rfl,_,rfl,.same⟩,⟨rfl,_,rfl,.same⟩,trivial⟩ ?_
    rw [show X5 (f0h (M.getD i []) N j)++e9 (j - j) zc0=X5 (f0h (M.getD i []) N j) by simp [e9]]
    refine C3 (sw (j2 un24 rfl sz22 dC rX L) t1 t1 ?_)
    refine sw (Z1 ag22 rF rF L) t1 t1 ?_
    refine mV L rfl (sw (E4 (vs:=[_]) un22 ti40 rfl rfl dC dC rfl (M2 (.cons rfl .nil) rfl) rfl (.cons rfl .sl rfl pu1 .nil) (.cons .nil) L) t1 t0 (swb (apP (sz:=1) un22 un22 ti40 rfl rfl rfl dC (by exact (m6 _)) oF sM rfl rfl rfl (by first | (simp [Tryz.t40]; done) | (simp [Tryz.t40]; omega)) oM (P0 _ rfl) L) t2 t1 t0 ?_))
    refine sw (j2 un24 rfl sz22 dC rX L) t1 t1 ?_
    refine sb (Z2 sz22 rF .ref rfl (.skip pu1)) t2 t1 ?_
    refine R1 (C3 (sw (I3 L (w64 oM oM)) t2 t0 (mV L rfl (R1 ?_))))
    exact ⟨(i+1,q :: T++[f0h (M.getD i []) N j]),⟨by simp only; omega,ht⟩,(by simp only; omega),B3 ⟨oR,rfl,rfl,rfl,rfl,rfl,trivial⟩ (hbI (l':=[(6,_),(78,_),(3,_),(4,_)]) rfl ⟨obl rfl sM,obl rfl (P1j _ _ _ (Y5 _ _ _)),rfl,rfl,trivial⟩)⟩
  ·have hc:=df hc
   have hia:i=M.length:=by omega
   subst hia
   rw [I0] at hT
   refine K2 (xq ?_)
   refine exr (sw (d2w ag24 sz24 rF (by exact (.cons (.cons .nil))) rfl L) t1 t1 ?_)
   refine sb (Z2 sz24 rF .agg rfl pu2) t2 t1 ?_
   refine aV L rfl (zn [(4,_),(5,_)] [(4,_),(78,_)] t2 t2 (G4 [78] (sl:=[(4,_),(5,_)]) (hb:=[(4,_)]) (M3 hX0) ⟨⟨_,rfl,.same⟩,⟨_,rfl,.same⟩,trivial⟩ ⟨⟨rfl,_,rfl,(.mix (.cons .same (.cons (.ref rfl rfl (by exact (m6 _)) (by first | rfl | omega)) .nil)))⟩,trivial⟩ ?_))
   refine Y1 ?_
   refine Y0 (.agg rfl rfl rfl ag24 sz24 (.cons (.cons .nil))) (.tmp rfl) ?_
   rw [hT]
theorem nt {p:Prop}[Decidable p](h:(!decide p)=true):¬ p:=by simpa using h
theorem nf {p:Prop}[Decidable p](h:(!decide p)=false):p:=by simpa using h
theorem W1j {v u:List Rat}{c:Rat}{j B C D:Nat}(hv:∀ a∈v,qw a≤B)(hu:∀ a∈u,qw a≤C)(hc:qw c≤D):∀ a∈tak v u c j,qw a≤B+(D+C)+1:=by
 intro a ha
 rcases List.mem_append.1 ha with h | h
 ·have h1:=List.mem_of_mem_take h
  rw [List.zipWith_eq_zipWith_take_min,List.mem_iff_getElem?] at h1
  obtain ⟨i,hi⟩:=h1
  rw [← List.zipWith_eq_zipWith_take_min,List.getElem?_zipWith] at hi
  split at hi
  ·rename_i x y h3 h4
   obtain rfl:=by simpa using hi
   have h5:=F1a x (c*y)
   have h6:=m9 c y
   have:=hv x (O1 h3)
   have:=hu y (O1 h4)
   omega
  ·cases hi
 ·have:=hv a (List.mem_of_mem_drop h); omega
theorem h1m (s:Nat)(m:List (List Rat))(i k:Nat)(c:Rat)(B C D:Nat)(h2:s<9)(hi:i<m.length)(hk:k<m.length)(hne:i≠k)(hlen:(m.getD k []).length=(m.getD i []).length)(hl:(m.getD i []).length<1000000000)(hB:∀ a∈m.getD i [],qw a≤B)(hC:∀ a∈m.getD k [],qw a≤C)(hD:qw c≤D)(hb:B+(D+C)+1<1000000000):T4 E (fun _=>true) 99 [.ref (s+1001) 0 m.length m.length,.p (vZ i),.p (vZ k),.p (pQ c)] (J2 s m) (J2 s (m.set i (List.zipWith (fun a b=>a - c*b) (m.getD i []) (m.getD k [])))) (.p (.tup [])):=by
 refine D4 (xs:=[]) Tryz.func99 rfl Tryz.ntmps99 Tryz.results99 sM fun F G=>?_
 have L:=@lti _ _ G.nt
 have hG:=G.g
 have hX:=G.x
 have hN:=i6 hG
 have P0:∀ k,Nat.blt k 1000=true→F.pin k=none:=fun k hk=>G.p0 k ((E2 h2 m).low k hk)
 refine exr (swb (X3 (k:=7) (n:=4) pa4 rfl rfl (P0 _ rfl) L) t1 t0 (frT [] (E2 h2 m) rfl rfl rfl) ?_)
 refine R1 ⟨[(0,_),(1,_),(2,_),(7,_)],(7,_) :: ((J2 s m)),t4,⟨rfl,(hbT [_] (E2 h2 m) rfl)⟩,?_⟩
 refine exr (mV L rfl (mV L rfl (sw (E6 un77 sz40 (by first | exact G2 _ _ _ | exact (G2 _ _ _).trans sM | simp [Cells.len]) (j:=k) rO oM L) t2 ⟨rdT [_] (E2 h2 m) rfl hdL,trivial⟩ ?_)))
 refine sw (Z1 ag40 (by first | exact G2 _ _ _ | exact (G2 _ _ _).trans sM) (M0h hk) L) t1 ⟨rdT [_] (E2 h2 m) rfl hdL,trivial⟩ ?_
 refine sw (v0b un40 (by first | exact i3 _ | exact (i3 _).trans oM) L) t1 ⟨rdT [_] (E2 h2 m) rfl (rwL h2 hk),trivial⟩ ?_
 refine mV L rfl ?_
 refine R1 ⟨[(0,_),(1,_),(7,_),(13,_),(14,_),(15,_)],(7,_) :: ((J2 s m)),t6,⟨rfl,(hbT [_] (E2 h2 m) rfl)⟩,?_⟩
 have hku:m.getD k []=(m.set i (m.getD i [])).getD k []:=by rw [H0y]
 obtain ⟨v,hv⟩:∃ v,v=m.getD i []:=⟨_,rfl⟩
 obtain ⟨u,hu⟩:∃ u,u=m.getD k []:=⟨_,rfl⟩
 have hru:=fun (r:List Rat)=>(show (J2 s (m.set i r)).lookup (K3 s k)=some (j4 u) from by rw [hu]; exact rwO h2 hk hne)
 rw [← hv,← hu] at hlen
 rw [← hv] at hl hB ⊢
 rw [← hu] at hC ⊢
 refine X1 ?_
 refine K0m (α:=Nat) (fun j=>[(15,vi (j:Int))]) (fun j=>[]) (fun j=>(J2 s (m.set i (tak v u c j)))) (fun j=>j≤v.length) (fun j=>v.length - j) (0) (sl:=[(0,_),(1,_),(7,_),(13,_),(14,_)]) (hb:=[(7,_)]) ?_ ⟨oR,rfl,rfl,rfl,rfl,rfl,trivial⟩ ⟨rfl,(by rw [D1c,hv,H0y]; exact hbT [_] (E2 h2 m) rfl)⟩ ?_
 ·exact Nat.zero_le _
 intro j hj
 have htl:=p0d (v:=v) (u:=u) c j hlen
 have hq:=W1j (j:=j) hB hC hD
 refine exr (sw (Z3 L) t2 t0 ?_)
 refine R1 ⟨[(0,_),(1,_),(7,_),(13,_),(14,_),(15,_),(16,_)],(7,_) :: ((J2 s (m.set i (tak v u c j)))),t7,⟨rfl,(hbT [_] (E2 h2 (m.set i (tak v u c j))) rfl)⟩,?_⟩
 refine T1 ?_
 refine D2 rfl (fun hc2=>?_) (fun hc2=>?_)
 ·have hc2:=dt hc2
  have hk2:j<v.length:=by omega
  have hk3:j<u.length:=by omega
  have hk5:j<(m.getD k []).length:=by rw [← hu]; omega
  have hk4:j<(tak v u c j).length:=by omega
  refine V1 (xq ?_)
  refine T1 (X1 (exr (mV L rfl (sw (n0g un40 sz47 (by first | exact i3 _ | exact (i3 _).trans oM) (j:=j) rO oM L) t2 ⟨rdT [_] (E2 h2 (m.set i (tak v u c j))) rfl (hru _),trivial⟩ ?_))))
  refine sw (K1w ag47 sz47 (by first | exact i3 _ | exact (i3 _).trans oM) (X6 hk3) rfl L) t1 ⟨rdT [_] (E2 h2 (m.set i (tak v u c j))) rfl (hru _),trivial⟩ ?_
  refine swb (Y3 (k:=9) (n:=4) zv47 (.cons rfl (.cons rfl (.cons rfl (.cons rfl .nil)))) rfl (P0 _ rfl) L) t0 t0 (frT [_] (E2 h2 (m.set i (tak v u c j))) rfl rfl rfl) (aV L rfl (sb (Z2 sz47 rF pa4 rfl pu4) t2 t1 ?_))
  refine R1 ⟨[(0,_),(1,_),(7,_),(8,_),(9,_),(13,_),(14,_),(15,_)],(7,_) :: (9,_) :: ((J2 s (m.set i (tak v u c j)))),t8,⟨rfl,rfl,(hbT [_,_,_] (E2 h2 (m.set i (tak v u c j))) rfl)⟩,?_⟩
  refine exr (lp4 ag47 sz47 L rfl rfl (cK hG hX cl65 hN (T6 (u.getD j 0) (by have:=hC _ (v4 hk3); omega)) L t1 ?_))
  refine sw (P3 L) t1 t0 ?_
  refine R1 ⟨[(0,_),(1,_),(7,_),(8,_),(9,_),(13,_),(14,_),(15,_),(22,_)],(7,_) :: (9,_) :: ((J2 s (m.set i (tak v u c j)))),t9,⟨rfl,rfl,(hbT [_,_] (E2 h2 (m.set i (tak v u c j))) rfl)⟩,?_⟩
  refine D2 rfl (fun h0=>?_) (fun h0=>?_)
  ·have h0:=nt h0
   refine d0d rF ?_
   refine mV L rfl (mV L rfl (sw (E6 un77 sz40 (by first | exact G2 _ _ _ | exact (G2 _ _ _).trans sM | simp [Cells.len]) (j:=i) rO oM L) t2 ⟨rdT [_,_] (E2 h2 (m.set i (tak v u c j))) rfl hdL,trivial⟩ ?_))
   refine sw (Z1 ag40 (by first | exact G2 _ _ _ | exact (G2 _ _ _).trans sM) (j1f hi htl) L) t1 ⟨rdT [_,_] (E2 h2 (m.set i (tak v u c j))) rfl hdL,trivial⟩ ?_
   refine mV L rfl (mV L rfl (mV L rfl (sw (E6 un77 sz40 (by first | exact G2 _ _ _ | exact (G2 _ _ _).trans sM | simp [Cells.len]) (j:=i) rO oM L) t2 ⟨rdT [_,_] (E2 h2 (m.set i (tak v u c j))) rfl hdL,trivial⟩ ?_)))
   refine sw (Z1 ag40 (by first | exact G2 _ _ _ | exact (G2 _ _ _).trans sM) (j1f hi htl) L) t1 ⟨rdT [_,_] (E2 h2 (m.set i (tak v u c j))) rfl hdL,trivial⟩ ?_
   refine mV L rfl (sw (n0g un40 sz47 (by first | exact i3 _ | exact (i3 _).trans oM) (j:=j) rO oM L) t2 ⟨rdT [_,_] (E2 h2 (m.set i (tak v u c j))) rfl (rwS h2 hi),trivial⟩ ?_)
   refine sw (K1w ag47 sz47 (by first | exact i3 _ | exact (i3 _).trans oM) (X6 hk4) rfl L) t1 ⟨rdT [_,_] (E2 h2 (m.set i (tak v u c j))) rfl (rwS h2 hi),trivial⟩ ?_
   refine lp4 ag47 sz47 L rfl rfl (lp4 ag47 sz47 L rfl rfl (cK hG hX cl67 hN (F8 c (u.getD j 0) oM (by have:=hC _ (v4 hk3); omega)) L t2 ?_))
   refine cK hG hX cl127 hN (w1p ((tak v u c j).getD j 0) (c*u.getD j 0) (by have:=hq _ (v4 hk4); omega) (by have:=m9 c (u.getD j 0); have:=hC _ (v4 hk3); omega)) L t2 ?_
   refine sw (n0g un40 sz47 (by first | exact i3 _ | exact (i3 _).trans oM) (j:=j) rO oM L) t2 ⟨rdT [_,_] (E2 h2 (m.set i (tak v u c j))) rfl (rwS h2 hi),trivial⟩ ?_
   refine sb (D0c (n:=4) sz47 (by first | exact i3 _ | exact (i3 _).trans oM) rfl oM) t2 ⟨rdT [_,_] (E2 h2 (m.set i (tak v u c j))) rfl (rwS h2 hi),trivial⟩ ?_
   refine R1 ⟨j0c [⟨[0],[],[23],[]⟩,⟨[1],[],[24],[]⟩,⟨[23,24],[1000],[25],[]⟩,⟨[25],[1000],[26],[]⟩,⟨[8],[],[27],[]⟩,⟨[0],[],[28],[]⟩,⟨[1],[],[29],[]⟩,⟨[28,29],[1000],[30],[]⟩,⟨[30],[1000],[31],[]⟩,⟨[8],[],[32],[]⟩,⟨[31,32],[1000],[33],[]⟩,⟨[33],[1000],[34],[]⟩,⟨[7],[7],[35],[]⟩,⟨[9],[9],[36],[]⟩,⟨[35,36],[],[37],[]⟩,⟨[34,37],[],[38],[]⟩,⟨[26,27],[1000],[39],[]⟩,⟨[39,38],[1000],[],[1000]⟩] (.cons (cf0 rfl) (.cons (cf0 rfl) (.cons (cfT rfl rfl (b9 (by first | exact C6 _ | exact E5 _ _)) rfl (fun _ h=>by cases h)) (.cons (cfT rfl rfl (b9 (by first | exact C6 _ | exact E5 _ _)) rfl (fun _ h=>by cases h)) (.cons (cf0 rfl) (.cons (cf0 rfl) (.cons (cf0 rfl) (.cons (cfT rfl rfl (b9 (by first | exact C6 _ | exact E5 _ _)) rfl (fun _ h=>by cases h)) (.cons (cfT rfl rfl (b9 (by first | exact C6 _ | exact E5 _ _)) rfl (fun _ h=>by cases h)) (.cons (cf0 rfl) (.cons (cfT rfl rfl (b9 (by first | exact C6 _ | exact E5 _ _)) rfl (fun _ h=>by cases h)) (.cons (cfT rfl rfl (b9 (by first | exact C6 _ | exact E5 _ _)) rfl (fun _ h=>by cases h)) (.cons (cf0 rfl) (.cons (cf0 rfl) (.cons (cf0 rfl) (.cons (cf0 rfl) (.cons (cfT rfl rfl (b9 (by first | exact C6 _ | exact E5 _ _)) rfl (fun _ h=>by cases h)) (.cons (cfT rfl rfl (b9 (by first | exact C6 _ | exact E5 _ _)) rfl (b9 (by first | exact C6 _ | exact E5 _ _)))  .nil)))))))))))))))))) rfl (frS [] [_,_] (E2 h2 (m.set i (tak v u c j))) rfl rfl) dC,(show y4 _ _ _ _ _ from exw (sl:=[(0,_),(1,_),(7,_),(13,_),(14,_),(15,_)]) (hb:=(7,_) :: ((J2 s (m.set i (tak v u c (j+1)))))) t6 ⟨rfl,(hbS [_,_] rfl h2 hi ((j0w _ hk4).trans (by rw [Y0n hk2 hlen])) (by simp only [p0d c _ hlen]))⟩ ?_)⟩
   refine C3 (sw (I3 L (w64 oM oM)) t2 t0 (mV L rfl (R1 ?_)))
   exact ⟨j+1,oM,by omega,B3 ⟨oR,rfl,rfl,rfl,rfl,rfl,trivial⟩ ⟨rfl,(hbT [_] (E2 h2 (m.set i (tak v u c (j+1)))) rfl)⟩⟩
  ·have h0:=nf h0
   refine V1 (xq ?_)
   refine C3 (sw (I3 L (w64 oM oM)) t2 t0 (mV L rfl (R1 ?_)))
   exact ⟨j+1,oM,by omega,B3 ⟨oR,rfl,rfl,rfl,rfl,rfl,trivial⟩ ⟨rfl,(by rw [← w1z hk2 hlen h0]; exact hbT [_,_] (E2 h2 _) rfl)⟩⟩
 ·have hc2:=df hc2
  refine K2 ?_
  refine ⟨.inl rfl,Z4.cast .nil ?_,(by rw [← M1s hlen,show v.length=j by omega]; exact hbT [_] (E2 h2 _) rfl)⟩
  rfl
end Go.Proofs.YtjagfionflbjbaaGreat.N
namespace Go.Proofs.YtjagfionflbjbaaGreat.SH
open Go Go.RowKit
theorem q1j {E:Env}{st st':Nat→Bool}{f:FuncId}{args:List PV}{H H' H1:List (Nat×Blk)}{r r1:PV}(κ:Nat→Nat)(h:T4 E st f args H H1 r1)(hr:r1=r.ren κ)
  (hb:∀ j B,H'.lookup j=some B→H1.lookup (κ j)=some (B.ren κ)) (inj:∀ j j',H'.lookup j≠none→H'.lookup j'≠none→κ j=κ j'→j=j')
  (hnew:∀ j,H'.lookup j≠none→H.lookup j=none→H.lookup (κ j)=none) (hst:∀ j,H'.lookup j≠none→H.lookup j≠none→st' j=true→κ j=j∧st j=true):T4 E st' f args H H' r:=by
 intro ok ρ w vals hG hH hinj hrel
 refine Calls.mono (h ok ρ w vals hG hH hinj hrel) fun e w' ⟨v,ρ1,he,hp⟩=>⟨v,fun j=>ρ1 (κ j),he,?_⟩
 have hin:∀ j,H'.lookup j≠none→H1.lookup (κ j)≠none:=fun j hj=>by
  obtain ⟨B,hB⟩:=J3 hj
  rw [hb j B hB]; simp
 have hok:Carry (okG ok w H1 ρ1) (okG ok w H' fun j=>ρ1 (κ j)) (Go.Proofs.YtjagfionflbjbaaGreat.SH.hp w') (Go.Proofs.YtjagfionflbjbaaGreat.SH.hp w'):=fun b hb' _=>⟨⟨hb'.1,fun j hj=>hb'.2 _ (hin j hj)⟩,rfl⟩
 have hH1:∀ j B,lk H' j=some B→∃ B',lk H1 (κ j)=some B'∧B'.sz=B.sz∧B'.cs.len=B.cs.len:=fun j B hj=>⟨_,hb j B hj,rfl,Cells.ren_len _ _⟩
 have hrv:∀ x v,P2 (lk H1) ρ1 (okG ok w H1 ρ1) (Go.Proofs.YtjagfionflbjbaaGreat.SH.hp w') (x.ren κ) v→P2 (lk H') (fun j=>ρ1 (κ j)) (okG ok w H' fun j=>ρ1 (κ j)) (Go.Proofs.YtjagfionflbjbaaGreat.SH.hp w') x v:=fun x v hx =>
  P2.mono (K:=fun _=>True) hok (fun k _ B' hB'=>⟨B',hB',rfl,Nat.le_refl _,fun _=>⟨rfl,fun c T fr hc=>⟨c,T,fr,hc,rfl⟩⟩⟩) x v (fun _ _=>trivial) (P0m hH1 x v hx)
 exact {
  res:=hrv r v (hr ▸ hp.res)
  blk:=fun j B' hj=>by
   obtain ⟨c,h1,h2,h3⟩:=hp.blk (κ j) _ (hb j B' hj)
   refine ⟨c,h1,by rw [← Cells.ren_len κ]; exact h2,fun i x hx=>?_⟩
   obtain ⟨u,hu,h4,h5⟩:=h3 i (x.ren κ) (by show (B'.cs.ren κ).get i=_; rw [Cells.ren_get,hx]; rfl)
   exact ⟨u,hu,h4,hrv x u h5⟩
  inj:=fun j j' hj hj' e=>inj j j' hj hj' (hp.inj _ _ (hin j hj) (hin j' hj') e)
  old:=fun j hj hj'=>by
   by_cases hk:H.lookup (κ j)=none
   ·exact .inr (hp.new _ (hin j hj) hk)
   ·exact hp.old _ (hin j hj) hk
  new:=fun j hj hj'=>hp.new _ (hin j hj) (hnew j hj hj')
  stay:=fun j hj hj' hs=>by
   obtain ⟨e,hs'⟩:=hst j hj hj' hs
   have:=hp.stay j (by have:=hin j hj; rwa [e] at this) hj' hs'
   show ρ1 (κ j)=_∧_
   rw [e]; exact this
  os:=hp.os
  tape:=hp.tape
  output:=hp.output
  size:=hp.size
  frame:=hp.frame }
end Go.Proofs.YtjagfionflbjbaaGreat.SH
set_option maxRecDepth 100000
set_option maxHeartbeats 4000000
namespace Go.Proofs.YtjagfionflbjbaaGreat.N
open Go Go.Proofs.YtjagfionflbjbaaGreat.SH Go.Proofs.YtjagfionflbjbaaGreat.NumA
open Go.Proofs.Tryz renaming isAgg40→ag40,sizeOf40→sz40,underlying77→un77
theorem F0p:∀ {vs:List PV}{off:Nat}{u:PV},off<vs.length→y0p vs off [u] (vs.set off u)
 | [],_,_,h=>by simp at h
 | v :: vs,0,u,_=>.put .here
 | v :: vs,n+1,u,h=>.skip (F0p (by simpa using h))
theorem lkH {sl:List (Nat×PV)}{k:Nat}{B:Blk}{r:List (Nat×Blk)}:St.blk ⟨sl,(k,B) :: r⟩ k=some B:=by show List.lookup k _=_; simp
def q1d (s i n:Nat):PV:=.ref (K3 s i) 0 n (n*4)
def swH (s:Nat)(m:List (List Rat))(i k:Nat):List (Nat×Blk):=(s+1001,⟨40,1,.mix (((Y4 s 0 m).set i (q1d s k (m.getD k []).length)).set k (q1d s i (m.getD i []).length))⟩) :: e7 s 0 m
theorem d2x {sl:List (Nat×PV)}{s:Nat}{m:List (List Rat)}{i k:Nat}{B:Blk}(h2:s<9):O5 ⟨sl,(s+1001,⟨40,1,.mix (((Y4 s 0 m).set i (q1d s k (m.getD k []).length)).set k (q1d s i (m.getD i []).length))⟩) :: (s+1001,B) :: ([]++J2 s m)⟩ (swH s m i k):=by
 have hnd:=(E2 h2 m).nd
 refine C5 (by simpa [swH,J2] using hnd) fun j C hj=>?_
 show List.lookup j _=some C
 rw [swH,i0] at hj
 rw [i0]
 by_cases e:j=s+1001
 ·subst e; simpa using hj
 ·rw [show (j == s+1001)=false by simpa using e] at hj ⊢
  simp only [List.nil_append,J2,i0]
  rw [show (j == s+1001)=false by simpa using e]; exact hj
theorem h1q (s:Nat)(m:List (List Rat))(i k:Nat)(h2:s<9)(hi:i<m.length)(hk:k<m.length):T4 E (fun k=>Nat.blt k 1100) 94 [.ref (s+1001) 0 m.length m.length,.p (vZ i),.p (vZ k)] (J2 s m) (swH s m i k) (.p (.tup [])):=by
 refine D4 (xs:=[]) Tryz.func94 rfl Tryz.ntmps94 Tryz.results94 sM fun F G=>?_
 have L:=@lti _ _ G.nt
 have hG:=G.g
 have hX:=G.x
 have hN:=i6 hG
 have P0:∀ k,Nat.blt k 1000=true→F.pin k=none:=fun k hk=>G.p0 k ((E2 h2 m).low k hk)
 refine d0d rF ?_
 refine mV L rfl (mV L rfl (mV L rfl (mV L rfl (mV L rfl (mV L rfl (sw (E6 un77 sz40 (by first | exact G2 _ _ _ | exact (G2 _ _ _).trans sM | simp [Cells.len]) (j:=k) rO oM L) t2 ⟨rdT [] (E2 h2 m) rfl hdL,trivial⟩ ?_))))))
 refine sw (Z1 ag40 (by first | exact G2 _ _ _ | exact (G2 _ _ _).trans sM) (M0h hk) L) t1 ⟨rdT [] (E2 h2 m) rfl hdL,trivial⟩ ?_
 refine mV L rfl (mV L rfl (sw (E6 un77 sz40 (by first | exact G2 _ _ _ | exact (G2 _ _ _).trans sM | simp [Cells.len]) (j:=i) rO oM L) t2 ⟨rdT [] (E2 h2 m) rfl hdL,trivial⟩ ?_))
 refine sw (Z1 ag40 (by first | exact G2 _ _ _ | exact (G2 _ _ _).trans sM) (M0h hi) L) t1 ⟨rdT [] (E2 h2 m) rfl hdL,trivial⟩ ?_
 refine sw (E6 un77 sz40 (by first | exact G2 _ _ _ | exact (G2 _ _ _).trans sM | simp [Cells.len]) (j:=i) rO oM L) t2 ⟨rdT [] (E2 h2 m) rfl hdL,trivial⟩ ?_
 refine sb (Z2 sz40 sM .ref rfl (F0p sO)) t2 ⟨rdT [] (E2 h2 m) rfl hdL,trivial⟩ ?_
 refine sw (E6 un77 sz40 (by first | exact G2 _ _ _ | exact (G2 _ _ _).trans sM | simp [Cells.len]) (j:=k) rO oM L) t2 ⟨lkH,trivial⟩ ?_
 refine sb (Z2 sz40 sM .ref rfl (F0p sO)) t2 ⟨lkH,trivial⟩ ?_
 refine R1 ⟨j0c [⟨[0],[],[6],[]⟩,⟨[1],[],[7],[]⟩,⟨[0],[],[8],[]⟩,⟨[2],[],[9],[]⟩,⟨[0],[],[10],[]⟩,⟨[2],[],[11],[]⟩,⟨[10,11],[1000],[12],[]⟩,⟨[12],[1000],[13],[]⟩,⟨[0],[],[14],[]⟩,⟨[1],[],[15],[]⟩,⟨[14,15],[1000],[16],[]⟩,⟨[16],[1000],[17],[]⟩,⟨[6,7],[1000],[18],[]⟩,⟨[18,13],[1000],[],[1000]⟩,⟨[8,9],[1000],[19],[]⟩,⟨[19,17],[1000],[],[1000]⟩] (.cons (cf0 rfl) (.cons (cf0 rfl) (.cons (cf0 rfl) (.cons (cf0 rfl) (.cons (cf0 rfl) (.cons (cf0 rfl) (.cons (cfT rfl rfl (b9 (by first | exact C6 _ | exact E5 _ _)) rfl (fun _ h=>by cases h)) (.cons (cfT rfl rfl (b9 (by first | exact C6 _ | exact E5 _ _)) rfl (fun _ h=>by cases h)) (.cons (cf0 rfl) (.cons (cf0 rfl) (.cons (cfT rfl rfl (b9 (by first | exact C6 _ | exact E5 _ _)) rfl (fun _ h=>by cases h)) (.cons (cfT rfl rfl (b9 (by first | exact C6 _ | exact E5 _ _)) rfl (fun _ h=>by cases h)) (.cons (cfT rfl rfl (b9 (by first | exact C6 _ | exact E5 _ _)) rfl (fun _ h=>by cases h)) (.cons (cfT rfl rfl (b9 (by first | exact C6 _ | exact E5 _ _)) rfl (b9 (by first | exact C6 _ | exact E5 _ _))) (.cons (cfT rfl rfl (b9 (by first | exact C6 _ | exact E5 _ _)) rfl (fun _ h=>by cases h)) (.cons (cfT rfl rfl (b9 (by first | exact C6 _ | exact E5 _ _)) rfl (b9 (by first | exact C6 _ | exact E5 _ _)))  .nil)))))))))))))))) rfl (frS [] [] (E2 h2 m) rfl rfl) dC,?_⟩
 refine ⟨.inl rfl,Z4.cast .nil ?_,(d2x h2)⟩
 rfl
@[simp] theorem g0z (m:List (List Rat))(i k:Nat):(M5 m i k).length=m.length:=by simp [M5]
theorem M0s {m:List (List Rat)}{i k j:Nat}(hi:i<m.length)(hk:k<m.length)(hne:i≠k):(M5 m i k)[j]? = if j=k then some (m.getD i []) else if j=i then some (m.getD k []) else m[j]?:=by
 simp only [M5,List.getElem?_set,List.length_set]
 by_cases h1:k=j
 ·subst h1; simp [hk]
 ·rw [if_neg h1,if_neg (Ne.symm h1)]
  by_cases h2:i=j
  ·subst h2; simp [hi]
  ·rw [if_neg h2,if_neg (Ne.symm h2)]
def kap (s i k j:Nat):Nat:=if j=K3 s i then K3 s k else if j=K3 s k then K3 s i else j
theorem d0v {s i k j:Nat}:kap s i k (K3 s j)=K3 s (if j=i then k else if j=k then i else j):=by
 unfold kap
 simp only [H0c]
 split
 ·rfl
 ·split <;> rfl
theorem D0n {s i k j:Nat}(h:j<1100):kap s i k j=j:=by
 unfold kap
 rw [if_neg (by unfold K3; omega),if_neg (by unfold K3; omega)]
theorem b1w {s j:Nat}{m:List (List Rat)}:(e7 s 0 m).lookup (K3 s j)=(m[j]?).map j4:=by
 have:=h0s (s:=s) (i:=0) (j:=j) (m:=m)
 rwa [G1] at this
theorem V5 {s j:Nat}{m:List (List Rat)}(h2:s<9)(h:(J2 s m).lookup j≠none):j=s+1001∨∃ q,q<m.length∧j=K3 s q:=by
 obtain ⟨B,hB⟩:=D1.1 h
 rw [J2,i0] at hB
 by_cases e:j=s+1001
 ·exact .inl e
 ·rw [show (j == s+1001)=false by simpa using e] at hB
  obtain ⟨q,hq,e2⟩:=L9 (G0.2 ⟨_,R3 hB,rfl⟩)
  exact .inr ⟨q,hq,by have e2:j=K3 s (0+q):=e2; rw [e2,G1]⟩
theorem d1v {s q:Nat}{m:List (List Rat)}(h2:s<9)(h:q<m.length):(J2 s m).lookup (K3 s q)≠none:=by rw [rwL h2 h]; simp
theorem w1r (s:Nat)(m:List (List Rat))(i k:Nat)(h2:s<9)(hi:i<m.length)(hk:k<m.length)(hne:i≠k):T4 E (fun k=>Nat.blt k 1100) 94 [.ref (s+1001) 0 m.length m.length,.p (vZ i),.p (vZ k)] (J2 s m) (J2 s (M5 m i k)) (.p (.tup [])):=by
 refine q1j (kap s i k) (h1q s m i k h2 hi hk) rfl (fun j B hj=>?_) (fun j j' hj hj' e=>?_) (fun j hj hj'=>?_) (fun j hj hj' hs=>?_)
 ·rcases V5 h2 (show (J2 s (M5 m i k)).lookup j≠none by rw [hj]; simp) with rfl | ⟨q,hq,rfl⟩
  ·rw [D0n oM,swH]
   rw [hdL] at hj
   obtain rfl:=by simpa using hj
   rw [i0,BEq.rfl]
   refine congrArg (fun l=>some (⟨40,1,.mix l⟩:Blk)) ?_
   apply List.ext_getElem?
   intro j
   rw [List.getElem?_map,k0v,M0s hi hk hne,G1,List.getElem?_set,List.getElem?_set]
   simp only [List.length_set,G2]
   by_cases h1:j=k
   ·subst h1
    simp only [if_true,hk,Option.map_some,PV.ren,d0v,q1d]
    rw [if_neg (Ne.symm hne)]
   ·rw [if_neg h1,if_neg (Ne.symm h1)]
    by_cases h3:j=i
    ·subst h3; simp [hi,PV.ren,d0v,q1d]
    ·rw [if_neg h3,if_neg (Ne.symm h3),k0v,G1]
     cases m[j]? with
     | none=>rfl
     | some v=>simp [PV.ren,d0v,h1,h3]
  ·rw [g0z] at hq
   rw [d0v,swH,i0,show ((K3 s (if q=i then k else if q=k then i else q)) == s+1001)=false by simp [K3]; omega,b1w]
   rw [rwL h2 (by rw [g0z]; exact hq)] at hj
   injection hj with hj
   subst hj
   show _=some (j4 _)
   have e:(M5 m i k).getD q []=m.getD (if q=i then k else if q=k then i else q) []:=by
    rw [f0,M0s hi hk hne]
    by_cases h1:q=k
    ·subst h1; rw [if_pos rfl,if_neg (Ne.symm hne),if_pos rfl]; rfl
    ·rw [if_neg h1]
     by_cases h3:q=i
     ·rw [if_pos h3,if_pos h3]; rfl
     ·rw [if_neg h3,if_neg h3,if_neg h1,f0]
   rw [e]
   show Option.map j4 _=_
   have hl:(if q=i then k else if q=k then i else q)<m.length:=by split; exact hk; split; exact hi; exact hq
   simp [f0,hl]
 ·rcases V5 h2 hj with rfl | ⟨q,hq,rfl⟩ <;> rcases V5 h2 hj' with rfl | ⟨q',hq',rfl⟩
  ·rfl
  ·rw [D0n oM,d0v] at e; simp [K3] at e; omega
  ·rw [d0v,D0n oM] at e; simp [K3] at e; omega
  ·rw [d0v,d0v,H0c] at e; rw [H0c]; split at e <;> split at e <;> (try split at e) <;> (try split at e) <;> omega
 ·rcases V5 h2 hj with rfl | ⟨q,hq,rfl⟩
  ·rw [hdL] at hj'; cases hj'
  ·exact absurd hj' (d1v h2 (by rwa [g0z] at hq))
 ·rw [Nat.blt_eq] at hs
  exact ⟨D0n hs,by simpa [Nat.blt_eq] using hs⟩
end Go.Proofs.YtjagfionflbjbaaGreat.N
namespace Go.Proofs.YtjagfionflbjbaaGreat.SH
open Go Go.RowKit
structure f0b (st:Nat→Bool) (F:Fr) (S:St) (H H':List (Nat×Blk)) (slR:List (Nat×PV)) (hb2:List (Nat×Blk)):Prop where
 h1:∀ j B,H.lookup j=some B→S.blk j=some B
 hs:m7 S slR
 h2:∀ k B,hb2.lookup k=some B→H'.lookup k=some B∨(S.blk k=some B∧H.lookup k=none∧H'.lookup k=none∧∀ i x,B.cs.get i=some x→∀ q,x.free q=false→st q=false→H'.lookup q=none)
 fix:∀ q B1,st q=true→H'.lookup q=some B1→∃ B0,H.lookup q=some B0∧B1.sz=B0.sz∧B1.cs.len=B0.cs.len
 slot:∀ t v,slR.lookup t=some v→∀ q,v.free q=false→st q=false→H'.lookup q=none
 lo:∀ j,H.lookup j≠none→st j=false→F.lo j=false
 pin:∀ j,F.pin j≠none→st j=true
 whole:Whole H'
theorem nsI {E:Env}{st:Nat→Bool}{F:Fr}(hG:E.G F.w0)(hX:∀ b,F.X b→E.ng≤b)(hng:E.ng≤F.w0.heap.size){ops:Array Oper}{d:Nat}{f:FuncId}{op:Op}{T:TypeId}{pos:String}{aft:Array Edge}{xs:List PV}{S:St}{H H':List (Nat×Blk)}{r:PV}{rs:List (Operand×PV)}{os:List Oper}{K:St→Prop}(slR:List (Nat×PV))(hb2:List (Nat×Blk))(hs:T4 E st f xs H H' r)(hlt:d<F.nt)
  (hargs:∀ ρ S a w,j5 F ρ S a w→(∀ p∈rs,S.opd p.1=some p.2)→∃ vals:List Value,(execOp a.eval ⟨some d,op,T,pos,aft,none⟩).run E.P w = .ok (.enter f vals.toArray) w∧G3 S.blk ρ (okI F S.blk ρ) (hp w) xs vals)
  (hr:E8 S rs) (C:f0b st F S H H' slR hb2) (hres:∀ q,r.free q=false→H'.lookup q≠none) (hd:slR.lookup d=none) (hn:g0n E.P F ops os ⟨(d,r) :: slR,hb2⟩ K):g0n E.P F ops (⟨some d,op,T,pos,aft,none⟩ :: os) S K:=by
 have hstay:∀ q,(st q=false→H'.lookup q=none)→J0b st S ⟨(d,r) :: slR,hb2⟩ (fun j=>j) H H' q:=fun q hq=>by
  cases e:hb2.lookup q with
  | none=>exact .inl e
  | some B =>
   rcases C.h2 q B e with h | ⟨h3,h4,h5,_⟩
   ·have hst : st q = true := by
     cases e2:st q with
     | true=>rfl
     | false=>rw [hq e2] at h; cases h
    obtain ⟨B0,h6,h7,h8⟩:=C.fix q B hst h
    exact .inr (.inr ⟨q,B0,B,rfl,hst,h6,h,h7,h8⟩)
   ·exact .inr (.inl ⟨by rw [h3]; exact e,fun j hj e2=>by subst e2; exact hj.elim (fun h=>h h4) (fun h=>h h5)⟩)
 refine .cons (N1v hG hX hng (fun j=>j) hs rfl rfl hlt (fun ρ a w hS=>?_) ⟨fun j B hj=>by rw [Blk.ren_id]; exact C.h1 j B hj,fun _ _ _ _ h=>h,fun i j _ h2 _ h4 _=>C.lo j h2 h4,fun k B' hk=>?_,fun t v ht=>?_,hres,C.whole,fun j hj hp=>?_⟩) hn
 ·rw [PV.renL_id]; exact hargs ρ S a w hS hr.all
 ·rcases C.h2 k B' hk with h | ⟨h3,h4,h5,h6⟩
  ·exact .inl ⟨k,B',rfl,h,(Blk.ren_id B').symm⟩
  ·exact .inr ⟨h3,fun j hj e2=>by subst e2; exact hj.elim (fun h=>h h4) (fun h=>h h5),fun i x hx q hq=>hstay q (h6 i x hx q hq)⟩
 ·simp only [St.slot,i0] at ht
  by_cases e:t=d
  ·subst e; simp only [BEq.rfl,U0] at ht; exact .inl ⟨rfl,by rw [PV.ren_id]; exact ht.symm⟩
  ·rw [show (t == d)=false by simpa using e] at ht
   exact .inr ⟨e,C.hs.all t v ht,fun q hq=>hstay q (C.slot t v ht q hq)⟩
 ·have h:=C.pin j hp
  obtain ⟨B1,hB1⟩:=J3 hj
  obtain ⟨B0,h0,_⟩:=C.fix j B1 h hB1
  exact ⟨by rw [h0]; simp,h⟩
end Go.Proofs.YtjagfionflbjbaaGreat.SH
namespace Go.Proofs.YtjagfionflbjbaaGreat.SH
open Go Go.RowKit
def L8 (k:Nat):Bool:=Nat.blt k 1100
def q6 (l:List (Nat×Blk)):Bool:=l.all fun p=>Nat.blt p.1 1000
theorem f0s {l:List (Nat×Blk)}(h:q6 l=true){k:Nat}{B:Blk}(hk:l.lookup k=some B):k<1000:=by
 unfold q6 at h
 rw [s0] at h
 simpa [Nat.blt_eq] using h _ (R3 hk)
theorem y5 {l:List (Nat×Blk)}(h:q6 l=true){k:Nat}(hk:1000≤k):l.lookup k=none:=by
 cases e:l.lookup k with
 | none=>rfl
 | some B=>have:=f0s h e; omega
theorem H8 {α:Type}:∀ {l:List (Nat×α)} {j:Nat} {B:α} (_:l.lookup j=some B),(j,B)∈l
 | [],_,_,h=>by simp at h
 | (k,C) :: l,j,B,h=>by
  rw [i0] at h
  split at h
  ·rename_i e; injection h with h; subst h; simp [beq_iff_eq.1 e]
  ·simp [H8 h]
theorem ncT {F:Fr}{sl slR:List (Nat×PV)}{bx pre pre' T T' U U':List (Nat×Blk)}(ks:List Nat)(hks:(ks.all fun k=>Nat.blt k 1100)=true)
  (hp:q6 pre=true) (hbp:∀ k B,bx.lookup k=some B→pre.lookup k=some B) (hpp:∀ k B,pre'.lookup k=some B→pre.lookup k=some B)
  (hT:∀ k B,T.lookup k=some B→U.lookup k=some B∧1000≤k) (hT':∀ k B,T'.lookup k=some B→1000≤k)
  (hU:∀ k B,U'.lookup k=some B→T'.lookup k=some B∨(1000≤k∧U.lookup k=some B∧T.lookup k=none∧T'.lookup k=none∧∀ i x,B.cs.get i=some x→∀ q,x.free q=false→1100≤q→T'.lookup q=none))
  (hfix:∀ q B1,q<1100→T'.lookup q=some B1→∃ B0,T.lookup q=some B0∧B1.sz=B0.sz∧B1.cs.len=B0.cs.len)
  (hpo:(pre'.all fun p=>p.2.cs.only ks)=true) (hso:(slR.all fun p=>p.2.only ks)=true) (hS:m7 ⟨sl,pre++U⟩ slR)
  (hlo:∀ j,1100≤j→T.lookup j≠none→F.lo j=false) (hpin:∀ j,L8 j=false→F.pin j=none) (hw:Whole (bx++T')) :
  f0b L8 F ⟨sl,pre++U⟩ (bx++T) (bx++T') slR (pre'++U'):=by
 have hbx:∀ k,1000≤k→bx.lookup k=none:=fun k hk=>by
  cases e:bx.lookup k with
  | none=>rfl
  | some B=>have:=f0s hp (hbp k B e); omega
 have hTl:∀ k,k<1000→T.lookup k=none:=fun k hk=>by
  cases e:T.lookup k with
  | none=>rfl
  | some B=>have:=(hT k B e).2; omega
 have hTl':∀ k,k<1000→T'.lookup k=none:=fun k hk=>by
  cases e:T'.lookup k with
  | none=>rfl
  | some B=>have:=hT' k B e; omega
 have hst:∀ {q},L8 q=false→1100≤q:=fun {q} h=>by
  have:¬ q<1100:=fun h2=>by rw [L8,show Nat.blt q 1100=true by rw [Nat.blt_eq]; exact h2] at h; cases h
  omega
 have hst':∀ {q},L8 q=true→q<1100:=fun {q} h=>by simpa [L8,Nat.blt_eq] using h
 have hkl:∀ q,q∈ks→q<1100:=fun q hq=>by rw [s0] at hks; simpa [Nat.blt_eq] using hks q hq
 refine ⟨fun j B hj=>?_,hS,fun k B hk=>?_,fun q B1 hq hq1=>?_,fun t v ht q hq hs=>?_,fun j hj hs=>?_,fun j hj=>?_,hw⟩
 ·show (pre++U).lookup j=some B
  rw [U1] at hj ⊢
  cases e:bx.lookup j with
  | some C=>rw [e,K0] at hj; rw [hbp j C e,K0,hj]
  | none =>
   rw [e,l0] at hj
   rw [y5 hp (hT j B hj).2,l0]; exact (hT j B hj).1
 ·rw [U1] at hk
  show _∨((pre++U).lookup k=some B∧_)
  rw [U1,U1,U1]
  cases e:pre'.lookup k with
  | some C =>
   rw [e,K0] at hk
   injection hk with hk
   subst hk
   have h3:=hpp k C e
   have h4:=f0s hp h3
   rw [h3,hTl k h4,hTl' k h4,K0,Option.or_none]
   cases e2:bx.lookup k with
   | some D =>
    have:=hbp k D e2
    rw [h3] at this
    exact .inl this.symm
   | none =>
    refine .inr ⟨rfl,rfl,rfl,fun i x hx q hq hs=>?_⟩
    rw [s0] at hpo
    have h5:=hkl q (PV.only_mem (Cells.only_get (hpo _ (R3 e)) hx) hq)
    have:=hst hs
    omega
  | none =>
   rw [e,l0] at hk
   rcases hU k B hk with h | ⟨h1,h3,h4,h5,h6⟩
   ·exact .inl (by rw [hbx k (hT' k B h),l0,h])
   ·refine .inr ⟨by rw [y5 hp h1,l0,h3],by rw [hbx k h1,h4]; rfl,by rw [hbx k h1,h5]; rfl,fun i x hx q hq hs=>?_⟩
    have:=hst hs
    rw [U1,hbx q (by omega),l0]; exact h6 i x hx q hq this
 ·rw [U1] at hq1 ⊢
  cases e:bx.lookup q with
  | some C=>rw [e,K0] at hq1; injection hq1 with hq1; subst hq1; exact ⟨C,rfl,rfl,rfl⟩
  | none =>
   rw [e,l0] at hq1
   obtain ⟨B0,h1,h3⟩:=hfix q B1 (hst' hq) hq1
   exact ⟨B0,by rw [l0]; exact h1,h3⟩
 ·rw [s0] at hso
  have h5:=hkl q (PV.only_mem (hso _ (H8 ht)) hq)
  have:=hst hs
  omega
 ·have h1:=hst hs
  rw [U1,hbx j (by omega),l0] at hj
  exact hlo j h1 hj
 ·cases e:L8 j with
  | true=>rfl
  | false=>exact absurd (hpin j e) hj
end Go.Proofs.YtjagfionflbjbaaGreat.SH
namespace Go.Proofs.YtjagfionflbjbaaGreat.SH
open Go
theorem H0p {E:Env}{st st':Nat→Bool}{f:FuncId}{args:List PV}{H H':List (Nat×Blk)}{r:PV}(h:T4 E st f args H H' r)(hst:∀ j,st' j=true→st j=true):T4 E st' f args H H' r:=by
 intro ok ρ w vals hG hH hinj hrel
 refine Calls.mono (h ok ρ w vals hG hH hinj hrel) fun e w' ⟨v,ρ1,he,hp⟩=>⟨v,ρ1,he,{ hp with stay:=fun j h1 h2 h3=>hp.stay j h1 h2 (hst j h3) }⟩
end Go.Proofs.YtjagfionflbjbaaGreat.SH
namespace Go.Proofs.YtjagfionflbjbaaGreat.SH
open Go
section
variable {P:Program} {F:Fr} {d:Nat} {T:TypeId} {pos:String} {aft:Array Edge} {g:Option (Nat×Bool)} {x y:Operand} {xT yT:TypeId}
theorem w0k {e:TypeId}(hu:P.underlying xT=some (.slice e))(hlt:d<F.nt):R2 P F ⟨some d,.binOp .neq xT x y yT,T,pos,aft,g⟩ { rs:=[(x,.p (.a (.slice none 0 0))),(y,.p (.a (.slice none 0 0)))],ws:=[(d,.p (.a (.bool false)))] } :=
 K4 hlt fun e' w h1 h2=>by simp [execOp,h1,h2,eqGuard,run_neq_slice_nil w xT e none 0 0 hu]
theorem y0s {e:TypeId}{k off n tot:Nat}{B:Blk}(hu:P.underlying xT=some (.slice e))(hl:B.cs.len=tot)(hlt:d<F.nt):R2 P F ⟨some d,.binOp .neq xT x y yT,T,pos,aft,g⟩ { rs:=[(x,.ref k off n tot),(y,.p (.a (.slice none 0 0)))],rb:=[(k,B)],ws:=[(d,.p (.a (.bool true)))] } :=
 J4 rfl hlt rfl rfl fun ρ S a w h hA=>by
  obtain ⟨cap,c,he,hc,_,_⟩:=D9 h (hA.rs (x,.ref k off n tot) (by simp)) (hA.rb (k,B) (by simp)) hl
  have hy:=R4 h (v:=.slice none 0 0) (hA.rs (y,_) (by simp))
  exact ⟨.bool true,by simp [execOp,he,hy,eqGuard,run_neq_slice_nil w xT e _ n cap hu],by simp [P2,Rel]⟩
end
end Go.Proofs.YtjagfionflbjbaaGreat.SH
namespace Go.Proofs.YtjagfionflbjbaaGreat.SH
open Go
theorem j3 {P:Program}{F:Fr}{d:Nat}{T:TypeId}{pos:String}{aft:Array Edge}{g:Option (Nat×Bool)}{x:Operand}{k off tot:Nat}{B:Blk}(hl:B.cs.len=tot)(hlt:d<F.nt):R2 P F ⟨some d,.nilCheck x,T,pos,aft,g⟩ { rs:=[(x,.at_ k off tot)],rb:=[(k,B)],ws:=[(d,.at_ k off tot)] } :=
 J4 rfl hlt rfl rfl fun ρ S a w h hA=>by
  have hx:=hA.rs (x,.at_ k off tot) (by simp)
  have he:=q9 h hx (hA.rb (k,B) (by simp)) hl
  exact ⟨.pointer (some ⟨ρ k,off,none⟩),by simp [execOp,he],by rw [← he]; exact d5 h hx⟩
end Go.Proofs.YtjagfionflbjbaaGreat.SH
namespace Go.Proofs.YtjagfionflbjbaaGreat.SH
open Go Go.RowKit
def stA (_:Nat):Bool:=true
theorem F1f {F:Fr}{sl slR:List (Nat×PV)}{bx pre pre' T T' U U':List (Nat×Blk)}
  (hp:q6 pre=true) (hbp:∀ k B,bx.lookup k=some B→pre.lookup k=some B) (hpp:∀ k B,pre'.lookup k=some B→pre.lookup k=some B)
  (hT:∀ k B,T.lookup k=some B→U.lookup k=some B∧1000≤k) (hT':∀ k B,T'.lookup k=some B→1000≤k)
  (hU:∀ k B,U'.lookup k=some B→T'.lookup k=some B∨(1000≤k∧U.lookup k=some B∧T.lookup k=none∧T'.lookup k=none))
  (hfix:∀ q B1,T'.lookup q=some B1→∃ B0,T.lookup q=some B0∧B1.sz=B0.sz∧B1.cs.len=B0.cs.len)
  (hS:m7 ⟨sl,pre++U⟩ slR) (hw:Whole (bx++T')) :
  f0b stA F ⟨sl,pre++U⟩ (bx++T) (bx++T') slR (pre'++U'):=by
 have hbx:∀ k,1000≤k→bx.lookup k=none:=fun k hk=>by
  cases e:bx.lookup k with
  | none=>rfl
  | some B=>have:=f0s hp (hbp k B e); omega
 have hTl:∀ k,k<1000→T.lookup k=none:=fun k hk=>by
  cases e:T.lookup k with
  | none=>rfl
  | some B=>have:=(hT k B e).2; omega
 have hTl':∀ k,k<1000→T'.lookup k=none:=fun k hk=>by
  cases e:T'.lookup k with
  | none=>rfl
  | some B=>have:=hT' k B e; omega
 refine ⟨fun j B hj=>?_,hS,fun k B hk=>?_,fun q B1 hq hq1=>?_,fun t v ht q hq hs=>(by cases hs),fun j hj hs=>(by cases hs),fun j hj=>rfl,hw⟩
 ·show (pre++U).lookup j=some B
  rw [U1] at hj ⊢
  cases e:bx.lookup j with
  | some C=>rw [e,K0] at hj; rw [hbp j C e,K0,hj]
  | none =>
   rw [e,l0] at hj
   rw [y5 hp (hT j B hj).2,l0]; exact (hT j B hj).1
 ·rw [U1] at hk
  show _∨((pre++U).lookup k=some B∧_)
  rw [U1,U1,U1]
  cases e:pre'.lookup k with
  | some C =>
   rw [e,K0] at hk
   injection hk with hk
   subst hk
   have h3:=hpp k C e
   have h4:=f0s hp h3
   rw [h3,hTl k h4,hTl' k h4,K0,Option.or_none]
   cases e2:bx.lookup k with
   | some D =>
    have:=hbp k D e2
    rw [h3] at this
    exact .inl this.symm
   | none=>exact .inr ⟨rfl,rfl,rfl,fun i x hx q hq hs=>(by cases hs)⟩
  | none =>
   rw [e,l0] at hk
   rcases hU k B hk with h | ⟨h1,h3,h4,h5⟩
   ·exact .inl (by rw [hbx k (hT' k B h),l0,h])
   ·exact .inr ⟨by rw [y5 hp h1,l0,h3],by rw [hbx k h1,h4]; rfl,by rw [hbx k h1,h5]; rfl,fun i x hx q hq hs=>(by cases hs)⟩
 ·rw [U1] at hq1 ⊢
  cases e:bx.lookup q with
  | some C=>rw [e,K0] at hq1; injection hq1 with hq1; subst hq1; exact ⟨C,rfl,rfl,rfl⟩
  | none =>
   rw [e,l0] at hq1
   obtain ⟨B0,h1,h3⟩:=hfix q B1 hq1
   exact ⟨B0,by rw [l0]; exact h1,h3⟩
end Go.Proofs.YtjagfionflbjbaaGreat.SH
namespace Go.Proofs.YtjagfionflbjbaaGreat.SH
open Go
theorem g0y {P:Program}{F:Fr}{d:Nat}{t T:TypeId}{pos:String}{aft:Array Edge}{g:Option (Nat×Bool)}{k:Nat}{x:Operand}{j off tot:Nat}{B:Blk}(hl:B.cs.len=tot)(hf:(j != k)=true)(hpk:F.pin k=none)(hlt:d<F.nt) :
  R2 P F ⟨some d,.box t x,T,pos,aft,g⟩ { rs:=[(x,.at_ j off tot)],rb:=[(j,B)],fresh:=some k,ws:=[(d,.at_ k 0 1)],wb:=[(k,⟨t,1,.mix [.at_ j off tot]⟩)] } :=
 j0z (n:=1) (vs:=[.at_ j off tot]) rfl hpk hlt rfl rfl rfl rfl fun ρ S a w h hA=>by
  have hx:=hA.rs (x,.at_ j off tot) (by simp)
  have he:=q9 h hx (hA.rb (j,B) (by simp)) hl
  have hr:=d5 h hx
  refine ⟨[a.eval x],?_,by simp only [G3]; exact ⟨_,_,rfl,hr,rfl⟩,fun c hc=>?_,by simp only [PV.freeL,PV.free,hf]; rfl⟩
  ·rw [he]; simp [execOp,he,Instr.box,newVar,newRow,Value.cells]
  ·obtain rfl:=List.mem_singleton.1 hc
   rw [he]; rfl
end Go.Proofs.YtjagfionflbjbaaGreat.SH
namespace Go.Proofs.YtjagfionflbjbaaGreat.SH
open Go
theorem p0T {pre T:List (Nat×Blk)}{k:Nat}(h:R5 T)(hk:(Nat.blt k 1000 && (pre.lookup k).isNone)=true):(pre++T).lookup k=none:=by
 rw [j0] at hk
 rw [U1,h.low k hk.1,Option.or_none]
 exact Option.isNone_iff_eq_none.1 hk.2
end Go.Proofs.YtjagfionflbjbaaGreat.SH
set_option maxRecDepth 100000
set_option maxHeartbeats 4000000
namespace Go.Proofs.YtjagfionflbjbaaGreat.N
open Go Go.Proofs.YtjagfionflbjbaaGreat.SH Go.Proofs.YtjagfionflbjbaaGreat.NumA
open Go.Proofs.Tryz renaming call65→cl65,call91→cl91,call93→cl93,call94→cl94,call95→cl95,call96→cl96,call98→cl98,call99→cl99,isAgg3→ag3,isAgg47→ag47,isAgg73→ag73,isAgg77→ag77,sizeOf47→sz47,sizeOf77→sz77,underlying77→un77,underlying79→un79
@[reducible] def bxI (k:Nat)(i:Nat):Nat×Blk:=(k,⟨3,1,.mix [.p (vZ i)]⟩)
theorem m5 {s k:Nat}{B:Blk}{m:List (List Rat)}(h2:s<9)(h:(J2 s m).lookup k=some B):1000≤k:=by
 rcases V5 h2 (show (J2 s m).lookup k≠none by rw [h]; simp) with rfl | ⟨q,_,rfl⟩
 ·omega
 ·simp only [K3]; omega
theorem f0p {s:Nat}{m m':List (List Rat)}(h2:s<9)(hl:m'.length=m.length){q:Nat}{B1:Blk}(hq:q<1100)(h:(J2 s m').lookup q=some B1):∃ B0,(J2 s m).lookup q=some B0∧B1.sz=B0.sz∧B1.cs.len=B0.cs.len:=by
 rcases V5 h2 (show (J2 s m').lookup q≠none by rw [h]; simp) with rfl | ⟨q,_,rfl⟩
 ·rw [hdL] at h
  injection h with h
  subst h
  exact ⟨hdB s m,hdL,rfl,by simp [Cells.len,hl]⟩
 ·simp only [K3] at hq; omega
theorem q1a {bx T:List (Nat×Blk)}(hb:(bx.all fun p=>p.2.cs.only [])=true)(hT:Whole T)(hd:∀ k B,T.lookup k=some B→bx.lookup k=none):Whole (bx++T):=by
 intro j B hj i x hx q hq
 rw [U1] at hj ⊢
 cases e:bx.lookup j with
 | some C =>
  rw [e,K0] at hj
  injection hj with hj
  subst hj
  rw [s0] at hb
  have:=PV.only_mem (Cells.only_get (hb _ (R3 e)) hx) hq
  simp at this
 | none =>
  rw [e,l0] at hj
  have:=hT j B hj i x hx q hq
  intro hn
  cases e2:T.lookup q with
  | none=>exact this e2
  | some C=>rw [hd q C e2,l0,e2] at hn; cases hn
theorem ncM {F:Fr}{n:Nat}{sl:List (Nat×PV)}{bx:List (Nat×Blk)}{s:Nat}{m m':List (List Rat)}(h2:s<9)(hl:m'.length=m.length)(G:GFr E L8 (bx++J2 s m) n F)(hp:q6 bx=true)(hb:(bx.all fun p=>p.2.cs.only [])=true) :
  f0b L8 F ⟨sl,bx++J2 s m⟩ (J2 s m) (J2 s m') [] (bx++J2 s m') :=
 ncT (bx:=[]) (T:=J2 s m) (T':=J2 s m') (U:=J2 s m) (U':=J2 s m') [] rfl hp (fun k B h=>by cases h) (fun k B h=>h) (fun k B h=>⟨h,m5 h2 h⟩) (fun k B h=>m5 h2 h) (fun k B h=>.inl h) (fun q B1 hq h=>f0p h2 hl hq h) hb rfl trivial
  (fun j hj h=>by
   rw [G.lo,U1,y5 hp oM,l0]
   cases e:(J2 s m).lookup j with
   | none=>exact absurd e h
   | some B=>rfl) G.ps (E2 h2 m').whole
theorem w0a (s:Nat)(m:List (List Rat))(i p:Nat)(h2:s<9)(hi:i<m.length)(hp:p<m.length)(hne:i≠p):T4 E L8 93 [.ref (s+1001) 0 m.length m.length,.at_ 6 0 1,.at_ 5 0 1] ([bxI 5 p,bxI 6 i]++J2 s m) ([bxI 5 p,bxI 6 i]++J2 s (M5 m i p)) (.p (.tup [])):=by
 refine D4 (xs:=[]) Tryz.func93 rfl Tryz.ntmps93 Tryz.results93 sM fun F G=>?_
 have L:=@lti _ _ G.nt
 have hG:=G.g
 have hX:=G.x
 have hN:=i6 hG
 refine H0h (nsw (c_m L) t1 t0 (nsw (Z1 ag3 rF rF L) t1 t1 ?_))
 refine nsw (Z1 ag3 rF rF L) t1 t1 ?_
 refine nsI hG hX hN [] ([(5,_),(6,_)]++(J2 s (M5 m i p))) (w1r s m i p h2 hi hp hne) L (l5 (ys:=[_,_,_]) cl94 rfl rfl) t3 (by exact ncM (bx:=[bxI 5 p,bxI 6 i]) h2 sM G rfl rfl) (fun q h=>by cases h) rfl ?_
 refine .nil ?_
 refine ⟨.inl rfl,Z4.cast .nil ?_,⟨rfl,rfl,hbT [_,_] (E2 h2 _) rfl⟩⟩
 rfl
@[reducible] def bxQ (k:Nat)(c:Rat):Nat×Blk:=(k,bQ c)
theorem y0n (s:Nat)(m:List (List Rat))(p:Nat)(c:Rat)(h2:s<9)(hp:p<m.length)(hl:(m.getD p []).length<1000000000)(hs:∀ a∈m.getD p [],qw a<1000000000)(hc:qw c<1000000000):T4 E L8 95 [.ref (s+1001) 0 m.length m.length,.at_ 5 0 1,.at_ 8 0 4] ([bxI 5 p,bxQ 8 c]++J2 s m) ([bxI 5 p,bxQ 8 c]++J2 s (m.set p ((m.getD p []).map (· * c)))) (.p (.tup [])):=by
 refine D4 (xs:=[]) Tryz.func95 rfl Tryz.ntmps95 Tryz.results95 sM fun F G=>?_
 have L:=@lti _ _ G.nt
 have hG:=G.g
 have hX:=G.x
 have hN:=i6 hG
 refine H0h (nsw (c_m L) t1 t0 (nsw (Z1 ag3 rF rF L) t1 t1 ?_))
 refine nsw (R6 ag47 sz47 rF (by exact al4) rfl L) t1 t1 ?_
 refine nsI hG hX hN [] ([(5,_),(8,_)]++(J2 s (m.set p ((m.getD p []).map (· * c))))) (H0p (j1k s m p c h2 hp hl hs hc) (fun _ _=>rfl)) L (l5 (ys:=[_,_,_]) cl96 rfl rfl) t3 (by exact ncM (bx:=[bxI 5 p,bxQ 8 c]) h2 sM G rfl rfl) (fun q h=>by cases h) rfl ?_
 refine .nil ?_
 refine ⟨.inl rfl,Z4.cast .nil ?_,⟨rfl,rfl,hbT [_,_] (E2 h2 _) rfl⟩⟩
 rfl
def U9 (m m':List (List Rat)):Prop:=m'.length=m.length∧∀ i,(m'.getD i []).length=(m.getD i []).length
theorem w1q {m:List (List Rat)}{i:Nat}{r:List Rat}(h:r.length=(m.getD i []).length):U9 m (m.set i r):=by
 refine ⟨by simp,fun j=>?_⟩
 rw [f0,List.getElem?_set]
 by_cases e:i=j
 ·subst e
  rw [if_pos rfl]
  by_cases hi:i<m.length
  ·rw [if_pos hi]; exact h
  ·rw [if_neg hi,f0,List.getElem?_eq_none oM]
 ·rw [if_neg e,f0]
theorem b0g {s:Nat}{m m':List (List Rat)}(h2:s<9)(hl:U9 m m'){q:Nat}{B1:Blk}(h:(J2 s m').lookup q=some B1):∃ B0,(J2 s m).lookup q=some B0∧B1.sz=B0.sz∧B1.cs.len=B0.cs.len:=by
 rcases V5 h2 (show (J2 s m').lookup q≠none by rw [h]; simp) with rfl | ⟨q,hq,rfl⟩
 ·rw [hdL] at h
  injection h with h
  subst h
  exact ⟨hdB s m,hdL,rfl,by simp [Cells.len,hl.1]⟩
 ·rw [rwL h2 hq] at h
  injection h with h
  subst h
  exact ⟨_,rwL h2 (by rw [← hl.1]; exact hq),rfl,by simp only [Cells.len,i3,hl.2 q]⟩
theorem d2k {F:Fr}{n:Nat}{sl:List (Nat×PV)}{bx:List (Nat×Blk)}{s:Nat}{m m':List (List Rat)}(h2:s<9)(hl:U9 m m')(hp:q6 bx=true) :
  f0b stA F ⟨sl,bx++J2 s m⟩ (J2 s m) (J2 s m') [] (bx++J2 s m') :=
 F1f (bx:=[]) (T:=J2 s m) (T':=J2 s m') (U:=J2 s m) (U':=J2 s m') hp (fun k B h=>by cases h) (fun k B h=>h) (fun k B h=>⟨h,m5 h2 h⟩) (fun k B h=>m5 h2 h) (fun k B h=>.inl h) (fun q B1 h=>b0g h2 hl h) t0 (E2 h2 m').whole
theorem k0z {m:List (List Rat)}{i p:Nat}{c:Rat}(hlen:(m.getD p []).length=(m.getD i []).length):U9 m (f8 m i p c):=w1q (by simp; simp at hlen; omega)
theorem w0g (s:Nat)(m:List (List Rat))(i p:Nat)(c:Rat)(B C D:Nat)(h2:s<9)(hi:i<m.length)(hp:p<m.length)(hne:i≠p)(hlen:(m.getD p []).length=(m.getD i []).length)(hl:(m.getD i []).length<1000000000)(hB:∀ a∈m.getD i [],qw a≤B)(hC:∀ a∈m.getD p [],qw a≤C)(hD:qw c≤D)(hb:B+(D+C)+1<1000000000):T4 E stA 98 [.ref (s+1001) 0 m.length m.length,.at_ 10 0 1,.at_ 5 0 1,.at_ 11 0 4] ([bxI 5 p,bxI 10 i,bxQ 11 c]++J2 s m) ([bxI 5 p,bxI 10 i,bxQ 11 c]++J2 s (f8 m i p c)) (.p (.tup [])):=by
 refine D4 (xs:=[]) Tryz.func98 rfl Tryz.ntmps98 Tryz.results98 sM fun F G=>?_
 have L:=@lti _ _ G.nt
 have hG:=G.g
 have hX:=G.x
 have hN:=i6 hG
 refine H0h (nsw (c_m L) t1 t0 (nsw (Z1 ag3 rF rF L) t1 t1 ?_))
 refine nsw (Z1 ag3 rF rF L) t1 t1 ?_
 refine nsw (R6 ag47 sz47 rF (by exact al4) rfl L) t1 t1 ?_
 refine nsI hG hX hN [] ([(5,_),(10,_),(11,_)]++(J2 s (f8 m i p c))) (H0p (h1m s m i p c B C D h2 hi hp hne hlen hl hB hC hD hb) (fun _ _=>rfl)) L (l5 (ys:=[_,_,_,_]) cl99 rfl rfl) t4 (by exact d2k (n:=0) (bx:=[bxI 5 p,bxI 10 i,bxQ 11 c]) h2 (k0z hlen) rfl) (fun q h=>by cases h) rfl ?_
 refine .nil ?_
 refine ⟨.inl rfl,Z4.cast .nil ?_,⟨rfl,rfl,rfl,hbT [_,_,_] (E2 h2 _) rfl⟩⟩
 rfl
@[reducible] def wB (c n:Nat):Option Nat→Blk
 | none=>⟨79,3,.mix [.ref 1001 0 n n,.p (vZ c),.p (.a (.slice none 0 0))]⟩
 | some k=>⟨79,3,.mix [.ref 1001 0 n n,.p (vZ c),.ref 1002 0 k k]⟩
theorem N0c {s k i q:Nat}{m:List (List Rat)}{B:Blk}{x:PV}(h2:s<9)(h:(J2 s m).lookup k=some B)(hx:B.cs.get i=some x)(hq:x.free q=false):∃ j,q=K3 s j:=by
 rcases V5 h2 (show (J2 s m).lookup k≠none by rw [h]; simp) with rfl | ⟨j,hj,rfl⟩
 ·rw [hdL] at h
  injection h with h
  subst h
  obtain ⟨v,_,e⟩:=F0w hx hq
  exact ⟨_,e⟩
 ·rw [rwL h2 hj] at h
  injection h with h
  subst h
  simp only [Cells.get,M0] at hx
  obtain ⟨y,_,rfl⟩:=hx
  simp [PV.free] at hq
theorem T8 {s s' k:Nat}{m b:List (List Rat)}(h2:s<2)(h2':s'<2)(hne:s≠s')(h:(J2 s m).lookup k≠none):(J2 s' b).lookup k=none:=by
 cases e:(J2 s' b).lookup k with
 | none=>rfl
 | some B =>
  rcases V5 oM h with rfl | ⟨q,_,rfl⟩ <;> rcases V5 oM (show (J2 s' b).lookup _≠none by rw [e]; simp) with h3 | ⟨q',_,h3⟩ <;> (try simp only [K3] at h3) <;> omega
theorem v1c {s k:Nat}{m m':List (List Rat)}(h2:s<9)(hl:m'.length=m.length)(h:(J2 s m).lookup k=none):(J2 s m').lookup k=none:=by
 cases e:(J2 s m').lookup k with
 | none=>rfl
 | some B =>
  rcases V5 h2 (show (J2 s m').lookup k≠none by rw [e]; simp) with rfl | ⟨q,hq,rfl⟩
  ·rw [hdL] at h; cases h
  ·exact absurd h (d1v h2 oM)
theorem X7 (m b:List (List Rat)):R5 (J2 0 m++J2 1 b):=by
 have h0:=E2 (s:=0) dC m
 have h1:=E2 (s:=1) dC b
 refine ⟨fun k hk=>by rw [U1,h0.low k hk,h1.low k hk]; rfl,?_,fun k hk=>by rw [U4,h0.free k hk,h1.free k hk]; rfl,fun j B hj i x hx q hq=>?_⟩
 ·rw [List.map_append,List.nodup_append]
  refine ⟨h0.nd,h1.nd,fun a ha b' hb e=>?_⟩
  subst e
  obtain ⟨⟨a,A⟩,hA,rfl⟩:=G0.1 ha
  obtain ⟨⟨a',A'⟩,hA',e⟩:=G0.1 hb
  simp only at e
  subst e
  have:=T8 (m:=m) (b:=b) (k:=a') (s:=0) (s':=1) dC dC dC (by rw [W5 h0.nd hA]; simp)
  rw [W5 h1.nd hA'] at this; cases this
 ·rw [U1] at hj ⊢
  cases e:(J2 0 m).lookup j with
  | some C =>
   rw [e,K0] at hj
   injection hj with hj
   subst hj
   have:=h0.whole j C e i x hx q hq
   obtain ⟨D,hD⟩:=D1.1 this
   rw [hD]; simp
  | none =>
   rw [e,l0] at hj
   have:=h1.whole j B hj i x hx q hq
   obtain ⟨D,hD⟩:=D1.1 this
   rw [hD]; simp
theorem W1n {m b:List (List Rat)}:(J2 0 m++J2 1 b).lookup 1002=some (hdB 1 b):=by
 rw [U1,T8 (m:=b) (b:=m) (k:=1002) (s:=1) (s':=0) dC dC dC (by rw [show 1002=1+1001 from rfl,hdL]; simp),l0]; exact hdL
@[reducible] def ks8:List Nat:=[1,3,4,5,6,7,8,10,11,999,1001,1002,1003]
theorem m1f {F:Fr}{n:Nat}{H0 pre T:List (Nat×Blk)}(G:GFr E L8 H0 n F)(h:∀ k,T.lookup k≠none→H0.lookup k≠none):∀ j,1100≤j→T.lookup j≠none→F.lo j=false:=fun j _ hj=>by
 rw [G.lo]
 cases e:H0.lookup j with
 | none=>exact absurd e (h j hj)
 | some B=>rfl
theorem U8 {pre T:List (Nat×Blk)}{k:Nat}(h:T.lookup k≠none):(pre++T).lookup k≠none:=by
 rw [U1]
 cases pre.lookup k with
 | none=>simpa using h
 | some B=>simp
theorem m0p {T U:List (Nat×Blk)}{k:Nat}(h:T.lookup k≠none):(T++U).lookup k≠none:=by
 rw [U1]
 cases e:T.lookup k with
 | none=>exact absurd e h
 | some B=>simp
theorem v0w {bx r:List (Nat×Blk)}:∀ k B,bx.lookup k=some B→(bx++r).lookup k=some B:=fun k B h=>by rw [U1,h]; rfl
theorem p1z {bx T:List (Nat×Blk)}(hp:q6 bx=true)(hT:∀ k B,T.lookup k=some B→1000≤k)(hb:(bx.all fun p=>p.2.cs.only [])=true)(hw:Whole T):Whole (bx++T) :=
 q1a hb hw fun k B h=>y5 hp (hT k B h)
theorem nc1 {F:Fr}{n:Nat}{sl slR:List (Nat×PV)}{bx r:List (Nat×Blk)}{m m':List (List Rat)}(hl:m'.length=m.length)(G:GFr E L8 ((bx++r)++J2 0 m) n F)(hp:q6 (bx++r)=true)(hp':q6 bx=true)(hb:(bx.all fun p=>p.2.cs.only [])=true)(hpo:((bx++r).all fun p=>p.2.cs.only ks8)=true)(hso:(slR.all fun p=>p.2.only ks8)=true)(hS:m7 ⟨sl,(bx++r)++J2 0 m⟩ slR) :
  f0b L8 F ⟨sl,(bx++r)++J2 0 m⟩ (bx++J2 0 m) (bx++J2 0 m') slR ((bx++r)++J2 0 m') :=
 ncT (pre:=bx++r) (pre':=bx++r) ks8 rfl hp v0w (fun k B h=>h) (fun k B h=>⟨h,m5 dC h⟩) (fun k B h=>m5 dC h) (fun k B h=>.inl h) (fun q B1 hq h=>f0p dC hl hq h) hpo hso hS
  (m1f (pre:=[]) G fun k h=>U8 h) G.ps (p1z hp' (fun k B h=>m5 dC h) hb (E2 dC m').whole)
theorem d2c {F:Fr}{n:Nat}{sl slR:List (Nat×PV)}{bx r:List (Nat×Blk)}{m m' b:List (List Rat)}(hl:m'.length=m.length)(G:GFr E L8 ((bx++r)++(J2 0 m++J2 1 b)) n F)(hp:q6 (bx++r)=true)(hp':q6 bx=true)(hb:(bx.all fun p=>p.2.cs.only [])=true)(hpo:((bx++r).all fun p=>p.2.cs.only ks8)=true)(hso:(slR.all fun p=>p.2.only ks8)=true)(hS:m7 ⟨sl,(bx++r)++(J2 0 m++J2 1 b)⟩ slR) :
  f0b L8 F ⟨sl,(bx++r)++(J2 0 m++J2 1 b)⟩ (bx++J2 0 m) (bx++J2 0 m') slR ((bx++r)++(J2 0 m'++J2 1 b)) :=
 ncT (pre:=bx++r) (pre':=bx++r) ks8 rfl hp v0w (fun k B h=>h) (fun k B h=>⟨by rw [U1,h]; rfl,m5 dC h⟩) (fun k B h=>m5 dC h)
  (fun k B h=>by
   rw [U1] at h
   cases e:(J2 0 m').lookup k with
   | some C=>rw [e] at h; exact .inl h
   | none =>
    rw [e,l0] at h
    have h0:=T8 (m:=b) (b:=m) (k:=k) (s:=1) (s':=0) dC dC dC (by rw [h]; simp)
    refine .inr ⟨m5 dC h,by rw [U1,h0,l0,h],h0,rfl,fun i x hx q hq _=>?_⟩
    obtain ⟨j,rfl⟩:=N0c dC h hx hq
    cases e2:(J2 0 m').lookup (K3 1 j) with
    | none=>rfl
    | some C=>rcases V5 dC (show (J2 0 m').lookup _≠none by rw [e2]; simp) with h3 | ⟨q',_,h3⟩ <;> simp only [K3] at h3 <;> omega)
  (fun q B1 hq h=>f0p dC hl hq h) hpo hso hS (m1f (pre:=[]) G fun k h=>U8 (m0p h)) G.ps (p1z hp' (fun k B h=>m5 dC h) hb (E2 dC m').whole)
theorem W1z {F:Fr}{n:Nat}{sl slR:List (Nat×PV)}{bx r:List (Nat×Blk)}{m0 m b b':List (List Rat)}(hl:b'.length=b.length)(G:GFr E L8 ((bx++r)++(J2 0 m0++J2 1 b)) n F)(hp:q6 (bx++r)=true)(hp':q6 bx=true)(hb:(bx.all fun p=>p.2.cs.only [])=true)(hpo:((bx++r).all fun p=>p.2.cs.only ks8)=true)(hso:(slR.all fun p=>p.2.only ks8)=true)(hS:m7 ⟨sl,(bx++r)++(J2 0 m++J2 1 b)⟩ slR) :
  f0b L8 F ⟨sl,(bx++r)++(J2 0 m++J2 1 b)⟩ (bx++J2 1 b) (bx++J2 1 b') slR ((bx++r)++(J2 0 m++J2 1 b')):=by
 have hdd:∀ (b:List (List Rat)) k B,(J2 1 b).lookup k=some B→(J2 0 m).lookup k=none:=fun b k B h=>T8 (m:=b) (b:=m) (k:=k) (s:=1) (s':=0) dC dC dC (by rw [h]; simp)
 have hdd':∀ (b:List (List Rat)) k B,(J2 0 m).lookup k=some B→(J2 1 b).lookup k=none:=fun b k B h=>T8 (m:=m) (b:=b) (k:=k) (s:=0) (s':=1) dC dC dC (by rw [h]; simp)
 refine ncT (pre:=bx++r) (pre':=bx++r) ks8 rfl hp v0w (fun k B h=>h) (fun k B h=>⟨by rw [U1,hdd b k B h,l0,h],m5 dC h⟩) (fun k B h=>m5 dC h)
  (fun k B h=>?_)
  (fun q B1 hq h=>f0p dC hl hq h) hpo hso hS (m1f (pre:=[]) G fun k h=>U8 (U8 h)) G.ps (p1z hp' (fun k B h=>m5 dC h) hb (E2 dC b').whole)
 rw [U1] at h
 cases e:(J2 0 m).lookup k with
 | none=>rw [e,l0] at h; exact .inl h
 | some C =>
  rw [e,K0] at h
  injection h with h
  subst h
  refine .inr ⟨m5 dC e,by rw [U1,e]; rfl,hdd' b k C e,hdd' b' k C e,fun i x hx q hq _=>?_⟩
  obtain ⟨j,rfl⟩:=N0c dC e hx hq
  cases e2:(J2 1 b').lookup (K3 0 j) with
  | none=>rfl
  | some D=>rcases V5 dC (show (J2 1 b').lookup _≠none by rw [e2]; simp) with h3 | ⟨q',_,h3⟩ <;> simp only [K3] at h3 <;> omega
theorem f2a {F:Fr}{sl slR:List (Nat×PV)}{bx r:List (Nat×Blk)}{m m':List (List Rat)}(hl:U9 m m')(hp:q6 (bx++r)=true)(hp':q6 bx=true)(hb:(bx.all fun p=>p.2.cs.only [])=true)(hS:m7 ⟨sl,(bx++r)++J2 0 m⟩ slR) :
  f0b stA F ⟨sl,(bx++r)++J2 0 m⟩ (bx++J2 0 m) (bx++J2 0 m') slR ((bx++r)++J2 0 m') :=
 F1f (pre:=bx++r) (pre':=bx++r) hp v0w (fun k B h=>h) (fun k B h=>⟨h,m5 dC h⟩) (fun k B h=>m5 dC h) (fun k B h=>.inl h) (fun q B1 h=>b0g dC hl h) hS (p1z hp' (fun k B h=>m5 dC h) hb (E2 dC m').whole)
theorem b2v {F:Fr}{sl slR:List (Nat×PV)}{bx r:List (Nat×Blk)}{m m' b:List (List Rat)}(hl:U9 m m')(hp:q6 (bx++r)=true)(hp':q6 bx=true)(hb:(bx.all fun p=>p.2.cs.only [])=true)(hS:m7 ⟨sl,(bx++r)++(J2 0 m++J2 1 b)⟩ slR) :
  f0b stA F ⟨sl,(bx++r)++(J2 0 m++J2 1 b)⟩ (bx++J2 0 m) (bx++J2 0 m') slR ((bx++r)++(J2 0 m'++J2 1 b)) :=
 F1f (pre:=bx++r) (pre':=bx++r) hp v0w (fun k B h=>h) (fun k B h=>⟨by rw [U1,h]; rfl,m5 dC h⟩) (fun k B h=>m5 dC h)
  (fun k B h=>by
   rw [U1] at h
   cases e:(J2 0 m').lookup k with
   | some C=>rw [e] at h; exact .inl h
   | none =>
    rw [e,l0] at h
    have h0:=T8 (m:=b) (b:=m) (k:=k) (s:=1) (s':=0) dC dC dC (by rw [h]; simp)
    exact .inr ⟨m5 dC h,by rw [U1,h0,l0,h],h0,rfl⟩)
  (fun q B1 h=>b0g dC hl h) hS (p1z hp' (fun k B h=>m5 dC h) hb (E2 dC m').whole)
theorem W1w {F:Fr}{sl slR:List (Nat×PV)}{bx r:List (Nat×Blk)}{m b b':List (List Rat)}(hl:U9 b b')(hp:q6 (bx++r)=true)(hp':q6 bx=true)(hb:(bx.all fun p=>p.2.cs.only [])=true)(hS:m7 ⟨sl,(bx++r)++(J2 0 m++J2 1 b)⟩ slR) :
  f0b stA F ⟨sl,(bx++r)++(J2 0 m++J2 1 b)⟩ (bx++J2 1 b) (bx++J2 1 b') slR ((bx++r)++(J2 0 m++J2 1 b')):=by
 have hdd:∀ (b:List (List Rat)) k B,(J2 1 b).lookup k=some B→(J2 0 m).lookup k=none:=fun b k B h=>T8 (m:=b) (b:=m) (k:=k) (s:=1) (s':=0) dC dC dC (by rw [h]; simp)
 have hdd':∀ (b:List (List Rat)) k B,(J2 0 m).lookup k=some B→(J2 1 b).lookup k=none:=fun b k B h=>T8 (m:=m) (b:=b) (k:=k) (s:=0) (s':=1) dC dC dC (by rw [h]; simp)
 refine F1f (pre:=bx++r) (pre':=bx++r) hp v0w (fun k B h=>h) (fun k B h=>⟨by rw [U1,hdd b k B h,l0,h],m5 dC h⟩) (fun k B h=>m5 dC h)
  (fun k B h=>?_) (fun q B1 h=>b0g dC hl h) hS (p1z hp' (fun k B h=>m5 dC h) hb (E2 dC b').whole)
 rw [U1] at h
 cases e:(J2 0 m).lookup k with
 | none=>rw [e,l0] at h; exact .inl h
 | some C =>
  rw [e,K0] at h
  injection h with h
  subst h
  exact .inr ⟨m5 dC e,by rw [U1,e]; rfl,hdd' b k C e,hdd' b' k C e⟩
theorem W1f (c:Nat)(m:List (List Rat))(i p:Nat)(hi:i<m.length)(hp:p<m.length)(hne:i≠p):T4 E L8 92 [.at_ 999 0 3,.clo (.func 93) [] [.at_ 6 0 1,.at_ 5 0 1]] ([bxI 5 p,bxI 6 i,(999,wB c m.length none)]++J2 0 m) ([bxI 5 p,bxI 6 i,(999,wB c m.length none)]++J2 0 (M5 m i p)) (.p (.tup [])):=by
 refine D4 (xs:=[]) Tryz.func92 rfl Tryz.ntmps92 Tryz.results92 sM fun F G=>?_
 have L:=@lti _ _ G.nt
 have hG:=G.g
 have hX:=G.x
 have hN:=i6 hG
 refine q0h (nsw (c_m L) t1 t0 (nsw (c_m L) t1 t0 (nsw (j3 rX L) t1 t1 ?_)))
 refine nsw (j2 un79 rfl sz77 dC rX L) t1 t1 ?_
 refine nsw (Z1 ag77 rF rF L) t1 t1 ?_
 refine nsI hG hX hN [(0,.at_ 999 0 3),(1,.clo (.func 93) .nil [.at_ 6 0 1,.at_ 5 0 1])] ([(5,_),(6,_),(999,_)]++(J2 0 (M5 m i p))) (w0a 0 m i p dC hi hp hne) L (C7 (fst:=[]) (ys:=[_]) (cap:=[_,_]) cl93 rfl rfl) t2 (by exact nc1 (bx:=[bxI 5 p,bxI 6 i]) (r:=[_]) sM G rfl rfl rfl rfl rfl t2) (fun q h=>by cases h) rfl ?_
 refine .nil ⟨[(0,_),(1,_)],(5,_) :: (6,_) :: (999,_) :: J2 0 (M5 m i p),t2,⟨rfl,rfl,rfl,(hbT [_,_,_] (E2 dC (M5 m i p)) rfl)⟩,?_⟩
 refine exr (mV L rfl (sw (j3 rX L) t1 t1 ?_))
 refine sw (j2 un79 rfl sz77 dC rX L) t1 t1 ?_
 refine sw (Z1 ag77 rF rF L) t1 t1 ?_
 refine sw (w0k un77 L) t2 t0 ?_
 refine R1 ⟨[(0,_),(1,_),(14,_)],(5,_) :: (6,_) :: (999,_) :: (J2 0 (M5 m i p)),t3,⟨rfl,rfl,rfl,(hbT [_,_,_] (E2 dC (M5 m i p)) rfl)⟩,?_⟩
 refine T3 rfl rfl (V1 ?_)
 refine ⟨.inl rfl,Z4.cast .nil ?_,⟨rfl,rfl,rfl,(hbT [_,_,_] (E2 dC (M5 m i p)) rfl)⟩⟩
 rfl
theorem V1y (c:Nat)(m b:List (List Rat))(i p:Nat)(hi:i<m.length)(hp:p<m.length)(hne:i≠p)(hib:i<b.length)(hpb:p<b.length):T4 E L8 92 [.at_ 999 0 3,.clo (.func 93) [] [.at_ 6 0 1,.at_ 5 0 1]] ([bxI 5 p,bxI 6 i,(999,wB c m.length (some b.length))]++(J2 0 m++J2 1 b)) ([bxI 5 p,bxI 6 i,(999,wB c m.length (some b.length))]++(J2 0 (M5 m i p)++J2 1 (M5 b i p))) (.p (.tup [])):=by
 refine D4 (xs:=[]) Tryz.func92 rfl Tryz.ntmps92 Tryz.results92 sM fun F G=>?_
 have L:=@lti _ _ G.nt
 have hG:=G.g
 have hX:=G.x
 have hN:=i6 hG
 refine q0h (nsw (c_m L) t1 t0 (nsw (c_m L) t1 t0 (nsw (j3 rX L) t1 t1 ?_)))
 refine nsw (j2 un79 rfl sz77 dC rX L) t1 t1 ?_
 refine nsw (Z1 ag77 rF rF L) t1 t1 ?_
 refine nsI hG hX hN [(0,.at_ 999 0 3),(1,.clo (.func 93) .nil [.at_ 6 0 1,.at_ 5 0 1])] ([(5,_),(6,_),(999,_)]++(J2 0 (M5 m i p)++J2 1 b)) (w0a 0 m i p dC hi hp hne) L (C7 (fst:=[]) (ys:=[_]) (cap:=[_,_]) cl93 rfl rfl) t2 (by exact d2c (bx:=[bxI 5 p,bxI 6 i]) (r:=[_]) sM G rfl rfl rfl rfl rfl t2) (fun q h=>by cases h) rfl ?_
 refine .nil ⟨[(0,_),(1,_)],(5,_) :: (6,_) :: (999,_) :: J2 0 (M5 m i p)++J2 1 b,t2,⟨rfl,rfl,rfl,(hbT [_,_,_] (X7 (M5 m i p) b) rfl)⟩,?_⟩
 refine exr (mV L rfl (sw (j3 rX L) t1 t1 ?_))
 refine sw (j2 un79 rfl sz77 dC rX L) t1 t1 ?_
 refine sw (Z1 ag77 rF rF L) t1 t1 ?_
 refine sw (y0s un77 (by first | exact G2 _ _ _ | exact (G2 _ _ _).trans sM) L) t2 ⟨rdT [_,_,_] (X7 (M5 m i p) b) rfl W1n,trivial⟩ ?_
 refine R1 ⟨[(0,_),(1,_),(14,_)],(5,_) :: (6,_) :: (999,_) :: (J2 0 (M5 m i p)++J2 1 b),t3,⟨rfl,rfl,rfl,(hbT [_,_,_] (X7 (M5 m i p) b) rfl)⟩,?_⟩
 refine v8 rfl rfl (H0h (nsw (c_m L) t1 t0 (nsw (c_m L) t1 t0 (nsw (j3 rX L) t1 t1 ?_))))
 refine nsw (j2 un79 rfl sz77 dC rX L) t1 t1 ?_
 refine nsw (Z1 ag77 rF rF L) t1 t1 ?_
 refine nsI hG hX hN [] ([(5,_),(6,_),(999,_)]++(J2 0 (M5 m i p)++J2 1 (M5 b i p))) (w0a 1 b i p dC hib hpb hne) L (C7 (fst:=[]) (ys:=[_]) (cap:=[_,_]) cl93 rfl rfl) t2 (by exact W1z (bx:=[bxI 5 p,bxI 6 i]) (r:=[_]) sM G rfl rfl rfl rfl rfl trivial) (fun q h=>by cases h) rfl ?_
 refine .nil ?_
 refine ⟨.inl rfl,Z4.cast .nil ?_,⟨rfl,rfl,rfl,(hbT [_,_,_] (X7 (M5 m i p) (M5 b i p)) rfl)⟩⟩
 rfl
theorem Q1p (c:Nat)(m:List (List Rat))(p:Nat)(q:Rat)(hp:p<m.length)(hl:(m.getD p []).length<1000000000)(hs:∀ a∈m.getD p [],qw a<1000000000)(hc:qw q<1000000000):T4 E L8 92 [.at_ 999 0 3,.clo (.func 95) [] [.at_ 5 0 1,.at_ 8 0 4]] ([bxI 5 p,bxQ 8 q,(999,wB c m.length none)]++J2 0 m) ([bxI 5 p,bxQ 8 q,(999,wB c m.length none)]++J2 0 (m.set p ((m.getD p []).map (· * q)))) (.p (.tup [])):=by
 refine D4 (xs:=[]) Tryz.func92 rfl Tryz.ntmps92 Tryz.results92 sM fun F G=>?_
 have L:=@lti _ _ G.nt
 have hG:=G.g
 have hX:=G.x
 have hN:=i6 hG
 refine q0h (nsw (c_m L) t1 t0 (nsw (c_m L) t1 t0 (nsw (j3 rX L) t1 t1 ?_)))
 refine nsw (j2 un79 rfl sz77 dC rX L) t1 t1 ?_
 refine nsw (Z1 ag77 rF rF L) t1 t1 ?_
 refine nsI hG hX hN [(0,.at_ 999 0 3),(1,.clo (.func 95) .nil [.at_ 5 0 1,.at_ 8 0 4])] ([(5,_),(8,_),(999,_)]++(J2 0 (m.set p ((m.getD p []).map (· * q))))) (y0n 0 m p q dC hp hl hs hc) L (C7 (fst:=[]) (ys:=[_]) (cap:=[_,_]) cl95 rfl rfl) t2 (by exact nc1 (bx:=[bxI 5 p,bxQ 8 q]) (r:=[_]) sM G rfl rfl rfl rfl rfl t2) (fun q h=>by cases h) rfl ?_
 refine .nil ⟨[(0,_),(1,_)],(5,_) :: (8,_) :: (999,_) :: J2 0 (m.set p ((m.getD p []).map (· * q))),t2,⟨rfl,rfl,rfl,(hbT [_,_,_] (E2 dC (m.set p ((m.getD p []).map (· * q)))) rfl)⟩,?_⟩
 refine exr (mV L rfl (sw (j3 rX L) t1 t1 ?_))
 refine sw (j2 un79 rfl sz77 dC rX L) t1 t1 ?_
 refine sw (Z1 ag77 rF rF L) t1 t1 ?_
 refine sw (w0k un77 L) t2 t0 ?_
 refine R1 ⟨[(0,_),(1,_),(14,_)],(5,_) :: (8,_) :: (999,_) :: (J2 0 (m.set p ((m.getD p []).map (· * q)))),t3,⟨rfl,rfl,rfl,(hbT [_,_,_] (E2 dC (m.set p ((m.getD p []).map (· * q)))) rfl)⟩,?_⟩
 refine T3 rfl rfl (V1 ?_)
 refine ⟨.inl rfl,Z4.cast .nil ?_,⟨rfl,rfl,rfl,(hbT [_,_,_] (E2 dC (m.set p ((m.getD p []).map (· * q)))) rfl)⟩⟩
 rfl
theorem V1d (c:Nat)(m b:List (List Rat))(p:Nat)(q:Rat)(hp:p<m.length)(hl:(m.getD p []).length<1000000000)(hs:∀ a∈m.getD p [],qw a<1000000000)(hc:qw q<1000000000)(hpb:p<b.length)(hlb:(b.getD p []).length<1000000000)(hsb:∀ a∈b.getD p [],qw a<1000000000):T4 E L8 92 [.at_ 999 0 3,.clo (.func 95) [] [.at_ 5 0 1,.at_ 8 0 4]] ([bxI 5 p,bxQ 8 q,(999,wB c m.length (some b.length))]++(J2 0 m++J2 1 b)) ([bxI 5 p,bxQ 8 q,(999,wB c m.length (some b.length))]++(J2 0 (m.set p ((m.getD p []).map (· * q)))++J2 1 (b.set p ((b.getD p []).map (· * q))))) (.p (.tup [])):=by
 refine D4 (xs:=[]) Tryz.func92 rfl Tryz.ntmps92 Tryz.results92 sM fun F G=>?_
 have L:=@lti _ _ G.nt
 have hG:=G.g
 have hX:=G.x
 have hN:=i6 hG
 refine q0h (nsw (c_m L) t1 t0 (nsw (c_m L) t1 t0 (nsw (j3 rX L) t1 t1 ?_)))
 refine nsw (j2 un79 rfl sz77 dC rX L) t1 t1 ?_
 refine nsw (Z1 ag77 rF rF L) t1 t1 ?_
 refine nsI hG hX hN [(0,.at_ 999 0 3),(1,.clo (.func 95) .nil [.at_ 5 0 1,.at_ 8 0 4])] ([(5,_),(8,_),(999,_)]++(J2 0 (m.set p ((m.getD p []).map (· * q)))++J2 1 b)) (y0n 0 m p q dC hp hl hs hc) L (C7 (fst:=[]) (ys:=[_]) (cap:=[_,_]) cl95 rfl rfl) t2 (by exact d2c (bx:=[bxI 5 p,bxQ 8 q]) (r:=[_]) sM G rfl rfl rfl rfl rfl t2) (fun q h=>by cases h) rfl ?_
 refine .nil ⟨[(0,_),(1,_)],(5,_) :: (8,_) :: (999,_) :: J2 0 (m.set p ((m.getD p []).map (· * q)))++J2 1 b,t2,⟨rfl,rfl,rfl,(hbT [_,_,_] (X7 (m.set p ((m.getD p []).map (· * q))) b) rfl)⟩,?_⟩
 refine exr (mV L rfl (sw (j3 rX L) t1 t1 ?_))
 refine sw (j2 un79 rfl sz77 dC rX L) t1 t1 ?_
 refine sw (Z1 ag77 rF rF L) t1 t1 ?_
 refine sw (y0s un77 (by first | exact G2 _ _ _ | exact (G2 _ _ _).trans sM) L) t2 ⟨rdT [_,_,_] (X7 (m.set p ((m.getD p []).map (· * q))) b) rfl W1n,trivial⟩ ?_
 refine R1 ⟨[(0,_),(1,_),(14,_)],(5,_) :: (8,_) :: (999,_) :: (J2 0 (m.set p ((m.getD p []).map (· * q)))++J2 1 b),t3,⟨rfl,rfl,rfl,(hbT [_,_,_] (X7 (m.set p ((m.getD p []).map (· * q))) b) rfl)⟩,?_⟩
 refine v8 rfl rfl (H0h (nsw (c_m L) t1 t0 (nsw (c_m L) t1 t0 (nsw (j3 rX L) t1 t1 ?_))))
 refine nsw (j2 un79 rfl sz77 dC rX L) t1 t1 ?_
 refine nsw (Z1 ag77 rF rF L) t1 t1 ?_
 refine nsI hG hX hN [] ([(5,_),(8,_),(999,_)]++(J2 0 (m.set p ((m.getD p []).map (· * q)))++J2 1 (b.set p ((b.getD p []).map (· * q))))) (y0n 1 b p q dC hpb hlb hsb hc) L (C7 (fst:=[]) (ys:=[_]) (cap:=[_,_]) cl95 rfl rfl) t2 (by exact W1z (bx:=[bxI 5 p,bxQ 8 q]) (r:=[_]) sM G rfl rfl rfl rfl rfl trivial) (fun q h=>by cases h) rfl ?_
 refine .nil ?_
 refine ⟨.inl rfl,Z4.cast .nil ?_,⟨rfl,rfl,rfl,(hbT [_,_,_] (X7 (m.set p ((m.getD p []).map (· * q))) (b.set p ((b.getD p []).map (· * q)))) rfl)⟩⟩
 rfl
theorem Q1b (c:Nat)(m:List (List Rat))(i p:Nat)(q:Rat)(B C D:Nat)(hi:i<m.length)(hp:p<m.length)(hne:i≠p)(hlen:(m.getD p []).length=(m.getD i []).length)(hl:(m.getD i []).length<1000000000)(hB:∀ a∈m.getD i [],qw a≤B)(hC:∀ a∈m.getD p [],qw a≤C)(hD:qw q≤D)(hb:B+(D+C)+1<1000000000):T4 E stA 92 [.at_ 999 0 3,.clo (.func 98) [] [.at_ 10 0 1,.at_ 5 0 1,.at_ 11 0 4]] ([bxI 5 p,bxI 10 i,bxQ 11 q,(999,wB c m.length none)]++J2 0 m) ([bxI 5 p,bxI 10 i,bxQ 11 q,(999,wB c m.length none)]++J2 0 (f8 m i p q)) (.p (.tup [])):=by
 refine D4 (xs:=[]) Tryz.func92 rfl Tryz.ntmps92 Tryz.results92 sM fun F G=>?_
 have L:=@lti _ _ G.nt
 have hG:=G.g
 have hX:=G.x
 have hN:=i6 hG
 refine q0h (nsw (c_m L) t1 t0 (nsw (c_m L) t1 t0 (nsw (j3 rX L) t1 t1 ?_)))
 refine nsw (j2 un79 rfl sz77 dC rX L) t1 t1 ?_
 refine nsw (Z1 ag77 rF rF L) t1 t1 ?_
 refine nsI hG hX hN [(0,.at_ 999 0 3),(1,.clo (.func 98) .nil [.at_ 10 0 1,.at_ 5 0 1,.at_ 11 0 4])] ([(5,_),(10,_),(11,_),(999,_)]++(J2 0 (f8 m i p q))) (w0g 0 m i p q B C D dC hi hp hne hlen hl hB hC hD hb) L (C7 (fst:=[]) (ys:=[_]) (cap:=[_,_,_]) cl98 rfl rfl) t2 (by exact f2a (bx:=[bxI 5 p,bxI 10 i,bxQ 11 q]) (r:=[_]) (k0z hlen) rfl rfl rfl t2) (fun q h=>by cases h) rfl ?_
 refine .nil ⟨[(0,_),(1,_)],(5,_) :: (10,_) :: (11,_) :: (999,_) :: J2 0 (f8 m i p q),t2,⟨rfl,rfl,rfl,rfl,(hbT [_,_,_,_] (E2 dC (f8 m i p q)) rfl)⟩,?_⟩
 refine exr (mV L rfl (sw (j3 rX L) t1 t1 ?_))
 refine sw (j2 un79 rfl sz77 dC rX L) t1 t1 ?_
 refine sw (Z1 ag77 rF rF L) t1 t1 ?_
 refine sw (w0k un77 L) t2 t0 ?_
 refine R1 ⟨[(0,_),(1,_),(14,_)],(5,_) :: (10,_) :: (11,_) :: (999,_) :: (J2 0 (f8 m i p q)),t3,⟨rfl,rfl,rfl,rfl,(hbT [_,_,_,_] (E2 dC (f8 m i p q)) rfl)⟩,?_⟩
 refine T3 rfl rfl (V1 ?_)
 refine ⟨.inl rfl,Z4.cast .nil ?_,⟨rfl,rfl,rfl,rfl,(hbT [_,_,_,_] (E2 dC (f8 m i p q)) rfl)⟩⟩
 rfl
theorem V1s (c:Nat)(m b:List (List Rat))(i p:Nat)(q:Rat)(B C D:Nat)(hi:i<m.length)(hp:p<m.length)(hne:i≠p)(hlen:(m.getD p []).length=(m.getD i []).length)(hl:(m.getD i []).length<1000000000)(hB:∀ a∈m.getD i [],qw a≤B)(hC:∀ a∈m.getD p [],qw a≤C)(hD:qw q≤D)(hb:B+(D+C)+1<1000000000)(B' C':Nat)(hib:i<b.length)(hpb:p<b.length)(hlenb:(b.getD p []).length=(b.getD i []).length)(hlb:(b.getD i []).length<1000000000)(hBb:∀ a∈b.getD i [],qw a≤B')(hCb:∀ a∈b.getD p [],qw a≤C')(hbb:B'+(D+C')+1<1000000000):T4 E stA 92 [.at_ 999 0 3,.clo (.func 98) [] [.at_ 10 0 1,.at_ 5 0 1,.at_ 11 0 4]] ([bxI 5 p,bxI 10 i,bxQ 11 q,(999,wB c m.length (some b.length))]++(J2 0 m++J2 1 b)) ([bxI 5 p,bxI 10 i,bxQ 11 q,(999,wB c m.length (some b.length))]++(J2 0 (f8 m i p q)++J2 1 (f8 b i p q))) (.p (.tup [])):=by
 refine D4 (xs:=[]) Tryz.func92 rfl Tryz.ntmps92 Tryz.results92 sM fun F G=>?_
 have L:=@lti _ _ G.nt
 have hG:=G.g
 have hX:=G.x
 have hN:=i6 hG
 refine q0h (nsw (c_m L) t1 t0 (nsw (c_m L) t1 t0 (nsw (j3 rX L) t1 t1 ?_)))
 refine nsw (j2 un79 rfl sz77 dC rX L) t1 t1 ?_
 refine nsw (Z1 ag77 rF rF L) t1 t1 ?_
 refine nsI hG hX hN [(0,.at_ 999 0 3),(1,.clo (.func 98) .nil [.at_ 10 0 1,.at_ 5 0 1,.at_ 11 0 4])] ([(5,_),(10,_),(11,_),(999,_)]++(J2 0 (f8 m i p q)++J2 1 b)) (w0g 0 m i p q B C D dC hi hp hne hlen hl hB hC hD hb) L (C7 (fst:=[]) (ys:=[_]) (cap:=[_,_,_]) cl98 rfl rfl) t2 (by exact b2v (bx:=[bxI 5 p,bxI 10 i,bxQ 11 q]) (r:=[_]) (k0z hlen) rfl rfl rfl t2) (fun q h=>by cases h) rfl ?_
 refine .nil ⟨[(0,_),(1,_)],(5,_) :: (10,_) :: (11,_) :: (999,_) :: J2 0 (f8 m i p q)++J2 1 b,t2,⟨rfl,rfl,rfl,rfl,(hbT [_,_,_,_] (X7 (f8 m i p q) b) rfl)⟩,?_⟩
 refine exr (mV L rfl (sw (j3 rX L) t1 t1 ?_))
 refine sw (j2 un79 rfl sz77 dC rX L) t1 t1 ?_
 refine sw (Z1 ag77 rF rF L) t1 t1 ?_
 refine sw (y0s un77 (by first | exact G2 _ _ _ | exact (G2 _ _ _).trans sM) L) t2 ⟨rdT [_,_,_,_] (X7 (f8 m i p q) b) rfl W1n,trivial⟩ ?_
 refine R1 ⟨[(0,_),(1,_),(14,_)],(5,_) :: (10,_) :: (11,_) :: (999,_) :: (J2 0 (f8 m i p q)++J2 1 b),t3,⟨rfl,rfl,rfl,rfl,(hbT [_,_,_,_] (X7 (f8 m i p q) b) rfl)⟩,?_⟩
 refine v8 rfl rfl (H0h (nsw (c_m L) t1 t0 (nsw (c_m L) t1 t0 (nsw (j3 rX L) t1 t1 ?_))))
 refine nsw (j2 un79 rfl sz77 dC rX L) t1 t1 ?_
 refine nsw (Z1 ag77 rF rF L) t1 t1 ?_
 refine nsI hG hX hN [] ([(5,_),(10,_),(11,_),(999,_)]++(J2 0 (f8 m i p q)++J2 1 (f8 b i p q))) (w0g 1 b i p q B' C' D dC hib hpb hne hlenb hlb hBb hCb hD hbb) L (C7 (fst:=[]) (ys:=[_]) (cap:=[_,_,_]) cl98 rfl rfl) t2 (by exact W1w (bx:=[bxI 5 p,bxI 10 i,bxQ 11 q]) (r:=[_]) (k0z hlenb) rfl rfl rfl trivial) (fun q h=>by cases h) rfl ?_
 refine .nil ?_
 refine ⟨.inl rfl,Z4.cast .nil ?_,⟨rfl,rfl,rfl,rfl,(hbT [_,_,_,_] (X7 (f8 m i p q) (f8 b i p q)) rfl)⟩⟩
 rfl
@[reducible] def wV (c n:Nat)(v:PV):Nat×Blk:=(999,⟨79,3,.mix [.ref 1001 0 n n,.p (vZ c),v]⟩)
@[reducible] def bxW:Nat×Blk:=(1,⟨73,1,.mix [.at_ 999 0 3]⟩)
theorem n1y (m:List (List Rat))(cols c i:Nat)(v:PV)(T:List (Nat×Blk))(hT:R5 T)(hsub:∀ k B,(J2 0 m).lookup k=some B→T.lookup k=some B)(hi:i<m.length)(hc:c<(m.getD i []).length)(hq:qw ((m.getD i []).getD c 0)<1000000000):T4 E (fun _=>true) 90 [.p (vZ i),.at_ 1 0 1,.at_ 4 0 1] ([bxW,bxI 4 c,wV cols m.length v]++T) ([bxW,bxI 4 c,wV cols m.length v]++T) (.p (bZ (nzI m c i))):=by
 refine D4 (xs:=[bZ (nzI m c i)]) Tryz.func90 rfl Tryz.ntmps90 Tryz.results90 sM fun F G=>?_
 have L:=@lti _ _ G.nt
 have hG:=G.g
 have hX:=G.x
 have hN:=i6 hG
 refine exr (aV L rfl ?_)
 refine R1 ⟨[(0,_),(1,_),(2,_)],(1,_) :: (4,_) :: (999,_) :: T,t3,⟨rfl,rfl,rfl,(hbT [_,_,_] hT rfl)⟩,?_⟩
 refine exd rF ?_
 refine sw (Z1 ag73 rF rF L) t1 t1 ?_
 refine sw (j3 rX L) t1 t1 ?_
 refine sw (j2 un79 rfl sz77 dC rX L) t1 t1 ?_
 refine sw (Z1 ag77 rF rF L) t1 t1 ?_
 refine mV L rfl (sw (Z1 ag3 rF rF L) t1 t1 ?_)
 refine sw (v6 hG hX hN (m1c 0 m i c dC hi hc) rfl L (l5 (ys:=[_,_,_]) cl91 rfl rfl) (E2 dC m).nd (E2 dC m).whole (fun q h=>by cases h)) t3 (U7 (C5 (E2 dC m).nd fun k B h=>rdT [_,_,_] hT rfl (hsub k B h))) ?_
 refine cK hG hX cl65 hN (T6 ((m.getD i []).getD c 0) hq) L t1 (sw (P3 L) t1 t0 (aV L rfl ?_))
 refine R1 ⟨j0c [⟨[1],[1],[5],[]⟩,⟨[5],[999],[6],[]⟩,⟨[6],[999],[7],[]⟩,⟨[7],[999],[8],[]⟩,⟨[0],[],[9],[]⟩,⟨[2],[4],[10],[]⟩,⟨[8,9,10],[1000],[11],[]⟩,⟨[11],[],[12],[]⟩,⟨[12],[],[13],[]⟩,⟨[13],[],[4],[]⟩] (.cons (cf0 rfl) (.cons (cf0 rfl) (.cons (cf0 rfl) (.cons (cf0 rfl) (.cons (cf0 rfl) (.cons (cf0 rfl) (.cons (cfT rfl rfl (fun p hp=>by rw [F0n (d0j (E2 dC m) p hp)]; exact List.mem_singleton.2 rfl) rfl (fun _ h=>by cases h)) (.cons (cf0 rfl) (.cons (cf0 rfl) (.cons (cf0 rfl)  .nil)))))))))) rfl (frS [] [_,_,_] hT rfl rfl) dC,[(4,_)],(1,_) :: (4,_) :: (999,_) :: T,t1,⟨rfl,rfl,rfl,(hbT [_,_,_] hT rfl)⟩,?_⟩
 refine Y1 ?_
 refine ⟨.inr rfl,Z4.cast (.cons (.tmp rfl) .nil) ?_,⟨rfl,rfl,rfl,(hbT [_,_,_] hT rfl)⟩⟩
 rfl
def stO (k:Nat):Bool:=!(k == 603 || k == 604 || k == 605)
theorem Q0v (cols n p c:Nat)(T:List (Nat×Blk))(hT:R5 T):T4 E stO 97 [.at_ 999 0 3,.p (vZ p),.p (vZ c)] ([wV cols n (.p (.a (.slice none 0 0)))]++T) ([(603,⟨73,1,.mix [.at_ 999 0 3]⟩),bxI 604 p,bxI 605 c,wV cols n (.p (.a (.slice none 0 0)))]++T) (.clo (.func 126) [] [.at_ 603 0 1,.at_ 604 0 1,.at_ 605 0 1]):=by
 refine y0j Tryz.func97 rfl Tryz.ntmps97 Tryz.results97 sM fun F G=>?_
 have L:=@lti _ _ G.nt
 have hG:=G.g
 have hX:=G.x
 have hN:=i6 hG
 have P0:=fun k (hk:(Nat.blt k 1000 && (List.lookup k _).isNone)=true)=>G.p0 k (p0T hT hk)
 refine exr (swb (g0y (k:=603) rX rfl (P0 _ rfl) L) t1 t1 (frT [_] hT rfl rfl rfl) ?_)
 refine swb (X3 (k:=604) (n:=1) (.atom rfl) rfl rfl (P0 _ rfl) L) t1 t0 (frT [_,_] hT rfl rfl rfl) (swb (X3 (k:=605) (n:=1) (.atom rfl) rfl rfl (P0 _ rfl) L) t1 t0 (frT [_,_,_] hT rfl rfl rfl) (aV L rfl ?_))
 refine R1 ⟨[(3,_),(4,_),(5,_)],(603,_) :: (604,_) :: (605,_) :: (999,_) :: T,t3,⟨rfl,rfl,rfl,rfl,(hbT [_,_,_,_] hT rfl)⟩,?_⟩
 refine exr (sw (w0v (vs:=[]) (us:=[_,_,_]) rfl rfl L) t3 t0 (aV L rfl ?_))
 refine R1 ⟨[(6,_)],(603,_) :: (604,_) :: (605,_) :: (999,_) :: T,t1,⟨rfl,rfl,rfl,rfl,(hbT [_,_,_,_] hT rfl)⟩,?_⟩
 refine Y1 ?_
 refine ⟨.inr rfl,rfl,⟨rfl,rfl,rfl,rfl,hbT [_,_,_,_] hT rfl⟩⟩
theorem Q0w (cols n nb p c:Nat)(T:List (Nat×Blk))(hT:R5 T):T4 E stO 97 [.at_ 999 0 3,.p (vZ p),.p (vZ c)] ([wV cols n (.ref 1002 0 nb nb)]++T) ([(603,⟨73,1,.mix [.at_ 999 0 3]⟩),bxI 604 p,bxI 605 c,wV cols n (.ref 1002 0 nb nb)]++T) (.clo (.func 126) [] [.at_ 603 0 1,.at_ 604 0 1,.at_ 605 0 1]):=by
 refine y0j Tryz.func97 rfl Tryz.ntmps97 Tryz.results97 sM fun F G=>?_
 have L:=@lti _ _ G.nt
 have hG:=G.g
 have hX:=G.x
 have hN:=i6 hG
 have P0:=fun k (hk:(Nat.blt k 1000 && (List.lookup k _).isNone)=true)=>G.p0 k (p0T hT hk)
 refine exr (swb (g0y (k:=603) rX rfl (P0 _ rfl) L) t1 t1 (frT [_] hT rfl rfl rfl) ?_)
 refine swb (X3 (k:=604) (n:=1) (.atom rfl) rfl rfl (P0 _ rfl) L) t1 t0 (frT [_,_] hT rfl rfl rfl) (swb (X3 (k:=605) (n:=1) (.atom rfl) rfl rfl (P0 _ rfl) L) t1 t0 (frT [_,_,_] hT rfl rfl rfl) (aV L rfl ?_))
 refine R1 ⟨[(3,_),(4,_),(5,_)],(603,_) :: (604,_) :: (605,_) :: (999,_) :: T,t3,⟨rfl,rfl,rfl,rfl,(hbT [_,_,_,_] hT rfl)⟩,?_⟩
 refine exr (sw (w0v (vs:=[]) (us:=[_,_,_]) rfl rfl L) t3 t0 (aV L rfl ?_))
 refine R1 ⟨[(6,_)],(603,_) :: (604,_) :: (605,_) :: (999,_) :: T,t1,⟨rfl,rfl,rfl,rfl,(hbT [_,_,_,_] hT rfl)⟩,?_⟩
 refine Y1 ?_
 refine ⟨.inr rfl,rfl,⟨rfl,rfl,rfl,rfl,hbT [_,_,_,_] hT rfl⟩⟩
end Go.Proofs.YtjagfionflbjbaaGreat.N
namespace Go.Proofs.YtjagfionflbjbaaGreat.SH
open Go Go.RowKit
theorem Y1d {P:Program}{F:Fr}{ops:Array Oper}{d:Nat}{fo o1 o2:Operand}{ts:Array TypeId}{T:TypeId}{pos:String}{aft:Array Edge}{j g:Nat}{want b:Bool}{l n k:Nat}{encs:Nat→O2×O2}{H:Nat→List (Nat×Blk)}(hY:Yields P F l n encs H)(hk:k<n)(hj:((ops[j]?).bind (·.dst))=some g)(hb:b=want)(hlt:d<F.nt) :
  q1n P F ops ⟨some d,.call ⟨.value fo,#[o1,o2],ts⟩,T,pos,aft,some (j,want)⟩ ⟨[(.tmp g,.p (.a (.bool b))),(fo,.clo (.yield l) [] []),(o1,.p (encs k).1),(o2,.p (encs k).2)],H k,none,[(d,.p (.a (.bool true)))],H (k+1)⟩:=by
 intro S a w hS hh Q K hK
 have hr:=hh.rs (.tmp g,.p (.a (.bool b))) (by simp)
 obtain ⟨ρ,hS'⟩:=hS
 obtain ⟨u,hu,hru⟩:=hS'.slots g _ hr
 have:u = .bool b:=by simpa [P2,Rel] using hru
 subst this
 have hw:Region.wanted ⟨some d,.call ⟨.value fo,#[o1,o2],ts⟩,T,pos,aft,some (j,want)⟩ (yielded ops a.tmps)=true:=by simp [Region.wanted,yielded,hj,hu,hb]
 rw [if_pos hw]
 exact .inr fun m=>hY k hk d fo o1 o2 ts T pos aft (some (j,want)) hlt S a w ⟨ρ,hS'⟩ ⟨fun q hq=>hh.rs q (List.mem_cons_of_mem _ hq),hh.rb,fun _ h=>by cases h⟩ Q K (fun a' w' hs=>hK a' w' hs) m
theorem d2h {P:Program}{F:Fr}{ops:Array Oper}{d:Nat}{fo o1 o2:Operand}{ts:Array TypeId}{T:TypeId}{pos:String}{aft:Array Edge}{j g:Nat}{want b:Bool}{l n k:Nat}{encs:Nat→O2×O2}{H:Nat→List (Nat×Blk)}{os:List Oper}{sl:List (Nat×PV)}{hb:List (Nat×Blk)}{K:List Ann→St→Prop}(hY:Yields P F l n encs H)(hk:k<n)(hj:((ops[j]?).bind (·.dst))=some g)(hbw:b=want)(hlt:d<F.nt)
  (hgs:St.opd ⟨sl,hb⟩ (.tmp g)=some (.p (.a (.bool b)))) (h1:E8 ⟨sl,hb⟩ [(fo,.clo (.yield l) [] []),(o1,.p (encs k).1),(o2,.p (encs k).2)]) (h2:P6 ⟨sl,hb⟩ (H k))
  (hn:y7 P F ops ⟨(d,.p (.a (.bool true))) :: sl,H (k+1)++hb⟩ os fun As S'=>K (⟨[(.tmp g,.p (.a (.bool b))),(fo,.clo (.yield l) [] []),(o1,.p (encs k).1),(o2,.p (encs k).2)],H k,none,[(d,.p (.a (.bool true)))],H (k+1)⟩ :: As) S') :
  y7 P F ops ⟨sl,hb⟩ (⟨some d,.call ⟨.value fo,#[o1,o2],ts⟩,T,pos,aft,some (j,want)⟩ :: os) K :=
 let ⟨As,S',h,hK⟩:=hn
 ⟨_,S',.cons (Y1d hY hk hj hbw hlt) (B7 ⟨hgs,h1⟩ h2 trivial) h,hK⟩
theorem f2b {S:St}{As:List Ann}(h:n7 As=[]):∀ k∈n7 As,S.free k=true:=fun k hk=>by rw [h] at hk; cases hk
theorem J0r:∀ {As done:List Ann},n7 As=[]→(∀ A∈done,A.fresh=none)→J0v As done=true
 | [],_,_,_=>rfl
 | B :: As,done,h,hd=>by
  simp only [n7,List.append_eq_nil_iff,Option.toList_eq_nil_iff] at h
  simp only [J0v,j0,s0]
  refine ⟨fun A hA=>by simp [w0m,hd A hA,h.1],J0r h.2 fun A hA=>?_⟩
  rcases List.mem_append.1 hA with hA | hA
  ·exact hd A hA
  ·obtain rfl:=List.mem_singleton.1 hA; exact h.1
theorem G1c (cf:Nat→Nat){os:List Oper}{As:List Ann}{S:St}(sks:List Sk)(h1:b0j cf As sks)(hn:n7 As=[])(h2:g8 os sks [] []=true):(d8 os As [] [] && d6 S As)=true:=N1x cf sks h1 (J0r hn fun _ h=>by cases h) (f2b hn) h2
def cfI (ns:List Nat)(k:Nat):Nat:=if ns.contains k then k else 1000
structure j0h (ns:List Nat) (U:List (Nat×Blk)):Prop where
 no:∀ q,ns.contains q=true→U.lookup q=none
 nd:(U.map (·.1)).Nodup
theorem j0h.ne {ns:List Nat}{U:List (Nat×Blk)}(h:j0h ns U):∀ p∈U,cfI ns p.1=1000:=fun p hp=>by
 unfold cfI
 by_cases e:ns.contains p.1=true
 ·have:=h.no p.1 e
  rw [W5 h.nd hp] at this; cases this
 ·rw [if_neg e]
theorem v0v {ns:List Nat}{pre U:List (Nat×Blk)}(h:j0h ns U)(hp:(pre.all fun p=>ns.contains p.1)=true){k:Nat}{B:Blk}(hk:U.lookup k=some B):pre.lookup k=none:=by
 cases e:pre.lookup k with
 | none=>rfl
 | some C =>
  rw [s0] at hp
  have:=h.no k (hp _ (R3 e))
  rw [hk] at this; cases this
theorem F0s {ns:List Nat}{sl:List (Nat×PV)}{U:List (Nat×Blk)}(pre:List (Nat×Blk))(h:j0h ns U)(hp:(pre.all fun p=>ns.contains p.1)=true):O5 ⟨sl,pre++U⟩ U:=C5 h.nd fun k B hk=>by
 show (pre++U).lookup k=some B
 rw [U1,v0v h hp hk,l0,hk]
theorem b2n {ns:List Nat}{sl:List (Nat×PV)}{U r:List (Nat×Blk)}(pre:List (Nat×Blk))(h:j0h ns U)(hp:(pre.all fun p=>ns.contains p.1)=true):O5 ⟨sl,(pre++U)++r⟩ U:=C5 h.nd fun k B hk=>by
 show ((pre++U)++r).lookup k=some B
 rw [U1,U1,v0v h hp hk,l0,hk]; rfl
theorem M1f {ns:List Nat}{sl:List (Nat×PV)}{U:List (Nat×Blk)}{k:Nat}{B:Blk}(pre:List (Nat×Blk))(h:j0h ns U)(hp:(pre.all fun p=>ns.contains p.1)=true)(hk:U.lookup k=some B):St.blk ⟨sl,pre++U⟩ k=some B:=by
 show (pre++U).lookup k=some B
 rw [U1,v0v h hp hk,l0,hk]
theorem n1c {ns:List Nat}{l r:List (Nat×Blk)}{ks:List Nat}(h1:(l.all fun p=>ks.contains (cfI ns p.1))=true)(h2:j0h ns r)(h3:ks.contains 1000=true):∀ p∈l++r,cfI ns p.1∈ks:=by
 intro p hp
 rcases List.mem_append.1 hp with hp | hp
 ·rw [s0] at h1; simpa using h1 p hp
 ·rw [h2.ne p hp]; simpa using h3
theorem V0p {ns:List Nat}{l U:List (Nat×Blk)}(h2:j0h ns U)(hl:∀ k B,l.lookup k=some B→U.lookup k=some B)(hnd:(l.map (·.1)).Nodup):∀ p∈l,cfI ns p.1∈[1000]:=by
 intro p hp
 have h1:=hl p.1 p.2 (W5 hnd hp)
 rw [h2.ne (p.1,p.2) (R3 h1)]; exact List.mem_singleton.2 rfl
end Go.Proofs.YtjagfionflbjbaaGreat.SH
set_option maxRecDepth 100000
set_option maxHeartbeats 4000000
namespace Go.Proofs.YtjagfionflbjbaaGreat.N
open Go Go.Proofs.YtjagfionflbjbaaGreat.SH Go.Proofs.YtjagfionflbjbaaGreat.NumA
open Go.Proofs.Tryz renaming call65→cl65,call91→cl91,isAgg3→ag3,isAgg73→ag73,isAgg77→ag77,sizeOf77→sz77,underlying77→un77,underlying79→un79
@[reducible] def H1z:List Nat:=[603,604,605,999]
theorem f0v {m:List (List Rat)}{p c i:Nat}:b0a m p c (i+1)=b0a m p c i+(if j0a m p c i=true then 1 else 0):=by
 rw [b0a,List.range_succ,List.filter_append,L1]
 congr 1
 by_cases h:j0a m p c i=true
 ·rw [if_pos h,List.filter_cons_of_pos h]; rfl
 ·rw [if_neg h,List.filter_cons_of_neg h]; rfl
theorem m1q {m:List (List Rat)}{p c:Nat}:∀ {i j:Nat},i≤j→b0a m p c i≤b0a m p c j
 | i,j,h=>by
  induction j with
  | zero =>
   obtain rfl:i=0:=by omega
   exact Nat.le_refl _
  | succ j ih =>
   by_cases e:i=j+1
   ·rw [e]; exact Nat.le_refl _
   ·rw [f0v]; have:=ih (by omega); omega
theorem lkY {ns:List Nat}{sl:List (Nat×PV)}{w:Nat×Blk}{U' r:List (Nat×Blk)}{k:Nat}{B:Blk}(h:j0h ns U')(hw:(k == w.1)=false)(hk:ns.contains k=true)(hr:r.lookup k=some B):St.blk ⟨sl,([w]++U')++r⟩ k=some B:=by
 show List.lookup k _=some B
 rw [U1,U1,h.no k hk,Option.or_none,i0,hw]
 exact hr
theorem atM {M m:List (List Rat)}{n i c:Nat}(hl:M.length=n)(hr:M.getD i []=m.getD i [])(hi:i<n)(hc:c<(m.getD i []).length):T4 E (fun _=>true) 91 [.ref 1001 0 n n,.p (vZ i),.p (vZ c)] (J2 0 M) (J2 0 M) (.p (pQ ((m.getD i []).getD c 0))):=by
 subst hl
 rw [← hr] at hc ⊢
 exact m1c 0 M i c dC hi hc
theorem W0j (cols p c n l:Nat)(m:List (List Rat))(v:PV)(M:Nat→List (List Rat))(U:Nat→List (Nat×Blk))(encs:Nat→O2×O2)(hU:∀ k,k≤n→j0h H1z (U k))(hsub:∀ k,k≤n→∀ q B,(J2 0 (M k)).lookup q=some B→(U k).lookup q=some B)(hlen:∀ k,k≤n→(M k).length=m.length)(hrow:∀ i,i<m.length→(M (b0a m p c i)).getD i []=m.getD i [])(hcl:∀ i,i<m.length→c<(m.getD i []).length)(hq:∀ i,i<m.length→qw ((m.getD i []).getD c 0)<1000000000)(hn:n=b0a m p c m.length)(henc:∀ i,i<m.length→j0a m p c i=true→encs (b0a m p c i)=(vZ i,pQ ((m.getD i []).getD c 0)))(hml:m.length<1000000000):∀ (F:Fr) (code:Code),Tryz.f126.body=some code→XFr E ([(603,⟨73,1,.mix [.at_ 999 0 3]⟩),bxI 604 p,bxI 605 c]++([wV cols m.length v]++U 0)) 42 F→Go.Proofs.YtjagfionflbjbaaGreat.SH.Yields E.P F l n encs (fun k=>[wV cols m.length v]++U k)→y4 E.P F code ⟨[(0,.clo (.yield l) [] []),(1,.at_ 603 0 1),(2,.at_ 604 0 1),(3,.at_ 605 0 1)],[(603,⟨73,1,.mix [.at_ 999 0 3]⟩),bxI 604 p,bxI 605 c,wV cols m.length v]++U 0⟩ (fun e S'=>(e = .normal∨e = .ret)∧O5 S' ([(603,⟨73,1,.mix [.at_ 999 0 3]⟩),bxI 604 p,bxI 605 c]++([wV cols m.length v]++U n))):=by
 intro F code hcode XF hY
 injection (show some _=some code from hcode) with hcode
 subst hcode
 have hG:=XF.g
 have hX:=XF.x
 have hN:=XF.ng
 have L:=@lti _ _ XF.nt
 have hs0:(U 0).lookup 1001=some (hdB 0 (M 0)):=hsub 0 (Nat.zero_le _) _ _ hdL
 have hl0:=hlen 0 (Nat.zero_le _)
 have cle:∀ i,i≤m.length→b0a m p c i≤n:=fun i hi=>by rw [hn]; exact m1q hi
 refine exr (sw (Z1 ag73 rF rF L) t1 t1 ?_)
 refine sw (j3 rX L) t1 t1 ?_
 refine sw (j2 un79 rfl sz77 dC rX L) t1 t1 ?_
 refine sw (Z1 ag77 rF rF L) t1 t1 ?_
 refine sw (v0b un77 (by first | exact G2 _ _ _ | exact (G2 _ _ _).trans sM | exact (G2 _ _ _).trans (by assumption)) L) t1 ⟨M1f [_,_,_,_] (hU 0 (Nat.zero_le _)) rfl (hs0),trivial⟩ ?_
 refine mV L rfl ?_
 refine R1 ⟨[(0,_),(1,_),(2,_),(3,_),(10,_),(11,_)],(603,_) :: (604,_) :: (605,_) :: (999,_) :: ((U 0)),t6,⟨rfl,rfl,rfl,rfl,(F0s [_,_,_,_] (hU 0 (Nat.zero_le _)) rfl)⟩,?_⟩
 refine X1 ?_
 refine K0m (α:=Nat) (fun i=>[(11,vi (i:Int))]) (fun i=>[]) (fun i=>(U (b0a m p c i))) (fun i=>i≤m.length) (fun i=>m.length - i) (0) (sl:=[(0,_),(1,_),(2,_),(3,_),(10,_)]) (hb:=[(603,_),(604,_),(605,_),(999,_)]) ?_ ⟨oR,rfl,rfl,rfl,rfl,rfl,trivial⟩ ⟨rfl,rfl,rfl,rfl,(F0s [_,_,_,_] (hU 0 (Nat.zero_le _)) rfl)⟩ ?_
 ·exact Nat.zero_le _
 intro i hi
 refine exr (sw (Z3 L) t2 t0 ?_)
 refine R1 ⟨[(0,_),(1,_),(2,_),(3,_),(10,_),(11,_),(12,_)],(603,_) :: (604,_) :: (605,_) :: (999,_) :: ((U (b0a m p c i))),t7,⟨rfl,rfl,rfl,rfl,(F0s [_,_,_,_] (hU _ (cle i hi)) rfl)⟩,?_⟩
 refine T1 ?_
 refine D2 rfl (fun hc=>?_) (fun hc=>?_)
 ·have hc:=dt hc
  have hil:i<m.length:=by omega
  refine V1 (xq ?_)
  refine T1 (X1 (exr (mV L rfl (aV L rfl ?_))))
  refine R1 ⟨[(0,_),(1,_),(2,_),(3,_),(5,_),(10,_),(11,_)],(603,_) :: (604,_) :: (605,_) :: (999,_) :: ((U (b0a m p c i))),t7,⟨rfl,rfl,rfl,rfl,(F0s [_,_,_,_] (hU _ (cle i hi)) rfl)⟩,?_⟩
  have atI:=atM (c:=c) (hlen _ (cle i hi)) (hrow i hil) hil (hcl i hil)
  have zI:=T6 ((m.getD i []).getD c 0) (hq i hil)
  by_cases hip:i=p
  ·have ho:j0a m p c i=false:=by rw [j0a,decide_eq_false (by simpa using hip)]; rfl
   refine exd rF ?_
   refine mV L rfl (sw (Z1 ag3 rF rF L) t1 t1 ?_)
   refine sw (c_n L) t2 t0 (mV L rfl (swn (g:=17) rfl sO L rfl (swn (g:=17) rfl sO L rfl (swn (g:=17) rfl sO L rfl (swn (g:=17) rfl sO L rfl (swn (g:=17) rfl sO L rfl (swn (g:=17) rfl sO L rfl (swn (g:=17) rfl sO L rfl (swn (g:=17) rfl sO L rfl (swn (g:=17) rfl sO L rfl (sw (U3 sO L) t2 t0 ?_)))))))))))
   refine mV L rfl (swn (g:=28) rfl rfl L rfl (swn (g:=28) rfl rfl L rfl (swn (g:=28) rfl rfl L rfl (swn (g:=28) rfl rfl L rfl (swn (g:=28) rfl rfl L rfl (swn (g:=28) rfl rfl L rfl (swn (g:=28) rfl rfl L rfl (swn (g:=28) rfl rfl L rfl (swn (g:=28) rfl rfl L rfl (swn (g:=28) rfl rfl L rfl (swn (g:=28) rfl rfl L rfl ?_)))))))))))
   refine sw (U3 rfl L) t2 t0 ?_
   refine R1 ⟨G1c (cfI H1z) [⟨[5],[],[14],[]⟩,⟨[2],[604],[15],[]⟩,⟨[14,15],[],[16],[]⟩,⟨[16],[],[17],[]⟩,⟨[17],[],[18],[]⟩,⟨[17],[],[19],[]⟩,⟨[17],[],[20],[]⟩,⟨[17],[],[21],[]⟩,⟨[17],[],[22],[]⟩,⟨[17],[],[23],[]⟩,⟨[17],[],[24],[]⟩,⟨[17],[],[25],[]⟩,⟨[17],[],[26],[]⟩,⟨[17],[],[27],[]⟩,⟨[27],[],[28],[]⟩,⟨[28],[],[29],[]⟩,⟨[28],[],[30],[]⟩,⟨[28],[],[31],[]⟩,⟨[28],[],[32],[]⟩,⟨[28],[],[33],[]⟩,⟨[28],[],[34],[]⟩,⟨[28],[],[35],[]⟩,⟨[28],[],[36],[]⟩,⟨[28],[],[37],[]⟩,⟨[28],[],[38],[]⟩,⟨[28],[],[39],[]⟩,⟨[28],[],[40],[]⟩] (.cons (cf0 rfl) (.cons (cf0 rfl) (.cons (cf0 rfl) (.cons (cf0 rfl) (.cons (cf0 rfl) (.cons (cf0 rfl) (.cons (cf0 rfl) (.cons (cf0 rfl) (.cons (cf0 rfl) (.cons (cf0 rfl) (.cons (cf0 rfl) (.cons (cf0 rfl) (.cons (cf0 rfl) (.cons (cf0 rfl) (.cons (cf0 rfl) (.cons (cf0 rfl) (.cons (cf0 rfl) (.cons (cf0 rfl) (.cons (cf0 rfl) (.cons (cf0 rfl) (.cons (cf0 rfl) (.cons (cf0 rfl) (.cons (cf0 rfl) (.cons (cf0 rfl) (.cons (cf0 rfl) (.cons (cf0 rfl) (.cons (cf0 rfl)  .nil))))))))))))))))))))))))))) rfl dC,[(0,_),(1,_),(2,_),(3,_),(10,_),(11,_),(40,_)],(603,_) :: (604,_) :: (605,_) :: (999,_) :: ((U (b0a m p c i))),t7,⟨rfl,rfl,rfl,rfl,(F0s [_,_,_,_] (hU _ (cle i hi)) rfl)⟩,?_⟩
   refine T3 rfl rfl ?_
   refine V1 (xq ?_)
   refine C3 (sw (I3 L (w64 oM oM)) t2 t0 (mV L rfl (R1 ?_)))
   exact ⟨i+1,oM,by omega,B3 ⟨oR,rfl,rfl,rfl,rfl,rfl,trivial⟩ ⟨rfl,rfl,rfl,rfl,(by rw [f0v,ho,if_neg Bool.false_ne_true,Nat.add_zero]; exact F0s [_,_,_,_] (hU _ (cle i hi)) rfl)⟩⟩
  ·by_cases hz:(m.getD i []).getD c 0=0
   ·have ho:j0a m p c i=false:=by rw [j0a,nzI,decide_eq_true hz]; simp
    refine exd rF ?_
    refine mV L rfl (sw (Z1 ag3 rF rF L) t1 t1 ?_)
    refine sw (c_n L) t2 t0 (mV L rfl (swg (g:=17) rfl sO (Z1 ag73 rF rF L) rfl t1 t1 ?_))
    refine swg (g:=17) rfl sO (j3 rX L) rfl t1 t1 ?_
    refine swg (g:=17) rfl sO (j2 un79 rfl sz77 dC rX L) rfl t1 t1 ?_
    refine swg (g:=17) rfl sO (Z1 ag77 rF rF L) rfl t1 t1 ?_
    refine gV (g:=17) rfl sO L rfl rfl (swg (g:=17) rfl sO (Z1 ag3 rF rF L) rfl t1 t1 ?_)
    refine swg (g:=17) rfl sO (v6 hG hX hN atI rfl L (l5 (ys:=[_,_,_]) cl91 rfl rfl) (E2 dC _).nd (E2 dC _).whole (fun q h=>by cases h)) rfl t3 (U7 (C5 (E2 dC _).nd fun k B h=>M1f [_,_,_,_] (hU _ (cle i hi)) rfl (hsub _ (cle i hi) k B h))) ?_
    refine swg (g:=17) rfl sO (c_c hG hX cl65 rfl hN zI L) rfl t1 t0 (swg (g:=17) rfl sO (P3 L) rfl t1 t0 (sw (m4 sO L) t2 t0 (mV L rfl (swn (g:=28) rfl (by rw [decide_eq_true hz]) L rfl ?_))))
    refine swn (g:=28) rfl (by rw [decide_eq_true hz]) L rfl ?_
    refine swn (g:=28) rfl (by rw [decide_eq_true hz]) L rfl ?_
    refine swn (g:=28) rfl (by rw [decide_eq_true hz]) L rfl ?_
    refine swn (g:=28) rfl (by rw [decide_eq_true hz]) L rfl ?_
    refine swn (g:=28) rfl (by rw [decide_eq_true hz]) L rfl ?_
    refine swn (g:=28) rfl (by rw [decide_eq_true hz]) L rfl ?_
    refine swn (g:=28) rfl (by rw [decide_eq_true hz]) L rfl ?_
    refine swn (g:=28) rfl (by rw [decide_eq_true hz]) L rfl ?_
    refine swn (g:=28) rfl (by rw [decide_eq_true hz]) L rfl ?_
    refine swn (g:=28) rfl (by rw [decide_eq_true hz]) L rfl ?_
    refine sw (U3 (by rw [decide_eq_true hz]; rfl) L) t2 t0 ?_
    refine R1 ⟨G1c (cfI H1z) [⟨[5],[],[14],[]⟩,⟨[2],[604],[15],[]⟩,⟨[14,15],[],[16],[]⟩,⟨[16],[],[17],[]⟩,⟨[17,1],[603],[18],[]⟩,⟨[17,18],[999],[19],[]⟩,⟨[17,19],[999],[20],[]⟩,⟨[17,20],[999],[21],[]⟩,⟨[17,5],[],[22],[]⟩,⟨[17,3],[605],[23],[]⟩,⟨[17,21,22,23],[1000],[24],[]⟩,⟨[17,24],[],[25],[]⟩,⟨[17,25],[],[26],[]⟩,⟨[17,26],[],[27],[]⟩,⟨[27],[],[28],[]⟩,⟨[28],[],[29],[]⟩,⟨[28],[],[30],[]⟩,⟨[28],[],[31],[]⟩,⟨[28],[],[32],[]⟩,⟨[28],[],[33],[]⟩,⟨[28],[],[34],[]⟩,⟨[28],[],[35],[]⟩,⟨[28],[],[36],[]⟩,⟨[28],[],[37],[]⟩,⟨[28],[],[38],[]⟩,⟨[28],[],[39],[]⟩,⟨[28],[],[40],[]⟩] (.cons (cf0 rfl) (.cons (cf0 rfl) (.cons (cf0 rfl) (.cons (cf0 rfl) (.cons (cf0 rfl) (.cons (cf0 rfl) (.cons (cf0 rfl) (.cons (cf0 rfl) (.cons (cf0 rfl) (.cons (cf0 rfl) (.cons (cfT rfl rfl (V0p (hU _ (cle i hi)) (hsub _ (cle i hi)) (E2 dC _).nd) rfl (fun _ h=>by cases h)) (.cons (cf0 rfl) (.cons (cf0 rfl) (.cons (cf0 rfl) (.cons (cf0 rfl) (.cons (cf0 rfl) (.cons (cf0 rfl) (.cons (cf0 rfl) (.cons (cf0 rfl) (.cons (cf0 rfl) (.cons (cf0 rfl) (.cons (cf0 rfl) (.cons (cf0 rfl) (.cons (cf0 rfl) (.cons (cf0 rfl) (.cons (cf0 rfl) (.cons (cf0 rfl)  .nil))))))))))))))))))))))))))) rfl dC,[(0,_),(1,_),(2,_),(3,_),(10,_),(11,_),(40,_)],(603,_) :: (604,_) :: (605,_) :: (999,_) :: ((U (b0a m p c i))),t7,⟨rfl,rfl,rfl,rfl,(F0s [_,_,_,_] (hU _ (cle i hi)) rfl)⟩,?_⟩
    refine T3 rfl rfl ?_
    refine V1 (xq ?_)
    refine C3 (sw (I3 L (w64 oM oM)) t2 t0 (mV L rfl (R1 ?_)))
    exact ⟨i+1,oM,by omega,B3 ⟨oR,rfl,rfl,rfl,rfl,rfl,trivial⟩ ⟨rfl,rfl,rfl,rfl,(by rw [f0v,ho,if_neg Bool.false_ne_true,Nat.add_zero]; exact F0s [_,_,_,_] (hU _ (cle i hi)) rfl)⟩⟩
   ·have ho:j0a m p c i=true:=by rw [j0a,nzI,decide_eq_false hz,decide_eq_true hip]; rfl
    have hk1:b0a m p c i+1≤n:=by
     have:=cle (i+1) hil
     rw [f0v,if_pos ho] at this; exact this
    refine exd rF ?_
    refine mV L rfl (sw (Z1 ag3 rF rF L) t1 t1 ?_)
    refine sw (c_n L) t2 t0 (mV L rfl (swg (g:=17) rfl sO (Z1 ag73 rF rF L) rfl t1 t1 ?_))
    refine swg (g:=17) rfl sO (j3 rX L) rfl t1 t1 ?_
    refine swg (g:=17) rfl sO (j2 un79 rfl sz77 dC rX L) rfl t1 t1 ?_
    refine swg (g:=17) rfl sO (Z1 ag77 rF rF L) rfl t1 t1 ?_
    refine gV (g:=17) rfl sO L rfl rfl (swg (g:=17) rfl sO (Z1 ag3 rF rF L) rfl t1 t1 ?_)
    refine swg (g:=17) rfl sO (v6 hG hX hN atI rfl L (l5 (ys:=[_,_,_]) cl91 rfl rfl) (E2 dC _).nd (E2 dC _).whole (fun q h=>by cases h)) rfl t3 (U7 (C5 (E2 dC _).nd fun k B h=>M1f [_,_,_,_] (hU _ (cle i hi)) rfl (hsub _ (cle i hi) k B h))) ?_
    refine swg (g:=17) rfl sO (c_c hG hX cl65 rfl hN zI L) rfl t1 t0 (swg (g:=17) rfl sO (P3 L) rfl t1 t0 (sw (m4 sO L) t2 t0 (mV L rfl (gV (g:=28) rfl (by rw [decide_eq_false hz] <;> rfl) L rfl rfl ?_))))
    refine gV (g:=28) rfl (by rw [decide_eq_false hz] <;> rfl) L rfl rfl ?_
    refine swg (g:=28) rfl (by rw [decide_eq_false hz] <;> rfl) (Z1 ag73 rF rF L) rfl t1 t1 ?_
    refine swg (g:=28) rfl (by rw [decide_eq_false hz] <;> rfl) (j3 rX L) rfl t1 t1 ?_
    refine swg (g:=28) rfl (by rw [decide_eq_false hz] <;> rfl) (j2 un79 rfl sz77 dC rX L) rfl t1 t1 ?_
    refine swg (g:=28) rfl (by rw [decide_eq_false hz] <;> rfl) (Z1 ag77 rF rF L) rfl t1 t1 ?_
    refine gV (g:=28) rfl (by rw [decide_eq_false hz] <;> rfl) L rfl rfl ?_
    refine swg (g:=28) rfl (by rw [decide_eq_false hz] <;> rfl) (Z1 ag3 rF rF L) rfl t1 t1 ?_
    refine swg (g:=28) rfl (by rw [decide_eq_false hz] <;> rfl) (v6 hG hX hN atI rfl L (l5 (ys:=[_,_,_]) cl91 rfl rfl) (E2 dC _).nd (E2 dC _).whole (fun q h=>by cases h)) rfl t3 (U7 (C5 (E2 dC _).nd fun k B h=>M1f [_,_,_,_] (hU _ (cle i hi)) rfl (hsub _ (cle i hi) k B h))) ?_
    refine d2h (k:=b0a m p c i) hY hk1 rfl (by rw [decide_eq_false hz] <;> rfl) L rfl ⟨rfl,(by rw [henc i hil ho]; rfl),(by rw [henc i hil ho]; rfl),trivial⟩ ⟨rfl,U7 (F0s [_,_,_,_] (hU _ (cle i hi)) rfl)⟩ ?_
    refine swg (g:=28) rfl (by rw [decide_eq_false hz] <;> rfl) (P3 L) rfl t1 t0 ?_
    refine sw (m4 (by rw [decide_eq_false hz]; rfl) L) t2 t0 ?_
    refine R1 ⟨G1c (cfI H1z) [⟨[5],[],[14],[]⟩,⟨[2],[604],[15],[]⟩,⟨[14,15],[],[16],[]⟩,⟨[16],[],[17],[]⟩,⟨[17,1],[603],[18],[]⟩,⟨[17,18],[999],[19],[]⟩,⟨[17,19],[999],[20],[]⟩,⟨[17,20],[999],[21],[]⟩,⟨[17,5],[],[22],[]⟩,⟨[17,3],[605],[23],[]⟩,⟨[17,21,22,23],[1000],[24],[]⟩,⟨[17,24],[],[25],[]⟩,⟨[17,25],[],[26],[]⟩,⟨[17,26],[],[27],[]⟩,⟨[27],[],[28],[]⟩,⟨[28,0],[],[29],[]⟩,⟨[28,5],[],[30],[]⟩,⟨[28,1],[603],[31],[]⟩,⟨[28,31],[999],[32],[]⟩,⟨[28,32],[999],[33],[]⟩,⟨[28,33],[999],[34],[]⟩,⟨[28,5],[],[35],[]⟩,⟨[28,3],[605],[36],[]⟩,⟨[28,34,35,36],[1000],[37],[]⟩,⟨[28,29,30,37],[999,1000],[38],[999,1000]⟩,⟨[28,38],[],[39],[]⟩,⟨[28,39],[],[40],[]⟩] (.cons (cf0 rfl) (.cons (cf0 rfl) (.cons (cf0 rfl) (.cons (cf0 rfl) (.cons (cf0 rfl) (.cons (cf0 rfl) (.cons (cf0 rfl) (.cons (cf0 rfl) (.cons (cf0 rfl) (.cons (cf0 rfl) (.cons (cfT rfl rfl (V0p (hU _ (cle i hi)) (hsub _ (cle i hi)) (E2 dC _).nd) rfl (fun _ h=>by cases h)) (.cons (cf0 rfl) (.cons (cf0 rfl) (.cons (cf0 rfl) (.cons (cf0 rfl) (.cons (cf0 rfl) (.cons (cf0 rfl) (.cons (cf0 rfl) (.cons (cf0 rfl) (.cons (cf0 rfl) (.cons (cf0 rfl) (.cons (cf0 rfl) (.cons (cf0 rfl) (.cons (cfT rfl rfl (V0p (hU _ (cle i hi)) (hsub _ (cle i hi)) (E2 dC _).nd) rfl (fun _ h=>by cases h)) (.cons (cfT rfl rfl (n1c rF (hU _ (cle i hi)) rfl) rfl (n1c rF (hU _ hk1) rfl)) (.cons (cf0 rfl) (.cons (cf0 rfl)  .nil))))))))))))))))))))))))))) rfl dC,[(0,_),(1,_),(2,_),(3,_),(10,_),(11,_),(40,_)],(603,_) :: (604,_) :: (605,_) :: (999,_) :: ((U (b0a m p c i+1))),t7,⟨(lkY (hU _ hk1) rfl rfl rfl),(lkY (hU _ hk1) rfl rfl rfl),(lkY (hU _ hk1) rfl rfl rfl),rfl,(b2n [_] (hU _ hk1) rfl)⟩,?_⟩
    refine T3 rfl rfl ?_
    refine V1 (xq ?_)
    refine C3 (sw (I3 L (w64 oM oM)) t2 t0 (mV L rfl (R1 ?_)))
    exact ⟨i+1,oM,by omega,B3 ⟨oR,rfl,rfl,rfl,rfl,rfl,trivial⟩ ⟨rfl,rfl,rfl,rfl,(by rw [f0v,if_pos ho]; exact F0s [_,_,_,_] (hU _ hk1) rfl)⟩⟩
 ·have hc:=df hc
  have e:i=m.length:=by omega
  subst e
  refine K2 ?_
  refine ⟨.inl rfl,rfl,rfl,rfl,rfl,(by rw [hn]; exact F0s [_,_,_,_] (hU _ (cle _ (Nat.le_refl _))) rfl)⟩
end Go.Proofs.YtjagfionflbjbaaGreat.N
namespace Go.Proofs.YtjagfionflbjbaaGreat.SH
open Go Go.RowKit
@[reducible] def pvV (k:Nat):List O2→PV
 | []=>.p (.a (.slice none 0 0))
 | a :: v=>.ref k 0 (v.length+1) (v.length+1)
@[reducible] def pvB (k:Nat)(e:TypeId):List O2→List (Nat×Blk)
 | []=>[]
 | a :: v=>[(k,⟨e,1,.pure (a :: v)⟩)]
@[reducible] def pvF (k:Nat):List O2→Option Nat
 | []=>some k
 | _ :: _=>none
theorem q0f {k:Nat}{e:TypeId}{xs:List O2}{q:Nat}{B:Blk}(h:(pvB k e xs).lookup q=some B):q=k∧B.cs.only []=true:=by
 cases xs with
 | nil=>cases h
 | cons a v =>
  simp only [pvB,i0] at h
  by_cases e:q=k
  ·subst e; simp at h; subst h; exact ⟨rfl,rfl⟩
  ·rw [show (q == k)=false by simpa using e] at h; cases h
section
variable {P:Program} {F:Fr} {d:Nat} {T:TypeId} {pos:String} {aft:Array Edge} {g:Option (Nat×Bool)} {t tx:TypeId}
theorem M0f {x:Operand}{k:Nat}{e:TypeId}{xs:List O2}(hu:P.underlying t=some (.slice e))(hlt:d<F.nt) :
  R2 P F ⟨some d,.call ⟨.builtin .len,#[x],#[t]⟩,T,pos,aft,g⟩ { rs:=[(x,pvV k xs)],rb:=pvB k e xs,ws:=[(d,.p (.a (.int .i64 xs.length)))] }:=by
 cases xs with
 | nil=>exact y0b hu hlt
 | cons a v=>exact v0b (n:=v.length+1) (B:=⟨e,1,.pure (a :: v)⟩) hu rfl hlt
theorem M0x {x y:Operand}{k:Nat}{e:TypeId}{ie:TypeInfo}{z:Value}{xs:List O2}{y0:O2}(hu:P.underlying t=some (.slice e))(hux:P.underlying tx=some (.slice e))(hi:∀ w,(typeInfo e).run P w = .ok ie w)(hz:ie.zero=some z)(hsz:ie.size=1)
  (hzl:z.cells.size=1) (hby:2*(xs.length+1)*ie.bytes≤281474976710656) (h63:xs.length+1≤9223372036854775807) (hpk:F.pin k=none) (hlt:d<F.nt) :
  R2 P F ⟨some d,.call ⟨.builtin .append,#[x,y],#[t,tx]⟩,T,pos,aft,g⟩ ⟨[(x,pvV k xs),(y,.p (.sl 1 [y0]))],pvB k e xs,pvF k xs,[(d,pvV k (xs++[y0]))],pvB k e (xs++[y0])⟩:=by
 cases xs with
 | nil=>exact apN (k:=k) (m:=1) (sz:=1) (r:=1) hu hux hi hz hsz hzl (by omega) rfl rfl (by simpa using hby) (by omega) hpk hlt
 | cons a v =>
  have:=apP (P:=P) (F:=F) (d:=d) (T:=T) (pos:=pos) (aft:=aft) (g:=g) (t:=t) (tx:=tx) (x:=x) (y:=y) (k:=k) (n:=v.length+1) (m:=1) (sz:=1) (q:=(v++[y0]).length+1) (r:=(v++[y0]).length+1) (xs:=a :: v) (ys:=[y0]) hu hux hi hz hsz hzl (by omega) rfl (by simp) rfl rfl (by simp) (by simp) (by simpa using hby) (by simpa using h63) hpk hlt
  exact this
end
section
variable {P:Program} {F:Fr} {ops:Array Oper} {sl:List (Nat×PV)} {hb:List (Nat×Blk)} {op:Op} {T:TypeId} {pos:String} {aft:Array Edge} {os:List Oper} {dst:Option Nat} {rs:List (Operand×PV)} {rb wb:List (Nat×Blk)} {fr:Option Nat}
theorem swA {K:List Ann→St→Prop}{d:Nat}{v:PV}(hc:R2 P F ⟨dst,op,T,pos,aft,none⟩ ⟨rs,rb,fr,[(d,v)],wb⟩)(h1:E8 ⟨sl,hb⟩ rs)(h2:P6 ⟨sl,hb⟩ rb)(h3:h0d ⟨sl,hb⟩ fr)(hn:y7 P F ops ⟨(d,v) :: sl,wb++hb⟩ os fun As S'=>K (⟨rs,rb,fr,[(d,v)],wb⟩ :: As) S') :
  y7 P F ops ⟨sl,hb⟩ (⟨dst,op,T,pos,aft,none⟩ :: os) K :=
 let ⟨As,S',h,hK⟩:=hn
 ⟨_,S',.cons (R7 rfl hc) (B7 h1 h2 h3) h,hK⟩
end
theorem D1a {A B:List (Nat×Blk)}(hA:R5 A)(hB:R5 B)(hd:∀ k,A.lookup k≠none→B.lookup k=none):R5 (A++B):=by
 refine ⟨fun k hk=>by rw [U1,hA.low k hk,hB.low k hk]; rfl,?_,fun k hk=>by rw [U4,hA.free k hk,hB.free k hk]; rfl,fun j C hj i x hx q hq=>?_⟩
 ·rw [List.map_append,List.nodup_append]
  refine ⟨hA.nd,hB.nd,fun a ha b hb e=>?_⟩
  subst e
  obtain ⟨⟨a,X⟩,hX,rfl⟩:=G0.1 ha
  obtain ⟨⟨a',Y⟩,hY,e⟩:=G0.1 hb
  simp only at e
  subst e
  have:=hd a' (by rw [W5 hA.nd hX]; simp)
  rw [W5 hB.nd hY] at this; cases this
 ·rw [U1] at hj ⊢
  cases e:A.lookup j with
  | some D =>
   rw [e,K0] at hj
   injection hj with hj
   subst hj
   obtain ⟨D',hD'⟩:=D1.1 (hA.whole j D e i x hx q hq)
   rw [hD']; simp
  | none =>
   rw [e,l0] at hj
   obtain ⟨D',hD'⟩:=D1.1 (hB.whole j C hj i x hx q hq)
   rw [hD']; simp
theorem B1s {k:Nat}(hk:1000≤k){e:TypeId}(xs:List O2):R5 (pvB k e xs):=by
 cases xs with
 | nil=>exact ⟨fun _ _=>rfl,List.nodup_nil,fun _ _=>rfl,fun j B hj=>by cases hj⟩
 | cons a v =>
  refine ⟨fun q hq=>?_,by simp,fun q hq=>by simp [Y2,Cells.free],fun j B hj i x hx q hq=>?_⟩
  ·have:q<1000:=by simpa [Nat.blt_eq] using hq
   simp only [pvB,i0]
   rw [show (q == k)=false by simp; omega]; rfl
  ·have:=PV.only_mem (Cells.only_get (q0f hj).2 hx) hq
   simp at this
end Go.Proofs.YtjagfionflbjbaaGreat.SH
namespace Go.Proofs.YtjagfionflbjbaaGreat.SH
open Go
theorem K1z {sl:List (Nat×PV)}{R:List (Nat×Blk)}{k:Nat}{e:TypeId}{xs:List O2}(pre:List (Nat×Blk))(hp:q6 pre=true)(hk:1000≤k):P6 ⟨sl,pre++(pvB k e xs++R)⟩ (pvB k e xs):=by
 cases xs with
 | nil=>trivial
 | cons a v =>
  refine ⟨?_,trivial⟩
  show (pre++_).lookup k=_
  rw [U1,y5 hp hk,l0]; simp [pvB]
theorem b2g {k:Nat}(hk:1000≤k){e:TypeId}{xs:List O2}:∀ p∈pvB k e xs,cls p.1∈[1000]:=by
 intro p hp
 cases xs with
 | nil=>cases hp
 | cons a v=>obtain rfl:=List.mem_singleton.1 hp; rw [F0n hk]; exact List.mem_singleton.2 rfl
end Go.Proofs.YtjagfionflbjbaaGreat.SH
namespace Go.Proofs.YtjagfionflbjbaaGreat.SH
open Go
theorem l4 {k d:Nat}{xs:List O2}(h:k≠d):(pvV k xs).free d=true:=by
 cases xs with
 | nil=>rfl
 | cons a v=>simp [PV.free,h]
end Go.Proofs.YtjagfionflbjbaaGreat.SH
namespace Go.Proofs.YtjagfionflbjbaaGreat.SH
open Go
theorem K1m {P:Program}{F:Fr}{Q:Exit→St→Prop}{S:St}{x y:Code}{sl sl0:List (Nat×PV)}{hb T:List (Nat×Blk)}(_:m7 S sl0)(h:y4 P F x S (K0b (fun S1=>m7 S1 (sl++sl0)∧O5 S1 (hb++T)) Q))(hn:y4 P F y ⟨sl++sl0,hb++T⟩ Q):y4 P F x S (K0b (fun S'=>y4 P F y S' Q) Q):=by
 refine ⟨fun n a w hS=>wpIn_mono (h.run n a w hS) fun e a' w' hq=>hq.elim (fun ⟨S',h1,h4⟩=>.inl ⟨S',?_,h4⟩) .inr⟩
 cases e with
 | normal=>exact hn.weak (B3 h1.1 h1.2)
 | _=>exact h1
end Go.Proofs.YtjagfionflbjbaaGreat.SH
set_option maxRecDepth 100000
set_option maxHeartbeats 4000000
namespace Go.Proofs.YtjagfionflbjbaaGreat.N
open Go Go.Proofs.YtjagfionflbjbaaGreat.SH Go.Proofs.YtjagfionflbjbaaGreat.NumA
open Go.Proofs.Tryz renaming call126→cl126,call52→cl52,call55→cl55,call56→cl56,call66→cl66,call67→cl67,call90→cl90,call91→cl91,call92→cl92,call97→cl97,isAgg3→ag3,isAgg47→ag47,isAgg73→ag73,isAgg77→ag77,sizeOf3→sz3,sizeOf47→sz47,sizeOf77→sz77,typeInfo3→ti3,underlying27→un27,underlying77→un77,underlying79→un79,zeroValue3→zv3,zeroValue47→zv47
theorem D1w {m:List (List Rat)}{p c i:Nat}(hi:i<m.length)(ho:j0a m p c i=true):(K5 m p c).getD (b0a m p c i) 0=i∧b0a m p c i<(K5 m p c).length:=by
 obtain ⟨d,hd⟩:∃ d,m.length=i+(1+d):=⟨m.length - i - 1,by omega⟩
 have e:K5 m p c=(List.range i).filter (j0a m p c)++(i :: ((List.range' (i+1) d).filter (j0a m p c))):=by
  rw [K5,hd,List.range_eq_range',← List.range'_append,List.filter_append,List.range_eq_range']
  congr 1
  rw [Nat.add_comm 1 d,List.range'_succ,G1,Nat.one_mul,List.filter_cons_of_pos ho]
 rw [e,b0a]
 constructor
 ·rw [f0,D0 (Nat.le_refl _)]; simp
 ·simp
theorem h1f {m:List (List Rat)}{p c i:Nat}(hi:i≤m.length):(K5 m p c).take (b0a m p c i)=(List.range i).filter (j0a m p c):=by
 obtain ⟨d,hd⟩:∃ d,m.length=i+d:=⟨m.length - i,by omega⟩
 have e:K5 m p c=(List.range i).filter (j0a m p c)++(List.range' i d).filter (j0a m p c):=by
  rw [K5,hd,List.range_eq_range',← List.range'_append,List.filter_append,List.range_eq_range',G1,Nat.one_mul]
 rw [e,b0a,List.take_left]
theorem D1g {m:List (List Rat)}{p c i n cc:Nat}(h:RC n cc m)(hp:p<n)(hi:i<m.length):(O6 m m p c (b0a m p c i)).getD i []=m.getD i []:=by
 rw [g0k h.1 h hp _ (m1q (Nat.le_of_lt hi)),if_neg]
 rw [h1f (Nat.le_of_lt hi)]
 intro hm
 have:=(List.mem_filter.1 hm).1
 simp at this
theorem p1a {m:List (List Rat)}{p c:Nat}:(K5 m p c).length=b0a m p c m.length:=rfl
def bv (s:Bool)(n:Nat):PV:=if s then .ref 1002 0 n n else .p (.a (.slice none 0 0))
def bsT (s:Bool)(b:List (List Rat)):List (Nat×Blk):=if s then J2 1 b else []
def i4 (s:Bool)(m b:List (List Rat)):List (Nat×Blk):=J2 0 m++bsT s b
theorem Q0g {s:Bool}{n k:Nat}(h:1002≠k):(bv s n).free k=true:=by cases s <;> simp [bv,PV.free,h]
theorem M1q {s:Bool}{n:Nat}:(bv s n).only [999,1001,1002]=true:=by cases s <;> rfl
theorem p0f {m b:List (List Rat)}:i4 false m b=J2 0 m:=by simp [i4,bsT]
theorem W1d {m b:List (List Rat)}:i4 true m b=J2 0 m++J2 1 b:=rfl
theorem Y7 (s:Bool)(m b:List (List Rat)):R5 (i4 s m b):=by
 cases s
 ·rw [p0f]; exact E2 dC m
 ·exact X7 m b
theorem j0m {s:Bool}{m b:List (List Rat)}:∀ k B,(J2 0 m).lookup k=some B→(i4 s m b).lookup k=some B:=fun k B h=>by rw [i4,U1,h]; rfl
theorem k1h {s:Bool}{m b:List (List Rat)}:(i4 s m b).lookup 1001=some (hdB 0 m):=j0m _ _ hdL
theorem b0p {s:Bool}{m b:List (List Rat)}{k:Nat}{B:Blk}(h:(i4 s m b).lookup k=some B):(J2 0 m).lookup k=some B∨(s=true∧(J2 1 b).lookup k=some B):=by
 rw [i4,U1] at h
 cases e:(J2 0 m).lookup k with
 | some C=>rw [e] at h; exact .inl h
 | none =>
  rw [e,l0] at h
  cases s
  ·cases h
  ·exact .inr ⟨rfl,h⟩
theorem k0x {s:Bool}{m b:List (List Rat)}{k:Nat}{B:Blk}(h:(i4 s m b).lookup k=some B):1000≤k:=by
 rcases b0p h with h | ⟨_,h⟩ <;> exact m5 dC h
theorem m0j {m b:List (List Rat)}:∀ k B,(J2 1 b).lookup k=some B→(i4 true m b).lookup k=some B:=fun k B h=>by
 rw [W1d,U1,T8 (m:=b) (b:=m) (k:=k) (s:=1) (s':=0) dC dC dC (by rw [h]; simp),l0,h]
theorem B1d {s:Bool}{m m' b b':List (List Rat)}(hl:m'.length=m.length)(hl2:b'.length=b.length){q:Nat}{B1:Blk}(hq:q<1100)(h:(i4 s m' b').lookup q=some B1):∃ B0,(i4 s m b).lookup q=some B0∧B1.sz=B0.sz∧B1.cs.len=B0.cs.len:=by
 rcases b0p h with hx | ⟨rfl,hx⟩
 ·obtain ⟨B0,h0,h1⟩:=f0p (s:=0) dC hl hq hx
  exact ⟨B0,j0m _ _ h0,h1⟩
 ·obtain ⟨B0,h0,h1⟩:=f0p (s:=1) dC hl2 hq hx
  exact ⟨B0,m0j _ _ h0,h1⟩
theorem K0s {s:Bool}{m m' b b':List (List Rat)}(hl:U9 m m')(hl2:U9 b b'){q:Nat}{B1:Blk}(h:(i4 s m' b').lookup q=some B1):∃ B0,(i4 s m b).lookup q=some B0∧B1.sz=B0.sz∧B1.cs.len=B0.cs.len:=by
 rcases b0p h with hx | ⟨rfl,hx⟩
 ·obtain ⟨B0,h0,h1⟩:=b0g (s:=0) dC hl hx
  exact ⟨B0,j0m _ _ h0,h1⟩
 ·obtain ⟨B0,h0,h1⟩:=b0g (s:=1) dC hl2 hx
  exact ⟨B0,m0j _ _ h0,h1⟩
theorem N0q {s k:Nat}{m m':List (List Rat)}(h2:s<9)(hl:m'.length=m.length)(h:(J2 s m').lookup k≠none):(J2 s m).lookup k≠none:=fun e=>h (v1c h2 hl e)
theorem y1k {s:Bool}{m m' b b':List (List Rat)}(hl:m'.length=m.length)(hl2:b'.length=b.length){k:Nat}(h:(i4 s m' b').lookup k≠none):(i4 s m b).lookup k≠none:=by
 obtain ⟨B,hB⟩:=D1.1 h
 rcases b0p hB with hx | ⟨rfl,hx⟩
 ·have:=N0q (s:=0) (m:=m) (m':=m') (k:=k) dC hl (by rw [hx]; simp)
  obtain ⟨C,hC⟩:=D1.1 this
  rw [j0m _ _ hC]; simp
 ·have:=N0q (s:=1) (m:=b) (m':=b') (k:=k) dC hl2 (by rw [hx]; simp)
  obtain ⟨C,hC⟩:=D1.1 this
  rw [m0j _ _ hC]; simp
theorem b2r (s:Bool)(c:Nat)(m b:List (List Rat))(i p:Nat)(hi:i<m.length)(hp:p<m.length)(hne:i≠p)(hb:b.length=m.length):T4 E L8 92 [.at_ 999 0 3,.clo (.func 93) [] [.at_ 6 0 1,.at_ 5 0 1]] ([bxI 5 p,bxI 6 i,wV c m.length (bv s m.length)]++i4 s m b) ([bxI 5 p,bxI 6 i,wV c m.length (bv s m.length)]++i4 s (M5 m i p) (M5 b i p)) (.p (.tup [])):=by
 cases s
 ·rw [p0f,p0f]; exact W1f c m i p hi hp hne
 ·have:=V1y c m b i p hi hp hne oM oM
  rw [hb] at this; exact this
theorem Y1z (s:Bool)(c:Nat)(m b:List (List Rat))(p:Nat)(q:Rat)(hp:p<m.length)(hb:b.length=m.length)(hl:(m.getD p []).length<1000000000)(hs:∀ a∈m.getD p [],qw a<1000000000)(hc:qw q<1000000000)(hlb:(b.getD p []).length<1000000000)(hsb:∀ a∈b.getD p [],qw a<1000000000):T4 E L8 92 [.at_ 999 0 3,.clo (.func 95) [] [.at_ 5 0 1,.at_ 8 0 4]] ([bxI 5 p,bxQ 8 q,wV c m.length (bv s m.length)]++i4 s m b) ([bxI 5 p,bxQ 8 q,wV c m.length (bv s m.length)]++i4 s (Z9 m p q) (Z9 b p q)) (.p (.tup [])):=by
 cases s
 ·rw [p0f,p0f]; exact Q1p c m p q hp hl hs hc
 ·have:=V1d c m b p q hp hl hs hc oM hlb hsb
  rw [hb] at this; exact this
theorem b2c (s:Bool)(c:Nat)(m b:List (List Rat))(i p:Nat)(q:Rat)(B C D:Nat)(hi:i<m.length)(hp:p<m.length)(hne:i≠p)(hb:b.length=m.length)(hlen:(m.getD p []).length=(m.getD i []).length)(hl:(m.getD i []).length<1000000000)(hB:∀ a∈m.getD i [],qw a≤B)(hC:∀ a∈m.getD p [],qw a≤C)(hD:qw q≤D)(hlenb:(b.getD p []).length=(b.getD i []).length)(hlb:(b.getD i []).length<1000000000)(hBb:∀ a∈b.getD i [],qw a≤B)(hCb:∀ a∈b.getD p [],qw a≤C)(hbd:B+(D+C)+1<1000000000):T4 E stA 92 [.at_ 999 0 3,.clo (.func 98) [] [.at_ 10 0 1,.at_ 5 0 1,.at_ 11 0 4]] ([bxI 5 p,bxI 10 i,bxQ 11 q,wV c m.length (bv s m.length)]++i4 s m b) ([bxI 5 p,bxI 10 i,bxQ 11 q,wV c m.length (bv s m.length)]++i4 s (f8 m i p q) (f8 b i p q)) (.p (.tup [])):=by
 cases s
 ·rw [p0f,p0f]; exact Q1b c m i p q B C D hi hp hne hlen hl hB hC hD hbd
 ·have:=V1s c m b i p q B C D hi hp hne hlen hl hB hC hD hbd B C oM oM hlenb hlb hBb hCb hbd
  rw [hb] at this; exact this
theorem Y0f (s:Bool)(cols n p c:Nat)(T:List (Nat×Blk))(hT:R5 T):T4 E stO 97 [.at_ 999 0 3,.p (vZ p),.p (vZ c)] ([wV cols n (bv s n)]++T) ([(603,⟨73,1,.mix [.at_ 999 0 3]⟩),bxI 604 p,bxI 605 c,wV cols n (bv s n)]++T) (.clo (.func 126) [] [.at_ 603 0 1,.at_ 604 0 1,.at_ 605 0 1]):=by
 cases s
 ·exact Q0v cols n p c T hT
 ·exact Q0w cols n n p c T hT
def V6 (pv:List Nat):List O2:=pv.map fun k:Nat=>vZ (k:Int)
@[simp] theorem G8 (pv:List Nat):(V6 pv).length=pv.length:=by simp [V6]
@[reducible] def tlP (pv:List Nat)(R:List (Nat×Blk)):List (Nat×Blk):=pvB 1003 3 (V6 pv)++R
theorem B1q {s k:Nat}{m:List (List Rat)}(h2:s<2)(hk:k=1003):(J2 s m).lookup k=none:=by
 cases e:(J2 s m).lookup k with
 | none=>rfl
 | some B=>rcases V5 oM (show (J2 s m).lookup k≠none by rw [e]; simp) with h3 | ⟨q',_,h3⟩ <;> (try simp only [K3] at h3) <;> omega
theorem j8 {s:Bool}{k:Nat}{m b:List (List Rat)}(hk:k=1003):(i4 s m b).lookup k=none:=by
 cases e:(i4 s m b).lookup k with
 | none=>rfl
 | some B=>rcases b0p e with h | ⟨_,h⟩ <;> rw [B1q dC hk] at h <;> cases h
theorem P1v {pv:List Nat}{R:List (Nat×Blk)}(hR:R5 R)(h:R.lookup 1003=none):R5 (tlP pv R) :=
 D1a (B1s dC _) hR fun k hk=>by
  obtain ⟨B,hB⟩:=D1.1 hk
  rw [(q0f hB).1]; exact h
theorem E3 {pv:List Nat}{s:Bool}{m b:List (List Rat)}:R5 (tlP pv (i4 s m b)):=P1v (Y7 s m b) (j8 rfl)
theorem P8 {pv:List Nat}{s:Bool}{m b:List (List Rat)}:∀ k B,(i4 s m b).lookup k=some B→(tlP pv (i4 s m b)).lookup k=some B:=fun k B h=>by
 rw [tlP,U1]
 cases e:(pvB 1003 3 (V6 pv)).lookup k with
 | none=>rw [l0,h]
 | some C =>
  have:=(q0f e).1
  rw [j8 this] at h; cases h
theorem D0q {pv:List Nat}{s:Bool}{m b:List (List Rat)}:∀ k B,(J2 0 m).lookup k=some B→(tlP pv (i4 s m b)).lookup k=some B:=fun k B h=>P8 _ _ (j0m _ _ h)
theorem F1c {pv:List Nat}{s:Bool}{m b:List (List Rat)}:(tlP pv (i4 s m b)).lookup 1001=some (hdB 0 m):=D0q _ _ hdL
@[reducible] def hC (cols n c:Nat)(v:PV)(T:List (Nat×Blk)):List (Nat×Blk):=[bxW,bxI 4 c,wV cols n v]++T
theorem N1p {cols n c:Nat}{v:PV}{T:List (Nat×Blk)}(hT:R5 T):((hC cols n c v T).map (·.1)).Nodup:=by
 have h:∀ k,k<1000→k ∉ T.map (·.1):=fun k hk hm=>by
  obtain ⟨⟨q,B⟩,hp,e⟩:=G0.1 hm
  simp only at e
  subst e
  have:=hT.low q (by simpa [Nat.blt_eq] using hk)
  rw [W5 hT.nd hp] at this; cases this
 simp only [hC,M1,List.nil_append,R0,List.nodup_cons,List.mem_cons,not_or]
 exact ⟨⟨by decide,by decide,h 1 dC⟩,⟨by decide,h 4 dC⟩,h 999 dC,hT.nd⟩
theorem f9 {bx T:List (Nat×Blk)}(ks:List Nat)(hb:(bx.all fun p=>p.2.cs.only ks)=true)(hk:∀ k∈ks,(bx++T).lookup k≠none)(hT:Whole T):Whole (bx++T):=by
 intro j B hj i x hx q hq
 rw [U1] at hj
 cases e:bx.lookup j with
 | some C =>
  rw [e,K0] at hj
  injection hj with hj
  subst hj
  rw [s0] at hb
  exact hk q (PV.only_mem (Cells.only_get (hb _ (R3 e)) hx) hq)
 | none =>
  rw [e,l0] at hj
  exact U8 (hT j B hj i x hx q hq)
def ksB (s:Bool):List Nat:=if s then [999,1001,1002] else [999,1001]
theorem H0j {s:Bool}{c n:Nat}:(wV c n (bv s n)).2.cs.only (ksB s)=true:=by cases s <;> rfl
theorem D0z {s:Bool}{m b:List (List Rat)}{T bx:List (Nat×Blk)}(h9:bx.lookup 999≠none)(hT:∀ k B,(i4 s m b).lookup k=some B→T.lookup k=some B):∀ k∈ksB s,(bx++T).lookup k≠none:=by
 intro k hk
 have h1:T.lookup 1001≠none:=by rw [hT _ _ k1h]; simp
 cases s
 ·simp only [ksB,Bool.false_eq_true,if_false,List.mem_cons,List.not_mem_nil,or_false] at hk
  rcases hk with rfl | rfl
  ·exact m0p h9
  ·exact U8 h1
 ·simp only [ksB,if_true,List.mem_cons,List.not_mem_nil,or_false] at hk
  rcases hk with rfl | rfl | rfl
  ·exact m0p h9
  ·exact U8 h1
  ·exact U8 (by rw [hT _ _ (m0j _ _ (show (J2 1 b).lookup 1002=some (hdB 1 b) from hdL))]; simp)
theorem b2p {s:Bool}{cols n c:Nat}{m b:List (List Rat)}{T:List (Nat×Blk)}(hT:R5 T)(hs:∀ k B,(i4 s m b).lookup k=some B→T.lookup k=some B):Whole (hC cols n c (bv s n) T) :=
 f9 (ksB s) (by simp only [List.all_cons,List.all_nil,Bool.and_true,j0]; exact ⟨by cases s <;> rfl,by cases s <;> rfl,H0j⟩) (D0z (by simp [i0]) hs) hT.whole
theorem F0k {xs:List O2}:(pvV 1003 xs).only ks8=true:=by cases xs <;> rfl
theorem ncE {F:Fr}{n:Nat}{s:Bool}{sl slR:List (Nat×PV)}{w0 bx pre pre':List (Nat×Blk)}{pv:List Nat}{m0 b0 m b m' b':List (List Rat)}(hl:m'.length=m.length)(hlb:b'.length=b.length)(hl0:m.length=m0.length)(hlb0:b.length=b0.length)(G:GFr E L8 (w0++i4 s m0 b0) n F)(hp:q6 pre=true)(hbp:O5 ⟨[],pre⟩ bx)(hpp:O5 ⟨[],pre⟩ pre')(hbx:(bx.all fun p=>p.2.cs.only (ksB s))=true)(h9:bx.lookup 999≠none)(hpo:(pre'.all fun p=>p.2.cs.only ks8)=true)(hso:(slR.all fun p=>p.2.only ks8)=true)(hS:m7 ⟨sl,pre++tlP pv (i4 s m b)⟩ slR) :
  f0b L8 F ⟨sl,pre++tlP pv (i4 s m b)⟩ (bx++i4 s m b) (bx++i4 s m' b') slR (pre'++tlP pv (i4 s m' b')):=by
 refine ncT (T:=i4 s m b) (T':=i4 s m' b') (U:=tlP pv (i4 s m b)) (U':=tlP pv (i4 s m' b')) ks8 rfl hp (fun k B h=>hbp.all k B h) (fun k B h=>hpp.all k B h) (fun k B h=>⟨P8 k B h,k0x h⟩) (fun k B h=>k0x h) (fun k B h=>?_) (fun q B1 hq h=>B1d hl hlb hq h) hpo hso hS
  (m1f (pre:=[]) G fun k h=>U8 (y1k hl0 hlb0 h)) G.ps (f9 (ksB s) hbx (D0z h9 fun _ _ h=>h) (Y7 s m' b').whole)
 rw [tlP,U1] at h
 cases e:(pvB 1003 3 (V6 pv)).lookup k with
 | none=>rw [e,l0] at h; exact .inl h
 | some C =>
  rw [e,K0] at h
  injection h with h
  subst h
  obtain ⟨h1,h2⟩:=q0f e
  refine .inr ⟨by omega,by rw [tlP,U1,e]; rfl,j8 h1,j8 h1,fun i x hx q hq _=>?_⟩
  have:=PV.only_mem (Cells.only_get h2 hx) hq
  simp at this
@[simp] theorem b2a {s:Bool}{n k:Nat}(h:1002≠k):(bv s n).free k=true:=Q0g h
theorem q1v {s:Bool}{m b:List (List Rat)}{k:Nat}(h:k<1100):Y2 k (i4 s m b)=true:=by
 have h1:∀ (q:Nat) (x:List (List Rat)),Y2 k (J2 q x)=true:=fun q x=>by
  simp only [J2,Y2,Cells.free,j0]; exact ⟨y0m h 0 x,f0q 0 x⟩
 rw [i4,U4,h1]
 cases s
 ·rfl
 ·exact h1 1 b
@[reducible] def bxs (s:Bool)(cols n c p:Nat)(q:Rat):List (Nat×Blk):=[wV cols n (bv s n),(1,⟨73,1,.mix [.at_ 999 0 3]⟩),(3,bQ q),bxI 4 c,bxI 5 p]
theorem k1v {s:Bool}{cols n c p:Nat}{q:Rat}{k:Nat}(h:(bxs s cols n c p q).lookup k≠none):k=999∨k=1∨k=3∨k=4∨k=5:=by
 simp only [bxs,i0,List.lookup_nil] at h
 by_cases e1:k=999; exact .inl e1
 by_cases e2:k=1; exact .inr (.inl e2)
 by_cases e3:k=3; exact .inr (.inr (.inl e3))
 by_cases e4:k=4; exact .inr (.inr (.inr (.inl e4)))
 by_cases e5:k=5; exact .inr (.inr (.inr (.inr e5)))
 rw [show (k == 999)=false by simpa using e1,show (k == 1)=false by simpa using e2,show (k == 3)=false by simpa using e3,show (k == 4)=false by simpa using e4,show (k == 5)=false by simpa using e5] at h
 exact absurd rfl h
@[reducible] def hR (s:Bool)(cols n c p:Nat)(q:Rat)(pv:List Nat)(m b:List (List Rat)):List (Nat×Blk):=bxs s cols n c p q++tlP pv (i4 s m b)
theorem n1h {s:Bool}{cols n c p:Nat}{q:Rat}{pv:List Nat}{m b:List (List Rat)}{k:Nat}(h:k<1000)(h1:k≠999)(h2:k≠1)(h3:k≠3)(h4:k≠4)(h5:k≠5):(hR s cols n c p q pv m b).lookup k=none:=by
 rw [hR,U1,E3.low k (by simpa [Nat.blt_eq] using h),Option.or_none]
 cases e:(bxs s cols n c p q).lookup k with
 | none=>rfl
 | some B=>rcases k1v (by rw [e]; simp) with h | h | h | h | h <;> contradiction
theorem f2h {s:Bool}{cols n c p:Nat}{q:Rat}{pv:List Nat}{m b:List (List Rat)}:Whole (hR s cols n c p q pv m b) :=
 f9 (ksB s) (by simp only [List.all_cons,List.all_nil,Bool.and_true,j0]; exact ⟨H0j,by cases s <;> rfl,by cases s <;> rfl,by cases s <;> rfl,by cases s <;> rfl⟩) (D0z (by simp [i0]) fun k B h=>P8 k B h) E3.whole
theorem y1n {s:Bool}{cols n c p:Nat}{q:Rat}{pv:List Nat}{m b:List (List Rat)}{k:Nat}{B:Blk}(h:(hR s cols n c p q pv m b).lookup k=some B):(bxs s cols n c p q).lookup k=some B∨((bxs s cols n c p q).lookup k=none∧((pvB 1003 3 (V6 pv)).lookup k=some B∨((pvB 1003 3 (V6 pv)).lookup k=none∧(i4 s m b).lookup k=some B))):=by
 rw [hR,U1] at h
 cases e:(bxs s cols n c p q).lookup k with
 | some C=>rw [e,K0] at h; exact .inl h
 | none =>
  rw [e,l0,tlP,U1] at h
  cases e2:(pvB 1003 3 (V6 pv)).lookup k with
  | some C=>rw [e2,K0] at h; exact .inr ⟨rfl,.inl h⟩
  | none=>rw [e2,l0] at h; exact .inr ⟨rfl,.inr ⟨rfl,h⟩⟩
theorem g1h {s:Bool}{cols n c p:Nat}{q:Rat}{pv:List Nat}{m b m' b':List (List Rat)}(hm:U9 m m')(hb:U9 b b'){k:Nat}{B1:Blk}(h:(hR s cols n c p q pv m' b').lookup k=some B1):∃ B0,(hR s cols n c p q pv m b).lookup k=some B0∧B1.sz=B0.sz∧B1.cs.len=B0.cs.len:=by
 rw [hR,U1]
 rcases y1n h with h | ⟨h0,h | ⟨h1,h⟩⟩
 ·exact ⟨B1,by rw [h]; rfl,rfl,rfl⟩
 ·exact ⟨B1,by rw [h0,l0,tlP,U1,h]; rfl,rfl,rfl⟩
 ·obtain ⟨B0,h2,h3⟩:=K0s hm hb h
  exact ⟨B0,by rw [h0,l0,tlP,U1,h1,l0,h2],h3⟩
theorem J0g {m m':List (List Rat)}(h:U9 m m'):U9 m' m:=⟨h.1.symm,fun i=>(h.2 i).symm⟩
theorem f0x {n c:Nat}{m m':List (List Rat)}(h:RC n c m)(h':RC n c m'):U9 m m':=by
 refine ⟨by rw [h.1,h'.1],fun i=>?_⟩
 by_cases e:i<n
 ·rw [h.get e,h'.get e]
 ·rw [f0,f0,List.getElem?_eq_none (by have:=h'.1; omega),List.getElem?_eq_none (by have:=h.1; omega)]
theorem d2y {s:Bool}{c p:Nat}{q:Rat}{pv:List Nat}{m b:List (List Rat)}:j0h H1z ([(1,⟨73,1,.mix [.at_ 999 0 3]⟩),(3,bQ q),bxI 4 c,bxI 5 p]++tlP pv (i4 s m b)):=by
 refine ⟨fun k hk=>?_,?_⟩
 ·have hk:k=603∨k=604∨k=605∨k=999:=by simpa using hk
  rw [U1,E3.low k (by simp [Nat.blt_eq]; omega),Option.or_none]
  rcases hk with rfl | rfl | rfl | rfl <;> rfl
 ·have hno:∀ k,k<1000→k ∉ (tlP pv (i4 s m b)).map (·.1):=fun k hk hm=>by
   obtain ⟨⟨q,B⟩,hp,e⟩:=G0.1 hm
   simp only at e
   subst e
   have:=(E3 (pv:=pv) (s:=s) (m:=m) (b:=b)).low q (by simpa [Nat.blt_eq] using hk)
   rw [W5 E3.nd hp] at this; cases this
  simp only [M1,List.nil_append,R0,List.nodup_cons,List.mem_cons,not_or]
  exact ⟨⟨by decide,by decide,by decide,hno 1 dC⟩,⟨by decide,by decide,hno 3 dC⟩,⟨by decide,hno 4 dC⟩,hno 5 dC,E3.nd⟩
theorem f2j {F:Fr}{s:Bool}{sl slR:List (Nat×PV)}{bx pre pre':List (Nat×Blk)}{pv:List Nat}{m b m' b':List (List Rat)}(hl:U9 m m')(hlb:U9 b b')(hp:q6 pre=true)(hbp:O5 ⟨[],pre⟩ bx)(hpp:O5 ⟨[],pre⟩ pre')(hbx:(bx.all fun p=>p.2.cs.only (ksB s))=true)(h9:bx.lookup 999≠none)(hS:m7 ⟨sl,pre++tlP pv (i4 s m b)⟩ slR) :
  f0b stA F ⟨sl,pre++tlP pv (i4 s m b)⟩ (bx++i4 s m b) (bx++i4 s m' b') slR (pre'++tlP pv (i4 s m' b')):=by
 refine F1f (T:=i4 s m b) (T':=i4 s m' b') (U:=tlP pv (i4 s m b)) (U':=tlP pv (i4 s m' b')) hp (fun k B h=>hbp.all k B h) (fun k B h=>hpp.all k B h) (fun k B h=>⟨P8 k B h,k0x h⟩) (fun k B h=>k0x h) (fun k B h=>?_) (fun q B1 h=>K0s hl hlb h) hS (f9 (ksB s) hbx (D0z h9 fun _ _ h=>h) (Y7 s m' b').whole)
 rw [tlP,U1] at h
 cases e:(pvB 1003 3 (V6 pv)).lookup k with
 | none=>rw [e,l0] at h; exact .inl h
 | some C =>
  rw [e,K0] at h
  injection h with h
  subst h
  obtain ⟨h1,h2⟩:=q0f e
  exact .inr ⟨by omega,by rw [tlP,U1,e]; rfl,j8 h1,j8 h1⟩
@[reducible] def bx3 (p c:Nat):List (Nat×Blk):=[(603,⟨73,1,.mix [.at_ 999 0 3]⟩),bxI 604 p,bxI 605 c]
theorem j1r {p c k:Nat}(h:(bx3 p c).lookup k≠none):k=603∨k=604∨k=605:=by
 simp only [bx3,i0,List.lookup_nil] at h
 by_cases e1:k=603; exact .inl e1
 by_cases e2:k=604; exact .inr (.inl e2)
 by_cases e3:k=605; exact .inr (.inr e3)
 rw [show (k == 603)=false by simpa using e1,show (k == 604)=false by simpa using e2,show (k == 605)=false by simpa using e3] at h
 exact absurd rfl h
theorem m1a {k:Nat}(h:stO k=false):k=603∨k=604∨k=605:=by
 simp only [stO,Bool.not_eq_false',Bool.or_eq_true,beq_iff_eq] at h
 omega
theorem n1w {f:Fn}{q:Nat}(h:(PV.clo f [] [.at_ 603 0 1,.at_ 604 0 1,.at_ 605 0 1]).free q=false):q=603∨q=604∨q=605:=by
 by_cases h1:q=603; exact .inl h1
 by_cases h2:q=604; exact .inr (.inl h2)
 by_cases h3:q=605; exact .inr (.inr h3)
 simp [PV.free,PV.freeL,Ne.symm h1,Ne.symm h2,Ne.symm h3] at h
theorem ncO {F:Fr}{s:Bool}{sl slR:List (Nat×PV)}{pre:List (Nat×Blk)}{cols n c p p' c':Nat}{q:Rat}{pv:List Nat}{m b:List (List Rat)}(hp:O5 ⟨[],pre⟩ (bxs s cols n c p q))(hb:q6 pre=true)(hpin:∀ k,k=603∨k=604∨k=605→F.pin k=none)(hso:(slR.all fun p=>p.2.only ks8)=true)(hS:m7 ⟨sl,pre++tlP pv (i4 s m b)⟩ slR) :
  f0b stO F ⟨sl,pre++tlP pv (i4 s m b)⟩ ([wV cols n (bv s n)]++tlP pv (i4 s m b)) (bx3 p' c'++([wV cols n (bv s n)]++tlP pv (i4 s m b))) slR (bx3 p' c'++(bxs s cols n c p q++tlP pv (i4 s m b))):=by
 have hpre:∀ k,1000≤k→pre.lookup k=none:=fun k hk=>y5 hb hk
 have htl:∀ k,k<1000→(tlP pv (i4 s m b)).lookup k=none:=fun k hk=>E3.low k (by simpa [Nat.blt_eq] using hk)
 have h999:∀ k B,([wV cols n (bv s n)]:List (Nat×Blk)).lookup k=some B→k=999∧B=(wV cols n (bv s n)).2:=fun k B h=>by
  simp only [i0,List.lookup_nil] at h
  by_cases e:k=999
  ·subst e; simp at h; exact ⟨rfl,h.symm⟩
  ·rw [show (k == 999)=false by simpa using e] at h; cases h
 have hbl:∀ k B,(bxs s cols n c p q).lookup k=some B→pre.lookup k=some B:=fun k B h=>hp.all k B h
 refine ⟨fun j B hj=>?_,hS,fun k B hk=>?_,fun k B1 hst h=>?_,fun t v ht k hk hst=>?_,fun j hj hst=>?_,fun j hj=>?_,?_⟩
 ·show (pre++_).lookup j=some B
  rw [U1] at hj ⊢
  cases e:([wV cols n (bv s n)]:List (Nat×Blk)).lookup j with
  | some C =>
   rw [e,K0] at hj
   injection hj with hj
   subst hj
   obtain ⟨rfl,rfl⟩:=h999 j C e
   rw [hbl 999 _ rF]; rfl
  | none =>
   rw [e,l0] at hj
   rw [hpre j (by apply Classical.byContradiction; intro h2; rw [htl j oM] at hj; cases hj),l0,hj]
 ·rw [U1] at hk
  cases e:(bx3 p' c').lookup k with
  | some C=>rw [e,K0] at hk; exact .inl (by rw [U1,e]; exact hk)
  | none =>
   rw [e,l0,U1] at hk
   cases e2:(bxs s cols n c p q).lookup k with
   | some C =>
    rw [e2,K0] at hk
    injection hk with hk
    subst hk
    rcases k1v (by rw [e2]; simp) with rfl | h5
    ·refine .inl ?_
     rw [U1,e,l0,U1]
     rw [show (bxs s cols n c p q).lookup 999=some (wV cols n (bv s n)).2 from rfl] at e2
     rw [← e2]; rfl
    ·refine .inr ⟨?_,?_,?_,fun i x hx k2 hk2 hst=>?_⟩
     ·show (pre++_).lookup k=_
      rw [U1,hbl k C e2]; rfl
     ·rw [U1,htl k oM,Option.or_none]
      rcases h5 with rfl | rfl | rfl | rfl <;> rfl
     ·rw [U1,e,l0,U1,htl k oM,Option.or_none]
      rcases h5 with rfl | rfl | rfl | rfl <;> rfl
     ·have ho:C.cs.only [999]=true:=by
       rcases h5 with rfl | rfl | rfl | rfl <;> (injection e2 with e2; subst e2; rfl)
      have:=PV.only_mem (Cells.only_get ho hx) hk2
      have:=m1a hst
      simp at *
      omega
   | none =>
    rw [e2,l0] at hk
    refine .inl ?_
    rw [U1,e,l0,U1,hk]
    cases e3:([wV cols n (bv s n)]:List (Nat×Blk)).lookup k with
    | none=>rfl
    | some C =>
     obtain ⟨rfl,_⟩:=h999 k C e3
     cases e2
 ·rw [U1] at h
  cases e:(bx3 p' c').lookup k with
  | some C =>
   rcases j1r (by rw [e]; simp) with rfl | rfl | rfl <;> cases hst
  | none=>rw [e,l0] at h; exact ⟨B1,h,rfl,rfl⟩
 ·rw [s0] at hso
  have h5:=PV.only_mem (hso _ (H8 ht)) hk
  have:=m1a hst
  simp only [ks8,List.mem_cons,List.not_mem_nil,or_false] at h5
  omega
 ·have h5:=m1a hst
  rw [U1,htl j oM,Option.or_none] at hj
  rcases h5 with rfl | rfl | rfl <;> exact absurd rfl hj
 ·cases e:stO j with
  | true=>rfl
  | false=>exact absurd (hpin j (m1a e)) hj
 ·refine f9 [999] rfl (fun k hk=>?_) (f9 (ksB s) (by simp only [List.all_cons,List.all_nil,Bool.and_true]; exact H0j) (D0z (by simp [i0]) fun k B h=>P8 k B h) E3.whole)
  simp only [List.mem_singleton] at hk
  subst hk
  exact U8 (m0p (by simp [i0]))
theorem W0g (pv:List Nat)(c:Nat):V6 (pv++[c])=V6 pv++[vZ (c:Int)]:=by simp [V6]
theorem d2n {s:Bool}{sl:List (Nat×PV)}{pre:List (Nat×Blk)}{pv:List Nat}{m b:List (List Rat)}(hp:q6 pre=true)(hf:pv=[]→(L3 1003 sl && Y2 1003 pre)=true):h0d ⟨sl,pre++tlP pv (i4 s m b)⟩ (pvF 1003 (V6 pv)):=by
 cases pv with
 | cons a l=>trivial
 | nil =>
  have h:=hf rfl
  simp only [j0] at h
  refine ⟨?_,?_⟩
  ·show (pre++_).lookup 1003=none
   rw [U1,y5 hp dC,l0]
   exact j8 rfl
  ·show (L3 1003 sl && Y2 1003 (pre++_))=true
   rw [U4,h.1,h.2]
   exact q1v dC
theorem H0r {xs:List O2}{y:O2}{k:Nat}{e:TypeId}:∃ B,pvB k e (xs++[y])=[(k,B)]:=by
 cases xs with
 | nil=>exact ⟨_,rfl⟩
 | cons a l=>exact ⟨_,rfl⟩
theorem g1b {sl:List (Nat×PV)}{pre T:List (Nat×Blk)}{xs:List O2}{y:O2}{e:TypeId}{k:Nat}{B:Blk}(hk:k<1000)(h:pre.lookup k=some B):St.blk ⟨sl,pvB 1003 e (xs++[y])++(pre++T)⟩ k=some B:=by
 obtain ⟨C,hC⟩:=H0r (xs:=xs) (y:=y) (k:=1003) (e:=e)
 show (pvB 1003 e (xs++[y])++_).lookup k=_
 rw [hC,List.singleton_append,i0,show (k == 1003)=false by simp; omega,U1,h]; rfl
theorem d2v {s:Bool}{sl:List (Nat×PV)}{pre:List (Nat×Blk)}{pv:List Nat}{c:Nat}{m b:List (List Rat)}(hp:q6 pre=true):O5 ⟨sl,pvB 1003 3 (V6 pv++[vZ (c:Int)])++(pre++tlP pv (i4 s m b))⟩ (tlP (pv++[c]) (i4 s m b)):=by
 obtain ⟨C,hC⟩:=H0r (xs:=V6 pv) (y:=vZ (c:Int)) (k:=1003) (e:=3)
 refine C5 E3.nd fun k B hk=>?_
 show (pvB 1003 3 (V6 pv++[vZ (c:Int)])++_).lookup k=_
 rw [tlP,W0g,hC,List.singleton_append,i0] at hk
 rw [hC,List.singleton_append,i0]
 by_cases e:k=1003
 ·subst e; exact hk
 ·rw [show (k == 1003)=false by simpa using e] at hk ⊢
  show (pre++tlP pv (i4 s m b)).lookup k=some B
  rw [U1,y5 hp (k0x hk),l0]
  exact P8 _ _ hk
theorem Y1v {s:Bool}{sl:List (Nat×PV)}{pre:List (Nat×Blk)}{pv:List Nat}{m b:List (List Rat)}(hp:q6 pre=true):Cv (St.blk ⟨sl,pre++tlP pv (i4 s m b)⟩) [1003] (pvV 1003 (V6 pv)) (.p (.sl pv.length (V6 pv))):=by
 cases pv with
 | nil=>exact .p .nil
 | cons a l =>
  have hB:St.blk ⟨sl,pre++tlP (a :: l) (i4 s m b)⟩ 1003=some ⟨3,1,.pure (V6 (a :: l))⟩:=by
   show (pre++_).lookup 1003=_
   rw [U1,y5 hp dC]; rfl
  have:=Cv.ref (n:=(a :: l).length) (z:=[1003]) rfl hB (by rw [G8]) (Nat.mul_one _)
  simp only [V6,R0,E1,O0,Nat.mul_one] at this ⊢
  simp only [pvV,O0]
  exact this
theorem p0x {S:St}{z:List Nat}:∀ {l:List (Nat×Blk)},(∀ p∈l,z.contains p.1=false∧S.blk p.1=some p.2)→k0m S z l
 | [],_=>trivial
 | p :: l,h=>⟨⟨(h p sM).1,p.2,(h p sM).2,.same⟩,p0x fun q hq=>h q (by simp [hq])⟩
theorem q0v {l:List (Nat×Blk)}:∀ {l':List (Nat×Blk)},O5 ⟨[],l⟩ l'→∀ {p:Nat×Blk},p∈l'→l.lookup p.1=some p.2
 | (k,B) :: l',h,p,hp=>by
  rcases List.mem_cons.1 hp with rfl | hp
  ·exact h.1
  ·exact q0v h.2 hp
theorem b2m {s:Bool}{sl:List (Nat×PV)}{pre pre':List (Nat×Blk)}{pv:List Nat}{m b:List (List Rat)}(hp:q6 pre=true)(hb:O5 ⟨[],pre⟩ pre')(hp':q6 pre'=true):k0m ⟨sl,pre++tlP pv (i4 s m b)⟩ [1003] (pre'++i4 s m b):=by
 refine p0x fun p hp2=>?_
 rcases List.mem_append.1 hp2 with h | h
 ·have h1:p.1<1000:=by
   unfold q6 at hp'
   rw [s0] at hp'
   simpa [Nat.blt_eq] using hp' p h
  refine ⟨by simp; omega,?_⟩
  show (pre++_).lookup p.1=_
  have:pre.lookup p.1=some p.2:=q0v hb h
  rw [U1,this]; rfl
 ·have h1:=W5 (j:=p.1) (B:=p.2) (Y7 s m b).nd h
  refine ⟨?_,?_⟩
  ·by_cases e:p.1=1003
   ·rw [j8 e] at h1; cases h1
   ·simpa using e
  ·show (pre++_).lookup p.1=_
   rw [U1,y5 hp (k0x h1),l0]
   exact P8 _ _ h1
theorem W0v {m b:List (List Rat)}{c:Nat}(h:¬ (ech m b c).pv.length<(ech m b c).m.length):∀ d,ech m b (c+d)=ech m b c
 | 0=>rfl
 | d+1=>by rw [← Nat.add_assoc,M9,W0v h d,W9,if_neg h]
theorem W0m {m x:List (List Rat)}{p c n cc k:Nat}(hm:m.length=n)(h:RC n cc x)(hp:p<n)(hk:k<(K5 m p c).length):(O6 m x p c k).getD ((K5 m p c).getD k 0) []=x.getD ((K5 m p c).getD k 0) []∧(O6 m x p c k).getD p []=x.getD p []:=by
 constructor
 ·rw [g0k hm h hp k oM,if_neg]
  intro hh
  obtain ⟨i,hi,he⟩:=List.getElem_of_mem hh
  simp only [J0] at hi
  rw [List.getElem_take,f0,K1 hk,Option.getD_some] at he
  have:=(List.getElem_inj (n0c (m:=m) (p:=p) (c:=c))).1 he
  omega
 ·rw [g0k hm h hp k oM,if_neg (fun hh=>(v9.1 (List.mem_of_mem_take hh)).2.1 rfl)]
theorem h0c {B:Nat}{m:List (List Rat)}{i j:Nat}(h:MB B m)(h0:0<B):qw (ent m i j)≤B:=by
 rcases v0m (m:=m) (i:=i) (j:=j) with e | ⟨r,hr,e⟩
 ·rw [e,d0y]; exact h0
 ·exact h r hr _ e
theorem g0q {m:List (List Rat)}{i:Nat}{a:Rat}(h:a∈m.getD i []):∃ j,a=ent m i j:=by
 obtain ⟨j,hj,e⟩:=List.getElem_of_mem h
 refine ⟨j,?_⟩
 have:∀ (r:List Rat) (h:j<r.length),r[j]=r.getD j 0:=fun r h=>by simp [f0,h]
 rw [← e,this _ hj]; rfl
structure EB (n cols d B DB:Nat) (m b:List (List Rat)):Prop where
 rc:RC n cols m
 rb:RC n d b
 n0:0<n
 nl:n<1000
 cl:cols<1000
 dl:d<1000
 b0:0<B
 bl:B<100000000
 dbl:DB+B<1000000000
 me:∀ c,c≤cols→MB B (ech m b c).m
 be:∀ c,c≤cols→MB B (ech m b c).b
 de:∀ c,c≤cols→qw (ech m b c).det≤DB
theorem G1y (s:Bool)(n cols d B DB:Nat)(m b:List (List Rat))(H:EB n cols d B DB m b):T4 E L8 51 [.at_ 999 0 3] ([wV cols n (bv s n)]++i4 s m b) ([wV cols n (bv s n)]++i4 s (ech m b cols).m (ech m b cols).b) (.p (.tup [.sl (ech m b cols).pv.length (V6 (ech m b cols).pv),pQ (ech m b cols).det])):=by
 refine D4 (xs:=[.sl (ech m b cols).pv.length (V6 (ech m b cols).pv),pQ (ech m b cols).det]) Tryz.func51 rfl Tryz.ntmps51 Tryz.results51 sM fun F G=>?_
 have L:=@lti _ _ G.nt
 have hG:=G.g
 have hX:=G.x
 have hN:=i6 hG
 have P0:=fun k (hk:(Nat.blt k 1000 && (List.lookup k _).isNone)=true)=>G.p0 k (p0T (Y7 s m b) hk)
 have H1:=H.nl
 have H2:=H.cl
 have H3:=H.bl
 have H4:=H.dbl
 have H5:=H.rc.1
 have H6:=H.rb.1
 subst H5
 have hlo:F.lo 1003=true:=by rw [G.lo,U1,j8 rfl,Option.or_none]; rfl
 have hpin3:F.pin 1003=none:=G.p0 _ (by rw [U1,j8 rfl,Option.or_none]; rfl)
 refine exr (swb (g0y (k:=1) rX rfl (P0 _ rfl) L) t1 t1 (frT [_] (Y7 s m b) rfl rfl (by simp [L3,Y2,Cells.free,PV.freeL,PV.free,l4,l3])) ?_)
 refine aV L rfl (swb (Y3 (k:=3) (n:=4) zv47 (.cons rfl (.cons rfl (.cons rfl (.cons rfl .nil)))) rfl (P0 _ rfl) L) t0 t0 (frT [_,_] (Y7 s m b) rfl rfl (by simp [L3,Y2,Cells.free,PV.freeL,PV.free,l4,l3])) ?_)
 refine R1 ⟨[(1,_),(2,_),(3,_)],(1,_) :: (3,_) :: (999,_) :: ((i4 s m b)),t3,⟨rfl,rfl,rfl,(hbT [_,_,_] (Y7 s m b) rfl)⟩,?_⟩
 refine exr (cK hG hX cl55 hN (s7 1 dC dC) L t1 (sb (Z2 sz47 rF pa4 rfl pu4) t2 t1 ?_))
 refine R1 ⟨[(1,_),(2,pvV 1003 (V6 [])),(3,_)],(1,_) :: (3,_) :: (999,_) :: ((tlP [] (i4 s m b))),t3,⟨rfl,rfl,rfl,(hbT [_,_,_,_] (Y7 s m b) rfl)⟩,?_⟩
 refine T1 (exr (swb (Y3 (k:=4) (n:=1) zv3 (.cons rfl .nil) rfl (P0 _ rfl) L) t0 t0 (frT [_,_,_] (E3 (pv:=[]) (s:=s) (m:=m) (b:=b)) rfl rfl (by simp [L3,Y2,Cells.free,PV.freeL,PV.free,l4,l3])) ?_))
 refine sb (Z2 sz3 rF (.atom rfl) rfl pu1) t2 t1 ?_
 refine R1 ⟨[(1,_),(2,_),(3,_),(4,_)],(1,_) :: (3,_) :: (4,_) :: (999,_) :: ((tlP [] (i4 s m b))),t4,⟨rfl,rfl,rfl,rfl,(hbT [_,_,_,_,_] (E3 (pv:=[]) (s:=s) (m:=m) (b:=b)) rfl)⟩,?_⟩
 refine X1 ?_
 refine K0m (α:=(Nat×ESt)) (fun x=>[(2,pvV 1003 (V6 x.2.pv))]) (fun x=>[(3,bQ x.2.det),(4,⟨3,1,.mix [.p (vZ (x.1:Int))]⟩)]) (fun x=>(tlP x.2.pv (i4 s x.2.m x.2.b))) (fun x=>x.1≤cols∧x.2=ech m b x.1) (fun x=>cols - x.1) ((0,⟨m,b,[],1⟩)) (sl:=[(1,_),(3,_),(4,_)]) (hb:=[(1,_),(999,_)]) ?_ ⟨oR,rfl,rfl,rfl,trivial⟩ ⟨rfl,rfl,rfl,rfl,(hbT [_,_,_,_] (E3 (pv:=[]) (s:=s) (m:=m) (b:=b)) rfl)⟩ ?_
 ·exact ⟨Nat.zero_le _,rfl⟩
 intro x hx
 obtain ⟨c,t⟩:=x
 obtain ⟨hc,hs⟩:=hx
 simp only at hc hs
 dsimp only
 have hrc:=B6 H.rc H.rb c hc
 have hme:=H.me c hc
 have hbe:=H.be c hc
 have hde:=H.de c hc
 rw [← hs] at hrc hme hbe hde
 obtain ⟨r1,r2,r3,-⟩:=hrc
 have hn:t.m.length=m.length:=r1.1
 by_cases hcc:c<cols
 ·refine T1 (exd rF ?_)
  refine sw (Z1 ag3 rF rF L) t1 t1 ?_
  refine sw (Z1 ag73 rF rF L) t1 t1 ?_
  refine sw (j3 rX L) t1 t1 ?_
  refine sw (j2 un79 rfl sz3 dC rX L) t1 t1 ?_
  refine sw (Z1 ag3 rF rF L) t1 t1 ?_
  refine sw (Z3 L) t2 t0 (mV L rfl (gV (g:=19) rfl sO L rfl rfl (swg (g:=19) rfl sO (M0f un27 L) rfl t1 (K1z [_,_,_,_] rfl dC) (swg (g:=19) rfl sO (Z1 ag73 rF rF L) rfl t1 t1 ?_))))
  refine swg (g:=19) rfl sO (j3 rX L) rfl t1 t1 ?_
  refine swg (g:=19) rfl sO (j2 un79 rfl sz77 dC rX L) rfl t1 t1 ?_
  refine swg (g:=19) rfl sO (Z1 ag77 rF rF L) rfl t1 t1 ?_
  refine swg (g:=19) rfl sO (v0b un77 (by first | exact G2 _ _ _ | exact (G2 _ _ _).trans sM | exact (G2 _ _ _).trans (by assumption)) L) rfl t1 ⟨rdT [_,_,_,_] (E3 (pv:=t.pv) (s:=s) (m:=t.m) (b:=t.b)) rfl F1c,trivial⟩ ?_
  refine swg (g:=19) rfl sO (Z3 L) rfl t2 t0 (sw (m4 sO L) t2 t0 ?_)
  refine R1 ⟨j0c [⟨[4],[4],[13],[]⟩,⟨[1],[1],[14],[]⟩,⟨[14],[999],[15],[]⟩,⟨[15],[999],[16],[]⟩,⟨[16],[999],[17],[]⟩,⟨[13,17],[],[18],[]⟩,⟨[18],[],[19],[]⟩,⟨[19,2],[],[20],[]⟩,⟨[19,20],[1000],[21],[]⟩,⟨[19,1],[1],[22],[]⟩,⟨[19,22],[999],[23],[]⟩,⟨[19,23],[999],[24],[]⟩,⟨[19,24],[999],[25],[]⟩,⟨[19,25],[1000],[26],[]⟩,⟨[19,21,26],[],[27],[]⟩,⟨[19,27],[],[28],[]⟩] (.cons (cf0 rfl) (.cons (cf0 rfl) (.cons (cf0 rfl) (.cons (cf0 rfl) (.cons (cf0 rfl) (.cons (cf0 rfl) (.cons (cf0 rfl) (.cons (cf0 rfl) (.cons (cfT rfl rfl (b2g dC) rfl (fun _ h=>by cases h)) (.cons (cf0 rfl) (.cons (cf0 rfl) (.cons (cf0 rfl) (.cons (cf0 rfl) (.cons (cfT rfl rfl (b9 dC) rfl (fun _ h=>by cases h)) (.cons (cf0 rfl) (.cons (cf0 rfl)  .nil)))))))))))))))) rfl (frS [] [_,_,_,_] (E3 (pv:=t.pv) (s:=s) (m:=t.m) (b:=t.b)) rfl (by simp [L3,Y2,Cells.free,PV.freeL,PV.free,l4,l3])) dC,[(1,_),(2,_),(3,_),(4,_),(28,_)],(1,_) :: (3,_) :: (4,_) :: (999,_) :: ((tlP t.pv (i4 s t.m t.b))),t5,⟨rfl,rfl,rfl,rfl,(hbT [_,_,_,_] (E3 (pv:=t.pv) (s:=s) (m:=t.m) (b:=t.b)) rfl)⟩,?_⟩
  refine D2 rfl (fun hp=>?_) (fun hp=>?_)
  ·have hp:=dt hp
   rw [G8] at hp
   have hpn:t.pv.length<m.length:=by omega
   have f1:=l9 90 [.at_ 1 0 1,.at_ 4 0 1] (hC cols m.length c (bv s m.length) (tlP t.pv (i4 s t.m t.b))) (N1p E3) (b2p E3 fun k B h=>P8 k B h) cl90 (nzI t.m c) t.pv.length m.length oM (fun i _ hi=>by
    have h4:=r1.get hi
    have:=n1y t.m cols c i (bv s m.length) (tlP t.pv (i4 s t.m t.b)) E3 D0q oM oM (by have:=h0c (i:=i) (j:=c) hme H.b0; unfold ent at this; omega)
    rw [hn] at this; exact this)
   refine V1 (xq ?_)
   refine T1 (X1 (exr (mV L rfl (sw (M0f un27 L) t1 (K1z [_,_,_,_] rfl dC) (swb (Y3 (k:=5) (n:=1) zv3 (.cons rfl .nil) rfl (P0 _ rfl) L) t0 t0 (frT [_,_,_,_] (E3 (pv:=t.pv) (s:=s) (m:=t.m) (b:=t.b)) rfl rfl (by simp [L3,Y2,Cells.free,PV.freeL,PV.free,l4,l3])) ?_)))))
   refine sb (Z2 sz3 rF (.atom rfl) rfl pu1) t2 t1 ?_
   refine R1 ⟨[(1,_),(2,_),(3,_),(4,_),(5,_)],(1,_) :: (3,_) :: (4,_) :: (5,⟨3,1,.mix [.p (vZ (t.pv.length:Int))]⟩) :: (999,_) :: ((tlP t.pv (i4 s t.m t.b))),t5,⟨rfl,rfl,rfl,obl rfl (by rw [G8]),rfl,(hbT [_,_,_,_,_,_] (E3 (pv:=t.pv) (s:=s) (m:=t.m) (b:=t.b)) rfl)⟩,?_⟩
   refine exd rF ?_
   refine sw (Z1 ag3 rF rF L) t1 t1 ?_
   refine sw (Z1 ag73 rF rF L) t1 t1 ?_
   refine sw (j3 rX L) t1 t1 ?_
   refine sw (j2 un79 rfl sz77 dC rX L) t1 t1 ?_
   refine sw (Z1 ag77 rF rF L) t1 t1 ?_
   refine sw (v0b un77 (by first | exact G2 _ _ _ | exact (G2 _ _ _).trans sM | exact (G2 _ _ _).trans (by assumption)) L) t1 ⟨rdT [_,_,_,_,_] (E3 (pv:=t.pv) (s:=s) (m:=t.m) (b:=t.b)) rfl F1c,trivial⟩ ?_
   refine sw (w0v (vs:=[]) (us:=[_,_]) rfl rfl L) t2 t0 (sw (v6 hG hX hN f1 rfl L (l5 (ys:=[_,_,_]) cl52 rfl rfl) (N1p E3) (b2p E3 fun k B h=>P8 k B h) (fun q h=>by cases h)) t3 ⟨rfl,rfl,rfl,U7 (hbT [_,_,_,_,_] E3 rfl)⟩ ?_)
   refine swb (Y3 (k:=6) (n:=1) zv3 (.cons rfl .nil) rfl (P0 _ rfl) L) t0 t0 (frT [_,_,_,_,_] (E3 (pv:=t.pv) (s:=s) (m:=t.m) (b:=t.b)) rfl rfl (by simp [L3,Y2,Cells.free,PV.freeL,PV.free,l4,l3])) ?_
   refine sb (Z2 sz3 rF (.atom rfl) rfl pu1) t2 t1 ?_
   refine R1 ⟨j0c [⟨[5],[5],[33],[]⟩,⟨[1],[1],[34],[]⟩,⟨[34],[999],[35],[]⟩,⟨[35],[999],[36],[]⟩,⟨[36],[999],[37],[]⟩,⟨[37],[1000],[38],[]⟩,⟨[1,4],[],[39],[]⟩,⟨[33,38,39],[1,4,999,1000],[40],[]⟩,⟨[],[],[6],[6]⟩,⟨[6,40],[6],[],[6]⟩] (.cons (cf0 rfl) (.cons (cf0 rfl) (.cons (cf0 rfl) (.cons (cf0 rfl) (.cons (cf0 rfl) (.cons (cfT rfl rfl (b9 dC) rfl (fun _ h=>by cases h)) (.cons (cf0 rfl) (.cons (cfT rfl rfl (K1x (l:=[_,_,_]) rF (d0j E3) rfl) rfl (fun _ h=>by cases h)) (.cons (cf0 rfl) (.cons (cf0 rfl)  .nil)))))))))) rfl (frS [6] [_,_,_,_,_] (E3 (pv:=t.pv) (s:=s) (m:=t.m) (b:=t.b)) rfl (by simp [L3,Y2,Cells.free,PV.freeL,PV.free,l4,l3])) dC,[(1,_),(2,_),(3,_),(4,_),(5,_),(6,_)],(1,_) :: (3,_) :: (4,_) :: (5,_) :: (6,_) :: (999,_) :: ((tlP t.pv (i4 s t.m t.b))),t6,⟨rfl,rfl,rfl,rfl,rfl,rfl,(hbT [_,_,_,_,_,_,_] (E3 (pv:=t.pv) (s:=s) (m:=t.m) (b:=t.b)) rfl)⟩,?_⟩
   have hpe:C4 (nzI t.m c) t.pv.length (m.length - t.pv.length)=f0n t.m c t.pv.length:=by rw [f0n,hn]
   rw [hpe]
   refine T1 (exr (sw (Z1 ag3 rF rF L) t1 t1 ?_))
   refine sw (Z3 L) t2 t0 ?_
   refine R1 ⟨[(1,_),(2,_),(3,_),(4,_),(5,_),(6,_),(42,_)],(1,_) :: (3,_) :: (4,_) :: (5,_) :: (6,_) :: (999,_) :: ((tlP t.pv (i4 s t.m t.b))),t7,⟨rfl,rfl,rfl,rfl,rfl,rfl,(hbT [_,_,_,_,_,_] (E3 (pv:=t.pv) (s:=s) (m:=t.m) (b:=t.b)) rfl)⟩,?_⟩
   refine D2 rfl (fun hneg=>?_) (fun hneg=>?_)
   ·have hneg:=dt hneg
    have hst:ech m b (c+1)=t:=by rw [M9,← hs,W9,if_pos oM,if_pos hneg]
    refine K2 (xq ?_)
    refine T1 (exr (sw (Z1 ag3 rF rF L) t1 t1 ?_))
    refine R1 ⟨[(1,_),(2,_),(3,_),(83,_)],(1,_) :: (3,_) :: (999,_) :: ((tlP t.pv (i4 s t.m t.b))),t4,⟨rfl,rfl,rfl,(hbT [_,_,_,_,_,_] (E3 (pv:=t.pv) (s:=s) (m:=t.m) (b:=t.b)) rfl)⟩,?_⟩
    refine C3 (swb (Y3 (k:=4) (n:=1) zv3 (.cons rfl .nil) rfl (P0 _ rfl) L) t0 t0 (frT [_,_,_] (E3 (pv:=t.pv) (s:=s) (m:=t.m) (b:=t.b)) rfl rfl (by simp [L3,Y2,Cells.free,PV.freeL,PV.free,l4,l3])) ?_)
    refine sb (Z2 sz3 rF (.atom rfl) rfl pu1) t2 t1 ?_
    refine R1 (show y4 _ _ _ _ _ from exw (sl:=[(1,_),(2,_),(3,_),(4,_)]) (hb:=(1,_) :: (3,_) :: (4,_) :: (999,_) :: ((tlP t.pv (i4 s t.m t.b)))) t4 ⟨rfl,rfl,rfl,rfl,(hbT [_,_,_,_,_] (E3 (pv:=t.pv) (s:=s) (m:=t.m) (b:=t.b)) rfl)⟩ ?_)
    refine C3 (sw (Z1 ag3 rF rF L) t1 t1 ?_)
    refine sw (I3 L (w64 oM oM)) t2 t0 (sb (Z2 sz3 rF (.atom rfl) rfl pu1) t2 t1 ?_)
    refine R1 ?_
    exact ⟨(c+1,t),⟨by simp only; omega,hst.symm⟩,(by simp only; omega),B3 ⟨oR,rfl,rfl,rfl,trivial⟩ ⟨rfl,rfl,rfl,rfl,(hbT [_,_,_,_,_] (E3 (pv:=t.pv) (s:=s) (m:=t.m) (b:=t.b)) rfl)⟩⟩
   ·have hneg:=df hneg
    have hst:ech m b (c+1)=stp t.m t.b t.pv t.det (f0n t.m c t.pv.length).toNat c:=by rw [M9,← hs,W9,if_pos oM,if_neg hneg]
    obtain ⟨hp1,hp2,hp3,hp4⟩:=v0p hneg (show t.pv.length<t.m.length by omega)
    obtain ⟨i,hi⟩:∃ i,i=(f0n t.m c t.pv.length).toNat:=⟨_,rfl⟩
    rw [← hi] at hp1 hp2 hp3 hp4 hst
    rw [← hp4]
    have hl0:ent t.m i c≠0:=by simpa [nzI,ent] using hp3
    have hin:i<m.length:=by omega
    have hnm:=H.me (c+1) hcc
    have hnb:=H.be (c+1) hcc
    rw [hst] at hnm hnb
    have hld:P5 (swapped t.m i t.pv.length) t.pv.length c=ent t.m i c:=by
     have:=Z5 (k:=t.pv.length) (j:=c) r1.1 hin hpn
     rw [if_pos rfl] at this; exact this
    obtain ⟨p,hpp⟩:∃ p,p=t.pv.length:=⟨_,rfl⟩
    rw [← hpp] at hp1 hpn hld
    rw [← hpp]
    have hbl:t.b.length=m.length:=r2.1
    refine V1 (xq ?_)
    refine T1 (exr (sw (Z1 ag3 rF rF L) t1 t1 ?_))
    refine sw (Z1 ag3 rF rF L) t1 t1 ?_
    refine sw (c_n L) t2 t0 ?_
    refine R1 ⟨[(1,_),(2,_),(3,_),(4,_),(5,_),(6,_),(45,_)],(1,_) :: (3,_) :: (4,_) :: (5,_) :: (6,_) :: (999,_) :: ((tlP t.pv (i4 s t.m t.b))),t7,⟨rfl,rfl,rfl,rfl,rfl,rfl,(hbT [_,_,_,_,_,_] (E3 (pv:=t.pv) (s:=s) (m:=t.m) (b:=t.b)) rfl)⟩,?_⟩
    refine K1m (sl:=[]) (sl0:=[(1,_),(2,_),(3,_),(4,_),(5,_)]) (hb:=[(1,⟨73,1,.mix [.at_ 999 0 3]⟩),(3,bQ (if i=p then t.det else -t.det)),(4,⟨3,1,.mix [.p (vZ (c:Int))]⟩),(5,⟨3,1,.mix [.p (vZ (p:Int))]⟩),(999,(wV cols m.length (bv s m.length)).2)]) (T:=(tlP t.pv (i4 s (swapped t.m i p) (swapped t.b i p)))) t5 ?_ ?_
    ·refine D2 rfl (fun hne=>?_) (fun hne=>?_)
     ·have hne:=nt hne
      have hne':i≠p:=fun e=>hne (by rw [e])
      have hb2:=b2r s cols t.m t.b i p hp2 oM hne' oM
      rw [hn] at hb2
      refine q0h (nsw (Z1 ag73 rF rF L) t1 t1 ?_)
      refine nsw (w0v (vs:=[]) (us:=[_,_]) rfl rfl L) t2 t0 (nsI hG hX hN [(1,.at_ 1 0 1),(2,pvV 1003 (V6 t.pv)),(3,.at_ 3 0 4),(4,.at_ 4 0 1),(5,.at_ 5 0 1)] ([(1,_),(3,_),(4,_),(5,_),(999,_)]++(tlP t.pv (i4 s (M5 t.m i p) (M5 t.b i p)))) hb2 L (l5 (ys:=[_,_]) cl92 rfl rfl) t2 (by exact ncE (pre:=[_,_,_,_,_,_]) (pre':=[_,_,_,_,_]) (bx:=[bxI 5 p,bxI 6 i,wV cols m.length (bv s m.length)]) sM sM hn (hbl.trans H6.symm) G rfl t3 t5 (by cases s <;> rfl) (by simp [i0]) (by cases s <;> rfl) (by simp [PV.only,F0k]) t5) (fun q h=>by cases h) rfl ?_)
      refine .nil ⟨[(1,_),(2,_),(3,_),(4,_),(5,_)],(1,_) :: (3,_) :: (4,_) :: (5,_) :: (999,_) :: tlP t.pv (i4 s (M5 t.m i p) (M5 t.b i p)),t5,⟨rfl,rfl,rfl,rfl,rfl,(hbT [_,_,_,_,_] (E3 (pv:=t.pv) (s:=s) (m:=M5 t.m i p) (b:=M5 t.b i p)) rfl)⟩,?_⟩
      refine C3 (lp4 ag47 sz47 L rfl rfl (cK hG hX cl56 hN (v0x t.det oM) L t1 (sb (Z2 sz47 rF pa4 rfl pu4) t2 t1 ?_)))
      refine R1 ?_
      exact ⟨⟨oR,oR,oR,oR,oR,trivial⟩,⟨rfl,obl rfl (by rw [if_neg hne']),rfl,rfl,rfl,(by rw [swapped,if_neg hne',swapped,if_neg hne']; exact hbT [_,_,_,_,_,_] E3 rfl)⟩⟩
     ·have hne:=nf hne
      have hne':i=p:=by omega
      refine V1 ?_
      exact ⟨⟨oR,oR,oR,oR,oR,trivial⟩,⟨rfl,obl rfl (by rw [if_pos hne']),rfl,rfl,rfl,(by rw [swapped,if_pos hne',swapped,if_pos hne']; exact hbT [_,_,_,_,_,_] E3 rfl)⟩⟩
    ·obtain ⟨m1,hm1⟩:∃ m1,m1=swapped t.m i p:=⟨_,rfl⟩
     obtain ⟨b1,hb1⟩:∃ b1,b1=swapped t.b i p:=⟨_,rfl⟩
     obtain ⟨d1,hd1⟩:∃ d1,d1=(if i=p then t.det else -t.det):=⟨_,rfl⟩
     rw [← hm1,← hb1,← hd1]
     have hrc1:RC m.length cols m1:=by rw [hm1]; exact r1.swapped hin hpn
     have hrb1:RC m.length d b1:=by rw [hb1]; exact r2.swapped hin hpn
     have hn1:=hrc1.1
     have hcp:c<(m1.getD p []).length:=by rw [hrc1.get hpn]; exact hcc
     rw [← hm1] at hld
     refine exd rF ?_
     refine sw (Z1 ag73 rF rF L) t1 t1 ?_
     refine sw (j3 rX L) t1 t1 ?_
     refine sw (j2 un79 rfl sz77 dC rX L) t1 t1 ?_
     refine sw (Z1 ag77 rF rF L) t1 t1 ?_
     refine sw (Z1 ag3 rF rF L) t1 t1 ?_
     refine sw (Z1 ag3 rF rF L) t1 t1 ?_
     refine sw (v6 hG hX hN (atM (M:=m1) (m:=m1) hn1 rfl hpn hcp) rfl L (l5 (ys:=[_,_,_]) cl91 rfl rfl) (E2 dC m1).nd (E2 dC m1).whole (fun q h=>by cases h)) t3 (U7 (C5 (E2 dC m1).nd fun k B h=>rdT [_,_,_,_,_] E3 rfl (D0q k B h))) ?_
     refine swb (Y3 (k:=7) (n:=4) zv47 (.cons rfl (.cons rfl (.cons rfl (.cons rfl .nil)))) rfl (P0 _ rfl) L) t0 t0 (frT [_,_,_,_,_] (E3 (pv:=t.pv) (s:=s) (m:=m1) (b:=b1)) rfl rfl (by simp [L3,Y2,Cells.free,PV.freeL,PV.free,l4,l3])) ?_
     refine sb (Z2 sz47 rF pa4 rfl pu4) t2 t1 ?_
     refine R1 ⟨j0c [⟨[1],[1],[51],[]⟩,⟨[51],[999],[52],[]⟩,⟨[52],[999],[53],[]⟩,⟨[53],[999],[54],[]⟩,⟨[5],[5],[55],[]⟩,⟨[4],[4],[56],[]⟩,⟨[54,55,56],[1000],[57],[]⟩,⟨[],[],[7],[7]⟩,⟨[7,57],[7],[],[7]⟩] (.cons (cf0 rfl) (.cons (cf0 rfl) (.cons (cf0 rfl) (.cons (cf0 rfl) (.cons (cf0 rfl) (.cons (cf0 rfl) (.cons (cfT rfl rfl (fun p hp=>by rw [F0n (d0j (E2 dC m1) p hp)]; exact List.mem_singleton.2 rfl) rfl (fun _ h=>by cases h)) (.cons (cf0 rfl) (.cons (cf0 rfl)  .nil))))))))) rfl (frS [7] [_,_,_,_,_] (E3 (pv:=t.pv) (s:=s) (m:=m1) (b:=b1)) rfl (by simp [L3,Y2,Cells.free,PV.freeL,PV.free,l4,l3])) dC,[(1,_),(2,_),(3,_),(4,_),(5,_),(7,_)],(1,_) :: (3,_) :: (4,_) :: (5,_) :: (7,_) :: (999,_) :: ((tlP t.pv (i4 s m1 b1))),t6,⟨rfl,rfl,rfl,rfl,rfl,rfl,(hbT [_,_,_,_,_,_,_] (E3 (pv:=t.pv) (s:=s) (m:=m1) (b:=b1)) rfl)⟩,?_⟩
     have hq1:qw (P5 m1 p c)≤B:=by rw [hld]; exact h0c hme H.b0
     have hq2:P5 m1 p c≠0:=by rw [hld]; exact hl0
     have hq3:qw d1≤DB:=by rw [hd1]; split; exact hde; rw [G0n]; exact hde
     have hq4:qw (1 / P5 m1 p c)≤B+1:=by have:=h1j (a:=1) hq2; rw [G0f] at this; omega
     refine exr (lp4 ag47 sz47 L rfl rfl (lp4 ag47 sz47 L rfl rfl (cK hG hX cl67 hN (F8 d1 (P5 m1 p c) oM oM) L t2 (sb (Z2 sz47 rF pa4 rfl pu4) t2 t1 ?_))))
     refine R1 ⟨[(1,_),(2,_),(3,_),(4,_),(5,_),(7,_)],(1,_) :: (3,_) :: (4,_) :: (5,_) :: (7,_) :: (999,_) :: ((tlP t.pv (i4 s m1 b1))),t6,⟨rfl,rfl,rfl,rfl,rfl,rfl,(hbT [_,_,_,_,_,_,_] (E3 (pv:=t.pv) (s:=s) (m:=m1) (b:=b1)) rfl)⟩,?_⟩
     refine exd rF ?_
     refine cK hG hX cl55 hN (s7 1 dC dC) L t1 (lp4 ag47 sz47 L rfl rfl (cK hG hX cl66 hN (w0q 1 (P5 m1 p c) (by rw [G0f]; decide) oM hq2) L t2 ?_))
     refine mV L rfl (sw (W3 rfl L) t1 t0 (sw (W3 rfl L) t1 t0 (swb (Y3 (k:=8) (n:=4) zv47 (.cons rfl (.cons rfl (.cons rfl (.cons rfl .nil)))) rfl (P0 _ rfl) L) t0 t0 (frT [_,_,_,_,_,_] (E3 (pv:=t.pv) (s:=s) (m:=m1) (b:=b1)) rfl rfl (by simp [L3,Y2,Cells.free,PV.freeL,PV.free,l4,l3])) ?_)))
     refine sb (Z2 sz47 rF pa4 rfl pu4) t2 t1 ?_
     refine aV L rfl ?_
     refine R1 ⟨j0c [⟨[],[],[62],[]⟩,⟨[7],[7],[63],[]⟩,⟨[62,63],[],[64],[]⟩,⟨[64],[],[61],[]⟩,⟨[61],[],[65],[]⟩,⟨[61],[],[66],[]⟩,⟨[],[],[8],[8]⟩,⟨[8,65],[8],[],[8]⟩,⟨[66],[],[9],[]⟩] (.cons (cf0 rfl) (.cons (cf0 rfl) (.cons (cf0 rfl) (.cons (cf0 rfl) (.cons (cf0 rfl) (.cons (cf0 rfl) (.cons (cf0 rfl) (.cons (cf0 rfl) (.cons (cf0 rfl)  .nil))))))))) rfl (frS [8] [_,_,_,_,_,_] (E3 (pv:=t.pv) (s:=s) (m:=m1) (b:=b1)) rfl (by simp [L3,Y2,Cells.free,PV.freeL,PV.free,l4,l3])) dC,[(1,_),(2,_),(3,_),(4,_),(5,_),(8,_)],(1,_) :: (3,_) :: (4,_) :: (5,_) :: (8,_) :: (999,_) :: ((tlP t.pv (i4 s m1 b1))),t6,⟨rfl,rfl,rfl,rfl,rfl,rfl,(hbT [_,_,_,_,_,_,_,_] (E3 (pv:=t.pv) (s:=s) (m:=m1) (b:=b1)) rfl)⟩,?_⟩
     have hm1B:∀ i j,qw (ent m1 i j)≤B:=fun i' j=>by rw [hm1,Z5 r1.1 hin hpn]; exact h0c hme H.b0
     have hb1B:∀ i j,qw (ent b1 i j)≤B:=fun i' j=>by rw [hb1,Z5 r2.1 hin hpn]; exact h0c hbe H.b0
     have hb3:=Y1z s cols m1 b1 p (1 / P5 m1 p c) oM (by rw [hrb1.1,hn1]) (by rw [hrc1.get hpn]; omega) (fun a ha=>by obtain ⟨j,rfl⟩:=g0q ha; have:=hm1B p j; omega) oM (by rw [hrb1.get hpn]; have:=H.dl; omega) (fun a ha=>by obtain ⟨j,rfl⟩:=g0q ha; have:=hb1B p j; omega)
     rw [hn1] at hb3
     refine q0h (nsw (Z1 ag73 rF rF L) t1 t1 ?_)
     refine nsw (w0v (vs:=[]) (us:=[_,_]) rfl rfl L) t2 t0 (nsI hG hX hN [(1,.at_ 1 0 1),(2,pvV 1003 (V6 t.pv)),(3,.at_ 3 0 4),(4,.at_ 4 0 1),(5,.at_ 5 0 1)] ([(1,_),(3,_),(4,_),(5,_),(999,_)]++(tlP t.pv (i4 s (Z9 m1 p (1 / P5 m1 p c)) (Z9 b1 p (1 / P5 m1 p c))))) hb3 L (l5 (ys:=[_,_]) cl92 rfl rfl) t2 (by exact ncE (pre:=[_,_,_,_,_,_]) (pre':=[_,_,_,_,_]) (bx:=[bxI 5 p,bxQ 8 (1 / P5 m1 p c),wV cols m.length (bv s m.length)]) (by simp [Z9]) (by simp [Z9]) hn1 (hrb1.1.trans H6.symm) G rfl t3 t5 (by cases s <;> rfl) (by simp [i0]) (by cases s <;> rfl) (by simp [PV.only,F0k]) t5) (fun q h=>by cases h) rfl ?_)
     refine .nil ⟨[(1,_),(2,_),(3,_),(4,_),(5,_)],(1,_) :: (3,_) :: (4,_) :: (5,_) :: (999,_) :: tlP t.pv (i4 s (Z9 m1 p (1 / P5 m1 p c)) (Z9 b1 p (1 / P5 m1 p c))),t5,⟨rfl,rfl,rfl,rfl,rfl,(hbT [_,_,_,_,_] (E3 (pv:=t.pv) (s:=s) (m:=Z9 m1 p (1 / P5 m1 p c)) (b:=Z9 b1 p (1 / P5 m1 p c))) rfl)⟩,?_⟩
     have hrc2:=hrc1.scl (q:=1 / P5 m1 p c) hpn
     have hrb2:=hrb1.scl (q:=1 / P5 m1 p c) hpn
     have hm2B:∀ i j,qw (ent (Z9 m1 p (1 / P5 m1 p c)) i j)≤B+(B+1):=fun i' j=>by
      rw [d0w hrc1 hpn]
      split
      ·have:=m9 (ent m1 p j) (1 / P5 m1 p c); have:=hm1B p j; omega
      ·have:=hm1B i' j; omega
     have hb2B:∀ i j,qw (ent (Z9 b1 p (1 / P5 m1 p c)) i j)≤B+(B+1):=fun i' j=>by
      rw [d0w hrb1 hpn]
      split
      ·have:=m9 (ent b1 p j) (1 / P5 m1 p c); have:=hb1B p j; omega
      ·have:=hb1B i' j; omega
     have hst2:stp t.m t.b t.pv t.det i c=⟨q0q (Z9 m1 p (1 / P5 m1 p c)) (Z9 m1 p (1 / P5 m1 p c)) p c,q0q (Z9 m1 p (1 / P5 m1 p c)) (Z9 b1 p (1 / P5 m1 p c)) p c,t.pv++[c],d1*P5 m1 p c⟩:=by
      rw [stp,hm1,hb1,hd1,hpp]
     obtain ⟨m2,hm2⟩:∃ m2,m2=Z9 m1 p (1 / P5 m1 p c):=⟨_,rfl⟩
     obtain ⟨b2,hb2⟩:∃ b2,b2=Z9 b1 p (1 / P5 m1 p c):=⟨_,rfl⟩
     obtain ⟨q2,hq⟩:∃ q2,q2=d1*P5 m1 p c:=⟨_,rfl⟩
     rw [← hm2,← hb2,← hq] at hst2
     rw [← hm2] at hrc2 hm2B
     rw [← hb2] at hrb2 hb2B
     rw [← hm2,← hb2,← hq]
     obtain ⟨N,hN2⟩:∃ N,N=(K5 m2 p c).length:=⟨_,rfl⟩
     have hpin:∀ k,k<1000→k≠999→F.pin k=none:=fun k hk hk9=>G.p0 k (by rw [U1,(Y7 s m b).low k (by simpa [Nat.blt_eq] using hk),Option.or_none,i0,show (k == 999)=false by simpa using hk9]; rfl)
     refine T1 (q0h (nsw (Z1 ag73 rF rF L) t1 t1 ?_))
     refine nsw (Z1 ag3 rF rF L) t1 t1 ?_
     refine nsw (Z1 ag3 rF rF L) t1 t1 ?_
     refine nsI hG hX hN [(1,.at_ 1 0 1),(2,pvV 1003 (V6 t.pv)),(3,.at_ 3 0 4),(4,.at_ 4 0 1),(5,.at_ 5 0 1)] ([(603,_),(604,_),(605,_),(999,_),(1,_),(3,_),(4,_),(5,_)]++(tlP t.pv (i4 s m2 b2))) (Y0f s cols m.length p c (tlP t.pv (i4 s m2 b2)) E3) L (l5 (ys:=[_,_,_]) cl97 rfl rfl) t3 (by exact ncO (q:=q2) (c:=c) (p:=p) (pre:=[_,_,_,_,_]) t5 rfl (fun k hk=>hpin k oM oM) (by simp [PV.only,F0k]) t5) (fun q h=>by rcases n1w h with rfl | rfl | rfl <;> exact m0p (by simp [i0])) rfl ?_
     refine .nil ⟨[(1,_),(2,_),(3,_),(4,_),(5,_),(73,_)],(1,_) :: (3,_) :: (4,_) :: (5,_) :: (603,_) :: (604,_) :: (605,_) :: (999,_) :: tlP t.pv (i4 s m2 b2),t6,⟨rfl,rfl,rfl,rfl,rfl,rfl,rfl,rfl,(hbT [_,_,_,_,_,_,_,_] (E3 (pv:=t.pv) (s:=s) (m:=m2) (b:=b2)) rfl)⟩,?_⟩
     refine X1 ?_
     have hMr:∀ k,k≤N→RC m.length cols (O6 m2 m2 p c k):=fun k hk=>j0q hrc2.1 hrc2 hpn k oM
     have hBr:∀ k,k≤N→RC m.length d (O6 m2 b2 p c k):=fun k hk=>j0q hrc2.1 hrb2 hpn k oM
     refine y1q (fn:=Tryz.f126) (n:=N) (nI:=42) (Hc:=bx3 p c) (Hc':=bx3 p c) (fun k=>hR s cols m.length c p q2 t.pv (O6 m2 m2 p c k) (O6 m2 b2 p c k)) (fun k=>(vZ ((K5 m2 p c).getD k 0:Nat),pQ (ent m2 ((K5 m2 p c).getD k 0) c))) (sl:=[(1,.at_ 1 0 1),(2,pvV 1003 (V6 t.pv)),(3,.at_ 3 0 4),(4,.at_ 4 0 1),(5,.at_ 5 0 1)]) hG hX hN G.ro rfl ?_ cl126 Tryz.func126 rfl Tryz.ntmps126 Tryz.results126 dC ⟨L,L⟩ ?_ ?_ ?_ ?_ (fun q h=>h) ?_ ?_ ?_ ?_
     ·exact B3 t5 ⟨rfl,rfl,rfl,rfl,rfl,rfl,rfl,rfl,hbT [_,_,_,_,_,_,_,_] E3 rfl⟩
     ·intro k hk j hj
      rcases j1r hk with rfl | rfl | rfl <;> exact n1h dC dC dC dC dC dC
     ·intro k hk q'
      have h1:=f0x (hMr k oM) (hMr (k+1) oM)
      have h2:=f0x (hBr k oM) (hBr (k+1) oM)
      constructor
      ·intro h
       obtain ⟨B1,hB1⟩:=D1.1 h
       obtain ⟨B0,h0,_⟩:=g1h h1 h2 hB1
       rw [h0]; simp
      ·intro h
       obtain ⟨B1,hB1⟩:=D1.1 h
       obtain ⟨B0,h0,_⟩:=g1h (J0g h1) (J0g h2) hB1
       rw [h0]; simp
     ·intro k hk q' B0 B1 h0 h1
      obtain ⟨B2,h2,h3⟩:=g1h (f0x (hMr k oM) (hMr (k+1) oM)) (f0x (hBr k oM) (hBr (k+1) oM)) h1
      rw [h0] at h2
      injection h2 with h2
      subst h2; exact h3
     ·exact fun k hk=>f2h
     ·intro tt v hv q' hq'
      have hm:(tt,v)∈_:=H8 hv
      simp only [List.mem_cons,List.not_mem_nil,or_false,Prod.mk.injEq] at hm
      have hb:∀ k,(k=1∨k=3∨k=4∨k=5)→(hR s cols m.length c p q2 t.pv (O6 m2 m2 p c 0) (O6 m2 b2 p c 0)).lookup k≠none:=fun k hk=>m0p (by rcases hk with rfl | rfl | rfl | rfl <;> simp [i0])
      rcases hm with ⟨_,rfl⟩ | ⟨_,rfl⟩ | ⟨_,rfl⟩ | ⟨_,rfl⟩ | ⟨_,rfl⟩
      ·obtain rfl:1=q':=by simpa [PV.free] using hq'
       exact hb 1 sM
      ·cases hpv:t.pv with
       | nil=>rw [hpv] at hq'; cases hq'
       | cons a l =>
        rw [hpv] at hq'
        obtain rfl:1003=q':=by simpa [PV.free,V6] using hq'
        exact U8 (by simp [tlP,V6,pvB])
      ·obtain rfl:3=q':=by simpa [PV.free] using hq'
       exact hb 3 sM
      ·obtain rfl:4=q':=by simpa [PV.free] using hq'
       exact hb 4 sM
      ·obtain rfl:5=q':=by simpa [PV.free] using hq'
       exact hb 5 sM
     ·intro l F' XF hro' hY
      have hlen2:m2.length=m.length:=hrc2.1
      have hit:=W0j cols p c N l m2 (bv s m.length) (fun k=>O6 m2 m2 p c k) (fun k=>[(1,⟨73,1,.mix [.at_ 999 0 3]⟩),(3,bQ q2),bxI 4 c,bxI 5 p]++tlP t.pv (i4 s (O6 m2 m2 p c k) (O6 m2 b2 p c k))) (fun k=>(vZ ((K5 m2 p c).getD k 0:Nat),pQ (ent m2 ((K5 m2 p c).getD k 0) c))) (fun k hk=>d2y) (fun k hk q' B' h=>by
        rw [U1,show ([(1,⟨73,1,.mix [.at_ 999 0 3]⟩),(3,bQ q2),bxI 4 c,bxI 5 p]:List (Nat×Blk)).lookup q'=none from y5 rF (m5 dC h),l0]
        exact D0q q' B' h) (fun k hk=>(hMr k hk).1.trans hlen2.symm) (fun i' hi'=>D1g hrc2 hpn hi') (fun i' hi'=>by rw [hrc2.get oM]; exact hcc) (fun i' hi'=>by have:=hm2B i' c; unfold ent at this; omega) (by rw [hN2]; exact p1a) (fun i' hi' ho=>by rw [(D1w hi' ho).1]; rfl) oM
      rw [hlen2] at hit
      exact hit F' _ rfl XF hY
     ·intro k hk
      obtain ⟨ix,hix⟩:∃ ix,ix=(K5 m2 p c).getD k 0:=⟨_,rfl⟩
      have hmem:=v9.1 (f6 (show k<(K5 m2 p c).length by omega))
      have hat:=W0m (k:=k) hrc2.1 hrc2 hpn (by omega:k<(K5 m2 p c).length)
      have hatb:=W0m (m:=m2) (c:=c) (k:=k) hrc2.1 hrb2 hpn (by omega:k<(K5 m2 p c).length)
      have hMk:=hMr k oM
      have hBk:=hBr k oM
      have e1:O6 m2 m2 p c (k+1)=f8 (O6 m2 m2 p c k) ix p (ent m2 ix c):=by rw [h0h oM,hix]; rfl
      have e2:O6 m2 b2 p c (k+1)=f8 (O6 m2 b2 p c k) ix p (ent m2 ix c):=by rw [h0h oM,hix]; rfl
      rw [← hix] at hmem hat hatb
      simp only
      rw [e1,e2,← hix]
      obtain ⟨mk,hmk⟩:∃ mk,mk=O6 m2 m2 p c k:=⟨_,rfl⟩
      obtain ⟨bk,hbk⟩:∃ bk,bk=O6 m2 b2 p c k:=⟨_,rfl⟩
      rw [← hmk] at hat hMk ⊢
      rw [← hbk] at hatb hBk ⊢
      have hixn:ix<m.length:=by have:=hrc2.1; omega
      refine ⟨⟨[(10,.at_ 10 0 1),(11,.at_ 11 0 4),(1,.at_ 1 0 1),(2,pvV 1003 (V6 t.pv)),(3,.at_ 3 0 4),(4,.at_ 4 0 1),(5,.at_ 5 0 1)],[bxI 10 ix,bxQ 11 (ent m2 ix c),wV cols m.length (bv s m.length),(1,⟨73,1,.mix [.at_ 999 0 3]⟩),(3,bQ q2),bxI 4 c,bxI 5 p]++tlP t.pv (i4 s mk bk)⟩,fun F' XF=>?_,fun F' XF=>?_⟩
      ·have L:=@lti _ _ (XF.nt.trans G.nt)
       have P0:∀ k,(k == 10 || k == 11)=true→F'.pin k=none:=fun k hk=>XF.p0 k (by simp only [Bool.or_eq_true,beq_iff_eq] at hk; rcases hk with rfl | rfl <;> exact n1h dC dC dC dC dC dC)
       skip
       refine exr (swb (Y3 (k:=10) (n:=1) zv3 (.cons rfl .nil) rfl (P0 _ rfl) L) t0 t0 (frT [_,_,_,_,_] (E3 (pv:=t.pv) (s:=s) (m:=mk) (b:=bk)) rfl rfl (by simp [L3,Y2,Cells.free,PV.freeL,PV.free,l4,l3])) ?_)
       refine sb (Z2 sz3 rF (.atom rfl) rfl pu1) t2 t1 ?_
       refine R1 ⟨[(1,_),(2,_),(3,_),(4,_),(5,_),(10,_),(74,_),(75,_)],(1,_) :: (3,_) :: (4,_) :: (5,_) :: (10,_) :: (999,_) :: ((tlP t.pv (i4 s mk bk))),t8,⟨rfl,rfl,rfl,rfl,rfl,rfl,(hbT [_,_,_,_,_,_,_] (E3 (pv:=t.pv) (s:=s) (m:=mk) (b:=bk)) rfl)⟩,?_⟩
       refine C3 (swb (Y3 (k:=11) (n:=4) zv47 (.cons rfl (.cons rfl (.cons rfl (.cons rfl .nil)))) rfl (P0 _ rfl) L) t0 t0 (frT [_,_,_,_,_,_] (E3 (pv:=t.pv) (s:=s) (m:=mk) (b:=bk)) rfl rfl (by simp [L3,Y2,Cells.free,PV.freeL,PV.free,l4,l3])) ?_)
       refine sb (Z2 sz47 rF pa4 rfl pu4) t2 t1 ?_
       refine R1 ?_
       exact ⟨rfl,B3 t7 ⟨rfl,rfl,rfl,rfl,rfl,rfl,rfl,hbT [_,_,_,_,_,_,_,_] E3 rfl⟩⟩
      ·have L:=@lti _ _ (XF.nt.trans G.nt)
       have hG:=XF.g
       have hX:=XF.x
       have hN:=XF.ng
       have hb4:=b2c s cols mk bk ix p (ent m2 ix c) (B+(B+1)) (B+(B+1)) (B+(B+1)) (by rw [hMk.1]; exact hixn) (by rw [hMk.1]; exact hpn) hmem.2.1 (by rw [hBk.1,hMk.1]) (by rw [hMk.get hpn,hMk.get hixn]) (by rw [hMk.get hixn]; omega) (fun a ha=>by rw [hat.1] at ha; obtain ⟨j,rfl⟩:=g0q ha; exact hm2B ix j) (fun a ha=>by rw [hat.2] at ha; obtain ⟨j,rfl⟩:=g0q ha; exact hm2B p j) (hm2B ix c) (by rw [hBk.get hpn,hBk.get hixn]) (by rw [hBk.get hixn]; have:=H.dl; omega) (fun a ha=>by rw [hatb.1] at ha; obtain ⟨j,rfl⟩:=g0q ha; exact hb2B ix j) (fun a ha=>by rw [hatb.2] at ha; obtain ⟨j,rfl⟩:=g0q ha; exact hb2B p j) oM
       rw [hMk.1] at hb4
       have hs1:=f0x hMk (hMk.take (q:=ent m2 ix c) hixn hpn)
       have hs2:=f0x hBk (hBk.take (q:=ent m2 ix c) hixn hpn)
       skip
       refine X1 (H0h (nsw (Z1 ag73 rF rF L) t1 t1 ?_))
       refine nsw (w0v (vs:=[]) (us:=[_,_,_]) rfl rfl L) t3 t0 (nsI hG hX hN [] ([(999,_),(1,_),(3,_),(4,_),(5,_)]++(tlP t.pv (i4 s (f8 mk ix p (ent m2 ix c)) (f8 bk ix p (ent m2 ix c))))) hb4 L (l5 (ys:=[_,_]) cl92 rfl rfl) t2 (by exact f2j (pre:=[_,_,_,_,_,_,_]) (pre':=[_,_,_,_,_]) (bx:=[bxI 5 p,bxI 10 ix,bxQ 11 (ent m2 ix c),wV cols m.length (bv s m.length)]) hs1 hs2 rfl t4 t5 (by cases s <;> rfl) (by simp [i0]) trivial) (fun q h=>by cases h) rfl ?_)
       refine .nil ?_
       exact ⟨rfl,rfl,rfl,rfl,rfl,rfl,hbT [_,_,_,_,_] E3 rfl⟩
     ·show y4 _ _ _ ⟨_,bx3 p c++(bxs s cols m.length c p q2++tlP t.pv (i4 s (O6 m2 m2 p c N) (O6 m2 b2 p c N)))⟩ _
      obtain ⟨mN,hmN⟩:∃ mN,mN=O6 m2 m2 p c N:=⟨_,rfl⟩
      obtain ⟨bN,hbN⟩:∃ bN,bN=O6 m2 b2 p c N:=⟨_,rfl⟩
      have hst3:ech m b (c+1)=⟨mN,bN,t.pv++[c],q2⟩:=by rw [hst,hst2,q0q,q0q,← hN2,hmN,hbN]
      rw [← hmN,← hbN]
      skip
      refine C3 (mV L rfl (sw (Z1 ag3 rF rF L) t1 t1 ?_))
      refine sw (E4 (vs:=[_]) un27 ti3 rfl rfl dC dC rfl (M2 (.cons rfl .nil) rfl) rfl (.cons rfl (.atom rfl) rfl pu1 .nil) (.cons .nil) L) t1 t0 (swA (M0x (k:=1003) un27 un27 ti3 rfl rfl rfl (by first | (simp [Tryz.t3]; done) | (simp [Tryz.t3]; omega)) sO hpin3 L) t2 ((K1z [_,_,_,_,_,_,_,_] rfl dC)) (d2n (pre:=[_,_,_,_,_,_,_,_]) rfl (fun e=>by rw [e]; simp [L3,Y2,Cells.free,PV.freeL,PV.free,V6])) ?_)
      refine aV L rfl ?_
      refine R1 (show y4 _ _ _ _ _ from exw (sl:=[(1,_),(2,pvV 1003 (V6 (t.pv++[c]))),(3,_),(4,_)]) (hb:=(1,_) :: (3,_) :: (4,_) :: (999,_) :: ((tlP (t.pv++[c]) (i4 s mN bN)))) ⟨rfl,(by rw [W0g]; rfl),rfl,rfl,trivial⟩ ⟨(g1b (pre:=[_,_,_,_,_,_,_,_]) dC rfl),(g1b (pre:=[_,_,_,_,_,_,_,_]) dC rfl),(g1b (pre:=[_,_,_,_,_,_,_,_]) dC rfl),(g1b (pre:=[_,_,_,_,_,_,_,_]) dC rfl),(d2v (pre:=[_,_,_,_,_,_,_,_]) rfl)⟩ ?_)
      refine T1 (exr (sw (Z1 ag3 rF rF L) t1 t1 ?_))
      refine R1 ⟨[(1,_),(2,_),(3,_),(83,_)],(1,_) :: (3,_) :: (999,_) :: ((tlP (t.pv++[c]) (i4 s mN bN))),t4,⟨rfl,rfl,rfl,(hbT [_,_,_,_] (E3 (pv:=t.pv++[c]) (s:=s) (m:=mN) (b:=bN)) rfl)⟩,?_⟩
      refine C3 (swb (Y3 (k:=4) (n:=1) zv3 (.cons rfl .nil) rfl (P0 _ rfl) L) t0 t0 (frT [_,_,_] (E3 (pv:=t.pv++[c]) (s:=s) (m:=mN) (b:=bN)) rfl rfl (by simp [L3,Y2,Cells.free,PV.freeL,PV.free,l4,l3])) ?_)
      refine sb (Z2 sz3 rF (.atom rfl) rfl pu1) t2 t1 ?_
      refine R1 (show y4 _ _ _ _ _ from exw (sl:=[(1,_),(2,_),(3,_),(4,_)]) (hb:=(1,_) :: (3,_) :: (4,_) :: (999,_) :: ((tlP (t.pv++[c]) (i4 s mN bN)))) t4 ⟨rfl,rfl,rfl,rfl,(hbT [_,_,_,_,_] (E3 (pv:=t.pv++[c]) (s:=s) (m:=mN) (b:=bN)) rfl)⟩ ?_)
      refine C3 (sw (Z1 ag3 rF rF L) t1 t1 ?_)
      refine sw (I3 L (w64 oM oM)) t2 t0 (sb (Z2 sz3 rF (.atom rfl) rfl pu1) t2 t1 ?_)
      refine R1 ?_
      exact ⟨(c+1,⟨mN,bN,t.pv++[c],q2⟩),⟨by simp only; omega,hst3.symm⟩,(by simp only; omega),B3 ⟨oR,rfl,rfl,rfl,trivial⟩ ⟨rfl,rfl,rfl,rfl,(hbT [_,_,_,_,_] (E3 (pv:=t.pv++[c]) (s:=s) (m:=mN) (b:=bN)) rfl)⟩⟩
  ·have hp:=df hp
   rw [G8] at hp
   have hfin:ech m b cols=t:=by
    have:=W0v (m:=m) (b:=b) (c:=c) (by rw [← hs]; omega) (cols - c)
    rw [show c+(cols - c)=cols by omega,← hs] at this; exact this
   rw [hfin]
   refine K2 (xq ?_)
   refine exd rF ?_
   refine mV L rfl (lp4 ag47 sz47 L rfl rfl (aV L rfl (sb (Z2 sz47 rF pa4 rfl pu4) t2 t1 ?_)))
   refine R1 ⟨j0c [⟨[2],[],[84],[]⟩,⟨[3],[3],[85],[]⟩,⟨[84],[],[2],[]⟩,⟨[3,85],[3],[],[3]⟩] (.cons (cf0 rfl) (.cons (cf0 rfl) (.cons (cf0 rfl) (.cons (cf0 rfl)  .nil)))) rfl (frS [] [_,_,_,_] (E3 (pv:=t.pv) (s:=s) (m:=t.m) (b:=t.b)) rfl (by simp [L3,Y2,Cells.free,PV.freeL,PV.free,l4,l3])) dC,[(2,_),(3,_)],(3,_) :: (999,_) :: ((tlP t.pv (i4 s t.m t.b))),t2,⟨rfl,rfl,(hbT [_,_,_,_,_] (E3 (pv:=t.pv) (s:=s) (m:=t.m) (b:=t.b)) rfl)⟩,?_⟩
   refine G4 [1003] (sl:=[(2,.p (.sl t.pv.length (V6 t.pv))),(3,.at_ 3 0 4)]) (hb:=[(3,bQ t.det),wV cols m.length (bv s m.length)]++i4 s t.m t.b) (h0j (by simp [hlo])) ⟨⟨_,rfl,Y1v (pre:=[_,_]) rfl⟩,⟨_,rfl,.same⟩,trivial⟩ (b2m (pre:=[_,_]) rfl t2 rfl) ?_
   refine Y1 ?_
   exact ⟨.inr rfl,.cons (.tmp rfl) (.cons (.agg rfl rfl rfl ag47 sz47 (.cons (.cons (.cons (.cons .nil))))) .nil),rfl,hbT [_,_] (Y7 s t.m t.b) rfl⟩
 ·refine T1 (exd rF ?_)
  refine sw (Z1 ag3 rF rF L) t1 t1 ?_
  refine sw (Z1 ag73 rF rF L) t1 t1 ?_
  refine sw (j3 rX L) t1 t1 ?_
  refine sw (j2 un79 rfl sz3 dC rX L) t1 t1 ?_
  refine sw (Z1 ag3 rF rF L) t1 t1 ?_
  refine sw (Z3 L) t2 t0 (mV L rfl (swn (g:=19) rfl sO L rfl (swn (g:=19) rfl sO L rfl (swn (g:=19) rfl sO L rfl (swn (g:=19) rfl sO L rfl (swn (g:=19) rfl sO L rfl (swn (g:=19) rfl sO L rfl (swn (g:=19) rfl sO L rfl (swn (g:=19) rfl sO L rfl (sw (U3 sO L) t2 t0 ?_))))))))))
  refine R1 ⟨j0c [⟨[4],[4],[13],[]⟩,⟨[1],[1],[14],[]⟩,⟨[14],[999],[15],[]⟩,⟨[15],[999],[16],[]⟩,⟨[16],[999],[17],[]⟩,⟨[13,17],[],[18],[]⟩,⟨[18],[],[19],[]⟩,⟨[19],[],[20],[]⟩,⟨[19],[],[21],[]⟩,⟨[19],[],[22],[]⟩,⟨[19],[],[23],[]⟩,⟨[19],[],[24],[]⟩,⟨[19],[],[25],[]⟩,⟨[19],[],[26],[]⟩,⟨[19],[],[27],[]⟩,⟨[19],[],[28],[]⟩] (.cons (cf0 rfl) (.cons (cf0 rfl) (.cons (cf0 rfl) (.cons (cf0 rfl) (.cons (cf0 rfl) (.cons (cf0 rfl) (.cons (cf0 rfl) (.cons (cf0 rfl) (.cons (cf0 rfl) (.cons (cf0 rfl) (.cons (cf0 rfl) (.cons (cf0 rfl) (.cons (cf0 rfl) (.cons (cf0 rfl) (.cons (cf0 rfl) (.cons (cf0 rfl)  .nil)))))))))))))))) rfl (frS [] [_,_,_,_] (E3 (pv:=t.pv) (s:=s) (m:=t.m) (b:=t.b)) rfl (by simp [L3,Y2,Cells.free,PV.freeL,PV.free,l4,l3])) dC,[(1,_),(2,_),(3,_),(4,_),(28,_)],(1,_) :: (3,_) :: (4,_) :: (999,_) :: ((tlP t.pv (i4 s t.m t.b))),t5,⟨rfl,rfl,rfl,rfl,(hbT [_,_,_,_] (E3 (pv:=t.pv) (s:=s) (m:=t.m) (b:=t.b)) rfl)⟩,?_⟩
  refine T3 rfl rfl ?_
  have hfin:ech m b cols=t:=by rw [hs,show c=cols by omega]
  rw [hfin]
  refine K2 (xq ?_)
  refine exd rF ?_
  refine mV L rfl (lp4 ag47 sz47 L rfl rfl (aV L rfl (sb (Z2 sz47 rF pa4 rfl pu4) t2 t1 ?_)))
  refine R1 ⟨j0c [⟨[2],[],[84],[]⟩,⟨[3],[3],[85],[]⟩,⟨[84],[],[2],[]⟩,⟨[3,85],[3],[],[3]⟩] (.cons (cf0 rfl) (.cons (cf0 rfl) (.cons (cf0 rfl) (.cons (cf0 rfl)  .nil)))) rfl (frS [] [_,_,_,_] (E3 (pv:=t.pv) (s:=s) (m:=t.m) (b:=t.b)) rfl (by simp [L3,Y2,Cells.free,PV.freeL,PV.free,l4,l3])) dC,[(2,_),(3,_)],(3,_) :: (999,_) :: ((tlP t.pv (i4 s t.m t.b))),t2,⟨rfl,rfl,(hbT [_,_,_,_,_] (E3 (pv:=t.pv) (s:=s) (m:=t.m) (b:=t.b)) rfl)⟩,?_⟩
  refine G4 [1003] (sl:=[(2,.p (.sl t.pv.length (V6 t.pv))),(3,.at_ 3 0 4)]) (hb:=[(3,bQ t.det),wV cols m.length (bv s m.length)]++i4 s t.m t.b) (h0j (by simp [hlo])) ⟨⟨_,rfl,Y1v (pre:=[_,_]) rfl⟩,⟨_,rfl,.same⟩,trivial⟩ (b2m (pre:=[_,_]) rfl t2 rfl) ?_
  refine Y1 ?_
  exact ⟨.inr rfl,.cons (.tmp rfl) (.cons (.agg rfl rfl rfl ag47 sz47 (.cons (.cons (.cons (.cons .nil))))) .nil),rfl,hbT [_,_] (Y7 s t.m t.b) rfl⟩
end Go.Proofs.YtjagfionflbjbaaGreat.N
set_option maxRecDepth 100000
set_option maxHeartbeats 4000000
namespace Go.Proofs.YtjagfionflbjbaaGreat.SH
open Go Go.RowKit
def rvV (k:Nat):List PV→PV
 | []=>.p (.a (.slice none 0 0))
 | _ :: v=>.ref k 0 (v.length+1) (v.length+1)
def rvB (k:Nat)(e:TypeId):List PV→List (Nat×Blk)
 | []=>[]
 | a :: v=>[(k,⟨e,1,.mix (a :: v)⟩)]
def rvF (k:Nat):List PV→Option Nat
 | []=>some k
 | _ :: _=>none
section
variable {P:Program} {F:Fr} {d:Nat} {T:TypeId} {pos:String} {aft:Array Edge} {g:Option (Nat×Bool)} {t tx:TypeId}
theorem q1s {x y:Operand}{k j:Nat}{e:TypeId}{ie:TypeInfo}{z:Value}{cs:List PV}{u:PV}(hu:P.underlying t=some (.slice e))(hux:P.underlying tx=some (.slice e))(hi:∀ w,(typeInfo e).run P w = .ok ie w)(hz:ie.zero=some z)(hsz:ie.size=1)
  (hzl:z.cells.size=1) (hf:u.free k=true) (hby:2*(cs.length+1)*ie.bytes≤281474976710656) (h63:cs.length+1≤9223372036854775807) (hpk:F.pin k=none) (hlt:d<F.nt) :
  R2 P F ⟨some d,.call ⟨.builtin .append,#[x,y],#[t,tx]⟩,T,pos,aft,g⟩ ⟨[(x,rvV k cs),(y,.ref j 0 1 1)],rvB k e cs++[(j,⟨e,1,.mix [u]⟩)],rvF k cs,[(d,rvV k (cs++[u]))],rvB k e (cs++[u])⟩:=by
 cases cs with
 | nil=>exact K0z (k:=k) (m:=1) (us:=[u]) hu hi hz hsz hzl oM (V1j hux rfl rfl rfl) rfl (.inr rfl) (by simp [PV.freeL,hf]) rfl (by simpa using hby) oM hpk hlt
 | cons a v =>
  have:=G0a (P:=P) (F:=F) (d:=d) (T:=T) (pos:=pos) (aft:=aft) (g:=g) (t:=t) (tx:=tx) (x:=x) (y:=y) (k:=k) (n:=v.length+1) (m:=1) (sz:=1) (cs:=.mix (a :: v)) (us:=[u]) hu hi hz hsz hzl oM rfl sM (V1j (B:=⟨e,1,.mix [u]⟩) (k:=j) (o:=0) hux rfl rfl rfl) rfl .mix rfl (by simpa using hby) (by simpa using h63) hpk hlt
  simpa [rvV,rvB,rvF] using this
theorem p1j {x y:Operand}{k j:Nat}{e:TypeId}{ie:TypeInfo}{z:Value}{cs:List PV}{u:PV}(hu:P.underlying t=some (.slice e))(hux:P.underlying tx=some (.slice e))(hi:∀ w,(typeInfo e).run P w = .ok ie w)(hz:ie.zero=some z)(hsz:ie.size=1)
  (hzl:z.cells.size=1) (hf:u.free k=true) (hby:2*(cs.length+1)*ie.bytes≤281474976710656) (h63:cs.length+1≤9223372036854775807) (hpk:F.pin k=none) (hlt:d<F.nt) :
  R2 P F ⟨some d,.call ⟨.builtin .append,#[x,y],#[t,tx]⟩,T,pos,aft,g⟩ ⟨[(x,rvV k cs),(y,.ref j 0 1 1)],rvB k e cs++[(j,⟨e,1,.mix [u]⟩)],rvF k cs,[(d,.ref k 0 (cs.length+1) (cs.length+1))],[(k,⟨e,1,.mix (cs++[u])⟩)]⟩:=by
 have:=q1s (P:=P) (F:=F) (d:=d) (T:=T) (pos:=pos) (aft:=aft) (g:=g) (x:=x) (y:=y) (j:=j) hu hux hi hz hsz hzl hf hby h63 hpk hlt
 cases cs <;> simpa [rvV,rvB] using this
end
theorem k0g {k q:Nat}{cs:List PV}(h:k≠q):(rvV k cs).free q=true:=by cases cs <;> simp [rvV,PV.free,h]
theorem y1c {k q:Nat}{e:TypeId}{cs:List PV}(h:PV.freeL q cs=true):Y2 q (rvB k e cs)=true:=by
 cases cs with
 | nil=>rfl
 | cons a v=>simp only [rvB,Y2,Cells.free,h]; rfl
theorem J1x {k:Nat}{e:TypeId}{cs:List PV}{u:PV}:rvB k e (cs++[u])=[(k,⟨e,1,.mix (cs++[u])⟩)]:=by cases cs <;> rfl
theorem M1k {k:Nat}{cs:List PV}{u:PV}:rvV k (cs++[u]) = .ref k 0 (cs.length+1) (cs.length+1):=by cases cs <;> simp [rvV]
end Go.Proofs.YtjagfionflbjbaaGreat.SH
namespace Go.Proofs.YtjagfionflbjbaaGreat.N
open Go Go.Proofs.YtjagfionflbjbaaGreat.SH Go.Proofs.YtjagfionflbjbaaGreat.NumA
theorem k0y {s:Nat}:∀ {i:Nat} {a:List (List Rat)} {v:List Rat},Y4 s i (a++[v])=Y4 s i a++[.ref (K3 s (i+a.length)) 0 v.length (v.length*4)]
 | i,[],v=>rfl
 | i,x :: a,v=>by simp only [M1,Y4,k0y (i:=i+1) (a:=a),E1]; rw [show i+1+a.length=i+(a.length+1) by omega]
theorem w0w {s:Nat}:∀ {i:Nat} {a:List (List Rat)} {v:List Rat},e7 s i (a++[v])=e7 s i a++[(K3 s (i+a.length),j4 v)]
 | i,[],v=>rfl
 | i,x :: a,v=>by simp only [M1,e7,w0w (i:=i+1) (a:=a),E1]; rw [show i+1+a.length=i+(a.length+1) by omega]
def B0x (s:Nat)(m:List (List Rat)):List (Nat×Blk):=rvB (s+1001) 40 (Y4 s 0 m)++e7 s 0 m
theorem v0z {s:Nat}{m:List (List Rat)}(h:0<m.length):B0x s m=J2 s m:=by
 cases m with
 | nil=>cases h
 | cons v m=>rfl
theorem P0f {s j:Nat}{m:List (List Rat)}(h2:s<9)(h:(B0x s m).lookup j≠none):j=s+1001∨∃ q,q<m.length∧j=K3 s q:=by
 cases m with
 | nil=>exact absurd rfl h
 | cons v m=>exact V5 h2 h
end Go.Proofs.YtjagfionflbjbaaGreat.N
namespace Go.Proofs.YtjagfionflbjbaaGreat.SH
open Go
end Go.Proofs.YtjagfionflbjbaaGreat.SH
namespace Go.Proofs.YtjagfionflbjbaaGreat.SH
open Go Go.RowKit
end Go.Proofs.YtjagfionflbjbaaGreat.SH
namespace Go.Proofs.YtjagfionflbjbaaGreat.SH
open Go Go.RowKit
end Go.Proofs.YtjagfionflbjbaaGreat.SH
