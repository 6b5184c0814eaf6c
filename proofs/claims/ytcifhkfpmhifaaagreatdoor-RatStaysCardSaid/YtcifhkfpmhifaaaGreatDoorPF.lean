/- Part F of the proof: lemmas for the walks of the given functions. No statement of its own. -/
import Derived.Test.YtcifhkfpmhifaaaGreatDoorPE
set_option linter.unusedVariables false
set_option linter.unusedSimpArgs false
set_option linter.deprecated false
set_option maxRecDepth 100000
set_option maxHeartbeats 4000000
namespace Go.Proofs.YtcifhkfpmhifaaaGreatDoor.N
open Go Go.Proofs.YtcifhkfpmhifaaaGreatDoor.SH Go.Proofs.YtcifhkfpmhifaaaGreatDoor.NumA
open Go.Proofs.Tryz renaming call10 → cl10,call13 → cl13,call17 → cl17,call19 → cl19,call20 → cl20,call22 → cl22,call24 → cl24,call26 → cl26,call28 → cl28,call31 → cl31,call33 → cl33,call35 → cl35,call37 → cl37,call40 → cl40,call42 → cl42,call46 → cl46,call52 → cl52,call54 → cl54,call55 → cl55,call56 → cl56,call57 → cl57,isAgg22 → ag22,isAgg24 → ag24,isAgg26 → ag26,sizeOf22 → sz22,sizeOf24 → sz24,sizeOf26 → sz26,typeInfo26 → ti26,underlying22 → un22,underlying24 → un24,underlying26 → un26,underlying47 → un47,zeroValue26 → zv26
theorem getRj : ∀ {v : List RQ} {i : Nat} (j : Nat),i < v.length → j < 4 → (encR v)[i * 4 + j]? = (cR (v.getD i default))[j]?
 | [],i,j,h,_=>by simp at h
 | a :: v,0,j,_,h2=>by
  rw [encR,Nat.zero_mul,Nat.zero_add,List.getElem?_append_left (by simp [cR]; omega)]; rfl
 | a :: v,i + 1,j,h,h2=>by
  have:=getRj (v:=v) (i:=i) j (by simpa using h) h2
  rw [encR,List.getElem?_append_right (by simp [cR]; omega),show (i + 1) * 4 + j - (cR a).length = i * 4 + j by simp [cR]; omega,this]
  simp
theorem getRa {v : List RQ} {i : Nat} (h : i < v.length) : (encR v)[i * 4 + 0 + 1]? = some (.sl (v.getD i default).ws.length (encW (v.getD i default).ws)):=getRj 1 h (by decide)
theorem getRd {v : List RQ} {i : Nat} (h : i < v.length) : (encR v)[i * 4 + 2 + 1]? = some (.sl (v.getD i default).vs.length (encW (v.getD i default).vs)):=getRj 3 h (by decide)
theorem k_stays {r : RQ} (h : r.sm) : Says E 56 [.agg (cR r),.agg (cR r)] (bZ true):=by
 have:=rstays0 r.m r.n r.m r.n r.ws r.vs r.ws r.vs h.2.1 h.2.2 h.2.1 h.2.2
 simpa using this
theorem smalls_q10 : ∀ (v : List RQ),(∀ r ∈ v,r.wd) → (∀ r ∈ v,smallR 10 r = true) → ∃ l : List Rat,v = l.map RQ.of ∧ ∀ a ∈ l,qw a ≤ 10
 | [],_,_=>⟨[],rfl,by simp⟩
 | ⟨m,ws,n,vs⟩ :: v,hw,hs=>by
  obtain ⟨l,rfl,hl⟩:=smalls_q10 v (fun r hr=>hw r (by simp [hr])) (fun r hr=>hs r (by simp [hr]))
  have w:=hw ⟨m,ws,n,vs⟩ (by simp)
  obtain ⟨a,⟨e1,e2,e3,e4⟩,qa⟩:=small_q (k:=10) (hs ⟨m,ws,n,vs⟩ (by simp)) w.1 w.2
  refine ⟨a :: l,by rw [List.map_cons,RQ.of,e1,e2,e3,e4],fun b hb=>?_⟩
  rcases List.mem_cons.1 hb with rfl | hb
  ·exact qa
  ·exact hl b hb
theorem com_all10 (l : List Rat) (hl : l.length ≤ 8) (hB : ∀ a ∈ l,qw a ≤ 10) : Says E 42 [pV l] (.tup [pVZ (comN l),pZ (comD l),vZ 0]):=by
 by_cases h : l.length = 0
 ·obtain rfl:=List.eq_nil_of_length_eq_zero h
  exact com_nil
 ·exact com_says l 10 (by omega) (by omega) hB (by omega)
theorem stays_says (am an bm bn : Bool) (aw av bw bv : List Int) (v : List RQ) (n : Int) (w1 : Wd aw) (w2 : Wd av) (w3 : Wd bw) (w4 : Wd bv) (hw : ∀ r ∈ v,r.wd) (hl : v.length * 64 ≤ 140737488351232) (n0 : -9223372036854775808 ≤ n) (n1 : n < 9223372036854775808) : Says E 9 [pR am aw an av,pR bm bw bn bv,pVR v,vZ n] (bZ true):=by
 refine says_of (xs:=[bZ true]) Tryz.func9 rfl Tryz.ntmps9 Tryz.results9 (by simp) fun F hG hX0 hnt hdf P0=>?_
 obtain ⟨L,hX,hN⟩:=pro hnt hX0 hG
 obtain ⟨V,hV⟩ : ∃ V : List RQ,V = ⟨am,aw,an,av⟩ :: ⟨bm,bw,bn,bv⟩ :: v:=⟨_,rfl⟩
 have hVl : V.length = 2 + v.length:=by rw [hV,List.length_cons,List.length_cons]; omega
 have hVw : ∀ r ∈ V,r.wd:=fun r hr=>by
  rw [hV] at hr
  rcases List.mem_cons.1 hr with rfl | hr
  ·exact ⟨w1,w2⟩
  ·rcases List.mem_cons.1 hr with rfl | hr
   ·exact ⟨w3,w4⟩
   ·exact hw r hr
 refine exr (swb (c_bx (k:=4) (n:=4) pa4 rfl rfl (P0 _ rfl) (L rfl)) t1 t0 ⟨rfl,rfl⟩ (swb (c_bx (k:=5) (n:=4) pa4 rfl rfl (P0 _ rfl) (L rfl)) t1 t0 ⟨rfl,rfl⟩ (aV (L rfl) rfl (zn [(2,_),(3,_),(4,_),(5,_)] [(4,_),(5,_)] t4 t2 (exr (lp4 ag26 sz26 (L rfl) rfl rfl (lp4 ag26 sz26 (L rfl) rfl rfl (swb (core_mp (c_bR (k:=16) (vs:=[_,_]) un47 ti26 rfl rfl (by decide) (by decide) rfl (zs_made (.cons rfl (.cons rfl (.cons rfl (.cons rfl .nil)))) rfl) rfl (.cons rfl pa4 rfl pu4 (.cons rfl pa4 rfl (.skip (.skip (.skip (.skip pu4)))) .nil)) rfl rfl (P0 _ rfl) (L rfl)) (.cons (.cons (.cons (.cons (.cons (.cons (.cons (.cons .nil))))))))) t2 t0 ⟨rfl,rfl⟩ ?_))))))))
 refine mV (L rfl) rfl (swb (apP (sz:=4) un47 un47 ti26 rfl rfl rfl (by decide) (by exact rfl) (by first | omega | rfl) (by simp) (show _ = encR V by rw [hV]; rfl) rfl rfl (by first | (simp [Tryz.t26]; done) | (simp [Tryz.t26]; omega)) (by omega) (P0 _ rfl) (L rfl)) t2 t1 t0 ?_)
 refine aV (L rfl) rfl ?_
 refine seq_nil ⟨[(2,_),(3,_),(4,_),(5,_),(9,.ref 16 0 V.length (V.length * 4))],[(4,_),(5,_),(16,_)],⟨rfl,rfl,rfl,rfl,(by exact ov rfl (by rw [hVl]; show PV.ref 16 0 (2 + v.length) (8 + v.length * 4) = _; rw [show 8 + v.length * 4 = (2 + v.length) * 4 by omega])),trivial⟩,t3,?_⟩
 refine ex_seq (exr (aV (L rfl) rfl (zn [(2,_),(3,_),(4,_),(5,_),(9,_),(10,_)] [(4,_),(5,_),(16,_)] t6 t3 (ex_block ?_))))
 refine exl (α:=Nat) (fun i=>[(10,vi (i:Int))]) (fun i=>[]) (fun i=>i ≤ V.length ∧ ∀ r ∈ V.take i,smallR 10 r = true) (fun i=>V.length - i) (0) (sl:=[(2,_),(3,_),(4,_),(5,_),(9,_)]) (hb:=[(4,_),(5,_),(16,_)]) ?_ ⟨(by first | exact rfl | exact oi (by omega) rfl),rfl,rfl,rfl,rfl,rfl,trivial⟩ t3 ?_
 ·exact ⟨Nat.zero_le _,by simp⟩
 intro i hi
 obtain ⟨hi,hsm⟩:=hi
 refine ex_seq (exr (mV (L rfl) rfl (mV (L rfl) rfl (sw (c_lr un47 (by exact (by simp)) (L rfl)) t1 t1 ?_))))
 refine sw (c_ls (L rfl)) t2 t0 (zn [(2,_),(3,_),(4,_),(5,_),(9,_),(10,_),(22,_)] [(4,_),(5,_),(16,_)] t7 t3 ?_)
 refine ex_if rfl (fun hc=>?_) (fun hc=>?_)
 ·have hc:=dt hc
  have hil : i < V.length:=by omega
  obtain ⟨r,hr⟩ : ∃ r,r = V.getD i default:=⟨_,rfl⟩
  have hrw : r.wd:=hr ▸ hVw _ (gDR hil)
  have ha:=getRa hil
  have hd:=getRd hil
  have hg:=getR hil
  rw [← hr] at ha hd hg
  refine ex_skip (show Exec _ _ _ _ _ from ?_)
  refine ex_seq (ex_block ?_)
  refine exm (sl:=[(50,vb (!smallR 10 r))]) (sl0:=[(2,_),(3,_),(4,_),(5,_),(9,_),(10,_)]) (hb:=[]) (hb0:=[(4,_),(5,_),(16,_)]) t6 t3 ?_ ?_
  ·rcases or3 ((r.ws.length : Int) > 10) ((r.vs.length : Int) > 10) True with h1 | ⟨h1,h2⟩ | ⟨h1,h2⟩
   ·refine mV (L rfl) rfl (mV (L rfl) rfl (sw (ixA0 (sz:=4) un47 sz26 (by exact (by simp)) (j:=i) (by first | exact rfl | omega) (by omega) (L rfl)) t2 t1 ?_))
    refine sw (c_fa un26 rfl sz24 (by decide) (by exact (by simp)) (L rfl)) t1 t1 ?_
    refine sw (c_fa un24 rfl sz22 (by decide) (by exact (by simp)) (L rfl)) t1 t1 ?_
    refine sw (c_l1 ag22 (by exact (by simp)) (getC ha) (L rfl)) t1 t1 ?_
    refine sw (c_ln un22 (L rfl)) t1 t0 (sw (c_gt (L rfl)) t2 t0 (mV (L rfl) rfl (swn (g:=33) rfl (decide_eq_true h1) (L rfl) rfl (swn (g:=33) rfl (decide_eq_true h1) (L rfl) rfl (swn (g:=33) rfl (decide_eq_true h1) (L rfl) rfl (swn (g:=33) rfl (decide_eq_true h1) (L rfl) rfl (swn (g:=33) rfl (decide_eq_true h1) (L rfl) rfl (swn (g:=33) rfl (decide_eq_true h1) (L rfl) rfl (swn (g:=33) rfl (decide_eq_true h1) (L rfl) rfl (swn (g:=33) rfl (decide_eq_true h1) (L rfl) rfl (sw (c_pt (decide_eq_true h1) (L rfl)) t2 t0 ?_)))))))))))
    refine mV (L rfl) rfl (swn (g:=43) rfl rfl (L rfl) rfl (swn (g:=43) rfl rfl (L rfl) rfl (swn (g:=43) rfl rfl (L rfl) rfl (swn (g:=43) rfl rfl (L rfl) rfl (swn (g:=43) rfl rfl (L rfl) rfl (swn (g:=43) rfl rfl (L rfl) rfl (sw (c_pt rfl (L rfl)) t2 t0 ?_)))))))
    exact seq_nil ⟨⟨ob rfl (by simp [smallR]; omega),rfl,rfl,rfl,rfl,rfl,rfl,trivial⟩,t3⟩
   ·refine mV (L rfl) rfl (mV (L rfl) rfl (sw (ixA0 (sz:=4) un47 sz26 (by exact (by simp)) (j:=i) (by first | exact rfl | omega) (by omega) (L rfl)) t2 t1 ?_))
    refine sw (c_fa un26 rfl sz24 (by decide) (by exact (by simp)) (L rfl)) t1 t1 ?_
    refine sw (c_fa un24 rfl sz22 (by decide) (by exact (by simp)) (L rfl)) t1 t1 ?_
    refine sw (c_l1 ag22 (by exact (by simp)) (getC ha) (L rfl)) t1 t1 ?_
    refine sw (c_ln un22 (L rfl)) t1 t0 (sw (c_gt (L rfl)) t2 t0 (mV (L rfl) rfl (gV (g:=33) rfl (decide_eq_false h1) (L rfl) rfl rfl (gV (g:=33) rfl (decide_eq_false h1) (L rfl) rfl rfl (swg (g:=33) rfl (decide_eq_false h1) (ixA0 (sz:=4) un47 sz26 (by exact (by simp)) (j:=i) (by first | exact rfl | omega) (by omega) (L rfl)) rfl t2 t1 ?_)))))
    refine swg (g:=33) rfl (decide_eq_false h1) (c_fa un26 rfl sz24 (by decide) (by exact (by simp)) (L rfl)) rfl t1 t1 ?_
    refine swg (g:=33) rfl (decide_eq_false h1) (c_fa un24 rfl sz22 (by decide) (by exact (by simp)) (L rfl)) rfl t1 t1 ?_
    refine swg (g:=33) rfl (decide_eq_false h1) (c_l1 ag22 (by exact (by simp)) (getC hd) (L rfl)) rfl t1 t1 ?_
    refine swg (g:=33) rfl (decide_eq_false h1) (c_ln un22 (L rfl)) rfl t1 t0 (swg (g:=33) rfl (decide_eq_false h1) (c_gt (L rfl)) rfl t2 t0 (sw (c_pf (decide_eq_false h1) (L rfl)) t2 t0 (mV (L rfl) rfl (swn (g:=43) rfl (decide_eq_true h2) (L rfl) rfl (swn (g:=43) rfl (decide_eq_true h2) (L rfl) rfl (swn (g:=43) rfl (decide_eq_true h2) (L rfl) rfl (swn (g:=43) rfl (decide_eq_true h2) (L rfl) rfl (swn (g:=43) rfl (decide_eq_true h2) (L rfl) rfl (swn (g:=43) rfl (decide_eq_true h2) (L rfl) rfl (sw (c_pt (decide_eq_true h2) (L rfl)) t2 t0 ?_))))))))))
    exact seq_nil ⟨⟨ob rfl (by simp [smallR]; omega),rfl,rfl,rfl,rfl,rfl,rfl,trivial⟩,t3⟩
   ·refine mV (L rfl) rfl (mV (L rfl) rfl (sw (ixA0 (sz:=4) un47 sz26 (by exact (by simp)) (j:=i) (by first | exact rfl | omega) (by omega) (L rfl)) t2 t1 ?_))
    refine sw (c_fa un26 rfl sz24 (by decide) (by exact (by simp)) (L rfl)) t1 t1 ?_
    refine sw (c_fa un24 rfl sz22 (by decide) (by exact (by simp)) (L rfl)) t1 t1 ?_
    refine sw (c_l1 ag22 (by exact (by simp)) (getC ha) (L rfl)) t1 t1 ?_
    refine sw (c_ln un22 (L rfl)) t1 t0 (sw (c_gt (L rfl)) t2 t0 (mV (L rfl) rfl (gV (g:=33) rfl (decide_eq_false h1) (L rfl) rfl rfl (gV (g:=33) rfl (decide_eq_false h1) (L rfl) rfl rfl (swg (g:=33) rfl (decide_eq_false h1) (ixA0 (sz:=4) un47 sz26 (by exact (by simp)) (j:=i) (by first | exact rfl | omega) (by omega) (L rfl)) rfl t2 t1 ?_)))))
    refine swg (g:=33) rfl (decide_eq_false h1) (c_fa un26 rfl sz24 (by decide) (by exact (by simp)) (L rfl)) rfl t1 t1 ?_
    refine swg (g:=33) rfl (decide_eq_false h1) (c_fa un24 rfl sz22 (by decide) (by exact (by simp)) (L rfl)) rfl t1 t1 ?_
    refine swg (g:=33) rfl (decide_eq_false h1) (c_l1 ag22 (by exact (by simp)) (getC hd) (L rfl)) rfl t1 t1 ?_
    refine swg (g:=33) rfl (decide_eq_false h1) (c_ln un22 (L rfl)) rfl t1 t0 (swg (g:=33) rfl (decide_eq_false h1) (c_gt (L rfl)) rfl t2 t0 (sw (c_pf (decide_eq_false h1) (L rfl)) t2 t0 (mV (L rfl) rfl (gV (g:=43) rfl (decide_eq_false h2) (L rfl) rfl rfl (gV (g:=43) rfl (decide_eq_false h2) (L rfl) rfl rfl (swg (g:=43) rfl (decide_eq_false h2) (ixA0 (sz:=4) un47 sz26 (by exact (by simp)) (j:=i) (by first | exact rfl | omega) (by omega) (L rfl)) rfl t2 t1 ?_))))))
    refine swg (g:=43) rfl (decide_eq_false h2) (c_lq ag26 sz26 (by exact (by simp)) hg rfl (L rfl)) rfl t1 t1 ?_
    refine swg (g:=43) rfl (decide_eq_false h2) (c_c hG hX cl20 rfl hN (rqis_says hrw (by omega) (by omega)) (L rfl)) rfl t1 t0 ?_
    refine swg (g:=43) rfl (decide_eq_false h2) (c_no (L rfl)) rfl t1 t0 (sw (c_pf (decide_eq_false h2) (L rfl)) t2 t0 ?_)
    exact seq_nil ⟨⟨ob rfl (by rw [smallR,decide_eq_true (by omega),decide_eq_true (by omega)]; simp),rfl,rfl,rfl,rfl,rfl,rfl,trivial⟩,t3⟩
  refine ex_if rfl (fun hx=>?_) (fun hx=>?_)
  ·refine exr (cK hG hX cl10 hN sane_says (L rfl) t0 (aV (L rfl) rfl (zn [(8,_)] [] t1 trivial (ex_ret ?_))))
   refine ⟨.inr rfl,ResVs.cast (.cons (.tmp rfl) .nil) ?_⟩
   rfl
  ·have hx : smallR 10 r = true:=by simpa using hx
   have hnx : ∀ r ∈ V.take (i + 1),smallR 10 r = true:=fun q hq=>by
    rw [takeR hil,List.mem_append] at hq
    rcases hq with hq | hq
    ·exact hsm q hq
    ·rw [List.mem_singleton.1 hq,← hr]; exact hx
   refine ex_skip (show Exec _ _ _ _ _ from ?_)
   refine exr0 (mV (L rfl) rfl (sw (c_ad (L rfl) (w64 (by omega) (by omega))) t2 t0 ?_))
   refine aV (L rfl) rfl (seq_nil ?_)
   exact ⟨i + 1,⟨hil,hnx⟩,by omega,le_of ⟨(by first | exact rfl | exact oi (by omega) rfl),rfl,rfl,rfl,rfl,rfl,trivial⟩ t3⟩
 ·have hc:=df hc
  obtain rfl : i = V.length:=by omega
  rw [List.take_length] at hsm
  have hA:=hsm ⟨am,aw,an,av⟩ (by rw [hV]; simp)
  have hB:=hsm ⟨bm,bw,bn,bv⟩ (by rw [hV]; simp)
  have hv : ∀ r ∈ v,smallR 10 r = true:=fun r hr=>hsm r (by rw [hV]; simp [hr])
  clear hsm hV hVl hVw hi hc
  obtain ⟨a,⟨rfl,rfl,rfl,rfl⟩,qa⟩:=small_q (k:=10) hA w1 w2
  obtain ⟨b,⟨rfl,rfl,rfl,rfl⟩,qb⟩:=small_q (k:=10) hB w3 w4
  obtain ⟨l,rfl,hq⟩:=smalls_q10 v hw hv
  have cs : l.length < 100000 → Says E 55 [pV l] (pV l):=fun h=>by
   have:=cloneAll_says (l.map RQ.of) (by simpa using h) (fun r hr=>by obtain ⟨x,hx,rfl⟩:=List.mem_map.1 hr; exact RQ.sm_of (by have:=hq x hx; omega))
   rwa [pVR_of] at this
  have ss : l.length < 100000 → Says E 57 [pV l,pV l] (bZ true):=fun h=>by
   have:=stayAll_says (l.map RQ.of) (by simpa using h) (fun r hr=>by obtain ⟨x,hx,rfl⟩:=List.mem_map.1 hr; exact RQ.sm_of (by have:=hq x hx; omega))
   rwa [pVR_of] at this
  rw [pVR_of]
  refine ex_exit (show Exec _ _ _ _ _ from ?_)
  refine ex_seq ?_
  refine exm (sl:=[(62,vb (decide ((l.length : Int) > 8 ∨ n < -8 ∨ n > 8)))]) (sl0:=[(2,_),(3,_),(4,_),(5,_)]) (hb:=[]) (hb0:=[(4,_),(5,_)]) t4 t2 ?_ ?_
  ·rcases or3 ((l.length : Int) > 8) (n < -8) True with h1 | ⟨h1,h2⟩ | ⟨h1,h2⟩
   ·refine mV (L rfl) rfl (sw (c_ln un47 (L rfl)) t1 t0 (sw (c_gt (L rfl)) t2 t0 (mV (L rfl) rfl (swn (g:=55) rfl (decide_eq_true h1) (L rfl) rfl (swn (g:=55) rfl (decide_eq_true h1) (L rfl) rfl (sw (c_pt (decide_eq_true h1) (L rfl)) t2 t0 (mV (L rfl) rfl (swn (g:=59) rfl rfl (L rfl) rfl (swn (g:=59) rfl rfl (L rfl) rfl (sw (c_pt rfl (L rfl)) t2 t0 ?_))))))))))
    exact seq_nil ⟨⟨ob rfl (decide_eq_true (.inl h1)).symm,rfl,rfl,rfl,rfl,trivial⟩,t2⟩
   ·refine mV (L rfl) rfl (sw (c_ln un47 (L rfl)) t1 t0 (sw (c_gt (L rfl)) t2 t0 (mV (L rfl) rfl (gV (g:=55) rfl (decide_eq_false h1) (L rfl) rfl rfl (swg (g:=55) rfl (decide_eq_false h1) (c_ls (L rfl)) rfl t2 t0 (sw (c_pf (decide_eq_false h1) (L rfl)) t2 t0 (mV (L rfl) rfl (swn (g:=59) rfl (decide_eq_true h2) (L rfl) rfl (swn (g:=59) rfl (decide_eq_true h2) (L rfl) rfl (sw (c_pt (decide_eq_true h2) (L rfl)) t2 t0 ?_))))))))))
    exact seq_nil ⟨⟨ob rfl (decide_eq_true (.inr (.inl h2))).symm,rfl,rfl,rfl,rfl,trivial⟩,t2⟩
   ·refine mV (L rfl) rfl (sw (c_ln un47 (L rfl)) t1 t0 (sw (c_gt (L rfl)) t2 t0 (mV (L rfl) rfl (gV (g:=55) rfl (decide_eq_false h1) (L rfl) rfl rfl (swg (g:=55) rfl (decide_eq_false h1) (c_ls (L rfl)) rfl t2 t0 (sw (c_pf (decide_eq_false h1) (L rfl)) t2 t0 (mV (L rfl) rfl (gV (g:=59) rfl (decide_eq_false h2) (L rfl) rfl rfl (swg (g:=59) rfl (decide_eq_false h2) (c_gt (L rfl)) rfl t2 t0 (sw (c_pf (decide_eq_false h2) (L rfl)) t2 t0 ?_))))))))))
    exact seq_nil ⟨⟨ob rfl (dec_eq ⟨fun c=>.inr (.inr c),fun c=>(c.resolve_left h1).resolve_left h2⟩),rfl,rfl,rfl,rfl,trivial⟩,t2⟩
  refine ex_if rfl (fun hx=>?_) (fun hx=>?_)
  ·refine exr (cK hG hX cl10 hN sane_says (L rfl) t0 (aV (L rfl) rfl (zn [(8,_)] [] t1 trivial (ex_ret ?_))))
   refine ⟨.inr rfl,ResVs.cast (.cons (.tmp rfl) .nil) ?_⟩
   rfl
  ·have hx:=df hx
   have hl8 : l.length ≤ 8:=by omega
   have qa9 : qw a < 1000000000:=by omega
   have qb9 : qw b < 1000000000:=by omega
   have sma:=RQ.sm_of qa9
   have smb:=RQ.sm_of qb9
   have c1:=nw_num_le a
   have c2:=nw_den_le b
   have ca : Says E 54 [pQ a] (pQ a):=rclone0 _ _ _ _ sma.2.1 sma.2.2
   have cb : Says E 54 [pQ b] (pQ b):=rclone0 _ _ _ _ smb.2.1 smb.2.2
   have hi : Says E 19 [pQ a] (bZ (RQ.of a).is):=qis_says (r:=RQ.of a) sma.1 sma.2.1 sma.2.2
   refine ex_skip (show Exec _ _ _ _ _ from ?_)
   refine exd (by rfl) ?_
   refine lp4 ag26 sz26 (L rfl) rfl rfl (cK hG hX cl54 hN ca (L rfl) t1 (lp4 ag26 sz26 (L rfl) rfl rfl (cK hG hX cl54 hN cb (L rfl) t1 (mV (L rfl) rfl (cK hG hX cl55 hN (cs (by omega)) (L rfl) t1 ?_)))))
   refine swb (c_al (k:=11) (n:=4) zv26 (.cons rfl (.cons rfl (.cons rfl (.cons rfl .nil)))) rfl (P0 _ rfl) (L rfl)) t0 t0 ⟨rfl,rfl⟩ (swb (c_al (k:=12) (n:=4) zv26 (.cons rfl (.cons rfl (.cons rfl (.cons rfl .nil)))) rfl (P0 _ rfl) (L rfl)) t0 t0 ⟨rfl,rfl⟩ (sb (c_sm sz26 (by rfl) pa4 rfl pu4) t2 t1 ?_))
   refine sb (c_sm sz26 (by rfl) pa4 rfl pu4) t2 t1 ?_
   refine aV (L rfl) rfl ?_
   refine seq_nil ⟨aok rfl rfl,[(2,_),(3,_),(4,_),(5,_),(11,_),(12,_),(13,_)],[(4,_),(5,_),(11,_),(12,_)],t7,t4,?_⟩
   refine exr (lp4 ag26 sz26 (L rfl) rfl rfl (cK hG hX cl19 hN hi (L rfl) t1 (zn [(2,_),(3,_),(4,_),(5,_),(11,_),(12,_),(13,_)] [(4,_),(5,_),(11,_),(12,_)] t7 t4 (exr (sw (c_fa un26 rfl sz24 (by decide) (by exact rfl) (L rfl)) t1 t1 ?_)))))
   refine lp2 ag24 sz24 (L rfl) rfl rfl (sw (c_fa un26 rfl sz24 (by decide) (by exact rfl) (L rfl)) t1 t1 ?_)
   refine lp2 ag24 sz24 (L rfl) rfl rfl (cK hG hX cl13 hN (make_z a.num b.den (den_ne b) (by omega) (by omega)) (L rfl) t2 ?_)
   refine zn [(2,_),(3,_),(4,_),(5,_),(11,_),(12,_),(13,_)] [(4,_),(5,_),(11,_),(12,_)] t7 t4 (exr (sw (c_fa un26 rfl sz24 (by decide) (by exact rfl) (L rfl)) t1 t1 ?_))
   refine lp2 ag24 sz24 (L rfl) rfl rfl (cK hG hX cl17 hN (qwhole_says a.num) (L rfl) t1 (zn [(2,_),(3,_),(4,_),(5,_),(11,_),(12,_),(13,_)] [(4,_),(5,_),(11,_),(12,_)] t7 t4 (exr (lp4 ag26 sz26 (L rfl) rfl rfl (cK hG hX cl24 hN (qsign_says a qa9) (L rfl) t1 (zn [(2,_),(3,_),(4,_),(5,_),(11,_),(12,_),(13,_)] [(4,_),(5,_),(11,_),(12,_)] t7 t4 (exr (lp4 ag26 sz26 (L rfl) rfl rfl (lp4 ag26 sz26 (L rfl) rfl rfl (cK hG hX cl26 hN (qcmp_says a b qa9 qb9) (L rfl) t2 (zn [(2,_),(3,_),(4,_),(5,_),(11,_),(12,_),(13,_)] [(4,_),(5,_),(11,_),(12,_)] t7 t4 ?_)))))))))))
   refine exr (lp4 ag26 sz26 (L rfl) rfl rfl (cK hG hX cl28 hN (qneg_says a qa9) (L rfl) t1 (zn [(2,_),(3,_),(4,_),(5,_),(11,_),(12,_),(13,_)] [(4,_),(5,_),(11,_),(12,_)] t7 t4 (exr (lp4 ag26 sz26 (L rfl) rfl rfl (lp4 ag26 sz26 (L rfl) rfl rfl (cK hG hX cl33 hN (qadd_says a b qa9 qb9) (L rfl) t2 (zn [(2,_),(3,_),(4,_),(5,_),(11,_),(12,_),(13,_)] [(4,_),(5,_),(11,_),(12,_)] t7 t4 (exr (lp4 ag26 sz26 (L rfl) rfl rfl (lp4 ag26 sz26 (L rfl) rfl rfl ?_)))))))))))
   refine cK hG hX cl35 hN (qsub_says a b qa9 qb9) (L rfl) t2 (zn [(2,_),(3,_),(4,_),(5,_),(11,_),(12,_),(13,_)] [(4,_),(5,_),(11,_),(12,_)] t7 t4 (exr (lp4 ag26 sz26 (L rfl) rfl rfl (lp4 ag26 sz26 (L rfl) rfl rfl (cK hG hX cl37 hN (qmul_says a b qa9 qb9) (L rfl) t2 (zn [(2,_),(3,_),(4,_),(5,_),(11,_),(12,_),(13,_)] [(4,_),(5,_),(11,_),(12,_)] t7 t4 (exr (lp4 ag26 sz26 (L rfl) rfl rfl (lp4 ag26 sz26 (L rfl) rfl rfl (cK hG hX cl22 hN (qdivA a b qa9 qb9) (L rfl) t2 (zn [(2,_),(3,_),(4,_),(5,_),(11,_),(12,_),(13,_)] [(4,_),(5,_),(11,_),(12,_)] t7 t4 ?_)))))))))))
   refine exr (lp4 ag26 sz26 (L rfl) rfl rfl (mV (L rfl) rfl (cK hG hX cl40 hN (qpow_says a n (by omega) n0 n1) (L rfl) t2 ?_)))
   refine zn [(2,_),(4,_),(5,_),(11,_),(12,_),(13,_)] [(4,_),(5,_),(11,_),(12,_)] t6 t4 (exr (lp4 ag26 sz26 (L rfl) rfl rfl (cK hG hX cl31 hN (qfloor_says a qa9) (L rfl) t1 (zn [(2,_),(4,_),(5,_),(11,_),(12,_),(13,_)] [(4,_),(5,_),(11,_),(12,_)] t6 t4 (exr (mV (L rfl) rfl (cK hG hX cl42 hN (com_all10 l hl8 hq) (L rfl) t1 (zn [(2,_),(4,_),(5,_),(11,_),(12,_),(13,_)] [(4,_),(5,_),(11,_),(12,_)] t6 t4 (exr (lp4 ag26 sz26 (L rfl) rfl rfl (lp4 ag26 sz26 (L rfl) rfl rfl ?_)))))))))))
   refine cK hG hX cl46 hN (simp_says a b 10 (by omega) (by omega) (by decide)) (L rfl) t2 ?_
   refine zn [(2,_),(4,_),(5,_),(11,_),(12,_),(13,_)] [(4,_),(5,_),(11,_),(12,_)] t6 t4 (exr (lp4 ag26 sz26 (L rfl) rfl rfl (cK hG hX cl52 hN (qprint_says a (by omega)) (L rfl) t1 ?_)))
   refine zn [(2,_),(4,_),(5,_),(11,_),(12,_),(13,_)] [(4,_),(5,_),(11,_),(12,_)] t6 t4 (exr (cK hG hX cl10 hN sane_says (L rfl) t0 (mV (L rfl) rfl (swg (g:=112) rfl rfl (c_lp ag26 sz26 (by rfl) (by exact al4) rfl (L rfl)) rfl t1 t1 ?_))))
   refine swg (g:=112) rfl rfl (c_lp ag26 sz26 (by rfl) (by exact al4) rfl (L rfl)) rfl t1 t1 ?_
   refine swg (g:=112) rfl rfl (c_c hG hX cl56 rfl hN (k_stays sma) (L rfl)) rfl t2 t0 (sw (c_pt rfl (L rfl)) t2 t0 (mV (L rfl) rfl (swg (g:=117) rfl rfl (c_lp ag26 sz26 (by rfl) (by exact al4) rfl (L rfl)) rfl t1 t1 ?_)))
   refine swg (g:=117) rfl rfl (c_lp ag26 sz26 (by rfl) (by exact al4) rfl (L rfl)) rfl t1 t1 ?_
   refine swg (g:=117) rfl rfl (c_c hG hX cl56 rfl hN (k_stays smb) (L rfl)) rfl t2 t0 (sw (c_pt rfl (L rfl)) t2 t0 (mV (L rfl) rfl (gV (g:=122) rfl rfl (L rfl) rfl rfl (gV (g:=122) rfl rfl (L rfl) rfl rfl (swg (g:=122) rfl rfl (c_c hG hX cl57 rfl hN (ss (by omega)) (L rfl)) rfl t2 t0 ?_)))))
   refine sw (c_pt rfl (L rfl)) t2 t0 (aV (L rfl) rfl (zn [(8,_)] [] t1 trivial (ex_ret ?_)))
   refine ⟨.inr rfl,ResVs.cast (.cons (.tmp rfl) .nil) ?_⟩
   rfl
end Go.Proofs.YtcifhkfpmhifaaaGreatDoor.N
