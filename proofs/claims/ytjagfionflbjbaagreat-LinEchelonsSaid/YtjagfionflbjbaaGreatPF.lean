/- Part F of the proof: lemmas for the walks of the given functions. No statement of its own. -/
import Derived.Test.YtjagfionflbjbaaGreatPE
set_option linter.unusedVariables false
set_option linter.unusedSimpArgs false
set_option linter.deprecated false
set_option maxRecDepth 100000
set_option maxHeartbeats 4000000
namespace Go.Proofs.YtjagfionflbjbaaGreat.N
open Go Go.Proofs.YtjagfionflbjbaaGreat.SH Go.Proofs.YtjagfionflbjbaaGreat.NumA
open Go.Proofs.Tryz renaming call11→cl11,call12→cl12,call13→cl13,call14→cl14,call15→cl15,call16→cl16,call17→cl17,call18→cl18,call19→cl19,call20→cl20,call21→cl21,call22→cl22,isAgg24→ag24,isAgg3→ag3,isAgg40→ag40,isAgg47→ag47,sizeOf24→sz24,sizeOf3→sz3,sizeOf40→sz40,sizeOf47→sz47,underlying22→un22,underlying24→un24,underlying27→un27,underlying40→un40,zeroValue24→zv24
theorem h1s {c A B:Nat}{L:List (List Rat)}{r:List Rat}(hL:RL c (lpr L))(hr:r.length=c)(hA:∀ j,qw (r.getD j 0)≤A)(hA1:1≤A)(hB:MB B L)(hB1:1≤B):∀ k,k≤L.length→(∀ j,qw ((W7 (L.take k) r).getD j 0)≤A+k*(A+B+2))∧∀ t,k≤t→t<L.length→(W7 (L.take k) r).getD (D3 (L.getD t [])) 0=r.getD (D3 (L.getD t [])) 0
 | 0,_=>⟨fun j=>by rw [List.take_zero]; show qw (r.getD j 0)≤_; have:=hA j; omega,fun t _ _=>by rw [List.take_zero]; rfl⟩
 | k+1,h=>by
  obtain ⟨h1,h2⟩:=h1s hL hr hA hA1 hB hB1 k oM
  have hk:k<L.length:=h
  have hlen:=K0z (fun q hq=>hL.len (D3 q,q) (s7.2 ⟨hq,rfl⟩)) hr k
  have hqk:=hL.len (D3 (L.getD k []),L.getD k []) (s7.2 ⟨gDL hk,rfl⟩)
  have hll:(L.getD k []).length=(W7 (L.take k) r).length:=by rw [hlen]; exact hqk
  have hq:∀ j,qw ((L.getD k []).getD j 0)≤B:=fun j=>by
   by_cases hj:j<(L.getD k []).length
   ·exact hB _ (gDL hk) _ (Y3 hj)
   ·rw [f0,List.getElem?_eq_none oM]; show qw 0≤B; rw [g0b]; exact hB1
  refine ⟨fun j=>?_,fun t ht htl=>?_⟩
  ·rw [v0s hk,K7 hll,h2 k (Nat.le_refl _) hk]
   have a1:=y1q ((W7 (L.take k) r).getD j 0) (r.getD (D3 (L.getD k [])) 0*(L.getD k []).getD j 0)
   have a2:=M8 (r.getD (D3 (L.getD k [])) 0) ((L.getD k []).getD j 0)
   have a3:=h1 j
   have a4:=hA (D3 (L.getD k []))
   have a5:=hq j
   rw [Nat.add_mul]; omega
  ·have hne:D3 (L.getD t [])≠D3 (L.getD k []):=by
    have ha:=hL.asc
    rw [lpr,List.pairwise_map,List.pairwise_iff_getElem] at ha
    have:=ha k t hk htl oM
    rw [f0,f0,J1 hk,J1 htl]
    simp only [Option.getD_some] at this ⊢; omega
   have hz:(L.getD k []).getD (D3 (L.getD t [])) 0=0:=hL.oth (D3 (L.getD t []),L.getD t []) (s7.2 ⟨gDL htl,rfl⟩) (D3 (L.getD k []),L.getD k []) (s7.2 ⟨gDL hk,rfl⟩) hne
   rw [v0s hk,K7 hll,hz,h2 t oM htl]; grind
theorem J1y {v:List Rat}{j:Nat}(hj:j<v.length):v[j]=v.getD j 0:=by simp [f0,hj]
theorem j1r {B:Nat}{M:List (List Rat)}(h:MB B M)(i:Nat):MB B (M.take i):=fun r hr=>h r (List.mem_of_mem_take hr)
theorem V1q {c:Nat}{M:List (List Rat)}(hl:∀ r∈M,r.length=c)(hB:MB 6 M)(hn:M.length≤14)(hc:c≤15):RE c BB 130000000 M:=by
 have key:∀ i,i≤M.length→∀ X,g0n (192*(i*c+0)) i≤X→MB (X / 32+1) (i5 (M.take i)):=fun i hi X hX=>by
  have rc:RC i c (M.take i):=⟨by rw [J0]; omega,fun r hr=>hl r (List.mem_of_mem_take hr)⟩
  have hC:=M1v (l:=[]) rc (j1r hB i) sM fun _ _=>.inl (h1w (n:=i))
  have h1:=(K1n ((j1y rc m0y hC (Nat.le_refl c) (Nat.le_refl i)).mono hX)).1
  rw [(K0f rc (m0y (n:=i))).1]
  exact j1r h1 _
 have mono:∀ {X Y n N:Nat},X≤Y→n≤N→g0n X n≤g0n Y N:=fun {X Y n N} h hn=>by
  refine Nat.le_trans (v0p hn) ?_
  unfold g0n
  have:=Nat.mul_le_mul_left (2 ^ N) (show X+1≤Y+1 by omega)
  omega
 refine ⟨hl,by omega,by omega,fun i hi=>?_,fun i hi k a ha=>?_,by decide⟩
 ·refine (key i hi 700000000 (Nat.le_trans (mono (Y:=192*210) (N:=14) ?_ oM) (by decide +kernel))).mono dC
  have:=Nat.mul_le_mul (show i≤14 by omega) hc; omega
 ·have hb:=(key i oM 307000000 (Nat.le_trans (mono (Y:=192*195) (N:=13) (by have:=Nat.mul_le_mul (show i≤13 by omega) hc; omega) oM) (by decide +kernel))).mono (show 307000000 / 32+1≤9600000 by decide)
  have hrl:=(h0h (c:=c) (m:=M.take i) fun r hr=>hl r (List.mem_of_mem_take hr)).1
  have hlen:=f0x (M.take i)
  rw [J0] at hlen
  obtain ⟨L,hL⟩:∃ L,L=i5 (M.take i):=⟨_,rfl⟩
  rw [← hL] at ha hb hrl hlen
  obtain ⟨j,hj,rfl⟩:=List.getElem_of_mem ha
  have hA:∀ j,qw ((M.getD i []).getD j 0)≤6:=fun j=>by
   by_cases hj:j<(M.getD i []).length
   ·exact hB _ (gDL hi) _ (Y3 hj)
   ·rw [f0,List.getElem?_eq_none oM]; show qw 0≤6; rw [g0b]; decide
  have e:(W7 (L.take k) (M.getD i []))[j]=(W7 (L.take k) (M.getD i [])).getD j 0:=J1y hj
  rw [e]
  have hkk:L.take k=L.take (min k L.length):=by rw [List.take_eq_take_iff]; omega
  rw [hkk]
  have h1:=(h1s hrl (hl _ (gDL hi)) hA dC hb dC (min k L.length) oM).1 j
  have h2:min k L.length*(6+9600000+2)≤13*(6+9600000+2):=V0 _ oM
  omega
theorem H0q (u v:List Nat)(hu:u.length<1000000000):l3 E 18 [pIs u,pIs v] (bZ (decide (u=v))):=by
 refine D2 (xs:=[bZ (decide (u=v))]) Tryz.func18 rfl Tryz.ntmps18 Tryz.results18 sM fun F hG hX0 hnt hdf P0=>?_
 obtain ⟨L,hX,hN⟩:=pro hnt hX0 hG
 refine exr (aV L rfl (zn [(0,_),(1,_)] [] t2 trivial (R1 (exr (mV L rfl (sw (U2 un27 L) t1 t0 (mV L rfl (sw (U2 un27 L) t1 t0 (sw (c_n L) t2 t0 (zn [(0,_),(1,_),(10,_)] [] t3 trivial ?_))))))))))
 refine i2 rfl (fun hc=>?_) (fun hc=>?_)
 ·have hc:=dnt hc
  refine exr (aV L rfl (zn [(4,_)] [] t1 trivial (X1 ?_)))
  refine Q0 (.tmp rfl) ?_
  rw [decide_eq_false (fun h=>hc (by rw [h]))]
 ·have hc:=dnf hc
  have hl:u.length=v.length:=by omega
  refine U1 (xq ?_)
  refine R1 (exr (aV L rfl (zn [(0,_),(1,_),(5,_)] [] t3 trivial (V1 ?_))))
  refine exl (α:=Nat) (fun k=>[(5,vi (k:Int))]) (fun k=>[]) (fun k=>k≤u.length∧∀ i,i<k→u.getD i 0=v.getD i 0) (fun k=>u.length - k) (0) (sl:=[(0,_),(1,_)]) (hb:=[]) ?_ ⟨oR,rfl,rfl,trivial⟩ t0 ?_
  ·exact ⟨Nat.zero_le _,fun i h=>absurd h (Nat.not_lt_zero i)⟩
  intro k hk
  obtain ⟨hk,hw⟩:=hk
  refine R1 (exr (mV L rfl (mV L rfl (sw (U2 un27 L) t1 t0 (sw (W3 L) t2 t0 (zn [(0,_),(1,_),(5,_),(14,_)] [] t4 trivial ?_))))))
  refine i2 rfl (fun hc=>?_) (fun hc=>?_)
  ·have hc:=dt hc
   have hk2:k<u.length:=by omega
   have hk3:k<v.length:=by omega
   refine U1 (xq ?_)
   refine R1 (V1 (exd rF ?_))
   refine mV L rfl (mV L rfl (sw (ixJ un27 sz3 (j:=k) rO oM sM L) t2 t0 ?_))
   refine sw (d4 ag3 (H0z hk2) L) t1 t0 (mV L rfl (mV L rfl (sw (ixJ un27 sz3 (j:=k) rO oM sM L) t2 t0 ?_)))
   refine sw (d4 ag3 (H0z hk3) L) t1 t0 (sw (c_n L) t2 t0 ?_)
   refine O1 ⟨Z4 [⟨[0],[],[17],[]⟩,⟨[5],[],[18],[]⟩,⟨[17,18],[],[19],[]⟩,⟨[19],[],[20],[]⟩,⟨[1],[],[21],[]⟩,⟨[5],[],[22],[]⟩,⟨[21,22],[],[23],[]⟩,⟨[23],[],[24],[]⟩,⟨[20,24],[],[25],[]⟩] rF rF dC,[(0,_),(1,_),(5,_),(25,_)],[],t4,trivial,?_⟩
   refine i2 rfl (fun he=>?_) (fun he=>?_)
   ·have he:=dnt he
    refine exr (aV L rfl (zn [(4,_)] [] t1 trivial (X1 ?_)))
    refine Q0 (.tmp rfl) ?_
    rw [decide_eq_false (fun h=>he (by rw [h]))]
   ·have he:=dnf he
    refine U1 (xq ?_)
    refine s3 (mV L rfl (sw (F3 L (w64 oM oM)) t2 t0 (aV L rfl (O1 ?_))))
    exact ⟨k+1,⟨by omega,B0c hw oM⟩,by omega,j3 ⟨oR,rfl,rfl,trivial⟩ trivial⟩
  ·have hc:=df hc
   refine I2 (xq ?_)
   refine exr (aV L rfl (zn [(4,_)] [] t1 trivial (X1 ?_)))
   refine Q0 (.tmp rfl) ?_
   rw [decide_eq_true (v0y hl (fun i hi=>hw i oM))]
theorem H0c {pv:List Nat}{g h:Nat→Rat}{x:List Rat}:∀ {k:Nat},(∀ i,i<k→g i=h i)→h0k pv g x k=h0k pv h x k
 | 0,_=>rfl
 | k+1,e=>by rw [L7,L7,H0c fun i hi=>e i oM,e k oM]
theorem V0f {pv:List Nat}{g:Nat→Rat}{x:List Rat}{a:Rat}:∀ {k:Nat},a∈h0k pv g x k→a∈x∨∃ i,i<k∧a=g i
 | 0,h=>.inl h
 | k+1,h=>by
  rw [L7] at h
  rcases List.mem_or_eq_of_mem_set h with h | h
  ·rcases V0f h with h | ⟨i,hi,e⟩
   ·exact .inl h
   ·exact .inr ⟨i,by omega,e⟩
  ·exact .inr ⟨k,by omega,h⟩
theorem v1b {m:List (List Rat)}{k i j:Nat}(h:i<k):ent (m.take k) i j=ent m i j:=by
 simp only [ent,f0,List.getElem?_take,if_pos h]
theorem K1j {u v:List Rat}(h:u.length=v.length):B9 u v=dtl u v:=by rw [J1m h,dtl,g0y]
theorem P1c {B i j:Nat}{M:List (List Rat)}(h:MB B M)(h1:1≤B):qw (ent M i j)≤B:=by
 rcases p0d (m:=M) (i:=i) (j:=j) with e | ⟨r,hr,ha⟩
 ·rw [e,g0b]; exact h1
 ·exact h r hr _ ha
theorem K1g {c B:Nat}{pv:List Nat}{m:List (List Rat)}(h:MB B m)(h1:1≤B):MB B (w0b c pv m):=by
 intro r hr a ha
 obtain ⟨f,_,rfl⟩:=G0.1 hr
 rcases V0f ha with ha | ⟨i,_,rfl⟩
 ·rcases List.mem_or_eq_of_mem_set ha with h | h
  ·rw [List.eq_of_mem_replicate h,g0b]; exact h1
  ·rw [h,G0c]; exact h1
 ·rw [q0s]; exact P1c h h1
theorem H0x (c:Int)(m:List (List RQ))(hw:WdM m):l3 E 3 [pMR c m] (bZ true):=by
 refine D2 (xs:=[bZ true]) Tryz.func3 rfl Tryz.ntmps3 Tryz.results3 sM fun F hG hX0 hnt hdf P0=>?_
 obtain ⟨L,hX,hN⟩:=pro hnt hX0 hG
 refine exr (swb (U3 (k:=1) (n:=2) pa2 rfl rfl (P0 _ rfl) L) t1 t0 ⟨rfl,rfl⟩ (aV L rfl (zn [(1,_)] [(1,_)] t1 t1 (R1 (exr (lp2 ag24 sz24 L rfl rfl (cK hG hX cl11 hN (g1j 14 c m dC) L t2 (sw (v4 L) t1 t0 (zn [(1,_),(15,_)] [(1,_)] t2 t1 ?_)))))))))
 refine i2 rfl (fun hc=>?_) (fun hc=>?_)
 ·refine exr (cK hG hX cl12 hN q0z L t0 (aV L rfl (zn [(2,_)] [] t1 trivial (X1 ?_))))
  refine Q0 (.tmp rfl) ?_
  rfl
 ·have hc:J8 14 c m=true:=by simpa using hc
  have hm:=M0q dC hw hc
  rcases Bool.eq_false_or_eq_true (isM c m) with hi | hi
  ·obtain ⟨k,M,rfl,rfl,hM,hk,hl,hB⟩:=G1a dC hw hc hi
   have hri:=d1d hM hB dC
   rw [j0s,O0]
   have hE:=D1h hM hB rfl hl hk
   have hB':=hB.mono (show 6≤BB by decide)
   have hRE:=V1q hM.len hB hl oM
   have h1:=g0m M.length k BB DD M hM hB' rfl hE
   have h2:=w0r M.length k BB DD M hM hB' rfl hE
   have h3:=m0c k BB 130000000 M hRE
   have h4:=Q0b k BB 130000000 M hRE
   obtain ⟨e1,e2⟩:=K0f hM.rc (m0y (n:=M.length))
   rw [← e1,← e2] at h1 h2
   obtain ⟨g1,g2,g3,g4⟩:=G6 hM.rc (m0y (n:=M.length)) k (Nat.le_refl _)
   have hKz:∀ f,f∈Y6 k ((i5 M).map D3)→∀ r∈M,dtl r (q8 k ((i5 M).map D3) (i5 M) f)=0:=fun f hf r hr=>by
    have hf2:=List.mem_filter.1 hf
    have hf3:f<k:=List.mem_range.1 hf2.1
    have hf4:f ∉ (ech M (nob M.length) k).pv:=by rw [← e2]; simpa using hf2.2
    have:=F1h hM.rc (m0y (n:=M.length)) hf3 hf4 r hr
    rw [← this,e2]
    congr 1
    exact H0c fun i hi=>by rw [e1,v1b hi]
   have hfl:=n1z g3.asc g3.lt
   rw [← e2] at hfl
   have hRb:MB BB (i5 M):=by have:=hRE.bd M.length (Nat.le_refl _); rwa [I0] at this
   have hRl:=(hRE.rows M.length).1
   rw [I0] at hRl
   have hRn:=f0x M
   obtain ⟨R,hR⟩:∃ R,R=i5 M:=⟨_,rfl⟩
   rw [← hR] at h1 h2 h3 h4 hKz hfl hRb hRl hRn
   obtain ⟨K,hK⟩:∃ K,K=w0b k (R.map D3) R:=⟨_,rfl⟩
   have hKb:MB BB K:=by rw [hK]; exact K1g hRb dC
   have hKl:∀ r∈K,r.length=k:=fun r hr=>by
    rw [hK] at hr
    obtain ⟨f,_,rfl⟩:=G0.1 hr
    exact f0c
   have hKn:K.length+(R.map D3).length=k:=by rw [hK,w0b,O0]; exact hfl
   have hKd:∀ x∈K,∀ r∈M,B9 r x=0:=fun x hx r hr=>by
    rw [K1j (by rw [hM.len r hr,hKl x hx])]
    rw [hK] at hx
    obtain ⟨f,hf,rfl⟩:=G0.1 hx
    exact hKz f hf r hr
   rw [← hK] at h2 h4
   refine U1 (xq ?_)
   refine exr (lp2 ag24 sz24 L rfl rfl (cK hG hX cl13 hN h1 L t1 (mV L rfl (sw (R3 rfl L) t1 t0 (sw (R3 rfl L) t1 t0 (sw (R3 rfl L) t1 t0 (swb (O3 (k:=3) (n:=2) zv24 (.cons rfl (.cons rfl .nil)) rfl (P0 _ rfl) L) t0 t0 ⟨rfl,rfl⟩ (sb (Y2 sz24 rF pa2 rfl pu2) t2 t1 ?_))))))))
   refine aV L rfl (aV L rfl (zn [(1,_),(3,_),(4,_),(5,_)] [(1,_),(3,_)] t4 t2 (exr (lp2 ag24 sz24 L rfl rfl (cK hG hX cl14 hN h2 L t1 (mV L rfl (sw (R3 rfl L) t1 t0 (sw (R3 rfl L) t1 t0 (aV L rfl (aV L rfl (zn [(1,_),(3,_),(4,_),(5,_),(6,_),(7,_)] [(1,_),(3,_)] t6 t2 ?_)))))))))))
   refine R1 (exr (lp2 ag24 sz24 L rfl rfl (cK hG hX cl15 hN hri L t1 (sw (v4 L) t1 t0 (zn [(1,_),(3,_),(4,_),(5,_),(6,_),(7,_),(30,_)] [(1,_),(3,_)] t7 t2 (j4 rfl rfl ?_))))))
   refine U1 (xq ?_)
   refine exr (lp2 ag24 sz24 L rfl rfl (cK hG hX cl16 hN h3 L t1 (mV L rfl (sw (R3 rfl L) t1 t0 (sw (R3 rfl L) t1 t0 (swb (O3 (k:=8) (n:=2) zv24 (.cons rfl (.cons rfl .nil)) rfl (P0 _ rfl) L) t0 t0 ⟨rfl,rfl⟩ (sb (Y2 sz24 rF pa2 rfl pu2) t2 t1 ?_)))))))
   refine aV L rfl (zn [(1,_),(3,_),(4,_),(5,_),(6,_),(7,_),(8,_),(9,_)] [(1,_),(3,_),(8,_)] t8 t3 (R1 (exr (mV L rfl (sw (c_n L) t2 t0 (mV L rfl (gV (g:=47) rfl rfl L rfl rfl (swg (g:=47) rfl rfl (c_n L) rfl t2 t0 (sw (n4 rfl L) t2 t0 (mV L rfl (swg (g:=51) rfl rfl (y6 ag24 sz24 rF (by exact al2) rfl L) rfl t1 t1 ?_)))))))))))
   refine swg (g:=51) rfl rfl (y6 ag24 sz24 rF (by exact al2) rfl L) rfl t1 t1 ?_
   refine swg (g:=51) rfl rfl (c_c hG hX cl17 rfl hN (W0j oM (fun r hr=>by rw [hRl r hr]; omega) hRb dC) L) rfl t2 t0 ?_
   refine swg (g:=51) rfl rfl (v4 L) rfl t1 t0 (sw (n4 rfl L) t2 t0 (mV L rfl (gV (g:=57) rfl rfl L rfl rfl (gV (g:=57) rfl rfl L rfl rfl (swg (g:=57) rfl rfl (c_c hG hX cl18 rfl hN (H0q _ _ (by rw [O0]; omega)) L) rfl t2 t0 ?_)))))
   refine swg (g:=57) rfl rfl (v4 L) rfl t1 t0 (sw (n4 rfl L) t2 t0 (mV L rfl (gV (g:=63) rfl (by rw [decide_eq_true rfl] <;> rfl) L rfl rfl ?_)))
   refine swg (g:=63) rfl (by rw [decide_eq_true rfl] <;> rfl) (y6 ag24 sz24 rF (by exact al2) rfl L) rfl t1 t1 ?_
   refine swg (g:=63) rfl (by rw [decide_eq_true rfl] <;> rfl) (c_c hG hX cl20 rfl hN h4 L) rfl t1 t0 ?_
   refine swg (g:=63) rfl (by rw [decide_eq_true rfl] <;> rfl) (c_c hG hX cl19 rfl hN (J0x oM (fun r hr=>by rw [hKl r hr]; omega) hKb dC) L) rfl t2 t0 ?_
   refine swg (g:=63) rfl (by rw [decide_eq_true rfl] <;> rfl) (v4 L) rfl t1 t0 ?_
   refine sw (n4 (by rw [decide_eq_true rfl] <;> rfl) L) t2 t0 ?_
   refine zn [(1,_),(4,_),(6,_),(69,_)] [(1,_)] t4 t1 (j4 rfl rfl ?_)
   refine U1 (xq ?_)
   refine R1 (exr (aV L rfl (zn [(1,_),(4,_),(6,_),(10,_)] [(1,_)] t4 t1 (V1 ?_))))
   refine exl (α:=Nat) (fun i=>[(10,vi (i:Int))]) (fun i=>[]) (fun i=>i≤K.length) (fun i=>K.length - i) (0) (sl:=[(1,_),(4,_),(6,_)]) (hb:=[(1,_)]) ?_ ⟨oR,rfl,rfl,rfl,trivial⟩ t1 ?_
   ·exact Nat.zero_le _
   intro i hi
   refine R1 (exr (mV L rfl (mV L rfl (sw (U2 un22 L) t1 t0 (sw (W3 L) t2 t0 (zn [(1,_),(4,_),(6,_),(10,_),(73,_)] [(1,_)] t5 t1 ?_))))))
   refine i2 rfl (fun he=>?_) (fun he=>?_)
   ·have he:=dt he
    have hi2:i<K.length:=by omega
    have hxl:=hKl _ (gDL hi2)
    have hxb:=hKb _ (gDL hi2)
    have hxz:=hKd _ (gDL hi2)
    have hmul:=V0 (6+BB+1) (show k≤14 by omega)
    refine U1 (xq ?_)
    refine R1 (V1 (exd rF ?_))
    refine lp2 ag24 sz24 L rfl rfl (mV L rfl (mV L rfl (sw (ixJ un22 sz40 (j:=i) rO oM sM L) t2 t0 ?_)))
    refine sw (d4 ag40 (v7 hi2) L) t1 t0 (cK hG hX cl21 hN (Y0p k 6 BB M (K.getD i []) oM hM.len hxl oM hB hxb dC dC (Nat.lt_of_le_of_lt (Nat.succ_le_succ hmul) dC)) L t2 (aV L rfl ?_))
    refine O1 ⟨Z4 [⟨[1],[1],[76],[]⟩,⟨[6],[],[77],[]⟩,⟨[10],[],[78],[]⟩,⟨[77,78],[],[79],[]⟩,⟨[79],[],[80],[]⟩,⟨[76,80],[],[81],[]⟩,⟨[81],[],[11],[]⟩] rF rF dC,[(1,_),(4,_),(6,_),(10,_),(11,_)],[(1,_)],t5,t1,?_⟩
    refine exr (aV L rfl (zn [(1,_),(4,_),(6,_),(10,_),(11,_),(12,_)] [(1,_)] t6 t1 (V1 ?_)))
    refine exl (α:=Nat) (fun j=>[(12,vi (j:Int))]) (fun j=>[]) (fun j=>j≤M.length) (fun j=>M.length - j) (0) (sl:=[(1,_),(4,_),(6,_),(10,_),(11,_)]) (hb:=[(1,_)]) ?_ ⟨oR,rfl,rfl,rfl,rfl,rfl,trivial⟩ t1 ?_
    ·exact Nat.zero_le _
    intro j hj
    refine R1 (exr (mV L rfl (mV L rfl (sw (U2 un40 L) t1 t0 (sw (W3 L) t2 t0 (zn [(1,_),(4,_),(6,_),(10,_),(11,_),(12,_),(85,_)] [(1,_)] t7 t1 ?_))))))
    refine i2 rfl (fun hz=>?_) (fun hz=>?_)
    ·have hz:=dt hz
     simp only [D0p] at hz
     have hjM:j<M.length:=by omega
     have hja:j<(apQ M (K.getD i [])).length:=by rw [D0p]; exact hjM
     have hld:=W6 hja
     have hval:(apQ M (K.getD i [])).getD j 0=0:=by
      have:(apQ M (K.getD i [])).getD j 0=B9 (M.getD j []) (K.getD i []):=by simp [apQ,f0,hjM]
      rw [this]; exact hxz _ (gDL hjM)
     rw [hval] at hld
     refine U1 (xq ?_)
     refine R1 (V1 (exr (mV L rfl (mV L rfl (sw (y2 un40 sz47 oM oM sM dC L) t2 t0 ?_)))))
     refine sw (V6 ag47 sz47 hld rfl L) t1 t0 (cK hG hX cl22 hN (g1n 0) L t1 (sw (v4 L) t1 t0 (zn [(1,_),(4,_),(6,_),(10,_),(11,_),(12,_),(93,_)] [(1,_)] t7 t1 (j4 rfl rfl ?_))))
     refine U1 (xq ?_)
     refine s3 (mV L rfl (sw (F3 L (w64 oM oM)) t2 t0 (aV L rfl (O1 ?_))))
     exact ⟨j+1,oM,by omega,j3 ⟨oR,rfl,rfl,rfl,rfl,rfl,trivial⟩ t1⟩
    ·refine I2 (xq ?_)
     refine s3 (mV L rfl (sw (F3 L (w64 oM oM)) t2 t0 (aV L rfl (O1 ?_))))
     exact ⟨i+1,oM,by omega,j3 ⟨oR,rfl,rfl,rfl,trivial⟩ t1⟩
   ·have he:=df he
    refine I2 (xq ?_)
    refine exr (cK hG hX cl12 hN q0z L t0 (mV L rfl (gV (g:=95) rfl rfl L rfl rfl (swg (g:=95) rfl rfl (U2 un22 L) rfl t1 t0 (gV (g:=95) rfl rfl L rfl rfl (swg (g:=95) rfl rfl (U2 un27 L) rfl t1 t0 (swg (g:=95) rfl rfl (F3 L (w64 oM oM)) rfl t2 t0 (swg (g:=95) rfl rfl (Z1 un24 rfl sz3 dC rX L) rfl t1 t1 ?_))))))))
    refine swg (g:=95) rfl rfl (Y1 ag3 rF rF L) rfl t1 t1 ?_
    refine swg (g:=95) rfl rfl (c_e L) rfl t2 t0 (sw (Y4 rfl L) t2 t0 (aV L rfl (zn [(2,_)] [] t1 trivial (X1 ?_))))
    refine Q0 (.tmp rfl) ?_
    rw [decide_eq_true oM]
  ·have h2:=q1v c m hm hi
   refine U1 (xq ?_)
   refine exr (lp2 ag24 sz24 L rfl rfl (cK hG hX cl13 hN (D0s c m hm hi) L t1 (mV L rfl (sw (R3 rfl L) t1 t0 (sw (R3 rfl L) t1 t0 (sw (R3 rfl L) t1 t0 (swb (O3 (k:=3) (n:=2) zv24 (.cons rfl (.cons rfl .nil)) rfl (P0 _ rfl) L) t0 t0 ⟨rfl,rfl⟩ (sb (Y2 sz24 rF pa2 rfl pu2) t2 t1 ?_))))))))
   refine aV L rfl (aV L rfl (zn [(1,_),(3,_),(4,_),(5,_)] [(1,_),(3,_)] t4 t2 (exr (lp2 ag24 sz24 L rfl rfl (cK hG hX cl14 hN h2 L t1 (mV L rfl (sw (R3 rfl L) t1 t0 (sw (R3 rfl L) t1 t0 (aV L rfl (aV L rfl (zn [(1,_),(3,_),(4,_),(5,_),(6,_),(7,_)] [(1,_),(3,_)] t6 t2 ?_)))))))))))
   refine R1 (exr (lp2 ag24 sz24 L rfl rfl (cK hG hX cl15 hN (K0k c m hm) L t1 (sw (v4 L) t1 t0 (zn [(1,_),(3,_),(4,_),(5,_),(6,_),(7,_),(30,_)] [(1,_),(3,_)] t7 t2 (b0q rfl (by rw [hi]; rfl) ?_))))))
   refine exr (cK hG hX cl12 hN q0z L t0 (mV L rfl (gV (g:=32) rfl rfl L rfl rfl (swg (g:=32) rfl rfl (c_e L) rfl t2 t0 (sw (Y4 rfl L) t2 t0 (mV L rfl (gV (g:=36) rfl rfl L rfl rfl (swg (g:=36) rfl rfl (c_e L) rfl t2 t0 (sw (Y4 rfl L) t2 t0 (aV L rfl (zn [(2,_)] [] t1 trivial ?_)))))))))))
   refine X1 ?_
   refine Q0 (.tmp rfl) ?_
   rfl
end Go.Proofs.YtjagfionflbjbaaGreat.N
