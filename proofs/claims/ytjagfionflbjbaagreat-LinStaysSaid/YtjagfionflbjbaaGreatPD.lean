/- Part D of the proof: lemmas for the walks of the given functions. No statement of its own. -/
import Derived.Laws.Cover3
import Derived.RecoverIn
import Derived.LaidEql
import Derived.Test.YtjagfionflbjbaaGreatPC
set_option linter.unusedVariables false
set_option linter.unusedSimpArgs false
set_option linter.deprecated false
set_option maxRecDepth 100000
set_option maxHeartbeats 4000000
namespace Go.Proofs.YtjagfionflbjbaaGreat.N
open Go Go.Proofs.YtjagfionflbjbaaGreat.SH Go.Proofs.YtjagfionflbjbaaGreat.NumA
open Go.Proofs.Tryz renaming call100→cl100,call101→cl101,call106→cl106,call107→cl107,call108→cl108,call112→cl112,call127→cl127,call40→cl40,call52→cl52,call55→cl55,call64→cl64,call65→cl65,call67→cl67,call68→cl68,call70→cl70,call85→cl85,isAgg22→ag22,isAgg24→ag24,isAgg3→ag3,isAgg40→ag40,isAgg47→ag47,sizeOf22→sz22,sizeOf24→sz24,sizeOf3→sz3,sizeOf40→sz40,sizeOf47→sz47,typeInfo40→ti40,typeInfo47→ti47,underlying22→un22,underlying24→un24,underlying40→un40,underlying77→un77,zeroValue24→zv24,zeroValue47→zv47
theorem f1x (s:Nat)(m:List (List Rat))(i c:Nat)(h2:s<9)(hi:i<m.length)(hc:c<(m.getD i []).length):I4 E (fun _=>true) 91 [.ref (s+1001) 0 m.length m.length,.p (vZ i),.p (vZ c)] (I2 s m) (I2 s m) (.p (pQ ((m.getD i []).getD c 0))):=by
 refine n4 (xs:=[pQ ((m.getD i []).getD c 0)]) Tryz.func91 rfl Tryz.ntmps91 Tryz.results91 sM fun F G=>?_
 have L:=@lti _ _ G.nt
 have hG:=G.g
 have hX:=G.x
 have hN:=W5 hG
 have P0:∀ k,Nat.blt k 1000=true→F.pin k=none:=fun k hk=>G.p0 k ((i2 h2 m).low k hk)
 refine exr (swb (T3 (k:=6) (n:=4) zv47 (.cons rfl (.cons rfl (.cons rfl (.cons rfl .nil)))) rfl (P0 _ rfl) L) t0 t0 (frT [] (i2 h2 m) rfl rfl rfl) ?_)
 refine O1 ⟨[(0,_),(1,_),(2,_),(6,_)],(6,_) :: ((I2 s m)),t4,⟨rfl,(hbT [_] (i2 h2 m) rfl)⟩,?_⟩
 refine exr (mV L rfl (mV L rfl (sw (C6 un77 sz40 (by first | exact E2 _ _ _ | exact (E2 _ _ _).trans sM | simp [Cells.len]) (j:=i) rO oM L) t2 ⟨rdT [_] (i2 h2 m) rfl hdL,trivial⟩ ?_)))
 refine sw (Y1 ag40 (by first | exact E2 _ _ _ | exact (E2 _ _ _).trans sM) (H0c hi) L) t1 ⟨rdT [_] (i2 h2 m) rfl hdL,trivial⟩ ?_
 refine mV L rfl (sw (p0v un40 sz47 (by first | exact I3 _ | exact (I3 _).trans oM) (j:=c) rO oM L) t2 ⟨rdT [_] (i2 h2 m) rfl (rwL h2 hi),trivial⟩ ?_)
 refine sw (H1n ag47 sz47 (by first | exact I3 _ | exact (I3 _).trans oM) (V7 oM) rfl L) t1 ⟨rdT [_] (i2 h2 m) rfl (rwL h2 hi),trivial⟩ ?_
 refine sb (U2 sz47 rF pa4 rfl pu4) t2 t1 ?_
 refine O1 ⟨[(6,_)],(6,_) :: ((I2 s m)),t1,⟨rfl,(hbT [_,_] (i2 h2 m) rfl)⟩,?_⟩
 refine V1 ?_
 refine ⟨.inr rfl,U4.cast (.cons (.agg rfl rfl rfl ag47 sz47 (.cons (.cons (.cons (.cons .nil))))) .nil) ?_,(hbT [_] (i2 h2 m) rfl)⟩
 rfl
def scl (v:List Rat)(c:Rat)(k:Nat):List Rat:=(v.take k).map (· * c)++v.drop k
@[simp] theorem Y0n (v:List Rat)(c:Rat)(k:Nat):(scl v c k).length=v.length:=by simp [scl]; omega
theorem f1h {v:List Rat}{c:Rat}{k:Nat}(h:k<v.length):(scl v c k).getD k 0=v.getD k 0:=by
 simp [scl,f0,D0,G1 (Nat.le_of_lt h)]
theorem B1k {v:List Rat}{c:Rat}{k:Nat}(h:k<v.length):(scl v c k).set k ((scl v c k).getD k 0*c)=scl v c (k+1):=by
 rw [f1h h,scl,scl,List.set_append,if_neg sO]
 have e:k - (List.map (· * c) (v.take k)).length=0:=by simp; omega
 rw [e,I1,List.map_append,List.append_assoc]
 have e2:(List.drop k v).set 0 (v.getD k 0*c)=(v.getD k 0*c) :: List.drop (k+1) v:=by
  rw [List.drop_eq_getElem_cons h,List.set_cons_zero]
 have e3:List.map (· * c) v[k]?.toList=[v.getD k 0*c]:=by simp [f0,h]
 rw [e2,e3]; rfl
theorem F1x {v:List Rat}{c:Rat}:scl v c v.length=v.map (· * c):=by simp [scl]
theorem B1f {v:List Rat}{c:Rat}:scl v c 0=v:=by simp [scl]
theorem D0k {m:List (List Rat)}{i:Nat}:m.set i (m.getD i [])=m:=by
 by_cases h:i<m.length
 ·rw [f0,J1 h]; simp
 ·rw [List.set_eq_of_length_le oM]
theorem C5 {v:List Rat}{k:Nat}(h:k<v.length):v.getD k 0∈v:=by simp [f0,h]
theorem d1m (s:Nat)(m:List (List Rat))(i:Nat)(c:Rat)(h2:s<9)(hi:i<m.length)(hl:(m.getD i []).length<1000000000)(hs:∀ a∈m.getD i [],qw a<1000000000)(hc:qw c<1000000000):I4 E (fun _=>true) 96 [.ref (s+1001) 0 m.length m.length,.p (vZ i),.p (pQ c)] (I2 s m) (I2 s (m.set i ((m.getD i []).map (· * c)))) (.p (.tup [])):=by
 refine n4 (xs:=[]) Tryz.func96 rfl Tryz.ntmps96 Tryz.results96 sM fun F G=>?_
 have L:=@lti _ _ G.nt
 have hG:=G.g
 have hX:=G.x
 have hN:=W5 hG
 have P0:∀ k,Nat.blt k 1000=true→F.pin k=none:=fun k hk=>G.p0 k ((i2 h2 m).low k hk)
 refine exr (swb (R3 (k:=5) (n:=4) pa4 rfl rfl (P0 _ rfl) L) t1 t0 (frT [] (i2 h2 m) rfl rfl rfl) ?_)
 refine O1 ⟨[(0,_),(1,_),(5,_)],(5,_) :: ((I2 s m)),t3,⟨rfl,(hbT [_] (i2 h2 m) rfl)⟩,?_⟩
 refine exr (mV L rfl (mV L rfl (sw (C6 un77 sz40 (by first | exact E2 _ _ _ | exact (E2 _ _ _).trans sM | simp [Cells.len]) (j:=i) rO oM L) t2 ⟨rdT [_] (i2 h2 m) rfl hdL,trivial⟩ ?_)))
 refine sw (Y1 ag40 (by first | exact E2 _ _ _ | exact (E2 _ _ _).trans sM) (H0c hi) L) t1 ⟨rdT [_] (i2 h2 m) rfl hdL,trivial⟩ ?_
 refine sw (p0d un40 (by first | exact I3 _ | exact (I3 _).trans oM) L) t1 ⟨rdT [_] (i2 h2 m) rfl (rwL h2 hi),trivial⟩ ?_
 refine mV L rfl ?_
 refine O1 ⟨[(0,_),(1,_),(5,_),(11,_),(12,_),(13,_)],(5,_) :: ((I2 s m)),t6,⟨rfl,(hbT [_] (i2 h2 m) rfl)⟩,?_⟩
 obtain ⟨v,hv⟩:∃ v,v=m.getD i []:=⟨_,rfl⟩
 rw [← hv] at hl hs ⊢
 refine X1 ?_
 refine F0r (α:=Nat) (fun k=>[(13,vi (k:Int))]) (fun k=>[]) (fun k=>(I2 s (m.set i (scl v c k)))) (fun k=>k≤v.length) (fun k=>v.length - k) (0) (sl:=[(0,_),(1,_),(5,_),(11,_),(12,_)]) (hb:=[(5,_)]) ?_ ⟨oR,rfl,rfl,rfl,rfl,rfl,trivial⟩ ⟨rfl,(by rw [B1f,hv,D0k]; exact hbT [_] (i2 h2 m) rfl)⟩ ?_
 ·exact Nat.zero_le _
 intro k hk
 have hlen:=Y0n v c k
 refine exr (sw (d4 L) t2 t0 ?_)
 refine O1 ⟨[(0,_),(1,_),(5,_),(11,_),(12,_),(13,_),(14,_)],(5,_) :: ((I2 s (m.set i (scl v c k)))),t7,⟨rfl,(hbT [_] (i2 h2 (m.set i (scl v c k))) rfl)⟩,?_⟩
 refine R1 ?_
 refine D2 rfl (fun hc2=>?_) (fun hc2=>?_)
 ·have hc2:=dt hc2
  have hk2:k<v.length:=by omega
  refine U1 (xq ?_)
  refine R1 (X1 (exr (mV L rfl (sw (p0v un40 sz47 (by first | exact I3 _ | exact (I3 _).trans oM) (j:=k) rO oM L) t2 ⟨rdT [_] (i2 h2 (m.set i (scl v c k))) rfl (rwS h2 hi),trivial⟩ ?_))))
  refine sw (H1n ag47 sz47 (by first | exact I3 _ | exact (I3 _).trans oM) (V7 oM) rfl L) t1 ⟨rdT [_] (i2 h2 (m.set i (scl v c k))) rfl (rwS h2 hi),trivial⟩ ?_
  refine swb (T3 (k:=7) (n:=4) zv47 (.cons rfl (.cons rfl (.cons rfl (.cons rfl .nil)))) rfl (P0 _ rfl) L) t0 t0 (frT [_] (i2 h2 (m.set i (scl v c k))) rfl rfl rfl) (aV L rfl (sb (U2 sz47 rF pa4 rfl pu4) t2 t1 ?_))
  refine O1 ⟨[(0,_),(1,_),(5,_),(6,_),(7,_),(11,_),(12,_),(13,_)],(5,_) :: (7,_) :: ((I2 s (m.set i (scl v c k)))),t8,⟨rfl,rfl,(hbT [_,_,_] (i2 h2 (m.set i (scl v c k))) rfl)⟩,?_⟩
  refine m0v rF ?_
  refine mV L rfl (mV L rfl (sw (C6 un77 sz40 (by first | exact E2 _ _ _ | exact (E2 _ _ _).trans sM | simp [Cells.len]) (j:=i) rO oM L) t2 ⟨rdT [_,_] (i2 h2 (m.set i (scl v c k))) rfl hdL,trivial⟩ ?_))
  refine sw (Y1 ag40 (by first | exact E2 _ _ _ | exact (E2 _ _ _).trans sM) (b1g hi hlen) L) t1 ⟨rdT [_,_] (i2 h2 (m.set i (scl v c k))) rfl hdL,trivial⟩ ?_
  refine mV L rfl (lp4 ag47 sz47 L rfl rfl (lp4 ag47 sz47 L rfl rfl (cK hG hX cl67 hN (y8 ((scl v c k).getD k 0) c (by rw [f1h hk2]; exact hs _ (C5 hk2)) hc) L t2 ?_)))
  refine sw (p0v un40 sz47 (by first | exact I3 _ | exact (I3 _).trans oM) (j:=k) rO oM L) t2 ⟨rdT [_,_] (i2 h2 (m.set i (scl v c k))) rfl (rwS h2 hi),trivial⟩ ?_
  refine sb (F0f (n:=4) sz47 (by first | exact I3 _ | exact (I3 _).trans oM) rfl oM) t2 ⟨rdT [_,_] (i2 h2 (m.set i (scl v c k))) rfl (rwS h2 hi),trivial⟩ ?_
  refine O1 ⟨h0g [⟨[0],[],[18],[]⟩,⟨[1],[],[19],[]⟩,⟨[18,19],[1000],[20],[]⟩,⟨[20],[1000],[21],[]⟩,⟨[6],[],[22],[]⟩,⟨[7],[7],[23],[]⟩,⟨[5],[5],[24],[]⟩,⟨[23,24],[],[25],[]⟩,⟨[21,22],[1000],[26],[]⟩,⟨[26,25],[1000],[],[1000]⟩] (.cons (cf0 rfl) (.cons (cf0 rfl) (.cons (cfT rfl rfl (P8 (by first | exact B6 _ | exact E5 _ _)) rfl (fun _ h=>by cases h)) (.cons (cfT rfl rfl (P8 (by first | exact B6 _ | exact E5 _ _)) rfl (fun _ h=>by cases h)) (.cons (cf0 rfl) (.cons (cf0 rfl) (.cons (cf0 rfl) (.cons (cf0 rfl) (.cons (cfT rfl rfl (P8 (by first | exact B6 _ | exact E5 _ _)) rfl (fun _ h=>by cases h)) (.cons (cfT rfl rfl (P8 (by first | exact B6 _ | exact E5 _ _)) rfl (P8 (by first | exact B6 _ | exact E5 _ _)))  .nil)))))))))) rfl (frS [] [_,_] (i2 h2 (m.set i (scl v c k))) rfl rfl) dC,(show l4 _ _ _ _ _ from exw (sl:=[(0,_),(1,_),(5,_),(11,_),(12,_),(13,_)]) (hb:=(5,_) :: ((I2 s (m.set i (scl v c (k+1)))))) t6 ⟨rfl,(hbS [_,_] rfl h2 hi ((n0f ((scl v c k).getD k 0*c) oM).trans (by rw [B1k hk2])) sM)⟩ ?_)⟩
  refine y3 (sw (K3 L (w64 oM oM)) t2 t0 (mV L rfl (O1 ?_)))
  exact ⟨k+1,oM,by omega,E3 ⟨oR,rfl,rfl,rfl,rfl,rfl,trivial⟩ ⟨rfl,(hbT [_] (i2 h2 (m.set i (scl v c (k+1)))) rfl)⟩⟩
 ·have hc2:=df hc2
  refine L2 ?_
  refine ⟨.inl rfl,U4.cast .nil ?_,(by rw [← F1x,show v.length=k by omega]; exact hbT [_] (i2 h2 _) rfl)⟩
  rfl
def tak (v u:List Rat)(c:Rat)(k:Nat):List Rat:=(List.zipWith (fun a b=>a - c*b) v u).take k++v.drop k
theorem m0m {v u:List Rat}(c:Rat)(k:Nat)(h:u.length=v.length):(tak v u c k).length=v.length:=by simp [tak]; omega
theorem F1n {v u:List Rat}{c:Rat}{k:Nat}(h:k<v.length)(hu:u.length=v.length):(tak v u c k).getD k 0=v.getD k 0:=by
 simp only [tak,f0]
 rw [D0 sO]
 congr 1; simp; congr 1; omega
theorem V0b {v u:List Rat}{c:Rat}{k:Nat}(h:k<v.length)(hu:u.length=v.length):(tak v u c k).set k ((tak v u c k).getD k 0 - c*u.getD k 0)=tak v u c (k+1):=by
 rw [F1n h hu,tak,tak,List.set_append,if_neg sO]
 have e:k - ((List.zipWith (fun a b=>a - c*b) v u).take k).length=0:=by simp; omega
 rw [e,I1,List.append_assoc]
 have e2:(List.drop k v).set 0 (v.getD k 0 - c*u.getD k 0)=(v.getD k 0 - c*u.getD k 0) :: List.drop (k+1) v:=by
  rw [List.drop_eq_getElem_cons h,List.set_cons_zero]
 have e3:(List.zipWith (fun a b=>a - c*b) v u)[k]?.toList=[v.getD k 0 - c*u.getD k 0]:=by
  have h2:k<u.length:=by omega
  simp [List.getElem?_zipWith,f0,h,h2]
 rw [e2,e3]; rfl
theorem v1b {v u:List Rat}{c:Rat}{k:Nat}(h:k<v.length)(hu:u.length=v.length)(h0:u.getD k 0=0):tak v u c k=tak v u c (k+1):=by
 rw [← V0b h hu,h0,Rat.mul_zero,show ∀ x:Rat,x - 0=x from fun x=>by grind]
 have hl:=m0m (v:=v) (u:=u) c k hu
 simp [f0,show k<(tak v u c k).length by omega]
theorem H1d {v u:List Rat}{c:Rat}(hu:u.length=v.length):tak v u c v.length=List.zipWith (fun a b=>a - c*b) v u:=by
 simp [tak,C0,hu]
theorem w1g {v u:List Rat}{c:Rat}:tak v u c 0=v:=by simp [tak]
theorem K1z (a:Rat):q0d a 0=0↔a=0:=by
 unfold q0d
 constructor
 ·intro h
  split at h
  ·cases h
  ·split at h
   ·cases h
   ·rename_i h1 h2; exact Rat.le_antisymm (Rat.not_lt.1 h2) (Rat.not_lt.1 h1)
 ·rintro rfl; simp [Rat.lt_irrefl]
theorem K6 (a:Rat)(ha:qw a<1000000000):Y2 E 65 [pQ a] (bZ (decide (a=0))):=by
 refine j2 (xs:=[bZ (decide (a=0))]) Tryz.func65 rfl Tryz.ntmps65 Tryz.results65 sM fun F hG hX0 hnt hdf P0=>?_
 obtain ⟨L,hX,hN⟩:=pro hnt hX0 hG
 refine exr (swb (R3 (k:=1) (n:=4) pa4 rfl rfl (P0 _ rfl) L) t1 t0 ⟨rfl,rfl⟩ (aV L rfl (zn [(1,_)] [(1,_)] t1 t1 (exr (lp4 ag47 sz47 L rfl rfl (cK hG hX cl108 hN (y0v a ha) L t1 (sw (c_e L) t2 t0 (aV L rfl (zn [(2,_)] [] t1 trivial (V1 ?_))))))))))
 refine Q0 (.tmp rfl) ?_
 rw [show decide (q0d a 0=0)=decide (a=0) from decide_eq_decide.2 (K1z a)]
theorem R6 (n:Int)(h : -9223372036854775808≤n)(h1:n<9223372036854775808):Y2 E 55 [vZ n] (pQ (n:Rat)):=by
 refine j2 (xs:=[pQ (n:Rat)]) Tryz.func55 rfl Tryz.ntmps55 Tryz.results55 sM fun F hG hX0 hnt hdf P0=>?_
 obtain ⟨L,hX,hN⟩:=pro hnt hX0 hG
 refine exr (swb (T3 (k:=2) (n:=4) zv47 (.cons rfl (.cons rfl (.cons rfl (.cons rfl .nil)))) rfl (P0 _ rfl) L) t0 t0 ⟨rfl,rfl⟩ (zn [(0,_),(2,_)] [(2,_)] t2 t1 (exr (mV L rfl (cK hG hX cl101 hN (M0n n h h1) L t1 (cK hG hX cl100 hN (w0c n) L t1 (sb (U2 sz47 rF pa4 rfl pu4) t2 t1 ?_)))))))
 refine zn [(2,_)] [(2,_)] t1 t1 (V1 ?_)
 refine Q0 (.agg rfl rfl rfl ag47 sz47 (.cons (.cons (.cons (.cons .nil))))) ?_
 rfl
@[reducible] def bQ (a:Rat):Blk:=⟨47,4,.mix [.p (.a (.bool (decide (a.num<0)))),.p (.sl (j3 a.num.natAbs).length (K4 (j3 a.num.natAbs))),.p (.a (.bool (decide ((a.den:Int)<0)))),.p (.sl (j3 (a.den:Int).natAbs).length (K4 (j3 (a.den:Int).natAbs)))]⟩
def C8 (v:List Rat):Rat:=v.foldl (· + ·) 0
theorem H0s (v:List Rat)(a:Rat):C8 (v++[a])=C8 v+a:=by simp [C8]
theorem K0j {v:List Rat}{k:Nat}(h:k<v.length):C8 (v.take (k+1))=C8 (v.take k)+v.getD k 0:=by
 rw [I1,show v[k]?.toList=[v.getD k 0] by simp [f0,h],H0s]
theorem Y0w {B:Nat}:∀ {v:List Rat},(∀ a∈v,qw a≤B)→qw (C8 v)≤v.length*(B+1)+1:=by
 intro v
 suffices h:∀ (n:Nat) (l:List Rat),l.length=n→(∀ a∈l,qw a≤B)→qw (C8 l)≤l.length*(B+1)+1 from h _ v rfl
 intro n
 induction n with
 | zero=>intro l hl _; rw [E0 hl]; simp [C8,P0b]
 | succ n ih =>
  intro l hl hB
  obtain ⟨l',a,rfl⟩:∃ l' a,l=l'++[a]:=⟨l.dropLast,l.getLast (by intro e; simp [e] at hl),(List.dropLast_concat_getLast _).symm⟩
  simp only [K1,D1,List.length_nil] at hl
  have h1:=ih l' oM (fun b hb=>hB b (by simp [hb]))
  have h2:=hB a sM
  have h3:=B1w (C8 l') a
  rw [H0s,K1,D1,List.length_nil,Nat.add_mul]
  omega
theorem w0r {B:Nat}{v:List Rat}{k:Nat}(h:∀ a∈v,qw a≤B):qw (C8 (v.take k))≤v.length*(B+1)+1:=by
 have h1:=Y0w (v:=v.take k) (B:=B) fun a ha=>h a (List.mem_of_mem_take ha)
 have h2:(v.take k).length*(B+1)≤v.length*(B+1):=V0 _ sO
 omega
theorem p0n (v:List Rat)(B:Nat)(hl:v.length<1000000000)(hB:∀ a∈v,qw a≤B)(hb:v.length*(B+1)+1<900000000):Y2 E 68 [pV v] (pQ (C8 v)):=by
 refine j2 (xs:=[pQ (C8 v)]) Tryz.func68 rfl Tryz.ntmps68 Tryz.results68 sM fun F hG hX0 hnt hdf P0=>?_
 obtain ⟨L,hX,hN⟩:=pro hnt hX0 hG
 have hBB:∀ a∈v,qw a<1000000000:=fun a ha=>by
  have h1:=hB a ha
  have h2:0<v.length:=List.length_pos_of_mem ha
  have h3:1*(B+1)≤v.length*(B+1):=V0 _ h2
  omega
 refine exr (swb (T3 (k:=2) (n:=4) zv47 (.cons rfl (.cons rfl (.cons rfl (.cons rfl .nil)))) rfl (P0 _ rfl) L) t0 t0 ⟨rfl,rfl⟩ (zn [(0,_),(2,_)] [(2,_)] t2 t1 (exr (cK hG hX cl55 hN (R6 0 dC dC) L t1 (swb (T3 (k:=3) (n:=4) zv47 (.cons rfl (.cons rfl (.cons rfl (.cons rfl .nil)))) rfl (P0 _ rfl) L) t0 t0 ⟨rfl,rfl⟩ (sb (U2 sz47 rF pa4 rfl pu4) t2 t1 ?_))))))
 refine zn [(0,_),(2,_),(3,_)] [(2,_),(3,_)] t3 t2 (R1 (exr (mV L rfl (sw (R2 un40 L) t1 t0 (mV L rfl (zn [(2,_),(3,_),(7,_),(8,_),(9,_)] [(2,_),(3,_)] t5 t2 (X1 ?_)))))))
 refine exl (α:=Nat) (fun k=>[(9,vi (k:Int))]) (fun k=>[(3,bQ (C8 (v.take k)))]) (fun k=>k≤v.length) (fun k=>v.length - k) (0) (sl:=[(2,_),(3,_),(7,_),(8,_)]) (hb:=[(2,_)]) ?_ ⟨oR,rfl,rfl,rfl,rfl,trivial⟩ t2 ?_
 ·exact Nat.zero_le _
 intro k hk
 refine exr (sw (d4 L) t2 t0 (zn [(2,_),(3,_),(7,_),(8,_),(9,_),(10,_)] [(2,_),(3,_)] t6 t2 (R1 ?_)))
 refine D2 rfl (fun hc=>?_) (fun hc=>?_)
 ·have hc:=dt hc
  have hkl:k<v.length:=by omega
  have hq:=w0r (k:=k) hB
  refine U1 (xq ?_)
  refine R1 (X1 (exr (sw (F2 un40 sz47 oM oM sM dC L) t2 t0 ?_)))
  refine sw (F7 ag47 sz47 (V7 hkl) rfl L) t1 t0 (swb (T3 (k:=5) (n:=4) zv47 (.cons rfl (.cons rfl (.cons rfl (.cons rfl .nil)))) rfl (P0 _ rfl) L) t0 t0 ⟨rfl,rfl⟩ (sb (U2 sz47 rF pa4 rfl pu4) t2 t1 ?_))
  refine zn [(2,_),(3,_),(5,_),(7,_),(8,_),(9,_)] [(2,_),(3,_),(5,_)] t6 t3 (y3 (lp4 ag47 sz47 L rfl rfl (lp4 ag47 sz47 L rfl rfl (cK hG hX cl112 hN (K0p (C8 (v.take k)) (v.getD k 0) oM (hBB _ (C5 hkl))) L t2 (sb (U2 sz47 rF pa4 rfl pu4) t2 t1 ?_)))))
  refine O1 (y3 (sw (K3 L (w64 oM oM)) t2 t0 (mV L rfl (O1 ?_))))
  exact ⟨k+1,oM,by omega,E3 ⟨oR,rfl,rfl,rfl,rfl,trivial⟩ ⟨obl rfl (by rw [K0j hkl]),rfl,trivial⟩⟩
 ·have hc:=df hc
  refine L2 (xq ?_)
  refine exr (lp4 ag47 sz47 L rfl rfl (sb (U2 sz47 rF pa4 rfl pu4) t2 t1 ?_))
  refine zn [(2,_)] [(2,_)] t1 t1 (V1 ?_)
  refine Q0 (.agg rfl rfl rfl ag47 sz47 (.cons (.cons (.cons (.cons .nil))))) ?_
  rw [C0 oM]
theorem hbI {S:St}{l l':List (Nat×Blk)}(e:l=l')(h:T5 S l'):T5 S l:=e ▸ h
@[reducible] def n1k (k:Nat):List Rat→PV
 | []=>.p (.a (.slice none 0 0))
 | a :: v=>.ref k 0 (a :: v).length ((a :: v).length*4)
@[reducible] def k1f (k:Nat):List Rat→List (Nat×Blk)
 | []=>[]
 | a :: v=>[(k,⟨47,4,.pure (d6 (a :: v))⟩)]
theorem g0x (v:List Rat)(a:Rat):(⟨47,4,.pure (d6 v++cQ a)⟩:Blk)=q4 (v++[a]):=by rw [q4,B0f]; simp [d6]
def G0q (u v:List Rat):List Rat:=((List.zip u v).filter fun p=>decide (p.1≠0∧p.2≠0)).map fun p=>p.1*p.2
def b0h (u v:List Rat):Rat:=C8 (G0q u v)
theorem k0c {u v:List Rat}:(G0q u v).length≤u.length:=by
 unfold G0q; rw [O0]
 refine Nat.le_trans (List.length_filter_le _ _) ?_
 simp; omega
theorem K0v {u v:List Rat}{k:Nat}(h:k<u.length)(hv:u.length=v.length):G0q (u.take (k+1)) v=G0q (u.take k) v++(if u.getD k 0≠0∧v.getD k 0≠0 then [u.getD k 0*v.getD k 0] else []):=by
 have h2:k<v.length:=by omega
 have e:List.zip (u.take (k+1)) v=List.zip (u.take k) v++[(u.getD k 0,v.getD k 0)]:=by
  apply List.ext_getElem?
  intro i
  rw [List.getElem?_append]
  simp only [List.zip,List.getElem?_zipWith,List.length_zipWith,J0,List.getElem?_take]
  by_cases h3:i<k
  ·rw [if_pos oM,if_pos oM,if_pos oM]
  ·rw [if_neg (show ¬ i<min (min k u.length) v.length by omega)]
   by_cases h4:i=k
   ·subst h4
    rw [if_pos oM]
    have:i - min (min i u.length) v.length=0:=by omega
    rw [this]; simp [f0,h,h2]
   ·rw [if_neg oM]
    obtain ⟨m,hm⟩:∃ m,i - min (min k u.length) v.length=m+1:=⟨i - min (min k u.length) v.length - 1,by omega⟩
    rw [hm]; rfl
 unfold G0q
 rw [e,List.filter_append,List.map_append]
 congr 1
 by_cases hc:u.getD k 0≠0∧v.getD k 0≠0
 ·rw [if_pos hc,List.filter_cons_of_pos (by simpa using hc)]; rfl
 ·rw [if_neg hc,List.filter_cons_of_neg (by simpa using hc)]; rfl
theorem M0w {B C:Nat}{u v:List Rat}(hB:∀ a∈u,qw a≤B)(hC:∀ a∈v,qw a≤C):∀ a∈G0q u v,qw a≤B+C:=by
 intro a ha
 simp only [G0q,G0,List.mem_filter] at ha
 obtain ⟨p,⟨h1,-⟩,rfl⟩:=ha
 have h2:=List.of_mem_zip (a:=p.1) (b:=p.2) h1
 have:=Z9 p.1 p.2
 have:=hB _ h2.1
 have:=hC _ h2.2
 omega
theorem D0v (u v:List Rat)(B C:Nat)(huv:u.length=v.length)(hl:u.length<1000000000)(hB:∀ a∈u,qw a≤B)(hC:∀ a∈v,qw a≤C)(hBl:B<1000000000)(hCl:C<1000000000)(hb:u.length*(B+C+1)+1<900000000):Y2 E 70 [pV u,pV v] (pQ (b0h u v)):=by
 refine j2 (xs:=[pQ (b0h u v)]) Tryz.func70 rfl Tryz.ntmps70 Tryz.results70 sM fun F hG hX0 hnt hdf P0=>?_
 obtain ⟨L,hX,hN⟩:=pro hnt hX0 hG
 refine exr (swb (T3 (k:=4) (n:=4) zv47 (.cons rfl (.cons rfl (.cons rfl (.cons rfl .nil)))) rfl (P0 _ rfl) L) t0 t0 ⟨rfl,rfl⟩ (zn [(0,_),(1,_),(4,_)] [(4,_)] t3 t1 (exr (aV L rfl (zn [(0,_),(1,_),(4,_),(5,_)] [(4,_)] t4 t1 (R1 (exr (mV L rfl (sw (R2 un40 L) t1 t0 (mV L rfl (zn [(1,_),(4,_),(5,_),(8,_),(9,_),(10,_)] [(4,_)] t6 t1 ?_)))))))))))
 refine X1 ?_
 refine exl (α:=(Nat×List Rat)) (fun x=>[(10,vi (x.1:Int)),(5,n1k 34 x.2)]) (fun x=>[]++k1f 34 x.2) (fun x=>x.1≤u.length∧G0q (u.take x.1) v=x.2) (fun x=>u.length - x.1) ((0,[])) (sl:=[(1,_),(4,_),(8,_),(9,_)]) (hb:=[(4,_)]) ?_ ⟨oR,oR,rfl,rfl,rfl,rfl,trivial⟩ (hbI (l':=[(4,_)]) rfl t1) ?_
 ·exact ⟨Nat.zero_le _,rfl⟩
 intro x hk
 obtain ⟨k,T⟩:=x
 obtain ⟨hk,hT⟩:=hk
 simp only at hk hT
 rcases T with _ | ⟨q,T⟩
 ·dsimp only [n1k,k1f,List.append_nil]
  refine exr (sw (d4 L) t2 t0 (zn [(1,_),(4,_),(5,_),(8,_),(9,_),(10,_),(11,_)] [(4,_)] t7 t1 (R1 ?_)))
  refine D2 rfl (fun hc=>?_) (fun hc=>?_)
  ·have hc:=dt hc
   have hk2:k<u.length:=by omega
   have hk3:k<v.length:=by omega
   have ht:=K0v hk2 huv
   have b1:qw (u.getD k 0)≤B:=hB _ (C5 hk2)
   have b2:qw (v.getD k 0)≤C:=hC _ (C5 hk3)
   refine U1 (xq ?_)
   refine R1 (X1 (exr (mV L rfl (sw (F2 un40 sz47 oM oM sM dC L) t2 t0 ?_))))
   refine sw (F7 ag47 sz47 (V7 hk2) rfl L) t1 t0 (swb (T3 (k:=7) (n:=4) zv47 (.cons rfl (.cons rfl (.cons rfl (.cons rfl .nil)))) rfl (P0 _ rfl) L) t0 t0 ⟨rfl,rfl⟩ (aV L rfl (sb (U2 sz47 rF pa4 rfl pu4) t2 t1 ?_)))
   refine zn [(1,_),(4,_),(5,_),(6,_),(7,_),(8,_),(9,_),(10,_)] [(4,_),(7,_)] t8 t2 ?_
   refine exm (sl:=[(25,vb (decide (u.getD k 0≠0∧v.getD k 0≠0)))]) (sl0:=[(1,_),(4,_),(5,_),(6,_),(7,_),(8,_),(9,_),(10,_)]) (hb:=[]) (hb0:=[(4,_),(7,_)]) t8 t2 ?_ ?_
   ·by_cases h0:u.getD k 0=0
    ·refine lp4 ag47 sz47 L rfl rfl (cK hG hX cl65 hN (K6 (u.getD k 0) oM) L t1 (sw (P3 L) t1 t0 (mV L rfl (swn (g:=18) rfl (by rw [h0]; rfl) L rfl ?_))))
     refine swn (g:=18) rfl (by rw [h0]; rfl) L rfl ?_
     refine swn (g:=18) rfl (by rw [h0]; rfl) L rfl ?_
     refine swn (g:=18) rfl (by rw [h0]; rfl) L rfl ?_
     refine swn (g:=18) rfl (by rw [h0]; rfl) L rfl ?_
     refine swn (g:=18) rfl (by rw [h0]; rfl) L rfl ?_
     refine sw (V3 (by rw [h0]; rfl) L) t2 t0 ?_
     exact O1 ⟨⟨ob rfl (by simp only [h0]; rfl),rfl,rfl,rfl,rfl,rfl,rfl,rfl,rfl,trivial⟩,t2⟩
    ·refine lp4 ag47 sz47 L rfl rfl (cK hG hX cl65 hN (K6 (u.getD k 0) oM) L t1 (sw (P3 L) t1 t0 (mV L rfl (gV (g:=18) rfl (by simp only [h0]; rfl) L rfl rfl ?_))))
     refine gV (g:=18) rfl (by simp only [h0]; rfl) L rfl rfl ?_
     refine swg (g:=18) rfl (by simp only [h0]; rfl) (F2 un40 sz47 oM oM sM dC L) rfl t2 t0 ?_
     refine swg (g:=18) rfl (by simp only [h0]; rfl) (F7 ag47 sz47 (V7 hk3) rfl L) rfl t1 t0 ?_
     refine swg (g:=18) rfl (by simp only [h0]; rfl) (c_c hG hX cl65 rfl hN (K6 (v.getD k 0) oM) L) rfl t1 t0 ?_
     refine swg (g:=18) rfl (by simp only [h0]; rfl) (P3 L) rfl t1 t0 ?_
     refine sw (m4 (by simp only [h0]; rfl) L) t2 t0 ?_
     exact O1 ⟨⟨ob rfl (by rw [decide_eq_decide.2 (show (¬ (v.getD k 0=0))↔(u.getD k 0≠0∧v.getD k 0≠0) from ⟨fun h=>⟨h0,h⟩,fun h=>h.2⟩).symm]; exact (decide_not).symm),rfl,rfl,rfl,rfl,rfl,rfl,rfl,rfl,trivial⟩,t2⟩
   refine D2 rfl (fun h1=>?_) (fun h1=>?_)
   ·have h1:=dt h1
    rw [if_pos h1,hT] at ht
    refine m0v rF ?_
    refine mV L rfl (lp4 ag47 sz47 L rfl rfl (mV L rfl (mV L rfl (sw (F2 un40 sz47 oM oM sM dC L) t2 t0 ?_))))
    refine sw (F7 ag47 sz47 (V7 hk3) rfl L) t1 t0 (cK hG hX cl67 hN (y8 (u.getD k 0) (v.getD k 0) oM oM) L t2 (sw (F4 (vs:=[_]) un40 ti47 rfl rfl dC dC rfl (M2 (.cons rfl (.cons rfl (.cons rfl (.cons rfl .nil)))) rfl) rfl (.cons rfl pa4 rfl pu4 .nil) (.cons (.cons (.cons (.cons .nil)))) L) t1 t0 (swb (apN (k:=34) (sz:=4) un40 un40 ti47 rfl rfl rfl dC sM rfl (by first | (simp [Tryz.t47]; done) | (simp [Tryz.t47]; omega)) oM (P0 _ rfl) L) t2 t0 ⟨rfl,rfl⟩ ?_)))
    refine aV L rfl ?_
    refine O1 ⟨aok rfl rfl,?_⟩
    refine y3 (sw (K3 L (w64 oM oM)) t2 t0 (mV L rfl (O1 ?_)))
    exact ⟨(k+1,[u.getD k 0*v.getD k 0]),⟨by simp only; omega,ht⟩,(by simp only; omega),E3 ⟨oR,oR,rfl,rfl,rfl,rfl,trivial⟩ (hbI (l':=[(34,_),(4,_)]) rfl t2)⟩
   ·have h1:=df h1
    rw [if_neg h1,hT,List.append_nil] at ht
    refine U1 (xq ?_)
    refine y3 (sw (K3 L (w64 oM oM)) t2 t0 (mV L rfl (O1 ?_)))
    exact ⟨(k+1,[]),⟨by simp only; omega,ht⟩,(by simp only; omega),E3 ⟨oR,oR,rfl,rfl,rfl,rfl,trivial⟩ (hbI (l':=[(4,_)]) rfl t1)⟩
  ·have hc:=df hc
   have hku:k=u.length:=by omega
   rw [hku,I0] at hT
   refine L2 (xq ?_)
   refine G4 [] (sl:=[(4,_),(5,_)]) (hb:=[(4,_)]) (M3 hX0) ⟨⟨_,rfl,.same⟩,⟨_,rfl,(.p .nil)⟩,trivial⟩ ⟨⟨rfl,_,rfl,.same⟩,trivial⟩ (exr (mV L rfl (cK hG hX cl68 hN (p0n [] (B+C) (by rw [← hT]; have:=k0c (u:=u) (v:=v); omega) (by rw [← hT]; exact M0w hB hC) (by rw [← hT]; have:=V0 (B+C+1) (k0c (u:=u) (v:=v)); omega)) L t1 ?_)))
   refine sb (U2 sz47 rF pa4 rfl pu4) t2 t1 ?_
   refine zn [(4,_)] [(4,_)] t1 t1 (V1 ?_)
   refine Q0 (.agg rfl rfl rfl ag47 sz47 (.cons (.cons (.cons (.cons .nil))))) ?_
   rw [b0h,hT]
 ·dsimp only [n1k,k1f]
  have hTl:T.length+1≤u.length:=by
   have h1:=k0c (u:=u.take k) (v:=v)
   rw [hT] at h1; simp at h1; omega
  have hTl2:(q :: T).length≤u.length:=hTl
  refine exr (sw (d4 L) t2 t0 (zn [(1,_),(4,_),(5,_),(8,_),(9,_),(10,_),(11,_)] [(4,_),(34,_)] t7 t2 (R1 ?_)))
  refine D2 rfl (fun hc=>?_) (fun hc=>?_)
  ·have hc:=dt hc
   have hk2:k<u.length:=by omega
   have hk3:k<v.length:=by omega
   have ht:=K0v hk2 huv
   have b1:qw (u.getD k 0)≤B:=hB _ (C5 hk2)
   have b2:qw (v.getD k 0)≤C:=hC _ (C5 hk3)
   refine U1 (xq ?_)
   refine R1 (X1 (exr (mV L rfl (sw (F2 un40 sz47 oM oM sM dC L) t2 t0 ?_))))
   refine sw (F7 ag47 sz47 (V7 hk2) rfl L) t1 t0 (swb (T3 (k:=7) (n:=4) zv47 (.cons rfl (.cons rfl (.cons rfl (.cons rfl .nil)))) rfl (P0 _ rfl) L) t0 t0 ⟨rfl,rfl⟩ (aV L rfl (sb (U2 sz47 rF pa4 rfl pu4) t2 t1 ?_)))
   refine zn [(1,_),(4,_),(5,_),(6,_),(7,_),(8,_),(9,_),(10,_)] [(4,_),(7,_),(34,_)] t8 t3 ?_
   refine exm (sl:=[(25,vb (decide (u.getD k 0≠0∧v.getD k 0≠0)))]) (sl0:=[(1,_),(4,_),(5,_),(6,_),(7,_),(8,_),(9,_),(10,_)]) (hb:=[]) (hb0:=[(4,_),(7,_),(34,_)]) t8 t3 ?_ ?_
   ·by_cases h0:u.getD k 0=0
    ·refine lp4 ag47 sz47 L rfl rfl (cK hG hX cl65 hN (K6 (u.getD k 0) oM) L t1 (sw (P3 L) t1 t0 (mV L rfl (swn (g:=18) rfl (by rw [h0]; rfl) L rfl ?_))))
     refine swn (g:=18) rfl (by rw [h0]; rfl) L rfl ?_
     refine swn (g:=18) rfl (by rw [h0]; rfl) L rfl ?_
     refine swn (g:=18) rfl (by rw [h0]; rfl) L rfl ?_
     refine swn (g:=18) rfl (by rw [h0]; rfl) L rfl ?_
     refine swn (g:=18) rfl (by rw [h0]; rfl) L rfl ?_
     refine sw (V3 (by rw [h0]; rfl) L) t2 t0 ?_
     exact O1 ⟨⟨ob rfl (by simp only [h0]; rfl),rfl,rfl,rfl,rfl,rfl,rfl,rfl,rfl,trivial⟩,t3⟩
    ·refine lp4 ag47 sz47 L rfl rfl (cK hG hX cl65 hN (K6 (u.getD k 0) oM) L t1 (sw (P3 L) t1 t0 (mV L rfl (gV (g:=18) rfl (by simp only [h0]; rfl) L rfl rfl ?_))))
     refine gV (g:=18) rfl (by simp only [h0]; rfl) L rfl rfl ?_
     refine swg (g:=18) rfl (by simp only [h0]; rfl) (F2 un40 sz47 oM oM sM dC L) rfl t2 t0 ?_
     refine swg (g:=18) rfl (by simp only [h0]; rfl) (F7 ag47 sz47 (V7 hk3) rfl L) rfl t1 t0 ?_
     refine swg (g:=18) rfl (by simp only [h0]; rfl) (c_c hG hX cl65 rfl hN (K6 (v.getD k 0) oM) L) rfl t1 t0 ?_
     refine swg (g:=18) rfl (by simp only [h0]; rfl) (P3 L) rfl t1 t0 ?_
     refine sw (m4 (by simp only [h0]; rfl) L) t2 t0 ?_
     exact O1 ⟨⟨ob rfl (by rw [decide_eq_decide.2 (show (¬ (v.getD k 0=0))↔(u.getD k 0≠0∧v.getD k 0≠0) from ⟨fun h=>⟨h0,h⟩,fun h=>h.2⟩).symm]; exact (decide_not).symm),rfl,rfl,rfl,rfl,rfl,rfl,rfl,rfl,trivial⟩,t3⟩
   refine D2 rfl (fun h1=>?_) (fun h1=>?_)
   ·have h1:=dt h1
    rw [if_pos h1,hT] at ht
    refine m0v rF ?_
    refine mV L rfl (lp4 ag47 sz47 L rfl rfl (mV L rfl (mV L rfl (sw (F2 un40 sz47 sM (by simp; trace_state; omega) sM dC L) t2 t0 ?_))))
    refine sw (F7 ag47 sz47 (V7 hk3) rfl L) t1 t0 (cK hG hX cl67 hN (y8 (u.getD k 0) (v.getD k 0) oM oM) L t2 (sw (F4 (vs:=[_]) un40 ti47 rfl rfl dC dC rfl (M2 (.cons rfl (.cons rfl (.cons rfl (.cons rfl .nil)))) rfl) rfl (.cons rfl pa4 rfl pu4 .nil) (.cons (.cons (.cons (.cons .nil)))) L) t1 t0 (swb (apP (sz:=4) un40 un40 ti47 rfl rfl rfl dC (by exact sM) oF sM rfl rfl rfl (by first | (simp [Tryz.t47]; done) | (simp [Tryz.t47]; omega)) oM (P0 _ rfl) L) t2 t1 t0 ?_)))
    refine aV L rfl ?_
    refine O1 ⟨B5 [⟨[5],[],[26],[]⟩,⟨[7],[7],[27],[]⟩,⟨[1],[],[28],[]⟩,⟨[6],[],[29],[]⟩,⟨[28,29],[],[30],[]⟩,⟨[30],[],[31],[]⟩,⟨[27,31],[],[32],[]⟩,⟨[32],[],[33],[]⟩,⟨[26,33],[34],[34],[34]⟩,⟨[34],[],[5],[]⟩] rF rF dC,?_⟩
    refine y3 (sw (K3 L (w64 oM oM)) t2 t0 (mV L rfl (O1 ?_)))
    exact ⟨(k+1,q :: T++[u.getD k 0*v.getD k 0]),⟨by simp only; omega,ht⟩,(by simp only; omega),E3 ⟨oR,(by exact ov rfl sO),rfl,rfl,rfl,rfl,trivial⟩ (hbI (l':=[(34,_),(4,_)]) rfl ⟨(obl rfl (g0x (q :: T) _)),rfl,trivial⟩)⟩
   ·have h1:=df h1
    rw [if_neg h1,hT,List.append_nil] at ht
    refine U1 (xq ?_)
    refine y3 (sw (K3 L (w64 oM oM)) t2 t0 (mV L rfl (O1 ?_)))
    exact ⟨(k+1,q :: T),⟨by simp only; omega,ht⟩,(by simp only; omega),E3 ⟨oR,oR,rfl,rfl,rfl,rfl,trivial⟩ (hbI (l':=[(34,_),(4,_)]) rfl t2)⟩
  ·have hc:=df hc
   have hku:k=u.length:=by omega
   rw [hku,I0] at hT
   refine L2 (xq ?_)
   refine G4 [34] (sl:=[(4,_),(5,_)]) (hb:=[(4,_)]) (M3 hX0) ⟨⟨_,rfl,.same⟩,⟨_,rfl,(.ref rfl rfl (by exact sM) (by first | rfl | omega))⟩,trivial⟩ ⟨⟨rfl,_,rfl,.same⟩,trivial⟩ ?_
   refine exr (mV L rfl (cK hG hX cl68 hN (p0n (q :: T) (B+C) (by rw [← hT]; have:=k0c (u:=u) (v:=v); omega) (by rw [← hT]; exact M0w hB hC) (by rw [← hT]; have:=V0 (B+C+1) (k0c (u:=u) (v:=v)); omega)) L t1 ?_))
   refine sb (U2 sz47 rF pa4 rfl pu4) t2 t1 ?_
   refine zn [(4,_)] [(4,_)] t1 t1 (V1 ?_)
   refine Q0 (.agg rfl rfl rfl ag47 sz47 (.cons (.cons (.cons (.cons .nil))))) ?_
   rw [b0h,hT]
theorem W0z (v:List Rat)(hl:v.length<1000000000):w0j E 89 [pV v] 47 4 v.length (d6 v):=by
 refine p0b (k:=3) (tot:=v.length*4) Tryz.func89 rfl Tryz.ntmps89 Tryz.results89 sM fun F hG hX0 hnt hdf P0=>?_
 obtain ⟨L,hX,hN⟩:=pro hnt hX0 hG
 refine exr (aV L rfl (zn [(0,_)] [] t1 trivial (exr (swb (O9 (k:=3) (sz:=4) un40 ti47 (P0 _ rfl) L) t0 t0 ⟨rfl,rfl⟩ (mV L rfl (swb (apP (sz:=4) un40 un40 ti47 rfl rfl rfl dC rX oF sM rfl rfl rfl (by simp [Tryz.t47]; omega) oM (P0 _ rfl) L) t2 t1 t0 ?_))))))
 refine aV L rfl ?_
 refine O1 ⟨[(2,.ref 3 0 v.length (v.length*4))],[(3,_)],⟨ov rfl sM,trivial⟩,t1,?_⟩
 refine V1 ?_
 refine ⟨.inr rfl,rfl,_,rfl,by simp,?_,by simp⟩
 rw [C0 sM]; rfl
def zq (n:Nat):List Rat:=List.replicate n 0
@[simp] theorem j0x (n:Nat):(zq n).length=n:=by simp [zq]
theorem H1h (n:Nat):zq (n+1)=zq n++[0]:=by simp [zq,List.replicate_succ']
def zc0:List J2:=[.a (.bool false),.a (.slice none 0 0),.a (.bool false),.a (.slice none 0 0)]
theorem m1x (n:Nat)(z:List J2):V8 (n+1) z=z++V8 n z:=by simp [V8,List.replicate_succ]
theorem q0c {v:List Rat}{n k:Nat}(hv:v.length=k)(h:k<n)(a:Rat):(d6 v++V8 (n - k) zc0).take (k*4)++cQ a++(d6 v++V8 (n - k) zc0).drop (k*4+4)=d6 (v++[a])++V8 (n - (k+1)) zc0:=by
 have e:(d6 v).length=k*4:=by rw [I3,hv]
 obtain ⟨m,hm⟩:∃ m,n - k=m+1:=⟨n - k - 1,by omega⟩
 rw [hm,show n - (k+1)=m by omega,m1x]
 rw [List.take_append_of_le_length oM,C0 oM,← List.append_assoc (d6 v),List.drop_append,List.drop_eq_nil_of_le (by rw [K1,e]; simp [zc0])]
 have e2:k*4+4 - (d6 v++zc0).length=0:=by rw [K1,e]; simp [zc0]
 rw [e2,B0f]
 simp [d6]
theorem O6 {v:List Rat}{n k:Nat}(hv:v.length=k)(h:k≤n):(d6 v++V8 (n - k) zc0).length=n*4:=by
 rw [K1,I3,g9,hv]; simp only [zc0,D1,List.length_nil]; omega
theorem g0v (n:Nat)(hn:n<1000000000):w0j E 54 [vZ n] 47 4 n (d6 (zq n)):=by
 refine p0b (k:=6) (tot:=n*4) Tryz.func54 rfl Tryz.ntmps54 Tryz.results54 sM fun F hG hX0 hnt hdf P0=>?_
 obtain ⟨L,hX,hN⟩:=pro hnt hX0 hG
 refine exr (aV L rfl (zn [(0,_)] [] t1 trivial (exr (mV L rfl (swb (M6 (sz:=4) (k:=6) un40 ti47 rfl rfl dC rfl rfl rfl rfl rfl (Nat.le_refl _) (by simp [Tryz.t47]; omega) oM (P0 _ rfl) L) t2 t0 ⟨rfl,rfl⟩ ?_)))))
 refine aV L rfl (zn [(3,_)] [(6,_)] t1 t1 (R1 (exr (mV L rfl (sw (p0d un40 (by exact (g9 _ _)) L) t1 t1 ?_)))))
 refine mV L rfl (zn [(3,_),(8,_),(9,_)] [(6,_)] t3 t1 (X1 ?_))
 refine exl (α:=Nat) (fun k=>[(9,vi (k:Int))]) (fun k=>[(6,⟨47,4,.pure (d6 (zq k)++V8 (n - k) zc0)⟩)]) (fun k=>k≤n) (fun k=>n - k) (0) (sl:=[(3,_),(8,_)]) (hb:=[]) ?_ ⟨oR,rfl,rfl,trivial⟩ t1 ?_
 ·exact Nat.zero_le _
 intro k hk
 refine exr (sw (d4 L) t2 t0 (zn [(3,_),(8,_),(9,_),(10,_)] [(6,_)] t4 t1 (R1 ?_)))
 refine D2 rfl (fun hc=>?_) (fun hc=>?_)
 ·have hc:=dt hc
  refine U1 (xq ?_)
  refine R1 (X1 (exr (mV L rfl (aV L rfl (zn [(3,_),(4,_),(8,_),(9,_)] [(6,_)] t4 t1 (y3 (mV L rfl (mV L rfl (cK hG hX cl55 hN (R6 0 dC dC) L t1 (sw (p0v (sz:=4) un40 sz47 (by exact (O6 (j0x _) hk)) (j:=k) rO oM L) t2 t1 ?_))))))))))
  refine sb (F0f (n:=4) sz47 (by exact (O6 (j0x _) hk)) rfl oM) t2 t1 ?_
  refine O1 (y3 (sw (K3 L (w64 oM oM)) t2 t0 (mV L rfl (O1 ?_))))
  exact ⟨k+1,oM,by omega,E3 ⟨oR,rfl,rfl,trivial⟩ ⟨obl rfl (congrArg (fun c=>(⟨47,4,.pure c⟩:Blk)) ((q0c (j0x k) (show k<n by omega) 0).trans (by rw [H1h]))),trivial⟩⟩
 ·have hc:=df hc
  refine L2 (xq ?_)
  refine exr (mV L rfl (aV L rfl (zn [(2,_)] [(6,_)] t1 t1 (V1 ?_))))
  refine ⟨.inr rfl,rfl,_,rfl,(O6 (j0x _) hk),?_,by simp⟩
  have e:k=n:=by omega
  subst e
  simp [V8,C0]
theorem V0g {p:Nat→Bool}{i b:Nat}(h:i<b):L4 p i (b - i)=if p i=true then (i:Int) else L4 p (i+1) (b - (i+1)):=by
 obtain ⟨m,hm⟩:∃ m,b - i=m+1:=⟨b - i - 1,by omega⟩
 rw [hm,show b - (i+1)=m by omega]; rfl
theorem f7 (g:FuncId)(caps:List PV)(H:List (Nat×Blk))(hnd:(H.map (·.1)).Nodup)(hw:Whole H)(hcall:∀ args w,(callFunc g args).run E.P w = .ok (.enter g args) w)(p:Nat→Bool)(a b:Nat)(hb:b<9000000000000)(hg:∀ i:Nat,a≤i→i<b→I4 E (fun _=>true) g (List.cons (.p (vZ i)) caps) H H (.p (bZ (p i)))):I4 E (fun _=>true) 52 [.p (vZ a),.p (vZ b),.clo (.func g) [] caps] (H) (H) (.p (vZ (L4 p a (b - a)))):=by
 refine n4 (xs:=[vZ (L4 p a (b - a))]) Tryz.func52 rfl Tryz.ntmps52 Tryz.results52 sM fun F G=>?_
 have L:=@lti _ _ G.nt
 have hG:=G.g
 have hX:=G.x
 have hN:=W5 hG
 refine exr (aV L rfl ?_)
 refine O1 ⟨[(0,_),(1,_),(2,_)],H,t3,(y5 (l:=H) hnd (fun _ _ h=>h)),?_⟩
 refine R1 (exr (mV L rfl (aV L rfl ?_)))
 refine O1 ⟨[(1,_),(2,_),(7,_)],H,t3,(y5 (l:=H) hnd (fun _ _ h=>h)),?_⟩
 refine X1 ?_
 refine F0r (α:=Nat) (fun i=>[(7,vi (i:Int))]) (fun i=>[]) (fun i=>H) (fun i=>a≤i∧L4 p i (b - i)=L4 p a (b - a)) (fun i=>b - i) (a) (sl:=[(1,_),(2,_)]) (hb:=[]) ?_ ⟨oR,rfl,rfl,trivial⟩ (y5 (l:=H) hnd (fun _ _ h=>h)) ?_
 ·exact ⟨Nat.le_refl _,rfl⟩
 intro i hi
 obtain ⟨hi,hI⟩:=hi
 refine R1 (exr (mV L rfl (mV L rfl (sw (d4 L) t2 t0 ?_))))
 refine O1 ⟨[(1,_),(2,_),(7,_),(11,_)],H,t4,(y5 (l:=H) hnd (fun _ _ h=>h)),?_⟩
 refine D2 rfl (fun hc=>?_) (fun hc=>?_)
 ·have hc:=dt hc
  have hib:i<b:=by omega
  rw [V0g hib] at hI
  refine U1 (xq ?_)
  refine R1 (X1 (exr (mV L rfl (mV L rfl (sw (s5 hG hX hN (hg i hi hib) rfl L (l7 (fst:=[]) (ys:=[_]) (cap:=caps) hcall rfl rfl) hnd hw (fun q h=>by cases h)) t2 (P7 (y5 hnd fun _ _ h=>h)) ?_)))))
  refine O1 ⟨[(1,_),(2,_),(7,_),(16,_)],H,t4,(y5 (l:=H) hnd (fun _ _ h=>h)),?_⟩
  refine D2 rfl (fun hp=>?_) (fun hp=>?_)
  ·rw [if_pos hp] at hI
   refine exr (mV L rfl (aV L rfl ?_))
   refine O1 ⟨[(6,_)],H,t1,(y5 (l:=H) hnd (fun _ _ h=>h)),?_⟩
   refine V1 ?_
   refine ⟨.inr rfl,U4.cast (.cons (.tmp rfl) .nil) ?_,(y5 (l:=H) hnd (fun _ _ h=>h))⟩
   rw [← hI]
  ·rw [hp,if_neg Bool.false_ne_true] at hI
   refine U1 (xq ?_)
   refine y3 (mV L rfl (sw (K3 L (w64 oM oM)) t2 t0 (aV L rfl (O1 ?_))))
   exact ⟨i+1,⟨by omega,hI⟩,by omega,E3 ⟨oR,rfl,rfl,trivial⟩ (y5 (l:=H) hnd (fun _ _ h=>h))⟩
 ·have hc:=df hc
  have e:b - i=0:=by omega
  rw [e] at hI
  refine L2 (xq ?_)
  refine exr (aV L rfl ?_)
  refine O1 ⟨[(6,_)],H,t1,(y5 (l:=H) hnd (fun _ _ h=>h)),?_⟩
  refine V1 ?_
  refine ⟨.inr rfl,U4.cast (.cons (.tmp rfl) .nil) ?_,(y5 (l:=H) hnd (fun _ _ h=>h))⟩
  rw [← hI]; rfl
structure RQ where
 m:Bool
 ws:List Int
 n:Bool
 vs:List Int
instance:Inhabited RQ:=⟨⟨false,[],false,[]⟩⟩
def RQ.of (a:Rat):RQ:=⟨decide (a.num<0),j3 a.num.natAbs,decide ((a.den:Int)<0),j3 (a.den:Int).natAbs⟩
def RQ.is (r:RQ):Bool:=P2 r.m r.ws && (P2 r.n r.vs && decide (0<sg r.n (val r.vs)∧(Int.gcd (sg r.m (val r.ws)) (sg r.n (val r.vs)):Int)=1))
def RQ.wd (r:RQ):Prop:=Wd r.ws∧Wd r.vs
theorem H1z (n:Int):sg (decide (n<0)) (val (j3 n.natAbs))=n:=by
 rw [T4]; unfold sg; split <;> rename_i h <;> simp at h <;> omega
theorem RQ.is_of (a:Rat):(RQ.of a).is=true:=by
 simp only [RQ.is,RQ.of,L3,H1z,Bool.true_and,decide_eq_true_eq]
 refine ⟨by exact_mod_cast a.den_pos,?_⟩
 have:=a.reduced
 unfold Nat.Coprime at this
 unfold Int.gcd
 exact_mod_cast this
theorem RQ.of_is {r:RQ}(h:r.wd)(hi:r.is=true):∃ a:Rat,r=RQ.of a:=by
 obtain ⟨m,ws,n,vs⟩:=r
 simp only [RQ.is,j0,decide_eq_true_eq] at hi
 obtain ⟨h1,h2,h3,h4⟩:=hi
 obtain ⟨e1,e2⟩:=f0q h.1 h1
 obtain ⟨e3,e4⟩:=f0q h.2 h2
 simp only at e1 e2 e3 e4
 refine ⟨⟨sg m (val ws),(sg n (val vs)).natAbs,by omega,?_⟩,?_⟩
 ·unfold Int.gcd at h4; exact_mod_cast h4
 ·have e5:(((sg n (val vs)).natAbs:Nat):Int)=sg n (val vs):=by omega
  simp only [RQ.of,e5,e1,e2,e3,e4]
@[reducible] def cR (r:RQ):List J2:=[.a (.bool r.m),.sl r.ws.length (K4 r.ws),.a (.bool r.n),.sl r.vs.length (K4 r.vs)]
def d0n:List RQ→List J2
 | []=>[]
 | a :: v=>cR a++d0n v
@[simp] theorem w0h:∀ v:List RQ,(d0n v).length=v.length*4
 | []=>rfl
 | a :: v=>by simp only [d0n,K1,w0h v,cR,D1,List.length_nil]; omega
theorem Y0g:∀ {v:List RQ}{i:Nat},i<v.length→((d0n v).drop (i*4)).take 4=cR (v.getD i default)
 | [],i,h=>by simp at h
 | a :: v,0,_=>by simp [d0n,cR]
 | a :: v,i+1,h=>by
  have:=Y0g (v:=v) (i:=i) (by simpa using h)
  rw [show (i+1)*4=i*4+1+1+1+1 by omega]
  simp only [d0n,cR,L1,List.nil_append,List.drop_succ_cons,List.getD_cons_succ]
  exact this
theorem h1p:∀ v:List Rat,d0n (v.map RQ.of)=d6 v
 | []=>rfl
 | a :: v=>by simp only [R0,d0n,d6,h1p v]; rfl
@[reducible] def pVR (v:List RQ):J2:=.sl v.length (d0n v)
theorem g0b (v:List Rat):pVR (v.map RQ.of)=pV v:=by rw [pVR,pV,h1p,O0]
theorem B1c {r:RQ}(hw:r.wd)(hl:r.ws.length<1000000000)(hl2:r.vs.length<1000000000):Y2 E 107 [.agg (cR r)] (bZ r.is):=by
 obtain ⟨m,ws,n,vs⟩:=r
 by_cases h:P2 m ws=true∧P2 n vs=true
 ·obtain ⟨e1,e2⟩:=f0q hw.1 h.1
  obtain ⟨e3,e4⟩:=f0q hw.2 h.2
  have:=P1c (sg m (val ws)) (sg n (val vs)) (by unfold nw; simp only at e2 hl; rw [e2]; exact hl) (by unfold nw; simp only at e4 hl2; rw [e4]; exact hl2)
  rw [pN,e1,e2,e3,e4] at this
  rw [RQ.is,show P2 (RQ.mk m ws n vs).m (RQ.mk m ws n vs).ws=true from h.1,show P2 (RQ.mk m ws n vs).n (RQ.mk m ws n vs).vs=true from h.2]
  exact this
 ·have:=M1g m n ws vs hl hl2 h
  have e:(RQ.mk m ws n vs).is=false:=by
   rw [RQ.is,Bool.eq_false_iff]; simp only [j0,ne_eq]; exact fun hh=>h ⟨hh.1,hh.2.1⟩
  rw [e]; exact this
theorem k1a {r:RQ}(hw:r.wd)(hl:r.ws.length<1000000000)(hl2:r.vs.length<1000000000):Y2 E 36 [.agg (cR r)] (bZ r.is):=by
 obtain ⟨m,ws,n,vs⟩:=r
 by_cases h:P2 m ws=true∧P2 n vs=true
 ·obtain ⟨e1,e2⟩:=f0q hw.1 h.1
  obtain ⟨e3,e4⟩:=f0q hw.2 h.2
  have:=K1x (sg m (val ws)) (sg n (val vs)) (by unfold nw; simp only at e2 hl; rw [e2]; exact hl) (by unfold nw; simp only at e4 hl2; rw [e4]; exact hl2)
  rw [pN,e1,e2,e3,e4] at this
  rw [RQ.is,show P2 (RQ.mk m ws n vs).m (RQ.mk m ws n vs).ws=true from h.1,show P2 (RQ.mk m ws n vs).n (RQ.mk m ws n vs).vs=true from h.2]
  exact this
 ·have:=G1k m n ws vs hl hl2 h
  have e:(RQ.mk m ws n vs).is=false:=by
   rw [RQ.is,Bool.eq_false_iff]; simp only [j0,ne_eq]; exact fun hh=>h ⟨hh.1,hh.2.1⟩
  rw [e]; exact this
def RQ.sm (r:RQ):Prop:=r.wd∧r.ws.length<1000000000∧r.vs.length<1000000000
theorem RQ.sm_of {a:Rat}(h:qw a<1000000000):(RQ.of a).sm:=by
 have h1:=n5 a
 have h2:=I5 a
 exact ⟨⟨U3 _,U3 _⟩,by show nw a.num<_; omega,by show nw (a.den:Int)<_; omega⟩
theorem gD {v:List RQ}{i:Nat}(h:i<v.length):v.getD i default∈v:=by simp [f0,h]
@[reducible] def bV (v:List RQ):List (Nat×Blk):=[(1,⟨40,1,.mix [.p (pVR v)]⟩)]
theorem y0d (v:List RQ)(i:Nat)(hi:i<v.length)(hl:v.length<1000000000)(hs:∀ r∈v,r.sm):I4 E (fun _=>true) 106 [.p (vZ i),.at_ 1 0 1] (bV v) (bV v) (.p (bZ (!(v.getD i default).is))):=by
 refine n4 (xs:=[bZ (!(v.getD i default).is)]) Tryz.func106 rfl Tryz.ntmps106 Tryz.results106 sM fun F G=>?_
 have L:=@lti _ _ G.nt
 have hG:=G.g
 have hX:=G.x
 have hN:=W5 hG
 have P0:=G.p0
 have hr:=hs _ (gD hi)
 refine exr (aV L rfl (zn [(0,_),(1,_)] [(1,_)] t2 t1 (exr (sw (Y1 ag40 rF rF L) t1 t1 ?_))))
 refine mV L rfl (sw (F2 un40 sz47 oM oM sM dC L) t2 t0 ?_)
 refine sw (F7 ag47 sz47 (Y0g hi) rfl L) t1 t0 (cK hG hX cl107 hN (B1c hr.1 hr.2.1 hr.2.2) L t1 (sw (P3 L) t1 t0 (aV L rfl (zn [(3,_)] [(1,_)] t1 t1 (V1 ?_)))))
 refine ⟨.inr rfl,U4.cast (.cons (.tmp rfl) .nil) ?_,t1⟩
 rfl
theorem m0y {p:Nat→Bool}:∀ {n a:Nat},(L4 p a n<0)↔(List.range' a n).all (fun i=>!p i)=true
 | 0,a=>by simp [L4]
 | n+1,a=>by
  simp only [L4,List.range'_succ,List.all_cons]
  by_cases h:p a=true
  ·simp [h]
  ·simp only [Bool.not_eq_true] at h
   rw [h,if_neg Bool.false_ne_true,m0y]; simp
theorem o6 {H:List (Nat×Blk)}(h:(H.all fun p=>p.2.cs.only (H.map (·.1)))=true):Whole H:=by
 intro j B hj i x hx q hq
 rw [s0] at h
 have h1:=PV.only_mem (Cells.only_get (h _ (O3 hj)) hx) hq
 obtain ⟨p,hp,e⟩:=G0.1 h1
 intro hn
 rw [List.lookup_eq_none_iff] at hn
 have:=hn p hp
 simp [e] at this
theorem m1c {p:RQ→Bool}{v:List RQ}:((List.range' 0 v.length).all fun i=>p (v.getD i default))=v.all p:=by
 rw [← List.range_eq_range']
 induction v with
 | nil=>rfl
 | cons a v ih =>
  rw [D1,List.range_succ_eq_map,List.all_cons,List.all_map,List.all_cons]
  simp only [List.getD_cons_zero,Function.comp_def,List.getD_cons_succ]
  rw [← ih]
theorem d1d {p:RQ→Bool}{v:List RQ}:decide (L4 (fun i=>!p (v.getD i default)) 0 (v.length - 0)<0)=v.all p:=by
 rw [Bool.eq_iff_iff,decide_eq_true_iff,m0y,Nat.sub_zero]
 simp only [Bool.not_not]
 rw [m1c]
theorem O4 (v:List RQ)(hl:v.length<1000000000)(hs:∀ r∈v,r.sm):Y2 E 64 [pVR v] (bZ (v.all RQ.is)):=by
 refine j2 (xs:=[bZ (v.all RQ.is)]) Tryz.func64 rfl Tryz.ntmps64 Tryz.results64 sM fun F hG hX0 hnt hdf P0=>?_
 obtain ⟨L,hX,hN⟩:=pro hnt hX0 hG
 have hcl:=fun i (h:0≤i) (hi:i<v.length)=>y0d v i hi hl hs
 refine exr (swb (R3 (k:=1) (n:=1) .sl rfl rfl (P0 _ rfl) L) t1 t0 ⟨rfl,rfl⟩ (aV L rfl (zn [(1,_)] [(1,_)] t1 t1 (exr (sw (Y1 ag40 rF rF L) t1 t1 ?_)))))
 refine sw (R2 un40 L) t1 t0 (sw (j0d (vs:=[]) (us:=[_]) rfl rfl L) t1 t0 (sw (s5 hG hX hN (f7 106 [.at_ 1 0 1] (bV v) sM (o6 rfl) cl106 _ 0 v.length oM hcl) rfl L (C4 (ys:=[_,_,_]) cl52 rfl rfl) sM (o6 rfl) (fun q h=>by cases h)) t3 t1 ?_))
 refine sw (d4 L) t2 t0 (aV L rfl (zn [(2,_)] [] t1 trivial (V1 ?_)))
 refine Q0 (.tmp rfl) ?_
 rw [← d1d]
def i9 (m:List (List RQ)):List J2:=m.map pVR
@[simp] theorem P0h (m:List (List RQ)):(i9 m).length=m.length:=by simp [i9]
@[reducible] def pMR (c:Int)(m:List (List RQ)):J2:=.agg [vZ c,.sl m.length (i9 m)]
theorem d0x {m:List (List RQ)}{i:Nat}(h:i<m.length):(i9 m)[i]? = some (pVR (m.getD i [])):=by
 simp [i9,h,f0]
theorem gDL {α:Type}{v:List (List α)}{i:Nat}(h:i<v.length):v.getD i []∈v:=by simp [f0,h]
@[reducible] def bM (c:Int)(m:List (List RQ)):List (Nat×Blk):=[(1,⟨24,2,.mix [.p (vZ c),.p (.sl m.length (i9 m))]⟩)]
def b0f (c:Int)(r:List RQ):Bool:=decide ((r.length:Int)=c) && r.all RQ.is
def MSm (m:List (List RQ)):Prop:=m.length<1000000000∧∀ r∈m,r.length<1000000000∧∀ a∈r,a.sm
theorem p1c (c:Int)(m:List (List RQ))(i:Nat)(hi:i<m.length)(hm:MSm m):I4 E (fun _=>true) 85 [.p (vZ i),.at_ 1 0 2] (bM c m) (bM c m) (.p (bZ (!b0f c (m.getD i [])))):=by
 refine n4 (xs:=[bZ (!b0f c (m.getD i []))]) Tryz.func85 rfl Tryz.ntmps85 Tryz.results85 sM fun F G=>?_
 have L:=@lti _ _ G.nt
 have hG:=G.g
 have hX:=G.x
 have hN:=W5 hG
 have P0:=G.p0
 have hr:=hm.2 _ (gDL hi)
 have hl:=hm.1
 refine exr (aV L rfl (zn [(0,_),(1,_)] [(1,_)] t2 t1 ?_))
 refine P1f (sl:=[(3,vb (!b0f c (m.getD i [])))]) (sl0:=[]) (hb:=[]) (hb0:=[(1,_)]) rF t0 t1 ?_ ?_
 ·by_cases h:((m.getD i []).length:Int)=c
  ·refine sw (Z1 un24 rfl sz22 dC rX L) t1 t1 ?_
   refine sw (Y1 ag22 rF rF L) t1 t1 ?_
   refine mV L rfl (sw (ixJ un22 sz40 (j:=i) rO oM sM L) t2 t0 ?_)
   refine sw (v4 ag40 (d0x hi) L) t1 t0 (sw (R2 un40 L) t1 t0 (sw (Z1 un24 rfl sz3 dC rX L) t1 t1 ?_))
   refine sw (Y1 ag3 rF rF L) t1 t1 ?_
   refine sw (c_n L) t2 t0 (mV L rfl (swg (g:=13) rfl (by rw [h]; simp) (Z1 un24 rfl sz22 dC rX L) rfl t1 t1 ?_))
   refine swg (g:=13) rfl (by rw [h]; simp) (Y1 ag22 rF rF L) rfl t1 t1 ?_
   refine gV (g:=13) rfl (by rw [h]; simp) L rfl rfl ?_
   refine swg (g:=13) rfl (by rw [h]; simp) (ixJ un22 sz40 (j:=i) rO oM sM L) rfl t2 t0 ?_
   refine swg (g:=13) rfl (by rw [h]; simp) (v4 ag40 (d0x hi) L) rfl t1 t0 ?_
   refine swg (g:=13) rfl (by rw [h]; simp) (c_c hG hX cl64 rfl hN (O4 (m.getD i []) hr.1 hr.2) L) rfl t1 t0 ?_
   refine swg (g:=13) rfl (by rw [h]; simp) (P3 L) rfl t1 t0 ?_
   refine sw (V3 (by rw [h]; simp) L) t2 t0 ?_
   refine aV L rfl ?_
   exact O1 ⟨B5 [⟨[1],[1],[4],[]⟩,⟨[4],[1],[5],[]⟩,⟨[0],[],[6],[]⟩,⟨[5,6],[],[7],[]⟩,⟨[7],[],[8],[]⟩,⟨[8],[],[9],[]⟩,⟨[1],[1],[10],[]⟩,⟨[10],[1],[11],[]⟩,⟨[9,11],[],[12],[]⟩,⟨[12],[],[13],[]⟩,⟨[13,1],[1],[14],[]⟩,⟨[13,14],[1],[15],[]⟩,⟨[13,0],[],[16],[]⟩,⟨[13,15,16],[],[17],[]⟩,⟨[13,17],[],[18],[]⟩,⟨[13,18],[],[19],[]⟩,⟨[13,19],[],[20],[]⟩,⟨[13,20],[],[21],[]⟩,⟨[21],[],[3],[]⟩] rF rF dC,⟨ob rfl (by rw [b0f,h]; simp),trivial⟩,t1⟩
  ·refine sw (Z1 un24 rfl sz22 dC rX L) t1 t1 ?_
   refine sw (Y1 ag22 rF rF L) t1 t1 ?_
   refine mV L rfl (sw (ixJ un22 sz40 (j:=i) rO oM sM L) t2 t0 ?_)
   refine sw (v4 ag40 (d0x hi) L) t1 t0 (sw (R2 un40 L) t1 t0 (sw (Z1 un24 rfl sz3 dC rX L) t1 t1 ?_))
   refine sw (Y1 ag3 rF rF L) t1 t1 ?_
   refine sw (c_n L) t2 t0 (mV L rfl (swn (g:=13) rfl (by rw [decide_eq_false h]) L rfl ?_))
   refine swn (g:=13) rfl (by rw [decide_eq_false h]) L rfl ?_
   refine swn (g:=13) rfl (by rw [decide_eq_false h]) L rfl ?_
   refine swn (g:=13) rfl (by rw [decide_eq_false h]) L rfl ?_
   refine swn (g:=13) rfl (by rw [decide_eq_false h]) L rfl ?_
   refine swn (g:=13) rfl (by rw [decide_eq_false h]) L rfl ?_
   refine swn (g:=13) rfl (by rw [decide_eq_false h]) L rfl ?_
   refine sw (m4 (by rw [decide_eq_false h]; rfl) L) t2 t0 ?_
   refine aV L rfl ?_
   exact O1 ⟨B5 [⟨[1],[1],[4],[]⟩,⟨[4],[1],[5],[]⟩,⟨[0],[],[6],[]⟩,⟨[5,6],[],[7],[]⟩,⟨[7],[],[8],[]⟩,⟨[8],[],[9],[]⟩,⟨[1],[1],[10],[]⟩,⟨[10],[1],[11],[]⟩,⟨[9,11],[],[12],[]⟩,⟨[12],[],[13],[]⟩,⟨[13],[],[14],[]⟩,⟨[13],[],[15],[]⟩,⟨[13],[],[16],[]⟩,⟨[13],[],[17],[]⟩,⟨[13],[],[18],[]⟩,⟨[13],[],[19],[]⟩,⟨[13],[],[20],[]⟩,⟨[13],[],[21],[]⟩,⟨[21],[],[3],[]⟩] rF rF dC,⟨ob rfl (by rw [b0f,decide_eq_false h]; rfl),trivial⟩,t1⟩
 refine V1 ?_
 refine ⟨.inr rfl,U4.cast (.cons (.tmp rfl) .nil) ?_,t1⟩
 rfl
def isM (c:Int)(m:List (List RQ)):Bool:=decide (m.length≤400∧0≤c∧c≤60) && m.all (b0f c)
theorem f1a {p:List RQ→Bool}{v:List (List RQ)}:((List.range' 0 v.length).all fun i=>p (v.getD i []))=v.all p:=by
 rw [← List.range_eq_range']
 induction v with
 | nil=>rfl
 | cons a v ih =>
  rw [D1,List.range_succ_eq_map,List.all_cons,List.all_map,List.all_cons]
  simp only [List.getD_cons_zero,Function.comp_def,List.getD_cons_succ]
  rw [← ih]
theorem V0m {p:List RQ→Bool}{v:List (List RQ)}:decide (L4 (fun i=>!p (v.getD i [])) 0 (v.length - 0)<0)=v.all p:=by
 rw [Bool.eq_iff_iff,decide_eq_true_iff,m0y,Nat.sub_zero]
 simp only [Bool.not_not]
 rw [f1a]
theorem w6 (c:Int)(m:List (List RQ))(hm:MSm m):Y2 E 40 [pMR c m] (bZ (isM c m)):=by
 refine j2 (xs:=[bZ (isM c m)]) Tryz.func40 rfl Tryz.ntmps40 Tryz.results40 sM fun F hG hX0 hnt hdf P0=>?_
 obtain ⟨L,hX,hN⟩:=pro hnt hX0 hG
 have hl:=hm.1
 have hcl:=fun i (h:0≤i) (hi:i<m.length)=>p1c c m i hi hm
 refine exr (swb (R3 (k:=1) (n:=2) pa2 rfl rfl (P0 _ rfl) L) t1 t0 ⟨rfl,rfl⟩ (aV L rfl (zn [(1,_)] [(1,_)] t1 t1 (R1 ?_))))
 refine exm (sl:=[(16,vb (!decide (m.length≤400∧0≤c∧c≤60)))]) (sl0:=[(1,_)]) (hb:=[]) (hb0:=[(1,_)]) t1 t1 ?_ ?_
 ·rcases (by omega:400<m.length∨m.length≤400∧c<0∨m.length≤400∧0≤c) with h | h | h
  ·refine sw (Z1 un24 rfl sz22 dC rX L) t1 t1 ?_
   refine sw (Y1 ag22 rF rF L) t1 t1 ?_
   refine sw (R2 un22 L) t1 t0 (sw (X6 L) t2 t0 (mV L rfl (swn (g:=7) rfl sO L rfl (swn (g:=7) rfl sO L rfl (swn (g:=7) rfl sO L rfl (sw (m4 sO L) t2 t0 (mV L rfl (swn (g:=12) rfl rfl L rfl (swn (g:=12) rfl rfl L rfl (swn (g:=12) rfl rfl L rfl (sw (m4 rfl L) t2 t0 ?_)))))))))))
   exact O1 ⟨⟨ob rfl sO,rfl,trivial⟩,t1⟩
  ·refine sw (Z1 un24 rfl sz22 dC rX L) t1 t1 ?_
   refine sw (Y1 ag22 rF rF L) t1 t1 ?_
   refine sw (R2 un22 L) t1 t0 (sw (X6 L) t2 t0 (mV L rfl (swg (g:=7) rfl sO (Z1 un24 rfl sz3 dC rX L) rfl t1 t1 ?_)))
   refine swg (g:=7) rfl sO (Y1 ag3 rF rF L) rfl t1 t1 ?_
   refine swg (g:=7) rfl sO (d4 L) rfl t2 t0 (sw (V3 sO L) t2 t0 (mV L rfl (swn (g:=12) rfl sO L rfl (swn (g:=12) rfl sO L rfl (swn (g:=12) rfl sO L rfl (sw (m4 sO L) t2 t0 ?_))))))
   exact O1 ⟨⟨ob rfl sO,rfl,trivial⟩,t1⟩
  ·refine sw (Z1 un24 rfl sz22 dC rX L) t1 t1 ?_
   refine sw (Y1 ag22 rF rF L) t1 t1 ?_
   refine sw (R2 un22 L) t1 t0 (sw (X6 L) t2 t0 (mV L rfl (swg (g:=7) rfl sO (Z1 un24 rfl sz3 dC rX L) rfl t1 t1 ?_)))
   refine swg (g:=7) rfl sO (Y1 ag3 rF rF L) rfl t1 t1 ?_
   refine swg (g:=7) rfl sO (d4 L) rfl t2 t0 (sw (V3 sO L) t2 t0 (mV L rfl (swg (g:=12) rfl sO (Z1 un24 rfl sz3 dC rX L) rfl t1 t1 ?_)))
   refine swg (g:=12) rfl sO (Y1 ag3 rF rF L) rfl t1 t1 ?_
   refine swg (g:=12) rfl sO (X6 L) rfl t2 t0 (sw (V3 sO L) t2 t0 ?_)
   exact O1 ⟨⟨ob rfl (by rw [Bool.eq_iff_iff]; simp; omega),rfl,trivial⟩,t1⟩
 refine D2 rfl (fun hc=>?_) (fun hc=>?_)
 ·refine exr (aV L rfl (zn [(2,_)] [] t1 trivial (V1 ?_)))
  refine Q0 (.tmp rfl) ?_
  simp only [isM]; rw [show decide (m.length≤400∧0≤c∧c≤60)=false by simpa only [Bool.not_eq_true'] using hc]; rfl
 ·refine U1 (xq ?_)
  refine exr (sw (Z1 un24 rfl sz22 dC rX L) t1 t1 ?_)
  refine sw (Y1 ag22 rF rF L) t1 t1 ?_
  refine sw (R2 un22 L) t1 t0 (sw (j0d (vs:=[]) (us:=[_]) rfl rfl L) t1 t0 (sw (s5 hG hX hN (f7 85 [.at_ 1 0 2] (bM c m) sM (o6 rfl) cl85 _ 0 m.length oM hcl) rfl L (C4 (ys:=[_,_,_]) cl52 rfl rfl) sM (o6 rfl) (fun q h=>by cases h)) t3 t1 ?_))
  refine sw (d4 L) t2 t0 (aV L rfl (zn [(2,_)] [] t1 trivial (V1 ?_)))
  refine Q0 (.tmp rfl) ?_
  rw [isM,show decide (m.length≤400∧0≤c∧c≤60)=true by simpa only [Bool.not_eq_false'] using hc,Bool.true_and,← V0m]
@[reducible] def pMq (c:Int)(M:List (List Rat)):J2:=.agg [vZ c,.sl M.length (O5 M)]
theorem h0m (M:List (List Rat)):i9 (M.map (List.map RQ.of))=O5 M:=by
 simp only [i9,O5,List.map_map,Function.comp_def,g0b]
theorem b0j (c:Int)(M:List (List Rat)):pMR c (M.map (List.map RQ.of))=pMq c M:=by rw [pMR,pMq,h0m,O0]
structure MOk (c:Nat) (M:List (List Rat)):Prop where
 rows:M.length≤400
 cols:c≤60
 len:∀ r∈M,r.length=c
def MB (B:Nat)(M:List (List Rat)):Prop:=∀ r∈M,∀ a∈r,qw a≤B
theorem MOk.get {c:Nat}{M:List (List Rat)}(h:MOk c M){i:Nat}(hi:i<M.length):(M.getD i []).length=c:=h.len _ (gDL hi)
theorem K0z (v:List Rat):(v.map RQ.of).all RQ.is=true:=by
 rw [s0]; intro r hr
 obtain ⟨a,_,rfl⟩:=G0.1 hr
 exact RQ.is_of a
theorem v1x {c:Nat}{M:List (List Rat)}(h:MOk c M):isM c (M.map (List.map RQ.of))=true:=by
 rw [isM,j0,decide_eq_true_iff,s0]
 have:=h.rows; have:=h.cols
 refine ⟨⟨by simp; omega,by omega,by omega⟩,fun r hr=>?_⟩
 obtain ⟨v,hv,rfl⟩:=G0.1 hr
 rw [b0f,K0z,O0,h.len v hv]; simp
theorem N1g:∀ {r:List RQ},(∀ a∈r,a.sm)→r.all RQ.is=true→∃ v:List Rat,r=v.map RQ.of
 | [],_,_=>⟨[],rfl⟩
 | a :: r,hs,h=>by
  simp only [List.all_cons,j0] at h
  obtain ⟨q,hq⟩:=RQ.of_is (hs a sM).1 h.1
  obtain ⟨v,hv⟩:=N1g (fun b hb=>hs b (by simp [hb])) h.2
  exact ⟨q :: v,by rw [hq,hv]; rfl⟩
theorem M1z:∀ {m:List (List RQ)},(∀ r∈m,∀ a∈r,a.sm)→(m.all fun r=>r.all RQ.is)=true→∃ M:List (List Rat),m=M.map (List.map RQ.of)
 | [],_,_=>⟨[],rfl⟩
 | r :: m,hs,h=>by
  simp only [List.all_cons,j0] at h
  obtain ⟨v,hv⟩:=N1g (hs r sM) h.1
  obtain ⟨M,hM⟩:=M1z (fun b hb=>hs b (by simp [hb])) h.2
  exact ⟨v :: M,by rw [hv,hM]; rfl⟩
theorem K1k {c:Int}{m:List (List RQ)}(hs:MSm m)(h:isM c m=true):∃ (k:Nat) (M:List (List Rat)),c=k∧m=M.map (List.map RQ.of)∧MOk k M:=by
 rw [isM,j0,decide_eq_true_iff,s0] at h
 obtain ⟨⟨h1,h2,h3⟩,h4⟩:=h
 obtain ⟨M,rfl⟩:=M1z (fun r hr=>(hs.2 r hr).2) (by
  rw [s0]; intro r hr
  have:=h4 r hr
  rw [b0f,j0] at this; exact this.2)
 refine ⟨c.toNat,M,by omega,rfl,by simpa using h1,by omega,fun r hr=>?_⟩
 have:=h4 _ (List.mem_map_of_mem hr)
 rw [b0f,j0,decide_eq_true_iff,O0] at this
 omega
theorem v1j {c B:Nat}{M:List (List Rat)}(h:MOk c M)(hB:MB B M)(hb:B<1000000000):MSm (M.map (List.map RQ.of)):=by
 have:=h.rows; have:=h.cols
 refine ⟨by simp; omega,fun r hr=>?_⟩
 obtain ⟨v,hv,rfl⟩:=G0.1 hr
 refine ⟨by rw [O0,h.len v hv]; omega,fun a ha=>?_⟩
 obtain ⟨q,hq,rfl⟩:=G0.1 ha
 have:=hB v hv q hq
 exact RQ.sm_of oM
theorem D6 {c B:Nat}{M:List (List Rat)}(h:MOk c M)(hB:MB B M)(hb:B<1000000000):Y2 E 40 [pMq c M] (bZ true):=by
 have:=w6 c _ (v1j h hB hb)
 rwa [v1x h,b0j] at this
@[reducible] def N0r (k:Nat):List (List Rat)→PV
 | []=>.p (.a (.slice none 0 0))
 | a :: v=>.ref k 0 (a :: v).length (a :: v).length
@[reducible] def N0m (k:Nat):List (List Rat)→List (Nat×Blk)
 | []=>[]
 | a :: v=>[(k,⟨40,1,.pure (O5 (a :: v))⟩)]
theorem G0a (u v:List (List Rat)):O5 (u++v)=O5 u++O5 v:=by simp [O5]
theorem y1h (n:Nat)(T:List (List Rat))(v:List Rat)(h:v.length=n):(⟨40,1,.pure (O5 T++[.sl n (d6 v)])⟩:Blk)=⟨40,1,.pure (O5 (T++[v]))⟩:=by subst h; rw [G0a]; rfl
def d7 (M:List (List Rat))(j:Nat):List Rat:=M.map (·.getD j 0)
def trM (c:Nat)(M:List (List Rat)):List (List Rat):=(List.range c).map (d7 M)
theorem Z8 {M:List (List Rat)}{j k:Nat}(h:k<M.length):d7 (M.take (k+1)) j=d7 (M.take k) j++[(M.getD k []).getD j 0]:=by
 rw [I1,show M[k]?.toList=[M.getD k []] by simp [f0,h],d7,List.map_append]; rfl
theorem p0a (j:Nat)(M:List (List Rat)):trM (j+1) M=trM j M++[d7 M j]:=by simp [trM,List.range_succ]
@[simp] theorem G0b (j:Nat)(M:List (List Rat)):(trM j M).length=j:=by simp [trM]
@[simp] theorem J7 (j:Nat)(M:List (List Rat)):(d7 M j).length=M.length:=by simp [d7]
theorem q1x (c:Int)(m:List (List RQ))(hm:MSm m)(h:isM c m=false):Y2 E 38 [pMR c m] (.tup [pMq 0 [],vZ 3]):=by
 refine j2 (xs:=[pMq 0 [],vZ 3]) Tryz.func38 rfl Tryz.ntmps38 Tryz.results38 sM fun F hG hX0 hnt hdf P0=>?_
 obtain ⟨L,hX,hN⟩:=pro hnt hX0 hG
 refine exr (swb (R3 (k:=1) (n:=2) pa2 rfl rfl (P0 _ rfl) L) t1 t0 ⟨rfl,rfl⟩ (swb (T3 (k:=2) (n:=2) zv24 (.cons rfl (.cons rfl .nil)) rfl (P0 _ rfl) L) t0 t0 ⟨rfl,rfl⟩ (aV L rfl (zn [(1,_),(2,_)] [(1,_),(2,_)] t2 t2 (R1 (exr (lp2 ag24 sz24 L rfl rfl (cK hG hX cl40 hN (w6 c m hm) L t1 (sw (P3 L) t1 t0 (zn [(1,_),(2,_),(11,_)] [(1,_),(2,_)] t3 t2 (i6 rfl (by rw [h]; rfl) ?_)))))))))))
 refine exr (sw (Y7 (E6 (vs:=[]) un24 zv24 (.cons rfl (.cons rfl .nil)) ((y2.cons sz3 (y2.cons sz22 y2.nil))).to rfl .nil (.cons (.cons .nil)) L) (.agg (.cons .same (.cons .nil .nil)))) t0 t0 (sb (U2 sz24 rF pa2 rfl pu2) t2 t1 ?_))
 refine aV L rfl (zn [(2,_),(3,_)] [(2,_)] t2 t1 (V1 ?_))
 refine Y0 (.agg rfl rfl rfl ag24 sz24 (.cons (.cons .nil))) (.tmp rfl) ?_
 rfl
theorem f1f (c B:Nat)(M:List (List Rat))(h:MOk c M)(hB:MB B M)(hb:B<1000000000)(hM:M.length≤60):Y2 E 38 [pMq c M] (.tup [pMq M.length (trM c M),vZ 0]):=by
 refine j2 (xs:=[pMq M.length (trM c M),vZ 0]) Tryz.func38 rfl Tryz.ntmps38 Tryz.results38 sM fun F hG hX0 hnt hdf P0=>?_
 obtain ⟨L,hX,hN⟩:=pro hnt hX0 hG
 have hc60:=h.cols
 refine exr (swb (R3 (k:=1) (n:=2) pa2 rfl rfl (P0 _ rfl) L) t1 t0 ⟨rfl,rfl⟩ (swb (T3 (k:=2) (n:=2) zv24 (.cons rfl (.cons rfl .nil)) rfl (P0 _ rfl) L) t0 t0 ⟨rfl,rfl⟩ (aV L rfl (zn [(1,_),(2,_)] [(1,_),(2,_)] t2 t2 (R1 (exr (lp2 ag24 sz24 L rfl rfl (cK hG hX cl40 hN (D6 h hB hb) L t1 (sw (P3 L) t1 t0 (zn [(1,_),(2,_),(11,_)] [(1,_),(2,_)] t3 t2 (W3 rfl rfl ?_)))))))))))
 refine U1 (xq ?_)
 refine R1 (exr (sw (Z1 un24 rfl sz22 dC rX L) t1 t1 ?_))
 refine sw (Y1 ag22 rF rF L) t1 t1 ?_
 refine sw (R2 un22 L) t1 t0 (sw (X6 L) t2 t0 (zn [(1,_),(2,_),(16,_)] [(1,_),(2,_)] t3 t2 (W3 rfl sO ?_)))
 refine U1 (xq ?_)
 refine exr (sw (Z1 un24 rfl sz22 dC rX L) t1 t1 ?_)
 refine sw (Y1 ag22 rF rF L) t1 t1 ?_
 refine sw (R2 un22 L) t1 t0 (sw (E6 (vs:=[_]) un24 zv24 (.cons rfl (.cons rfl .nil)) ((y2.cons sz3 (y2.cons sz22 y2.nil))).to rfl (.cons rfl (.atom rfl) rfl pu1 .nil) (.cons (.cons .nil)) L) t1 t0 (swb (T3 (k:=4) (n:=2) zv24 (.cons rfl (.cons rfl .nil)) rfl (P0 _ rfl) L) t0 t0 ⟨rfl,rfl⟩ (sb (U2 sz24 rF pa2 rfl pu2) t2 t1 ?_)))
 refine zn [(1,_),(2,_),(4,_)] [(1,_),(2,_),(4,_)] t3 t3 (R1 (exr (sw (Z1 un24 rfl sz3 dC rX L) t1 t1 ?_)))
 refine sw (Y1 ag3 rF rF L) t1 t1 ?_
 refine mV L rfl (zn [(1,_),(2,_),(4,_),(23,_),(24,_)] [(1,_),(2,_),(4,_)] t5 t3 (X1 ?_))
 refine exl (α:=(Nat×List (List Rat))) (fun x=>[(24,vi (x.1:Int))]) (fun x=>[(4,⟨24,2,.mix [.p (vZ M.length),N0r 50 x.2]⟩)]++N0m 50 x.2) (fun x=>x.1≤c∧trM x.1 M=x.2) (fun x=>c - x.1) ((0,[])) (sl:=[(1,_),(2,_),(4,_),(23,_)]) (hb:=[(1,_),(2,_)]) ?_ ⟨oR,rfl,rfl,rfl,rfl,trivial⟩ (hbI (l':=[(4,_),(1,_),(2,_)]) rfl t3) ?_
 ·exact ⟨Nat.zero_le _,rfl⟩
 intro x hx
 obtain ⟨j,T⟩:=x
 obtain ⟨hj,hT⟩:=hx
 simp only at hj hT
 rcases T with _ | ⟨q,T⟩
 ·dsimp only [N0r,N0m,List.append_nil]
  refine exr (sw (d4 L) t2 t0 (zn [(1,_),(2,_),(4,_),(23,_),(24,_),(25,_)] [(1,_),(2,_),(4,_)] t6 t3 (R1 ?_)))
  refine D2 rfl (fun hc=>?_) (fun hc=>?_)
  ·have hc:=dt hc
   have hjc:j<c:=by omega
   have ht:=p0a j M
   rw [hT] at ht
   refine U1 (xq ?_)
   refine R1 (X1 (exr (mV L rfl (aV L rfl (zn [(1,_),(2,_),(4,_),(5,_),(23,_),(24,_)] [(1,_),(2,_),(4,_)] t6 t3 (exr (sw (Z1 un24 rfl sz22 dC rX L) t1 t1 ?_)))))))
   refine sw (Y1 ag22 rF rF L) t1 t1 ?_
   refine sw (R2 un22 L) t1 t0 (swb (M6 (sz:=4) (k:=30) un40 ti47 rfl rfl dC rfl rfl rfl (show (0:Int)=((0:Nat):Int) from rfl) rfl (Nat.zero_le _) (by simp [Tryz.t47]; omega) oM (P0 _ rfl) L) t2 t0 ⟨rfl,rfl⟩ ?_)
   refine aV L rfl ?_
   refine O1 ⟨[(1,_),(2,_),(4,_),(5,_),(6,.ref 30 0 0 0),(23,_),(24,_)],[(1,_),(2,_),(4,_),(30,q4 [])],t7,t4,?_⟩
   refine R1 (exr (sw (Z1 un24 rfl sz22 dC rX L) t1 t1 ?_))
   refine sw (Y1 ag22 rF rF L) t1 t1 ?_
   refine sw (R2 un22 L) t1 t0 (mV L rfl (zn [(1,_),(2,_),(4,_),(5,_),(6,_),(23,_),(24,_),(32,_),(33,_),(34,_)] [(1,_),(2,_),(4,_),(30,_)] t10 t4 (X1 ?_)))
   refine exl (α:=Nat) (fun k=>[(34,vi (k:Int)),(6,.ref 30 0 k (k*4))]) (fun k=>[(30,q4 (d7 (M.take k) j))]) (fun k=>k≤M.length) (fun k=>M.length - k) (0) (sl:=[(1,_),(2,_),(4,_),(5,_),(23,_),(24,_),(32,_),(33,_)]) (hb:=[(1,_),(2,_),(4,_)]) ?_ ⟨oR,oR,rfl,rfl,rfl,rfl,rfl,rfl,rfl,rfl,trivial⟩ t4 ?_
   ·exact Nat.zero_le _
   intro k hk
   refine exr (sw (d4 L) t2 t0 (zn [(1,_),(2,_),(4,_),(5,_),(6,_),(23,_),(24,_),(32,_),(33,_),(34,_),(35,_)] [(1,_),(2,_),(4,_),(30,_)] t11 t4 (R1 ?_)))
   refine D2 rfl (fun he=>?_) (fun he=>?_)
   ·have he:=dt he
    have hk2:k<M.length:=by omega
    have hrl:=h.get hk2
    refine U1 (xq ?_)
    refine R1 (X1 (exr (sw (ixJ un22 sz40 (j:=k) rO oM sM L) t2 t0 ?_)))
    refine sw (v4 ag40 (W9 hk2) L) t1 t0 (aV L rfl (zn [(1,_),(2,_),(4,_),(5,_),(6,_),(8,_),(23,_),(24,_),(32,_),(33,_),(34,_)] [(1,_),(2,_),(4,_),(30,_)] t11 t4 (y3 (mV L rfl (mV L rfl (mV L rfl (sw (F2 un40 sz47 oM oM sM dC L) t2 t0 ?_)))))))
    refine sw (F7 ag47 sz47 (V7 (show j<(M.getD k []).length by omega)) rfl L) t1 t0 ?_
    refine sw (F4 (vs:=[_]) un40 ti47 rfl rfl dC dC rfl (M2 (.cons rfl (.cons rfl (.cons rfl (.cons rfl .nil)))) rfl) rfl (.cons rfl pa4 rfl pu4 .nil) (.cons (.cons (.cons (.cons .nil)))) L) t1 t0 (swb (apP (sz:=4) un40 un40 ti47 rfl rfl rfl dC (by exact (by first | (simp; done) | (simp; omega))) oF sM rfl rfl rfl (by first | (simp [Tryz.t47]; done) | (simp [Tryz.t47]; omega)) oM (P0 _ rfl) L) t2 t1 t0 ?_)
    refine aV L rfl (O1 (y3 (sw (K3 L (w64 oM oM)) t2 t0 (mV L rfl (O1 ?_)))))
    exact ⟨k+1,oM,by omega,E3 ⟨oR,ov rfl sO,rfl,rfl,rfl,rfl,rfl,rfl,rfl,rfl,trivial⟩ ⟨obl rfl ((g0x _ _).trans (by rw [Z8 hk2])),rfl,rfl,rfl,trivial⟩⟩
   ·have he:=df he
    have hkM:k=M.length:=by omega
    subst hkM
    rw [I0]
    refine L2 (xq ?_)
    refine G4 [30] (sl:=[(1,_),(2,_),(4,_),(6,_),(23,_),(24,_)]) (hb:=[(1,_),(2,_),(4,_)]) (M3 hX0) ⟨⟨_,rfl,.same⟩,⟨_,rfl,.same⟩,⟨_,rfl,.same⟩,⟨_,rfl,(.ref rfl rfl (by exact (by first | (simp; done) | (simp; omega))) (by first | rfl | omega))⟩,⟨_,rfl,.same⟩,⟨_,rfl,.same⟩,trivial⟩ ⟨⟨rfl,_,rfl,.same⟩,⟨rfl,_,rfl,.same⟩,⟨rfl,_,rfl,.same⟩,trivial⟩ ?_
    refine y3 (sw (Z1 un24 rfl sz22 dC rX L) t1 t1 ?_)
    refine sw (Y1 ag22 rF rF L) t1 t1 ?_
    refine mV L rfl (sw (F4 (vs:=[_]) un22 ti40 rfl rfl dC dC rfl (M2 (.cons rfl .nil) rfl) rfl (.cons rfl .sl rfl pu1 .nil) (.cons .nil) L) t1 t0 (swb (apN (k:=50) (sz:=1) un22 un22 ti40 rfl rfl rfl dC sM rfl (by first | (simp [Tryz.t40]; done) | (simp [Tryz.t40]; omega)) oM (P0 _ rfl) L) t2 t0 ⟨rfl,rfl⟩ ?_))
    refine sw (Z1 un24 rfl sz22 dC rX L) t1 t1 ?_
    refine sb (U2 sz22 rF .ref rfl (.skip pu1)) t2 t1 ?_
    refine O1 (y3 (sw (K3 L (w64 oM oM)) t2 t0 (mV L rfl (O1 ?_))))
    exact ⟨(j+1,[d7 M j]),⟨by simp only; omega,ht⟩,(by simp only; omega),E3 ⟨oR,rfl,rfl,rfl,rfl,trivial⟩ (hbI (l':=[(4,_),(50,_),(1,_),(2,_)]) rfl ⟨rfl,obl rfl (by simp [O5]),rfl,rfl,trivial⟩)⟩
  ·have hc:=df hc
   have hjc:j=c:=by omega
   subst hjc
   refine L2 (xq ?_)
   refine exr (sw (Y7 (l6 ag24 sz24 rF (by exact al2) rfl L) (.agg (.cons .same (.cons .nil .nil)))) t1 t1 ?_)
   refine sb (U2 sz24 rF pa2 rfl pu2) t2 t1 ?_
   refine aV L rfl (zn [(2,_),(3,_)] [(2,_)] t2 t1 (V1 ?_))
   refine Y0 (.agg rfl rfl rfl ag24 sz24 (.cons (.cons .nil))) (.tmp rfl) ?_
   rw [hT]; rfl
 ·dsimp only [N0r,N0m]
  have hTl:(q :: T).length=j:=by rw [← hT,G0b]
  have hTl2:T.length+1=j:=hTl
  refine exr (sw (d4 L) t2 t0 (zn [(1,_),(2,_),(4,_),(23,_),(24,_),(25,_)] [(1,_),(2,_),(4,_),(50,_)] t6 t4 (R1 ?_)))
  refine D2 rfl (fun hc=>?_) (fun hc=>?_)
  ·have hc:=dt hc
   have hjc:j<c:=by omega
   have ht:=p0a j M
   rw [hT] at ht
   refine U1 (xq ?_)
   refine R1 (X1 (exr (mV L rfl (aV L rfl (zn [(1,_),(2,_),(4,_),(5,_),(23,_),(24,_)] [(1,_),(2,_),(4,_),(50,_)] t6 t4 (exr (sw (Z1 un24 rfl sz22 dC rX L) t1 t1 ?_)))))))
   refine sw (Y1 ag22 rF rF L) t1 t1 ?_
   refine sw (R2 un22 L) t1 t0 (swb (M6 (sz:=4) (k:=30) un40 ti47 rfl rfl dC rfl rfl rfl (show (0:Int)=((0:Nat):Int) from rfl) rfl (Nat.zero_le _) (by simp [Tryz.t47]; omega) oM (P0 _ rfl) L) t2 t0 ⟨rfl,rfl⟩ ?_)
   refine aV L rfl ?_
   refine O1 ⟨[(1,_),(2,_),(4,_),(5,_),(6,.ref 30 0 0 0),(23,_),(24,_)],[(1,_),(2,_),(4,_),(30,q4 []),(50,_)],t7,t5,?_⟩
   refine R1 (exr (sw (Z1 un24 rfl sz22 dC rX L) t1 t1 ?_))
   refine sw (Y1 ag22 rF rF L) t1 t1 ?_
   refine sw (R2 un22 L) t1 t0 (mV L rfl (zn [(1,_),(2,_),(4,_),(5,_),(6,_),(23,_),(24,_),(32,_),(33,_),(34,_)] [(1,_),(2,_),(4,_),(30,_),(50,_)] t10 t5 (X1 ?_)))
   refine exl (α:=Nat) (fun k=>[(34,vi (k:Int)),(6,.ref 30 0 k (k*4))]) (fun k=>[(30,q4 (d7 (M.take k) j))]) (fun k=>k≤M.length) (fun k=>M.length - k) (0) (sl:=[(1,_),(2,_),(4,_),(5,_),(23,_),(24,_),(32,_),(33,_)]) (hb:=[(1,_),(2,_),(4,_),(50,_)]) ?_ ⟨oR,oR,rfl,rfl,rfl,rfl,rfl,rfl,rfl,rfl,trivial⟩ t5 ?_
   ·exact Nat.zero_le _
   intro k hk
   refine exr (sw (d4 L) t2 t0 (zn [(1,_),(2,_),(4,_),(5,_),(6,_),(23,_),(24,_),(32,_),(33,_),(34,_),(35,_)] [(1,_),(2,_),(4,_),(30,_),(50,_)] t11 t5 (R1 ?_)))
   refine D2 rfl (fun he=>?_) (fun he=>?_)
   ·have he:=dt he
    have hk2:k<M.length:=by omega
    have hrl:=h.get hk2
    refine U1 (xq ?_)
    refine R1 (X1 (exr (sw (ixJ un22 sz40 (j:=k) rO oM sM L) t2 t0 ?_)))
    refine sw (v4 ag40 (W9 hk2) L) t1 t0 (aV L rfl (zn [(1,_),(2,_),(4,_),(5,_),(6,_),(8,_),(23,_),(24,_),(32,_),(33,_),(34,_)] [(1,_),(2,_),(4,_),(30,_),(50,_)] t11 t5 (y3 (mV L rfl (mV L rfl (mV L rfl (sw (F2 un40 sz47 oM oM sM dC L) t2 t0 ?_)))))))
    refine sw (F7 ag47 sz47 (V7 (show j<(M.getD k []).length by omega)) rfl L) t1 t0 ?_
    refine sw (F4 (vs:=[_]) un40 ti47 rfl rfl dC dC rfl (M2 (.cons rfl (.cons rfl (.cons rfl (.cons rfl .nil)))) rfl) rfl (.cons rfl pa4 rfl pu4 .nil) (.cons (.cons (.cons (.cons .nil)))) L) t1 t0 (swb (apP (sz:=4) un40 un40 ti47 rfl rfl rfl dC (by exact (by first | (simp; done) | (simp; omega))) oF sM rfl rfl rfl (by first | (simp [Tryz.t47]; done) | (simp [Tryz.t47]; omega)) oM (P0 _ rfl) L) t2 t1 t0 ?_)
    refine aV L rfl (O1 (y3 (sw (K3 L (w64 oM oM)) t2 t0 (mV L rfl (O1 ?_)))))
    exact ⟨k+1,oM,by omega,E3 ⟨oR,ov rfl sO,rfl,rfl,rfl,rfl,rfl,rfl,rfl,rfl,trivial⟩ ⟨obl rfl ((g0x _ _).trans (by rw [Z8 hk2])),rfl,rfl,rfl,rfl,trivial⟩⟩
   ·have he:=df he
    have hkM:k=M.length:=by omega
    subst hkM
    rw [I0]
    refine L2 (xq ?_)
    refine G4 [30] (sl:=[(1,_),(2,_),(4,_),(6,_),(23,_),(24,_)]) (hb:=[(1,_),(2,_),(4,_),(50,_)]) (M3 hX0) ⟨⟨_,rfl,.same⟩,⟨_,rfl,.same⟩,⟨_,rfl,.same⟩,⟨_,rfl,(.ref rfl rfl (by exact (by first | (simp; done) | (simp; omega))) (by first | rfl | omega))⟩,⟨_,rfl,.same⟩,⟨_,rfl,.same⟩,trivial⟩ ⟨⟨rfl,_,rfl,.same⟩,⟨rfl,_,rfl,.same⟩,⟨rfl,_,rfl,.same⟩,⟨rfl,_,rfl,.same⟩,trivial⟩ ?_
    refine y3 (sw (Z1 un24 rfl sz22 dC rX L) t1 t1 ?_)
    refine sw (Y1 ag22 rF rF L) t1 t1 ?_
    refine mV L rfl (sw (F4 (vs:=[_]) un22 ti40 rfl rfl dC dC rfl (M2 (.cons rfl .nil) rfl) rfl (.cons rfl .sl rfl pu1 .nil) (.cons .nil) L) t1 t0 (swb (apP (sz:=1) un22 un22 ti40 rfl rfl rfl dC (by exact (E7 _)) oF sM rfl rfl rfl (by first | (simp [Tryz.t40]; done) | (simp [Tryz.t40]; omega)) oM (P0 _ rfl) L) t2 t1 t0 ?_))
    refine sw (Z1 un24 rfl sz22 dC rX L) t1 t1 ?_
    refine sb (U2 sz22 rF .ref rfl (.skip pu1)) t2 t1 ?_
    refine O1 (y3 (sw (K3 L (w64 oM oM)) t2 t0 (mV L rfl (O1 ?_))))
    exact ⟨(j+1,q :: T++[d7 M j]),⟨by simp only; omega,ht⟩,(by simp only; omega),E3 ⟨oR,rfl,rfl,rfl,rfl,trivial⟩ (hbI (l':=[(4,_),(50,_),(1,_),(2,_)]) rfl ⟨obl rfl sM,obl rfl (y1h M.length (q :: T) (d7 M j) (J7 _ _)),rfl,rfl,trivial⟩)⟩
  ·have hc:=df hc
   have hjc:j=c:=by omega
   subst hjc
   refine L2 (xq ?_)
   refine exr (sw (Q1m ag24 sz24 rF (by exact (.cons (.cons .nil))) rfl L) t1 t1 ?_)
   refine sb (U2 sz24 rF .agg rfl pu2) t2 t1 ?_
   refine aV L rfl (zn [(2,_),(3,_)] [(2,_),(50,_)] t2 t2 (G4 [50] (sl:=[(2,_),(3,_)]) (hb:=[(2,_)]) (M3 hX0) ⟨⟨_,rfl,.same⟩,⟨_,rfl,.same⟩,trivial⟩ ⟨⟨rfl,_,rfl,(.mix (.cons .same (.cons (.ref rfl rfl (by exact (E7 _)) (by first | rfl | omega)) .nil)))⟩,trivial⟩ ?_))
   refine V1 ?_
   refine Y0 (.agg rfl rfl rfl ag24 sz24 (.cons (.cons .nil))) (.tmp rfl) ?_
   rw [hT]
def d0q (r:List Rat)(N:List (List Rat))(j:Nat):List Rat:=(List.range j).map fun k=>b0h r (d7 N k)
def M0b (d:Nat)(M N:List (List Rat)):List (List Rat):=M.map fun r=>d0q r N d
@[simp] theorem X5 (r:List Rat)(N:List (List Rat))(j:Nat):(d0q r N j).length=j:=by simp [d0q]
theorem q0r {r:List Rat}{N:List (List Rat)}{j:Nat}:d0q r N j++[b0h r (d7 N j)]=d0q r N (j+1):=by simp [d0q,List.range_succ]
@[simp] theorem V0p (d:Nat)(M N:List (List Rat)):(M0b d M N).length=M.length:=by simp [M0b]
theorem K0c {d:Nat}{M N:List (List Rat)}{i:Nat}(h:i<M.length):M0b d (M.take (i+1)) N=M0b d (M.take i) N++[d0q (M.getD i []) N d]:=by
 rw [I1,show M[i]?.toList=[M.getD i []] by simp [f0,h],M0b,List.map_append]; rfl
theorem n1q {B d j:Nat}{N:List (List Rat)}(h:MB B N)(hj:j<d)(hl:∀ r∈N,r.length=d):∀ a∈d7 N j,qw a≤B:=by
 intro a ha
 obtain ⟨r,hr,rfl⟩:=G0.1 ha
 have h1:j<r.length:=by rw [hl r hr]; exact hj
 exact h r hr _ (C5 h1)
theorem w1z (c d:Int)(m n:List (List RQ))(hm:MSm m)(h:isM c m=false):Y2 E 41 [pMR c m,pMR d n] (.tup [pMq 0 [],vZ 3]):=by
 refine j2 (xs:=[pMq 0 [],vZ 3]) Tryz.func41 rfl Tryz.ntmps41 Tryz.results41 sM fun F hG hX0 hnt hdf P0=>?_
 obtain ⟨L,hX,hN⟩:=pro hnt hX0 hG
 refine exr (swb (R3 (k:=2) (n:=2) pa2 rfl rfl (P0 _ rfl) L) t1 t0 ⟨rfl,rfl⟩ (swb (R3 (k:=3) (n:=2) pa2 rfl rfl (P0 _ rfl) L) t1 t0 ⟨rfl,rfl⟩ (swb (T3 (k:=4) (n:=2) zv24 (.cons rfl (.cons rfl .nil)) rfl (P0 _ rfl) L) t0 t0 ⟨rfl,rfl⟩ (aV L rfl (zn [(2,_),(3,_),(4,_)] [(2,_),(3,_),(4,_)] t3 t3 (R1 (exr (lp2 ag24 sz24 L rfl rfl (cK hG hX cl40 hN (w6 c m hm) L t1 (sw (P3 L) t1 t0 (mV L rfl ?_)))))))))))
 refine swn (g:=17) rfl (by rw [h] <;> rfl) L rfl ?_
 refine swn (g:=17) rfl (by rw [h] <;> rfl) L rfl ?_
 refine swn (g:=17) rfl (by rw [h] <;> rfl) L rfl ?_
 refine sw (m4 (by rw [h]; rfl) L) t2 t0 ?_
 refine zn [(2,_),(3,_),(4,_),(21,_)] [(2,_),(3,_),(4,_)] t4 t3 (i6 rfl rfl (exr (sw (Y7 (E6 (vs:=[]) un24 zv24 (.cons rfl (.cons rfl .nil)) ((y2.cons sz3 (y2.cons sz22 y2.nil))).to rfl .nil (.cons (.cons .nil)) L) (.agg (.cons .same (.cons .nil .nil)))) t0 t0 (sb (U2 sz24 rF pa2 rfl pu2) t2 t1 ?_))))
 refine aV L rfl (zn [(4,_),(5,_)] [(4,_)] t2 t1 (V1 ?_))
 refine Y0 (.agg rfl rfl rfl ag24 sz24 (.cons (.cons .nil))) (.tmp rfl) ?_
 rfl
theorem D1c (c d:Int)(m n:List (List RQ))(hm:MSm m)(hn:MSm n)(h:isM c m=true)(h2:isM d n=false):Y2 E 41 [pMR c m,pMR d n] (.tup [pMq 0 [],vZ 3]):=by
 refine j2 (xs:=[pMq 0 [],vZ 3]) Tryz.func41 rfl Tryz.ntmps41 Tryz.results41 sM fun F hG hX0 hnt hdf P0=>?_
 obtain ⟨L,hX,hN⟩:=pro hnt hX0 hG
 refine exr (swb (R3 (k:=2) (n:=2) pa2 rfl rfl (P0 _ rfl) L) t1 t0 ⟨rfl,rfl⟩ (swb (R3 (k:=3) (n:=2) pa2 rfl rfl (P0 _ rfl) L) t1 t0 ⟨rfl,rfl⟩ (swb (T3 (k:=4) (n:=2) zv24 (.cons rfl (.cons rfl .nil)) rfl (P0 _ rfl) L) t0 t0 ⟨rfl,rfl⟩ (aV L rfl (zn [(2,_),(3,_),(4,_)] [(2,_),(3,_),(4,_)] t3 t3 (R1 (exr (lp2 ag24 sz24 L rfl rfl (cK hG hX cl40 hN (w6 c m hm) L t1 (sw (P3 L) t1 t0 (mV L rfl ?_)))))))))))
 refine swg (g:=17) rfl (by rw [h] <;> rfl) (l6 ag24 sz24 rF (by exact al2) rfl L) rfl t1 t1 ?_
 refine swg (g:=17) rfl (by rw [h] <;> rfl) (c_c hG hX cl40 rfl hN (w6 d n hn) L) rfl t1 t0 ?_
 refine swg (g:=17) rfl (by rw [h] <;> rfl) (P3 L) rfl t1 t0 ?_
 refine sw (V3 (by rw [h]; rfl) L) t2 t0 ?_
 refine zn [(2,_),(3,_),(4,_),(21,_)] [(2,_),(3,_),(4,_)] t4 t3 (i6 rfl (by rw [h2]; rfl) ?_)
 refine exr (sw (Y7 (E6 (vs:=[]) un24 zv24 (.cons rfl (.cons rfl .nil)) ((y2.cons sz3 (y2.cons sz22 y2.nil))).to rfl .nil (.cons (.cons .nil)) L) (.agg (.cons .same (.cons .nil .nil)))) t0 t0 (sb (U2 sz24 rF pa2 rfl pu2) t2 t1 ?_))
 refine aV L rfl (zn [(4,_),(5,_)] [(4,_)] t2 t1 (V1 ?_))
 refine Y0 (.agg rfl rfl rfl ag24 sz24 (.cons (.cons .nil))) (.tmp rfl) ?_
 rfl
theorem v1v (c d B:Nat)(M N:List (List Rat))(h:MOk c M)(h2:MOk d N)(hB:MB B M)(hB2:MB B N)(hb:B<1000000000)(hcN:c≠N.length):Y2 E 41 [pMq c M,pMq d N] (.tup [pMq 0 [],vZ 1]):=by
 refine j2 (xs:=[pMq 0 [],vZ 1]) Tryz.func41 rfl Tryz.ntmps41 Tryz.results41 sM fun F hG hX0 hnt hdf P0=>?_
 obtain ⟨L,hX,hN⟩:=pro hnt hX0 hG
 refine exr (swb (R3 (k:=2) (n:=2) pa2 rfl rfl (P0 _ rfl) L) t1 t0 ⟨rfl,rfl⟩ (swb (R3 (k:=3) (n:=2) pa2 rfl rfl (P0 _ rfl) L) t1 t0 ⟨rfl,rfl⟩ (swb (T3 (k:=4) (n:=2) zv24 (.cons rfl (.cons rfl .nil)) rfl (P0 _ rfl) L) t0 t0 ⟨rfl,rfl⟩ (aV L rfl (zn [(2,_),(3,_),(4,_)] [(2,_),(3,_),(4,_)] t3 t3 (R1 (exr (lp2 ag24 sz24 L rfl rfl (cK hG hX cl40 hN (D6 h hB hb) L t1 (sw (P3 L) t1 t0 (mV L rfl ?_)))))))))))
 refine swg (g:=17) rfl rfl (l6 ag24 sz24 rF (by exact al2) rfl L) rfl t1 t1 ?_
 refine swg (g:=17) rfl rfl (c_c hG hX cl40 rfl hN (D6 h2 hB2 hb) L) rfl t1 t0 (swg (g:=17) rfl rfl (P3 L) rfl t1 t0 (sw (V3 rfl L) t2 t0 (zn [(2,_),(3,_),(4,_),(21,_)] [(2,_),(3,_),(4,_)] t4 t3 (W3 rfl rfl ?_))))
 refine U1 (xq ?_)
 refine R1 (exr (sw (Z1 un24 rfl sz3 dC rX L) t1 t1 ?_))
 refine sw (Y1 ag3 rF rF L) t1 t1 ?_
 refine sw (Z1 un24 rfl sz22 dC rX L) t1 t1 ?_
 refine sw (Y1 ag22 rF rF L) t1 t1 ?_
 refine sw (R2 un22 L) t1 t0 (sw (c_n L) t2 t0 (zn [(2,_),(3,_),(4,_),(28,_)] [(2,_),(3,_),(4,_)] t4 t3 (i6 rfl sO (exr (sw (Y7 (E6 (vs:=[]) un24 zv24 (.cons rfl (.cons rfl .nil)) ((y2.cons sz3 (y2.cons sz22 y2.nil))).to rfl .nil (.cons (.cons .nil)) L) (.agg (.cons .same (.cons .nil .nil)))) t0 t0 (sb (U2 sz24 rF pa2 rfl pu2) t2 t1 ?_))))))
 refine aV L rfl (zn [(4,_),(5,_)] [(4,_)] t2 t1 (V1 ?_))
 refine Y0 (.agg rfl rfl rfl ag24 sz24 (.cons (.cons .nil))) (.tmp rfl) ?_
 rfl
theorem H0b (c d B:Nat)(M N:List (List Rat))(h:MOk c M)(h2:MOk d N)(hB:MB B M)(hB2:MB B N)(hb:B<1000000)(hcN:c=N.length):Y2 E 41 [pMq c M,pMq d N] (.tup [pMq d (M0b d M N),vZ 0]):=by
 refine j2 (xs:=[pMq d (M0b d M N),vZ 0]) Tryz.func41 rfl Tryz.ntmps41 Tryz.results41 sM fun F hG hX0 hnt hdf P0=>?_
 obtain ⟨L,hX,hN⟩:=pro hnt hX0 hG
 have hc60:=h.cols
 have hd60:=h2.cols
 have hr4:=h.rows
 have hr5:=h2.rows
 refine exr (swb (R3 (k:=2) (n:=2) pa2 rfl rfl (P0 _ rfl) L) t1 t0 ⟨rfl,rfl⟩ (swb (R3 (k:=3) (n:=2) pa2 rfl rfl (P0 _ rfl) L) t1 t0 ⟨rfl,rfl⟩ (swb (T3 (k:=4) (n:=2) zv24 (.cons rfl (.cons rfl .nil)) rfl (P0 _ rfl) L) t0 t0 ⟨rfl,rfl⟩ (aV L rfl (zn [(2,_),(3,_),(4,_)] [(2,_),(3,_),(4,_)] t3 t3 (R1 (exr (lp2 ag24 sz24 L rfl rfl (cK hG hX cl40 hN (D6 h hB oM) L t1 (sw (P3 L) t1 t0 (mV L rfl ?_)))))))))))
 refine swg (g:=17) rfl rfl (l6 ag24 sz24 rF (by exact al2) rfl L) rfl t1 t1 ?_
 refine swg (g:=17) rfl rfl (c_c hG hX cl40 rfl hN (D6 h2 hB2 oM) L) rfl t1 t0 (swg (g:=17) rfl rfl (P3 L) rfl t1 t0 (sw (V3 rfl L) t2 t0 (zn [(2,_),(3,_),(4,_),(21,_)] [(2,_),(3,_),(4,_)] t4 t3 (W3 rfl rfl ?_))))
 refine U1 (xq ?_)
 refine R1 (exr (sw (Z1 un24 rfl sz3 dC rX L) t1 t1 ?_))
 refine sw (Y1 ag3 rF rF L) t1 t1 ?_
 refine sw (Z1 un24 rfl sz22 dC rX L) t1 t1 ?_
 refine sw (Y1 ag22 rF rF L) t1 t1 ?_
 refine sw (R2 un22 L) t1 t0 (sw (c_n L) t2 t0 (zn [(2,_),(3,_),(4,_),(28,_)] [(2,_),(3,_),(4,_)] t4 t3 (W3 rfl sO ?_)))
 refine U1 (xq ?_)
 refine exr (sw (Z1 un24 rfl sz3 dC rX L) t1 t1 ?_)
 refine sw (Y1 ag3 rF rF L) t1 t1 ?_
 refine sw (E6 (vs:=[_]) un24 zv24 (.cons rfl (.cons rfl .nil)) ((y2.cons sz3 (y2.cons sz22 y2.nil))).to rfl (.cons rfl (.atom rfl) rfl pu1 .nil) (.cons (.cons .nil)) L) t1 t0 (swb (T3 (k:=6) (n:=2) zv24 (.cons rfl (.cons rfl .nil)) rfl (P0 _ rfl) L) t0 t0 ⟨rfl,rfl⟩ (sb (U2 sz24 rF pa2 rfl pu2) t2 t1 ?_))
 refine zn [(2,_),(3,_),(4,_),(6,_)] [(2,_),(3,_),(4,_),(6,_)] t4 t4 (R1 (exr (sw (Z1 un24 rfl sz22 dC rX L) t1 t1 ?_)))
 refine sw (Y1 ag22 rF rF L) t1 t1 ?_
 refine sw (R2 un22 L) t1 t0 (mV L rfl (zn [(3,_),(4,_),(6,_),(34,_),(35,_),(36,_)] [(3,_),(4,_),(6,_)] t6 t3 (X1 ?_)))
 refine exl (α:=(Nat×List (List Rat))) (fun x=>[(36,vi (x.1:Int))]) (fun x=>[(6,⟨24,2,.mix [.p (vZ d),N0r 78 x.2]⟩)]++N0m 78 x.2) (fun x=>x.1≤M.length∧M0b d (M.take x.1) N=x.2) (fun x=>M.length - x.1) ((0,[])) (sl:=[(3,_),(4,_),(6,_),(34,_),(35,_)]) (hb:=[(3,_),(4,_)]) ?_ ⟨oR,rfl,rfl,rfl,rfl,rfl,trivial⟩ (hbI (l':=[(6,_),(3,_),(4,_)]) rfl t3) ?_
 ·exact ⟨Nat.zero_le _,rfl⟩
 intro x hx
 obtain ⟨i,T⟩:=x
 obtain ⟨hi,hT⟩:=hx
 simp only at hi hT
 rcases T with _ | ⟨q,T⟩
 ·dsimp only [N0r,N0m,List.append_nil]
  refine exr (sw (d4 L) t2 t0 (zn [(3,_),(4,_),(6,_),(34,_),(35,_),(36,_),(37,_)] [(3,_),(4,_),(6,_)] t7 t3 (R1 ?_)))
  refine D2 rfl (fun hc=>?_) (fun hc=>?_)
  ·have hc:=dt hc
   have hia:i<M.length:=by omega
   have ht:=K0c (N:=N) (d:=d) hia
   rw [hT] at ht
   have hrl:=h.get hia
   refine U1 (xq ?_)
   refine R1 (X1 (exr (sw (ixJ un22 sz40 (j:=i) rO oM sM L) t2 t0 ?_)))
   refine sw (v4 ag40 (W9 hia) L) t1 t0 (aV L rfl (zn [(3,_),(4,_),(6,_),(8,_),(34,_),(35,_),(36,_)] [(3,_),(4,_),(6,_)] t7 t3 (exr (sw (Z1 un24 rfl sz3 dC rX L) t1 t1 ?_))))
   refine sw (Y1 ag3 rF rF L) t1 t1 ?_
   refine swb (M6 (sz:=4) (k:=42) un40 ti47 rfl rfl dC rfl rfl rfl rfl rfl (Nat.le_refl _) (by simp [Tryz.t47]; omega) oM (P0 _ rfl) L) t2 t0 ⟨rfl,rfl⟩ ?_
   refine aV L rfl ?_
   refine O1 ⟨[(3,_),(4,_),(6,_),(8,_),(9,_),(34,_),(35,_),(36,_)],[(3,_),(4,_),(6,_),(42,⟨47,4,.pure (d6 []++V8 (d - 0) zc0)⟩)],t8,t4,?_⟩
   refine R1 (exr (mV L rfl (sw (p0d un40 (by exact (g9 _ _)) L) t1 t1 ?_)))
   refine mV L rfl (zn [(3,_),(4,_),(6,_),(8,_),(9,_),(34,_),(35,_),(36,_),(44,_),(45,_)] [(3,_),(4,_),(6,_),(42,_)] t10 t4 (X1 ?_))
   refine exl (α:=Nat) (fun j=>[(45,vi (j:Int))]) (fun j=>[(42,⟨47,4,.pure (d6 (d0q (M.getD i []) N j)++V8 (d - j) zc0)⟩)]) (fun j=>j≤d) (fun j=>d - j) (0) (sl:=[(3,_),(4,_),(6,_),(8,_),(9,_),(34,_),(35,_),(36,_),(44,_)]) (hb:=[(3,_),(4,_),(6,_)]) ?_ ⟨oR,rfl,rfl,rfl,rfl,rfl,rfl,rfl,rfl,rfl,trivial⟩ t4 ?_
   ·exact Nat.zero_le _
   intro j hj
   refine exr (sw (d4 L) t2 t0 (zn [(3,_),(4,_),(6,_),(8,_),(9,_),(34,_),(35,_),(36,_),(44,_),(45,_),(46,_)] [(3,_),(4,_),(6,_),(42,_)] t11 t4 (R1 ?_)))
   refine D2 rfl (fun he=>?_) (fun he=>?_)
   ·have he:=dt he
    have hjd:j<d:=by omega
    refine U1 (xq ?_)
    refine R1 (X1 (exr (mV L rfl (aV L rfl (zn [(3,_),(4,_),(6,_),(8,_),(9,_),(10,_),(34,_),(35,_),(36,_),(44,_),(45,_)] [(3,_),(4,_),(6,_),(42,_)] t11 t4 (exr (sw (Z1 un24 rfl sz22 dC rX L) t1 t1 ?_)))))))
    refine sw (Y1 ag22 rF rF L) t1 t1 ?_
    refine sw (R2 un22 L) t1 t0 (swb (M6 (sz:=4) (k:=51) un40 ti47 rfl rfl dC rfl rfl rfl (show (0:Int)=((0:Nat):Int) from rfl) rfl (Nat.zero_le _) (by simp [Tryz.t47]; omega) oM (P0 _ rfl) L) t2 t0 ⟨rfl,rfl⟩ ?_)
    refine aV L rfl ?_
    refine O1 ⟨[(3,_),(4,_),(6,_),(8,_),(9,_),(10,_),(11,.ref 51 0 0 0),(34,_),(35,_),(36,_),(44,_),(45,_)],[(3,_),(4,_),(6,_),(42,_),(51,q4 [])],t12,t5,?_⟩
    refine R1 (exr (sw (Z1 un24 rfl sz22 dC rX L) t1 t1 ?_))
    refine sw (Y1 ag22 rF rF L) t1 t1 ?_
    refine sw (R2 un22 L) t1 t0 (mV L rfl (zn [(3,_),(4,_),(6,_),(8,_),(9,_),(10,_),(11,_),(34,_),(35,_),(36,_),(44,_),(45,_),(53,_),(54,_),(55,_)] [(3,_),(4,_),(6,_),(42,_),(51,_)] t15 t5 (X1 ?_)))
    refine exl (α:=Nat) (fun k=>[(55,vi (k:Int)),(11,.ref 51 0 k (k*4))]) (fun k=>[(51,q4 (d7 (N.take k) j))]) (fun k=>k≤N.length) (fun k=>N.length - k) (0) (sl:=[(3,_),(4,_),(6,_),(8,_),(9,_),(10,_),(34,_),(35,_),(36,_),(44,_),(45,_),(53,_),(54,_)]) (hb:=[(3,_),(4,_),(6,_),(42,_)]) ?_ ⟨oR,oR,rfl,rfl,rfl,rfl,rfl,rfl,rfl,rfl,rfl,rfl,rfl,rfl,rfl,trivial⟩ t5 ?_
    ·exact Nat.zero_le _
    intro k hk
    refine exr (sw (d4 L) t2 t0 (zn [(3,_),(4,_),(6,_),(8,_),(9,_),(10,_),(11,_),(34,_),(35,_),(36,_),(44,_),(45,_),(53,_),(54,_),(55,_),(56,_)] [(3,_),(4,_),(6,_),(42,_),(51,_)] t16 t5 (R1 ?_)))
    refine D2 rfl (fun hf=>?_) (fun hf=>?_)
    ·have hf:=dt hf
     have hk2:k<N.length:=by omega
     have hrl2:=h2.get hk2
     refine U1 (xq ?_)
     refine R1 (X1 (exr (sw (ixJ un22 sz40 (j:=k) rO oM sM L) t2 t0 ?_)))
     refine sw (v4 ag40 (W9 hk2) L) t1 t0 (aV L rfl (zn [(3,_),(4,_),(6,_),(8,_),(9,_),(10,_),(11,_),(13,_),(34,_),(35,_),(36,_),(44,_),(45,_),(53,_),(54,_),(55,_)] [(3,_),(4,_),(6,_),(42,_),(51,_)] t16 t5 (y3 (mV L rfl (mV L rfl (mV L rfl (sw (F2 un40 sz47 oM oM sM dC L) t2 t0 ?_)))))))
     refine sw (F7 ag47 sz47 (V7 (show j<(N.getD k []).length by omega)) rfl L) t1 t0 ?_
     refine sw (F4 (vs:=[_]) un40 ti47 rfl rfl dC dC rfl (M2 (.cons rfl (.cons rfl (.cons rfl (.cons rfl .nil)))) rfl) rfl (.cons rfl pa4 rfl pu4 .nil) (.cons (.cons (.cons (.cons .nil)))) L) t1 t0 (swb (apP (sz:=4) un40 un40 ti47 rfl rfl rfl dC (by exact (by first | (simp; done) | (simp; omega))) oF sM rfl rfl rfl (by first | (simp [Tryz.t47]; done) | (simp [Tryz.t47]; omega)) oM (P0 _ rfl) L) t2 t1 t0 ?_)
     refine aV L rfl (O1 (y3 (sw (K3 L (w64 oM oM)) t2 t0 (mV L rfl (O1 ?_)))))
     exact ⟨k+1,oM,by omega,E3 ⟨oR,ov rfl sO,rfl,rfl,rfl,rfl,rfl,rfl,rfl,rfl,rfl,rfl,rfl,rfl,rfl,trivial⟩ ⟨obl rfl ((g0x _ _).trans (by rw [Z8 hk2])),rfl,rfl,rfl,rfl,trivial⟩⟩
    ·have hf:=df hf
     have hkM:k=N.length:=by omega
     subst hkM
     rw [I0]
     refine L2 (xq ?_)
     refine G4 [51] (sl:=[(3,_),(4,_),(6,_),(8,_),(9,_),(10,_),(11,_),(34,_),(35,_),(36,_),(44,_),(45,_)]) (hb:=[(3,_),(4,_),(6,_),(42,_)]) (M3 hX0) ⟨⟨_,rfl,.same⟩,⟨_,rfl,.same⟩,⟨_,rfl,.same⟩,⟨_,rfl,.same⟩,⟨_,rfl,.same⟩,⟨_,rfl,.same⟩,⟨_,rfl,(.ref rfl rfl (by exact (by first | (simp; done) | (simp; omega))) (by first | rfl | omega))⟩,⟨_,rfl,.same⟩,⟨_,rfl,.same⟩,⟨_,rfl,.same⟩,⟨_,rfl,.same⟩,⟨_,rfl,.same⟩,trivial⟩ ⟨⟨rfl,_,rfl,.same⟩,⟨rfl,_,rfl,.same⟩,⟨rfl,_,rfl,.same⟩,⟨rfl,_,rfl,.same⟩,trivial⟩ ?_
     rw [show J2.sl N.length (d6 (d7 N j))=pV (d7 N j) by rw [pV,J7]]
     refine y3 (mV L rfl (mV L rfl (mV L rfl (mV L rfl (cK hG hX cl70 hN (D0v (M.getD i []) (d7 N j) B B (by rw [hrl,J7,hcN]) oM (fun a ha=>hB _ (gDL hia) a ha) (fun a ha=>n1q hB2 hjd h2.len a ha) oM oM (by rw [hrl]; have:=V0 (B+B+1) hc60; omega)) L t2 ?_)))))
     refine sw (p0v (sz:=4) un40 sz47 (by exact (O6 (X5 _ _ _) hj)) (j:=j) rO oM L) t2 t1 ?_
     refine sb (F0f (n:=4) sz47 (by exact (O6 (X5 _ _ _) hj)) rfl oM) t2 t1 ?_
     refine O1 (y3 (sw (K3 L (w64 oM oM)) t2 t0 (mV L rfl (O1 ?_))))
     exact ⟨j+1,oM,by omega,E3 ⟨oR,rfl,rfl,rfl,rfl,rfl,rfl,rfl,rfl,rfl,trivial⟩ ⟨obl rfl (congrArg (fun c=>(⟨47,4,.pure c⟩:Blk)) ((q0c (X5 _ _ _) hjd (b0h (M.getD i []) (d7 N j))).trans (by rw [q0r]))),rfl,rfl,rfl,trivial⟩⟩
   ·have he:=df he
    have hjd:j=d:=by omega
    subst hjd
    refine L2 (xq ?_)
    refine G4 [42] (sl:=[(3,_),(4,_),(6,_),(9,_),(34,_),(35,_),(36,_)]) (hb:=[(3,_),(4,_),(6,_)]) (M3 hX0) ⟨⟨_,rfl,.same⟩,⟨_,rfl,.same⟩,⟨_,rfl,.same⟩,⟨_,rfl,(.ref rfl rfl (by exact (O6 (X5 _ _ _) hj)) (by first | rfl | omega))⟩,⟨_,rfl,.same⟩,⟨_,rfl,.same⟩,⟨_,rfl,.same⟩,trivial⟩ ⟨⟨rfl,_,rfl,.same⟩,⟨rfl,_,rfl,.same⟩,⟨rfl,_,rfl,.same⟩,trivial⟩ ?_
    rw [show d6 (d0q (M.getD i []) N j)++V8 (j - j) zc0=d6 (d0q (M.getD i []) N j) by simp [V8]]
    refine y3 (sw (Z1 un24 rfl sz22 dC rX L) t1 t1 ?_)
    refine sw (Y1 ag22 rF rF L) t1 t1 ?_
    refine mV L rfl (sw (F4 (vs:=[_]) un22 ti40 rfl rfl dC dC rfl (M2 (.cons rfl .nil) rfl) rfl (.cons rfl .sl rfl pu1 .nil) (.cons .nil) L) t1 t0 (swb (apN (k:=78) (sz:=1) un22 un22 ti40 rfl rfl rfl dC sM rfl (by first | (simp [Tryz.t40]; done) | (simp [Tryz.t40]; omega)) oM (P0 _ rfl) L) t2 t0 ⟨rfl,rfl⟩ ?_))
    refine sw (Z1 un24 rfl sz22 dC rX L) t1 t1 ?_
    refine sb (U2 sz22 rF .ref rfl (.skip pu1)) t2 t1 ?_
    refine O1 (y3 (sw (K3 L (w64 oM oM)) t2 t0 (mV L rfl (O1 ?_))))
    exact ⟨(i+1,[d0q (M.getD i []) N j]),⟨by simp only; omega,ht⟩,(by simp only; omega),E3 ⟨oR,rfl,rfl,rfl,rfl,rfl,trivial⟩ (hbI (l':=[(6,_),(78,_),(3,_),(4,_)]) rfl ⟨rfl,obl rfl (by simp [O5]),rfl,rfl,trivial⟩)⟩
  ·have hc:=df hc
   have hia:i=M.length:=by omega
   subst hia
   rw [I0] at hT
   refine L2 (xq ?_)
   refine exr (sw (Y7 (l6 ag24 sz24 rF (by exact al2) rfl L) (.agg (.cons .same (.cons .nil .nil)))) t1 t1 ?_)
   refine sb (U2 sz24 rF pa2 rfl pu2) t2 t1 ?_
   refine aV L rfl (zn [(4,_),(5,_)] [(4,_)] t2 t1 (V1 ?_))
   refine Y0 (.agg rfl rfl rfl ag24 sz24 (.cons (.cons .nil))) (.tmp rfl) ?_
   rw [hT]; rfl
 ·dsimp only [N0r,N0m]
  have hTl:(q :: T).length=i:=by rw [← hT,V0p,J0]; omega
  have hTl2:T.length+1=i:=hTl
  refine exr (sw (d4 L) t2 t0 (zn [(3,_),(4,_),(6,_),(34,_),(35,_),(36,_),(37,_)] [(3,_),(4,_),(6,_),(78,_)] t7 t4 (R1 ?_)))
  refine D2 rfl (fun hc=>?_) (fun hc=>?_)
  ·have hc:=dt hc
   have hia:i<M.length:=by omega
   have ht:=K0c (N:=N) (d:=d) hia
   rw [hT] at ht
   have hrl:=h.get hia
   refine U1 (xq ?_)
   refine R1 (X1 (exr (sw (ixJ un22 sz40 (j:=i) rO oM sM L) t2 t0 ?_)))
   refine sw (v4 ag40 (W9 hia) L) t1 t0 (aV L rfl (zn [(3,_),(4,_),(6,_),(8,_),(34,_),(35,_),(36,_)] [(3,_),(4,_),(6,_),(78,_)] t7 t4 (exr (sw (Z1 un24 rfl sz3 dC rX L) t1 t1 ?_))))
   refine sw (Y1 ag3 rF rF L) t1 t1 ?_
   refine swb (M6 (sz:=4) (k:=42) un40 ti47 rfl rfl dC rfl rfl rfl rfl rfl (Nat.le_refl _) (by simp [Tryz.t47]; omega) oM (P0 _ rfl) L) t2 t0 ⟨rfl,rfl⟩ ?_
   refine aV L rfl ?_
   refine O1 ⟨[(3,_),(4,_),(6,_),(8,_),(9,_),(34,_),(35,_),(36,_)],[(3,_),(4,_),(6,_),(42,⟨47,4,.pure (d6 []++V8 (d - 0) zc0)⟩),(78,_)],t8,t5,?_⟩
   refine R1 (exr (mV L rfl (sw (p0d un40 (by exact (g9 _ _)) L) t1 t1 ?_)))
   refine mV L rfl (zn [(3,_),(4,_),(6,_),(8,_),(9,_),(34,_),(35,_),(36,_),(44,_),(45,_)] [(3,_),(4,_),(6,_),(42,_),(78,_)] t10 t5 (X1 ?_))
   refine exl (α:=Nat) (fun j=>[(45,vi (j:Int))]) (fun j=>[(42,⟨47,4,.pure (d6 (d0q (M.getD i []) N j)++V8 (d - j) zc0)⟩)]) (fun j=>j≤d) (fun j=>d - j) (0) (sl:=[(3,_),(4,_),(6,_),(8,_),(9,_),(34,_),(35,_),(36,_),(44,_)]) (hb:=[(3,_),(4,_),(6,_),(78,_)]) ?_ ⟨oR,rfl,rfl,rfl,rfl,rfl,rfl,rfl,rfl,rfl,trivial⟩ t5 ?_
   ·exact Nat.zero_le _
   intro j hj
   refine exr (sw (d4 L) t2 t0 (zn [(3,_),(4,_),(6,_),(8,_),(9,_),(34,_),(35,_),(36,_),(44,_),(45,_),(46,_)] [(3,_),(4,_),(6,_),(42,_),(78,_)] t11 t5 (R1 ?_)))
   refine D2 rfl (fun he=>?_) (fun he=>?_)
   ·have he:=dt he
    have hjd:j<d:=by omega
    refine U1 (xq ?_)
    refine R1 (X1 (exr (mV L rfl (aV L rfl (zn [(3,_),(4,_),(6,_),(8,_),(9,_),(10,_),(34,_),(35,_),(36,_),(44,_),(45,_)] [(3,_),(4,_),(6,_),(42,_),(78,_)] t11 t5 (exr (sw (Z1 un24 rfl sz22 dC rX L) t1 t1 ?_)))))))
    refine sw (Y1 ag22 rF rF L) t1 t1 ?_
    refine sw (R2 un22 L) t1 t0 (swb (M6 (sz:=4) (k:=51) un40 ti47 rfl rfl dC rfl rfl rfl (show (0:Int)=((0:Nat):Int) from rfl) rfl (Nat.zero_le _) (by simp [Tryz.t47]; omega) oM (P0 _ rfl) L) t2 t0 ⟨rfl,rfl⟩ ?_)
    refine aV L rfl ?_
    refine O1 ⟨[(3,_),(4,_),(6,_),(8,_),(9,_),(10,_),(11,.ref 51 0 0 0),(34,_),(35,_),(36,_),(44,_),(45,_)],[(3,_),(4,_),(6,_),(42,_),(51,q4 []),(78,_)],t12,t6,?_⟩
    refine R1 (exr (sw (Z1 un24 rfl sz22 dC rX L) t1 t1 ?_))
    refine sw (Y1 ag22 rF rF L) t1 t1 ?_
    refine sw (R2 un22 L) t1 t0 (mV L rfl (zn [(3,_),(4,_),(6,_),(8,_),(9,_),(10,_),(11,_),(34,_),(35,_),(36,_),(44,_),(45,_),(53,_),(54,_),(55,_)] [(3,_),(4,_),(6,_),(42,_),(51,_),(78,_)] t15 t6 (X1 ?_)))
    refine exl (α:=Nat) (fun k=>[(55,vi (k:Int)),(11,.ref 51 0 k (k*4))]) (fun k=>[(51,q4 (d7 (N.take k) j))]) (fun k=>k≤N.length) (fun k=>N.length - k) (0) (sl:=[(3,_),(4,_),(6,_),(8,_),(9,_),(10,_),(34,_),(35,_),(36,_),(44,_),(45,_),(53,_),(54,_)]) (hb:=[(3,_),(4,_),(6,_),(42,_),(78,_)]) ?_ ⟨oR,oR,rfl,rfl,rfl,rfl,rfl,rfl,rfl,rfl,rfl,rfl,rfl,rfl,rfl,trivial⟩ t6 ?_
    ·exact Nat.zero_le _
    intro k hk
    refine exr (sw (d4 L) t2 t0 (zn [(3,_),(4,_),(6,_),(8,_),(9,_),(10,_),(11,_),(34,_),(35,_),(36,_),(44,_),(45,_),(53,_),(54,_),(55,_),(56,_)] [(3,_),(4,_),(6,_),(42,_),(51,_),(78,_)] t16 t6 (R1 ?_)))
    refine D2 rfl (fun hf=>?_) (fun hf=>?_)
    ·have hf:=dt hf
     have hk2:k<N.length:=by omega
     have hrl2:=h2.get hk2
     refine U1 (xq ?_)
     refine R1 (X1 (exr (sw (ixJ un22 sz40 (j:=k) rO oM sM L) t2 t0 ?_)))
     refine sw (v4 ag40 (W9 hk2) L) t1 t0 (aV L rfl (zn [(3,_),(4,_),(6,_),(8,_),(9,_),(10,_),(11,_),(13,_),(34,_),(35,_),(36,_),(44,_),(45,_),(53,_),(54,_),(55,_)] [(3,_),(4,_),(6,_),(42,_),(51,_),(78,_)] t16 t6 (y3 (mV L rfl (mV L rfl (mV L rfl (sw (F2 un40 sz47 oM oM sM dC L) t2 t0 ?_)))))))
     refine sw (F7 ag47 sz47 (V7 (show j<(N.getD k []).length by omega)) rfl L) t1 t0 ?_
     refine sw (F4 (vs:=[_]) un40 ti47 rfl rfl dC dC rfl (M2 (.cons rfl (.cons rfl (.cons rfl (.cons rfl .nil)))) rfl) rfl (.cons rfl pa4 rfl pu4 .nil) (.cons (.cons (.cons (.cons .nil)))) L) t1 t0 (swb (apP (sz:=4) un40 un40 ti47 rfl rfl rfl dC (by exact (by first | (simp; done) | (simp; omega))) oF sM rfl rfl rfl (by first | (simp [Tryz.t47]; done) | (simp [Tryz.t47]; omega)) oM (P0 _ rfl) L) t2 t1 t0 ?_)
     refine aV L rfl (O1 (y3 (sw (K3 L (w64 oM oM)) t2 t0 (mV L rfl (O1 ?_)))))
     exact ⟨k+1,oM,by omega,E3 ⟨oR,ov rfl sO,rfl,rfl,rfl,rfl,rfl,rfl,rfl,rfl,rfl,rfl,rfl,rfl,rfl,trivial⟩ ⟨obl rfl ((g0x _ _).trans (by rw [Z8 hk2])),rfl,rfl,rfl,rfl,rfl,trivial⟩⟩
    ·have hf:=df hf
     have hkM:k=N.length:=by omega
     subst hkM
     rw [I0]
     refine L2 (xq ?_)
     refine G4 [51] (sl:=[(3,_),(4,_),(6,_),(8,_),(9,_),(10,_),(11,_),(34,_),(35,_),(36,_),(44,_),(45,_)]) (hb:=[(3,_),(4,_),(6,_),(42,_),(78,_)]) (M3 hX0) ⟨⟨_,rfl,.same⟩,⟨_,rfl,.same⟩,⟨_,rfl,.same⟩,⟨_,rfl,.same⟩,⟨_,rfl,.same⟩,⟨_,rfl,.same⟩,⟨_,rfl,(.ref rfl rfl (by exact (by first | (simp; done) | (simp; omega))) (by first | rfl | omega))⟩,⟨_,rfl,.same⟩,⟨_,rfl,.same⟩,⟨_,rfl,.same⟩,⟨_,rfl,.same⟩,⟨_,rfl,.same⟩,trivial⟩ ⟨⟨rfl,_,rfl,.same⟩,⟨rfl,_,rfl,.same⟩,⟨rfl,_,rfl,.same⟩,⟨rfl,_,rfl,.same⟩,⟨rfl,_,rfl,.same⟩,trivial⟩ ?_
     rw [show J2.sl N.length (d6 (d7 N j))=pV (d7 N j) by rw [pV,J7]]
     refine y3 (mV L rfl (mV L rfl (mV L rfl (mV L rfl (cK hG hX cl70 hN (D0v (M.getD i []) (d7 N j) B B (by rw [hrl,J7,hcN]) oM (fun a ha=>hB _ (gDL hia) a ha) (fun a ha=>n1q hB2 hjd h2.len a ha) oM oM (by rw [hrl]; have:=V0 (B+B+1) hc60; omega)) L t2 ?_)))))
     refine sw (p0v (sz:=4) un40 sz47 (by exact (O6 (X5 _ _ _) hj)) (j:=j) rO oM L) t2 t1 ?_
     refine sb (F0f (n:=4) sz47 (by exact (O6 (X5 _ _ _) hj)) rfl oM) t2 t1 ?_
     refine O1 (y3 (sw (K3 L (w64 oM oM)) t2 t0 (mV L rfl (O1 ?_))))
     exact ⟨j+1,oM,by omega,E3 ⟨oR,rfl,rfl,rfl,rfl,rfl,rfl,rfl,rfl,rfl,trivial⟩ ⟨obl rfl (congrArg (fun c=>(⟨47,4,.pure c⟩:Blk)) ((q0c (X5 _ _ _) hjd (b0h (M.getD i []) (d7 N j))).trans (by rw [q0r]))),rfl,rfl,rfl,rfl,trivial⟩⟩
   ·have he:=df he
    have hjd:j=d:=by omega
    subst hjd
    refine L2 (xq ?_)
    refine G4 [42] (sl:=[(3,_),(4,_),(6,_),(9,_),(34,_),(35,_),(36,_)]) (hb:=[(3,_),(4,_),(6,_),(78,_)]) (M3 hX0) ⟨⟨_,rfl,.same⟩,⟨_,rfl,.same⟩,⟨_,rfl,.same⟩,⟨_,rfl,(.ref rfl rfl (by exact (O6 (X5 _ _ _) hj)) (by first | rfl | omega))⟩,⟨_,rfl,.same⟩,⟨_,rfl,.same⟩,⟨_,rfl,.same⟩,trivial⟩ ⟨⟨rfl,_,rfl,.same⟩,⟨rfl,_,rfl,.same⟩,⟨rfl,_,rfl,.same⟩,⟨rfl,_,rfl,.same⟩,trivial⟩ ?_
    rw [show d6 (d0q (M.getD i []) N j)++V8 (j - j) zc0=d6 (d0q (M.getD i []) N j) by simp [V8]]
    refine y3 (sw (Z1 un24 rfl sz22 dC rX L) t1 t1 ?_)
    refine sw (Y1 ag22 rF rF L) t1 t1 ?_
    refine mV L rfl (sw (F4 (vs:=[_]) un22 ti40 rfl rfl dC dC rfl (M2 (.cons rfl .nil) rfl) rfl (.cons rfl .sl rfl pu1 .nil) (.cons .nil) L) t1 t0 (swb (apP (sz:=1) un22 un22 ti40 rfl rfl rfl dC (by exact (E7 _)) oF sM rfl rfl rfl (by first | (simp [Tryz.t40]; done) | (simp [Tryz.t40]; omega)) oM (P0 _ rfl) L) t2 t1 t0 ?_))
    refine sw (Z1 un24 rfl sz22 dC rX L) t1 t1 ?_
    refine sb (U2 sz22 rF .ref rfl (.skip pu1)) t2 t1 ?_
    refine O1 (y3 (sw (K3 L (w64 oM oM)) t2 t0 (mV L rfl (O1 ?_))))
    exact ⟨(i+1,q :: T++[d0q (M.getD i []) N j]),⟨by simp only; omega,ht⟩,(by simp only; omega),E3 ⟨oR,rfl,rfl,rfl,rfl,rfl,trivial⟩ (hbI (l':=[(6,_),(78,_),(3,_),(4,_)]) rfl ⟨obl rfl sM,obl rfl (y1h _ _ _ (X5 _ _ _)),rfl,rfl,trivial⟩)⟩
  ·have hc:=df hc
   have hia:i=M.length:=by omega
   subst hia
   rw [I0] at hT
   refine L2 (xq ?_)
   refine exr (sw (Q1m ag24 sz24 rF (by exact (.cons (.cons .nil))) rfl L) t1 t1 ?_)
   refine sb (U2 sz24 rF .agg rfl pu2) t2 t1 ?_
   refine aV L rfl (zn [(4,_),(5,_)] [(4,_),(78,_)] t2 t2 (G4 [78] (sl:=[(4,_),(5,_)]) (hb:=[(4,_)]) (M3 hX0) ⟨⟨_,rfl,.same⟩,⟨_,rfl,.same⟩,trivial⟩ ⟨⟨rfl,_,rfl,(.mix (.cons .same (.cons (.ref rfl rfl (by exact (E7 _)) (by first | rfl | omega)) .nil)))⟩,trivial⟩ ?_))
   refine V1 ?_
   refine Y0 (.agg rfl rfl rfl ag24 sz24 (.cons (.cons .nil))) (.tmp rfl) ?_
   rw [hT]
theorem nt {p:Prop}[Decidable p](h:(!decide p)=true):¬ p:=by simpa using h
theorem nf {p:Prop}[Decidable p](h:(!decide p)=false):p:=by simpa using h
theorem N1k {v u:List Rat}{c:Rat}{j B C D:Nat}(hv:∀ a∈v,qw a≤B)(hu:∀ a∈u,qw a≤C)(hc:qw c≤D):∀ a∈tak v u c j,qw a≤B+(D+C)+1:=by
 intro a ha
 rcases List.mem_append.1 ha with h | h
 ·have h1:=List.mem_of_mem_take h
  rw [List.zipWith_eq_zipWith_take_min,List.mem_iff_getElem?] at h1
  obtain ⟨i,hi⟩:=h1
  rw [← List.zipWith_eq_zipWith_take_min,List.getElem?_zipWith] at hi
  split at hi
  ·rename_i x y h3 h4
   obtain rfl:=by simpa using hi
   have h5:=J1z x (c*y)
   have h6:=Z9 c y
   have:=hv x (M1 h3)
   have:=hu y (M1 h4)
   omega
  ·cases hi
 ·have:=hv a (List.mem_of_mem_drop h); omega
theorem d1c (s:Nat)(m:List (List Rat))(i k:Nat)(c:Rat)(B C D:Nat)(h2:s<9)(hi:i<m.length)(hk:k<m.length)(hne:i≠k)(hlen:(m.getD k []).length=(m.getD i []).length)(hl:(m.getD i []).length<1000000000)(hB:∀ a∈m.getD i [],qw a≤B)(hC:∀ a∈m.getD k [],qw a≤C)(hD:qw c≤D)(hb:B+(D+C)+1<1000000000):I4 E (fun _=>true) 99 [.ref (s+1001) 0 m.length m.length,.p (vZ i),.p (vZ k),.p (pQ c)] (I2 s m) (I2 s (m.set i (List.zipWith (fun a b=>a - c*b) (m.getD i []) (m.getD k [])))) (.p (.tup [])):=by
 refine n4 (xs:=[]) Tryz.func99 rfl Tryz.ntmps99 Tryz.results99 sM fun F G=>?_
 have L:=@lti _ _ G.nt
 have hG:=G.g
 have hX:=G.x
 have hN:=W5 hG
 have P0:∀ k,Nat.blt k 1000=true→F.pin k=none:=fun k hk=>G.p0 k ((i2 h2 m).low k hk)
 refine exr (swb (R3 (k:=7) (n:=4) pa4 rfl rfl (P0 _ rfl) L) t1 t0 (frT [] (i2 h2 m) rfl rfl rfl) ?_)
 refine O1 ⟨[(0,_),(1,_),(2,_),(7,_)],(7,_) :: ((I2 s m)),t4,⟨rfl,(hbT [_] (i2 h2 m) rfl)⟩,?_⟩
 refine exr (mV L rfl (mV L rfl (sw (C6 un77 sz40 (by first | exact E2 _ _ _ | exact (E2 _ _ _).trans sM | simp [Cells.len]) (j:=k) rO oM L) t2 ⟨rdT [_] (i2 h2 m) rfl hdL,trivial⟩ ?_)))
 refine sw (Y1 ag40 (by first | exact E2 _ _ _ | exact (E2 _ _ _).trans sM) (H0c hk) L) t1 ⟨rdT [_] (i2 h2 m) rfl hdL,trivial⟩ ?_
 refine sw (p0d un40 (by first | exact I3 _ | exact (I3 _).trans oM) L) t1 ⟨rdT [_] (i2 h2 m) rfl (rwL h2 hk),trivial⟩ ?_
 refine mV L rfl ?_
 refine O1 ⟨[(0,_),(1,_),(7,_),(13,_),(14,_),(15,_)],(7,_) :: ((I2 s m)),t6,⟨rfl,(hbT [_] (i2 h2 m) rfl)⟩,?_⟩
 have hku:m.getD k []=(m.set i (m.getD i [])).getD k []:=by rw [D0k]
 obtain ⟨v,hv⟩:∃ v,v=m.getD i []:=⟨_,rfl⟩
 obtain ⟨u,hu⟩:∃ u,u=m.getD k []:=⟨_,rfl⟩
 have hru:=fun (r:List Rat)=>(show (I2 s (m.set i r)).lookup (G3 s k)=some (q4 u) from by rw [hu]; exact rwO h2 hk hne)
 rw [← hv,← hu] at hlen
 rw [← hv] at hl hB ⊢
 rw [← hu] at hC ⊢
 refine X1 ?_
 refine F0r (α:=Nat) (fun j=>[(15,vi (j:Int))]) (fun j=>[]) (fun j=>(I2 s (m.set i (tak v u c j)))) (fun j=>j≤v.length) (fun j=>v.length - j) (0) (sl:=[(0,_),(1,_),(7,_),(13,_),(14,_)]) (hb:=[(7,_)]) ?_ ⟨oR,rfl,rfl,rfl,rfl,rfl,trivial⟩ ⟨rfl,(by rw [w1g,hv,D0k]; exact hbT [_] (i2 h2 m) rfl)⟩ ?_
 ·exact Nat.zero_le _
 intro j hj
 have htl:=m0m (v:=v) (u:=u) c j hlen
 have hq:=N1k (j:=j) hB hC hD
 refine exr (sw (d4 L) t2 t0 ?_)
 refine O1 ⟨[(0,_),(1,_),(7,_),(13,_),(14,_),(15,_),(16,_)],(7,_) :: ((I2 s (m.set i (tak v u c j)))),t7,⟨rfl,(hbT [_] (i2 h2 (m.set i (tak v u c j))) rfl)⟩,?_⟩
 refine R1 ?_
 refine D2 rfl (fun hc2=>?_) (fun hc2=>?_)
 ·have hc2:=dt hc2
  have hk2:j<v.length:=by omega
  have hk3:j<u.length:=by omega
  have hk5:j<(m.getD k []).length:=by rw [← hu]; omega
  have hk4:j<(tak v u c j).length:=by omega
  refine U1 (xq ?_)
  refine R1 (X1 (exr (mV L rfl (sw (p0v un40 sz47 (by first | exact I3 _ | exact (I3 _).trans oM) (j:=j) rO oM L) t2 ⟨rdT [_] (i2 h2 (m.set i (tak v u c j))) rfl (hru _),trivial⟩ ?_))))
  refine sw (H1n ag47 sz47 (by first | exact I3 _ | exact (I3 _).trans oM) (V7 hk3) rfl L) t1 ⟨rdT [_] (i2 h2 (m.set i (tak v u c j))) rfl (hru _),trivial⟩ ?_
  refine swb (T3 (k:=9) (n:=4) zv47 (.cons rfl (.cons rfl (.cons rfl (.cons rfl .nil)))) rfl (P0 _ rfl) L) t0 t0 (frT [_] (i2 h2 (m.set i (tak v u c j))) rfl rfl rfl) (aV L rfl (sb (U2 sz47 rF pa4 rfl pu4) t2 t1 ?_))
  refine O1 ⟨[(0,_),(1,_),(7,_),(8,_),(9,_),(13,_),(14,_),(15,_)],(7,_) :: (9,_) :: ((I2 s (m.set i (tak v u c j)))),t8,⟨rfl,rfl,(hbT [_,_,_] (i2 h2 (m.set i (tak v u c j))) rfl)⟩,?_⟩
  refine exr (lp4 ag47 sz47 L rfl rfl (cK hG hX cl65 hN (K6 (u.getD j 0) (by have:=hC _ (C5 hk3); omega)) L t1 ?_))
  refine sw (P3 L) t1 t0 ?_
  refine O1 ⟨[(0,_),(1,_),(7,_),(8,_),(9,_),(13,_),(14,_),(15,_),(22,_)],(7,_) :: (9,_) :: ((I2 s (m.set i (tak v u c j)))),t9,⟨rfl,rfl,(hbT [_,_] (i2 h2 (m.set i (tak v u c j))) rfl)⟩,?_⟩
  refine D2 rfl (fun h0=>?_) (fun h0=>?_)
  ·have h0:=nt h0
   refine m0v rF ?_
   refine mV L rfl (mV L rfl (sw (C6 un77 sz40 (by first | exact E2 _ _ _ | exact (E2 _ _ _).trans sM | simp [Cells.len]) (j:=i) rO oM L) t2 ⟨rdT [_,_] (i2 h2 (m.set i (tak v u c j))) rfl hdL,trivial⟩ ?_))
   refine sw (Y1 ag40 (by first | exact E2 _ _ _ | exact (E2 _ _ _).trans sM) (b1g hi htl) L) t1 ⟨rdT [_,_] (i2 h2 (m.set i (tak v u c j))) rfl hdL,trivial⟩ ?_
   refine mV L rfl (mV L rfl (mV L rfl (sw (C6 un77 sz40 (by first | exact E2 _ _ _ | exact (E2 _ _ _).trans sM | simp [Cells.len]) (j:=i) rO oM L) t2 ⟨rdT [_,_] (i2 h2 (m.set i (tak v u c j))) rfl hdL,trivial⟩ ?_)))
   refine sw (Y1 ag40 (by first | exact E2 _ _ _ | exact (E2 _ _ _).trans sM) (b1g hi htl) L) t1 ⟨rdT [_,_] (i2 h2 (m.set i (tak v u c j))) rfl hdL,trivial⟩ ?_
   refine mV L rfl (sw (p0v un40 sz47 (by first | exact I3 _ | exact (I3 _).trans oM) (j:=j) rO oM L) t2 ⟨rdT [_,_] (i2 h2 (m.set i (tak v u c j))) rfl (rwS h2 hi),trivial⟩ ?_)
   refine sw (H1n ag47 sz47 (by first | exact I3 _ | exact (I3 _).trans oM) (V7 hk4) rfl L) t1 ⟨rdT [_,_] (i2 h2 (m.set i (tak v u c j))) rfl (rwS h2 hi),trivial⟩ ?_
   refine lp4 ag47 sz47 L rfl rfl (lp4 ag47 sz47 L rfl rfl (cK hG hX cl67 hN (y8 c (u.getD j 0) oM (by have:=hC _ (C5 hk3); omega)) L t2 ?_))
   refine cK hG hX cl127 hN (j1d ((tak v u c j).getD j 0) (c*u.getD j 0) (by have:=hq _ (C5 hk4); omega) (by have:=Z9 c (u.getD j 0); have:=hC _ (C5 hk3); omega)) L t2 ?_
   refine sw (p0v un40 sz47 (by first | exact I3 _ | exact (I3 _).trans oM) (j:=j) rO oM L) t2 ⟨rdT [_,_] (i2 h2 (m.set i (tak v u c j))) rfl (rwS h2 hi),trivial⟩ ?_
   refine sb (F0f (n:=4) sz47 (by first | exact I3 _ | exact (I3 _).trans oM) rfl oM) t2 ⟨rdT [_,_] (i2 h2 (m.set i (tak v u c j))) rfl (rwS h2 hi),trivial⟩ ?_
   refine O1 ⟨h0g [⟨[0],[],[23],[]⟩,⟨[1],[],[24],[]⟩,⟨[23,24],[1000],[25],[]⟩,⟨[25],[1000],[26],[]⟩,⟨[8],[],[27],[]⟩,⟨[0],[],[28],[]⟩,⟨[1],[],[29],[]⟩,⟨[28,29],[1000],[30],[]⟩,⟨[30],[1000],[31],[]⟩,⟨[8],[],[32],[]⟩,⟨[31,32],[1000],[33],[]⟩,⟨[33],[1000],[34],[]⟩,⟨[7],[7],[35],[]⟩,⟨[9],[9],[36],[]⟩,⟨[35,36],[],[37],[]⟩,⟨[34,37],[],[38],[]⟩,⟨[26,27],[1000],[39],[]⟩,⟨[39,38],[1000],[],[1000]⟩] (.cons (cf0 rfl) (.cons (cf0 rfl) (.cons (cfT rfl rfl (P8 (by first | exact B6 _ | exact E5 _ _)) rfl (fun _ h=>by cases h)) (.cons (cfT rfl rfl (P8 (by first | exact B6 _ | exact E5 _ _)) rfl (fun _ h=>by cases h)) (.cons (cf0 rfl) (.cons (cf0 rfl) (.cons (cf0 rfl) (.cons (cfT rfl rfl (P8 (by first | exact B6 _ | exact E5 _ _)) rfl (fun _ h=>by cases h)) (.cons (cfT rfl rfl (P8 (by first | exact B6 _ | exact E5 _ _)) rfl (fun _ h=>by cases h)) (.cons (cf0 rfl) (.cons (cfT rfl rfl (P8 (by first | exact B6 _ | exact E5 _ _)) rfl (fun _ h=>by cases h)) (.cons (cfT rfl rfl (P8 (by first | exact B6 _ | exact E5 _ _)) rfl (fun _ h=>by cases h)) (.cons (cf0 rfl) (.cons (cf0 rfl) (.cons (cf0 rfl) (.cons (cf0 rfl) (.cons (cfT rfl rfl (P8 (by first | exact B6 _ | exact E5 _ _)) rfl (fun _ h=>by cases h)) (.cons (cfT rfl rfl (P8 (by first | exact B6 _ | exact E5 _ _)) rfl (P8 (by first | exact B6 _ | exact E5 _ _)))  .nil)))))))))))))))))) rfl (frS [] [_,_] (i2 h2 (m.set i (tak v u c j))) rfl rfl) dC,(show l4 _ _ _ _ _ from exw (sl:=[(0,_),(1,_),(7,_),(13,_),(14,_),(15,_)]) (hb:=(7,_) :: ((I2 s (m.set i (tak v u c (j+1)))))) t6 ⟨rfl,(hbS [_,_] rfl h2 hi ((n0f _ hk4).trans (by rw [V0b hk2 hlen])) (by simp only [m0m c _ hlen]))⟩ ?_)⟩
   refine y3 (sw (K3 L (w64 oM oM)) t2 t0 (mV L rfl (O1 ?_)))
   exact ⟨j+1,oM,by omega,E3 ⟨oR,rfl,rfl,rfl,rfl,rfl,trivial⟩ ⟨rfl,(hbT [_] (i2 h2 (m.set i (tak v u c (j+1)))) rfl)⟩⟩
  ·have h0:=nf h0
   refine U1 (xq ?_)
   refine y3 (sw (K3 L (w64 oM oM)) t2 t0 (mV L rfl (O1 ?_)))
   exact ⟨j+1,oM,by omega,E3 ⟨oR,rfl,rfl,rfl,rfl,rfl,trivial⟩ ⟨rfl,(by rw [← v1b hk2 hlen h0]; exact hbT [_,_] (i2 h2 _) rfl)⟩⟩
 ·have hc2:=df hc2
  refine L2 ?_
  refine ⟨.inl rfl,U4.cast .nil ?_,(by rw [← H1d hlen,show v.length=j by omega]; exact hbT [_] (i2 h2 _) rfl)⟩
  rfl
end Go.Proofs.YtjagfionflbjbaaGreat.N
namespace Go.Proofs.YtjagfionflbjbaaGreat.SH
open Go Go.RowKit
theorem j1j {E:Env}{st st':Nat→Bool}{f:FuncId}{args:List PV}{H H' H1:List (Nat×Blk)}{r r1:PV}(κ:Nat→Nat)(h:I4 E st f args H H1 r1)(hr:r1=r.ren κ)
  (hb:∀ j B,H'.lookup j=some B→H1.lookup (κ j)=some (B.ren κ)) (inj:∀ j j',H'.lookup j≠none→H'.lookup j'≠none→κ j=κ j'→j=j')
  (hnew:∀ j,H'.lookup j≠none→H.lookup j=none→H.lookup (κ j)=none) (hst:∀ j,H'.lookup j≠none→H.lookup j≠none→st' j=true→κ j=j∧st j=true):I4 E st' f args H H' r:=by
 intro ok ρ w vals hG hH hinj hrel
 refine Calls.mono (h ok ρ w vals hG hH hinj hrel) fun e w' ⟨v,ρ1,he,hp⟩=>⟨v,fun j=>ρ1 (κ j),he,?_⟩
 have hin:∀ j,H'.lookup j≠none→H1.lookup (κ j)≠none:=fun j hj=>by
  obtain ⟨B,hB⟩:=J3 hj
  rw [hb j B hB]; simp
 have hok:Carry (okG ok w H1 ρ1) (okG ok w H' fun j=>ρ1 (κ j)) (Go.Proofs.YtjagfionflbjbaaGreat.SH.hp w') (Go.Proofs.YtjagfionflbjbaaGreat.SH.hp w'):=fun b hb' _=>⟨⟨hb'.1,fun j hj=>hb'.2 _ (hin j hj)⟩,rfl⟩
 have hH1:∀ j B,lk H' j=some B→∃ B',lk H1 (κ j)=some B'∧B'.sz=B.sz∧B'.cs.len=B.cs.len:=fun j B hj=>⟨_,hb j B hj,rfl,Cells.ren_len _ _⟩
 have hrv:∀ x v,K2 (lk H1) ρ1 (okG ok w H1 ρ1) (Go.Proofs.YtjagfionflbjbaaGreat.SH.hp w') (x.ren κ) v→K2 (lk H') (fun j=>ρ1 (κ j)) (okG ok w H' fun j=>ρ1 (κ j)) (Go.Proofs.YtjagfionflbjbaaGreat.SH.hp w') x v:=fun x v hx =>
  K2.mono (K:=fun _=>True) hok (fun k _ B' hB'=>⟨B',hB',rfl,Nat.le_refl _,fun _=>⟨rfl,fun c T fr hc=>⟨c,T,fr,hc,rfl⟩⟩⟩) x v (fun _ _=>trivial) (P0j hH1 x v hx)
 exact {
  res:=hrv r v (hr ▸ hp.res)
  blk:=fun j B' hj=>by
   obtain ⟨c,h1,h2,h3⟩:=hp.blk (κ j) _ (hb j B' hj)
   refine ⟨c,h1,by rw [← Cells.ren_len κ]; exact h2,fun i x hx=>?_⟩
   obtain ⟨u,hu,h4,h5⟩:=h3 i (x.ren κ) (by show (B'.cs.ren κ).get i=_; rw [Cells.ren_get,hx]; rfl)
   exact ⟨u,hu,h4,hrv x u h5⟩
  inj:=fun j j' hj hj' e=>inj j j' hj hj' (hp.inj _ _ (hin j hj) (hin j' hj') e)
  old:=fun j hj hj'=>by
   by_cases hk:H.lookup (κ j)=none
   ·exact .inr (hp.new _ (hin j hj) hk)
   ·exact hp.old _ (hin j hj) hk
  new:=fun j hj hj'=>hp.new _ (hin j hj) (hnew j hj hj')
  stay:=fun j hj hj' hs=>by
   obtain ⟨e,hs'⟩:=hst j hj hj' hs
   have:=hp.stay j (by have:=hin j hj; rwa [e] at this) hj' hs'
   show ρ1 (κ j)=_∧_
   rw [e]; exact this
  os:=hp.os
  tape:=hp.tape
  output:=hp.output
  size:=hp.size
  frame:=hp.frame }
end Go.Proofs.YtjagfionflbjbaaGreat.SH
set_option maxRecDepth 100000
set_option maxHeartbeats 4000000
namespace Go.Proofs.YtjagfionflbjbaaGreat.N
open Go Go.Proofs.YtjagfionflbjbaaGreat.SH Go.Proofs.YtjagfionflbjbaaGreat.NumA
open Go.Proofs.Tryz renaming isAgg40→ag40,sizeOf40→sz40,underlying77→un77
theorem F0z:∀ {vs:List PV}{off:Nat}{u:PV},off<vs.length→q0m vs off [u] (vs.set off u)
 | [],_,_,h=>by simp at h
 | v :: vs,0,u,_=>.put .here
 | v :: vs,n+1,u,h=>.skip (F0z (by simpa using h))
theorem lkH {sl:List (Nat×PV)}{k:Nat}{B:Blk}{r:List (Nat×Blk)}:St.blk ⟨sl,(k,B) :: r⟩ k=some B:=by show List.lookup k _=_; simp
def j1c (s i n:Nat):PV:=.ref (G3 s i) 0 n (n*4)
def swH (s:Nat)(m:List (List Rat))(i k:Nat):List (Nat×Blk):=(s+1001,⟨40,1,.mix (((V4 s 0 m).set i (j1c s k (m.getD k []).length)).set k (j1c s i (m.getD i []).length))⟩) :: U6 s 0 m
theorem W1j {sl:List (Nat×PV)}{s:Nat}{m:List (List Rat)}{i k:Nat}{B:Blk}(h2:s<9):T5 ⟨sl,(s+1001,⟨40,1,.mix (((V4 s 0 m).set i (j1c s k (m.getD k []).length)).set k (j1c s i (m.getD i []).length))⟩) :: (s+1001,B) :: ([]++I2 s m)⟩ (swH s m i k):=by
 have hnd:=(i2 h2 m).nd
 refine y5 (by simpa [swH,I2] using hnd) fun j C hj=>?_
 show List.lookup j _=some C
 rw [swH,i0] at hj
 rw [i0]
 by_cases e:j=s+1001
 ·subst e; simpa using hj
 ·rw [show (j == s+1001)=false by simpa using e] at hj ⊢
  simp only [List.nil_append,I2,i0]
  rw [show (j == s+1001)=false by simpa using e]; exact hj
theorem Y0r (s:Nat)(m:List (List Rat))(i k:Nat)(h2:s<9)(hi:i<m.length)(hk:k<m.length):I4 E (fun k=>Nat.blt k 1100) 94 [.ref (s+1001) 0 m.length m.length,.p (vZ i),.p (vZ k)] (I2 s m) (swH s m i k) (.p (.tup [])):=by
 refine n4 (xs:=[]) Tryz.func94 rfl Tryz.ntmps94 Tryz.results94 sM fun F G=>?_
 have L:=@lti _ _ G.nt
 have hG:=G.g
 have hX:=G.x
 have hN:=W5 hG
 have P0:∀ k,Nat.blt k 1000=true→F.pin k=none:=fun k hk=>G.p0 k ((i2 h2 m).low k hk)
 refine m0v rF ?_
 refine mV L rfl (mV L rfl (mV L rfl (mV L rfl (mV L rfl (mV L rfl (sw (C6 un77 sz40 (by first | exact E2 _ _ _ | exact (E2 _ _ _).trans sM | simp [Cells.len]) (j:=k) rO oM L) t2 ⟨rdT [] (i2 h2 m) rfl hdL,trivial⟩ ?_))))))
 refine sw (Y1 ag40 (by first | exact E2 _ _ _ | exact (E2 _ _ _).trans sM) (H0c hk) L) t1 ⟨rdT [] (i2 h2 m) rfl hdL,trivial⟩ ?_
 refine mV L rfl (mV L rfl (sw (C6 un77 sz40 (by first | exact E2 _ _ _ | exact (E2 _ _ _).trans sM | simp [Cells.len]) (j:=i) rO oM L) t2 ⟨rdT [] (i2 h2 m) rfl hdL,trivial⟩ ?_))
 refine sw (Y1 ag40 (by first | exact E2 _ _ _ | exact (E2 _ _ _).trans sM) (H0c hi) L) t1 ⟨rdT [] (i2 h2 m) rfl hdL,trivial⟩ ?_
 refine sw (C6 un77 sz40 (by first | exact E2 _ _ _ | exact (E2 _ _ _).trans sM | simp [Cells.len]) (j:=i) rO oM L) t2 ⟨rdT [] (i2 h2 m) rfl hdL,trivial⟩ ?_
 refine sb (U2 sz40 sM .ref rfl (F0z sO)) t2 ⟨rdT [] (i2 h2 m) rfl hdL,trivial⟩ ?_
 refine sw (C6 un77 sz40 (by first | exact E2 _ _ _ | exact (E2 _ _ _).trans sM | simp [Cells.len]) (j:=k) rO oM L) t2 ⟨lkH,trivial⟩ ?_
 refine sb (U2 sz40 sM .ref rfl (F0z sO)) t2 ⟨lkH,trivial⟩ ?_
 refine O1 ⟨h0g [⟨[0],[],[6],[]⟩,⟨[1],[],[7],[]⟩,⟨[0],[],[8],[]⟩,⟨[2],[],[9],[]⟩,⟨[0],[],[10],[]⟩,⟨[2],[],[11],[]⟩,⟨[10,11],[1000],[12],[]⟩,⟨[12],[1000],[13],[]⟩,⟨[0],[],[14],[]⟩,⟨[1],[],[15],[]⟩,⟨[14,15],[1000],[16],[]⟩,⟨[16],[1000],[17],[]⟩,⟨[6,7],[1000],[18],[]⟩,⟨[18,13],[1000],[],[1000]⟩,⟨[8,9],[1000],[19],[]⟩,⟨[19,17],[1000],[],[1000]⟩] (.cons (cf0 rfl) (.cons (cf0 rfl) (.cons (cf0 rfl) (.cons (cf0 rfl) (.cons (cf0 rfl) (.cons (cf0 rfl) (.cons (cfT rfl rfl (P8 (by first | exact B6 _ | exact E5 _ _)) rfl (fun _ h=>by cases h)) (.cons (cfT rfl rfl (P8 (by first | exact B6 _ | exact E5 _ _)) rfl (fun _ h=>by cases h)) (.cons (cf0 rfl) (.cons (cf0 rfl) (.cons (cfT rfl rfl (P8 (by first | exact B6 _ | exact E5 _ _)) rfl (fun _ h=>by cases h)) (.cons (cfT rfl rfl (P8 (by first | exact B6 _ | exact E5 _ _)) rfl (fun _ h=>by cases h)) (.cons (cfT rfl rfl (P8 (by first | exact B6 _ | exact E5 _ _)) rfl (fun _ h=>by cases h)) (.cons (cfT rfl rfl (P8 (by first | exact B6 _ | exact E5 _ _)) rfl (P8 (by first | exact B6 _ | exact E5 _ _))) (.cons (cfT rfl rfl (P8 (by first | exact B6 _ | exact E5 _ _)) rfl (fun _ h=>by cases h)) (.cons (cfT rfl rfl (P8 (by first | exact B6 _ | exact E5 _ _)) rfl (P8 (by first | exact B6 _ | exact E5 _ _)))  .nil)))))))))))))))) rfl (frS [] [] (i2 h2 m) rfl rfl) dC,?_⟩
 refine ⟨.inl rfl,U4.cast .nil ?_,(W1j h2)⟩
 rfl
@[simp] theorem f0x (m:List (List Rat))(i k:Nat):(L5 m i k).length=m.length:=by simp [L5]
theorem J0v {m:List (List Rat)}{i k j:Nat}(hi:i<m.length)(hk:k<m.length)(hne:i≠k):(L5 m i k)[j]? = if j=k then some (m.getD i []) else if j=i then some (m.getD k []) else m[j]?:=by
 simp only [L5,List.getElem?_set,List.length_set]
 by_cases h1:k=j
 ·subst h1; simp [hk]
 ·rw [if_neg h1,if_neg (Ne.symm h1)]
  by_cases h2:i=j
  ·subst h2; simp [hi]
  ·rw [if_neg h2,if_neg (Ne.symm h2)]
def kap (s i k j:Nat):Nat:=if j=G3 s i then G3 s k else if j=G3 s k then G3 s i else j
theorem b0y {s i k j:Nat}:kap s i k (G3 s j)=G3 s (if j=i then k else if j=k then i else j):=by
 unfold kap
 simp only [B0k]
 split
 ·rfl
 ·split <;> rfl
theorem y0q {s i k j:Nat}(h:j<1100):kap s i k j=j:=by
 unfold kap
 rw [if_neg (by unfold G3; omega),if_neg (by unfold G3; omega)]
theorem Q0q {s j:Nat}{m:List (List Rat)}:(U6 s 0 m).lookup (G3 s j)=(m[j]?).map q4:=by
 have:=g0k (s:=s) (i:=0) (j:=j) (m:=m)
 rwa [F1] at this
theorem U5 {s j:Nat}{m:List (List Rat)}(h2:s<9)(h:(I2 s m).lookup j≠none):j=s+1001∨∃ q,q<m.length∧j=G3 s q:=by
 obtain ⟨B,hB⟩:=j1.1 h
 rw [I2,i0] at hB
 by_cases e:j=s+1001
 ·exact .inl e
 ·rw [show (j == s+1001)=false by simpa using e] at hB
  obtain ⟨q,hq,e2⟩:=M8 (G0.2 ⟨_,O3 hB,rfl⟩)
  exact .inr ⟨q,hq,by have e2:j=G3 s (0+q):=e2; rw [e2,F1]⟩
theorem Q0x {s q:Nat}{m:List (List Rat)}(h2:s<9)(h:q<m.length):(I2 s m).lookup (G3 s q)≠none:=by rw [rwL h2 h]; simp
theorem j1s (s:Nat)(m:List (List Rat))(i k:Nat)(h2:s<9)(hi:i<m.length)(hk:k<m.length)(hne:i≠k):I4 E (fun k=>Nat.blt k 1100) 94 [.ref (s+1001) 0 m.length m.length,.p (vZ i),.p (vZ k)] (I2 s m) (I2 s (L5 m i k)) (.p (.tup [])):=by
 refine j1j (kap s i k) (Y0r s m i k h2 hi hk) rfl (fun j B hj=>?_) (fun j j' hj hj' e=>?_) (fun j hj hj'=>?_) (fun j hj hj' hs=>?_)
 ·rcases U5 h2 (show (I2 s (L5 m i k)).lookup j≠none by rw [hj]; simp) with rfl | ⟨q,hq,rfl⟩
  ·rw [y0q oM,swH]
   rw [hdL] at hj
   obtain rfl:=by simpa using hj
   rw [i0,BEq.rfl]
   refine congrArg (fun l=>some (⟨40,1,.mix l⟩:Blk)) ?_
   apply List.ext_getElem?
   intro j
   rw [List.getElem?_map,h0k,J0v hi hk hne,F1,List.getElem?_set,List.getElem?_set]
   simp only [List.length_set,E2]
   by_cases h1:j=k
   ·subst h1
    simp only [if_true,hk,Option.map_some,PV.ren,b0y,j1c]
    rw [if_neg (Ne.symm hne)]
   ·rw [if_neg h1,if_neg (Ne.symm h1)]
    by_cases h3:j=i
    ·subst h3; simp [hi,PV.ren,b0y,j1c]
    ·rw [if_neg h3,if_neg (Ne.symm h3),h0k,F1]
     cases m[j]? with
     | none=>rfl
     | some v=>simp [PV.ren,b0y,h1,h3]
  ·rw [f0x] at hq
   rw [b0y,swH,i0,show ((G3 s (if q=i then k else if q=k then i else q)) == s+1001)=false by simp [G3]; omega,Q0q]
   rw [rwL h2 (by rw [f0x]; exact hq)] at hj
   injection hj with hj
   subst hj
   show _=some (q4 _)
   have e:(L5 m i k).getD q []=m.getD (if q=i then k else if q=k then i else q) []:=by
    rw [f0,J0v hi hk hne]
    by_cases h1:q=k
    ·subst h1; rw [if_pos rfl,if_neg (Ne.symm hne),if_pos rfl]; rfl
    ·rw [if_neg h1]
     by_cases h3:q=i
     ·rw [if_pos h3,if_pos h3]; rfl
     ·rw [if_neg h3,if_neg h3,if_neg h1,f0]
   rw [e]
   show Option.map q4 _=_
   have hl:(if q=i then k else if q=k then i else q)<m.length:=by split; exact hk; split; exact hi; exact hq
   simp [f0,hl]
 ·rcases U5 h2 hj with rfl | ⟨q,hq,rfl⟩ <;> rcases U5 h2 hj' with rfl | ⟨q',hq',rfl⟩
  ·rfl
  ·rw [y0q oM,b0y] at e; simp [G3] at e; omega
  ·rw [b0y,y0q oM] at e; simp [G3] at e; omega
  ·rw [b0y,b0y,B0k] at e; rw [B0k]; split at e <;> split at e <;> (try split at e) <;> (try split at e) <;> omega
 ·rcases U5 h2 hj with rfl | ⟨q,hq,rfl⟩
  ·rw [hdL] at hj'; cases hj'
  ·exact absurd hj' (Q0x h2 (by rwa [f0x] at hq))
 ·rw [Nat.blt_eq] at hs
  exact ⟨y0q hs,by simpa [Nat.blt_eq] using hs⟩
end Go.Proofs.YtjagfionflbjbaaGreat.N
namespace Go.Proofs.YtjagfionflbjbaaGreat.SH
open Go Go.RowKit
structure d0d (st:Nat→Bool) (F:Fr) (S:St) (H H':List (Nat×Blk)) (slR:List (Nat×PV)) (hb2:List (Nat×Blk)):Prop where
 h1:∀ j B,H.lookup j=some B→S.blk j=some B
 hs:e7 S slR
 h2:∀ k B,hb2.lookup k=some B→H'.lookup k=some B∨(S.blk k=some B∧H.lookup k=none∧H'.lookup k=none∧∀ i x,B.cs.get i=some x→∀ q,x.free q=false→st q=false→H'.lookup q=none)
 fix:∀ q B1,st q=true→H'.lookup q=some B1→∃ B0,H.lookup q=some B0∧B1.sz=B0.sz∧B1.cs.len=B0.cs.len
 slot:∀ t v,slR.lookup t=some v→∀ q,v.free q=false→st q=false→H'.lookup q=none
 lo:∀ j,H.lookup j≠none→st j=false→F.lo j=false
 pin:∀ j,F.pin j≠none→st j=true
 whole:Whole H'
theorem nsI {E:Env}{st:Nat→Bool}{F:Fr}(hG:E.G F.w0)(hX:∀ b,F.X b→E.ng≤b)(hng:E.ng≤F.w0.heap.size){ops:Array Oper}{d:Nat}{f:FuncId}{op:Op}{T:TypeId}{pos:String}{aft:Array Edge}{xs:List PV}{S:St}{H H':List (Nat×Blk)}{r:PV}{rs:List (Operand×PV)}{os:List Oper}{K:St→Prop}(slR:List (Nat×PV))(hb2:List (Nat×Blk))(hs:I4 E st f xs H H' r)(hlt:d<F.nt)
  (hargs:∀ ρ S a w,b5 F ρ S a w→(∀ p∈rs,S.opd p.1=some p.2)→∃ vals:List Value,(execOp a.eval ⟨some d,op,T,pos,aft,none⟩).run E.P w = .ok (.enter f vals.toArray) w∧D3 S.blk ρ (okI F S.blk ρ) (hp w) xs vals)
  (hr:v8 S rs) (C:d0d st F S H H' slR hb2) (hres:∀ q,r.free q=false→H'.lookup q≠none) (hd:slR.lookup d=none) (hn:g0f E.P F ops os ⟨(d,r) :: slR,hb2⟩ K):g0f E.P F ops (⟨some d,op,T,pos,aft,none⟩ :: os) S K:=by
 have hstay:∀ q,(st q=false→H'.lookup q=none)→D0r st S ⟨(d,r) :: slR,hb2⟩ (fun j=>j) H H' q:=fun q hq=>by
  cases e:hb2.lookup q with
  | none=>exact .inl e
  | some B =>
   rcases C.h2 q B e with h | ⟨h3,h4,h5,_⟩
   ·have hst : st q = true := by
     cases e2:st q with
     | true=>rfl
     | false=>rw [hq e2] at h; cases h
    obtain ⟨B0,h6,h7,h8⟩:=C.fix q B hst h
    exact .inr (.inr ⟨q,B0,B,rfl,hst,h6,h,h7,h8⟩)
   ·exact .inr (.inl ⟨by rw [h3]; exact e,fun j hj e2=>by subst e2; exact hj.elim (fun h=>h h4) (fun h=>h h5)⟩)
 refine .cons (J1r hG hX hng (fun j=>j) hs rfl rfl hlt (fun ρ a w hS=>?_) ⟨fun j B hj=>by rw [Blk.ren_id]; exact C.h1 j B hj,fun _ _ _ _ h=>h,fun i j _ h2 _ h4 _=>C.lo j h2 h4,fun k B' hk=>?_,fun t v ht=>?_,hres,C.whole,fun j hj hp=>?_⟩) hn
 ·rw [PV.renL_id]; exact hargs ρ S a w hS hr.all
 ·rcases C.h2 k B' hk with h | ⟨h3,h4,h5,h6⟩
  ·exact .inl ⟨k,B',rfl,h,(Blk.ren_id B').symm⟩
  ·exact .inr ⟨h3,fun j hj e2=>by subst e2; exact hj.elim (fun h=>h h4) (fun h=>h h5),fun i x hx q hq=>hstay q (h6 i x hx q hq)⟩
 ·simp only [St.slot,i0] at ht
  by_cases e:t=d
  ·subst e; simp only [BEq.rfl,U0] at ht; exact .inl ⟨rfl,by rw [PV.ren_id]; exact ht.symm⟩
  ·rw [show (t == d)=false by simpa using e] at ht
   exact .inr ⟨e,C.hs.all t v ht,fun q hq=>hstay q (C.slot t v ht q hq)⟩
 ·have h:=C.pin j hp
  obtain ⟨B1,hB1⟩:=J3 hj
  obtain ⟨B0,h0,_⟩:=C.fix j B1 h hB1
  exact ⟨by rw [h0]; simp,h⟩
end Go.Proofs.YtjagfionflbjbaaGreat.SH
namespace Go.Proofs.YtjagfionflbjbaaGreat.SH
open Go Go.RowKit
def B8 (k:Nat):Bool:=Nat.blt k 1100
def n6 (l:List (Nat×Blk)):Bool:=l.all fun p=>Nat.blt p.1 1000
theorem f0h {l:List (Nat×Blk)}(h:n6 l=true){k:Nat}{B:Blk}(hk:l.lookup k=some B):k<1000:=by
 unfold n6 at h
 rw [s0] at h
 simpa [Nat.blt_eq] using h _ (O3 hk)
theorem q5 {l:List (Nat×Blk)}(h:n6 l=true){k:Nat}(hk:1000≤k):l.lookup k=none:=by
 cases e:l.lookup k with
 | none=>rfl
 | some B=>have:=f0h h e; omega
theorem w8 {α:Type}:∀ {l:List (Nat×α)} {j:Nat} {B:α} (_:l.lookup j=some B),(j,B)∈l
 | [],_,_,h=>by simp at h
 | (k,C) :: l,j,B,h=>by
  rw [i0] at h
  split at h
  ·rename_i e; injection h with h; subst h; simp [beq_iff_eq.1 e]
  ·simp [w8 h]
theorem ncT {F:Fr}{sl slR:List (Nat×PV)}{bx pre pre' T T' U U':List (Nat×Blk)}(ks:List Nat)(hks:(ks.all fun k=>Nat.blt k 1100)=true)
  (hp:n6 pre=true) (hbp:∀ k B,bx.lookup k=some B→pre.lookup k=some B) (hpp:∀ k B,pre'.lookup k=some B→pre.lookup k=some B)
  (hT:∀ k B,T.lookup k=some B→U.lookup k=some B∧1000≤k) (hT':∀ k B,T'.lookup k=some B→1000≤k)
  (hU:∀ k B,U'.lookup k=some B→T'.lookup k=some B∨(1000≤k∧U.lookup k=some B∧T.lookup k=none∧T'.lookup k=none∧∀ i x,B.cs.get i=some x→∀ q,x.free q=false→1100≤q→T'.lookup q=none))
  (hfix:∀ q B1,q<1100→T'.lookup q=some B1→∃ B0,T.lookup q=some B0∧B1.sz=B0.sz∧B1.cs.len=B0.cs.len)
  (hpo:(pre'.all fun p=>p.2.cs.only ks)=true) (hso:(slR.all fun p=>p.2.only ks)=true) (hS:e7 ⟨sl,pre++U⟩ slR)
  (hlo:∀ j,1100≤j→T.lookup j≠none→F.lo j=false) (hpin:∀ j,B8 j=false→F.pin j=none) (hw:Whole (bx++T')) :
  d0d B8 F ⟨sl,pre++U⟩ (bx++T) (bx++T') slR (pre'++U'):=by
 have hbx:∀ k,1000≤k→bx.lookup k=none:=fun k hk=>by
  cases e:bx.lookup k with
  | none=>rfl
  | some B=>have:=f0h hp (hbp k B e); omega
 have hTl:∀ k,k<1000→T.lookup k=none:=fun k hk=>by
  cases e:T.lookup k with
  | none=>rfl
  | some B=>have:=(hT k B e).2; omega
 have hTl':∀ k,k<1000→T'.lookup k=none:=fun k hk=>by
  cases e:T'.lookup k with
  | none=>rfl
  | some B=>have:=hT' k B e; omega
 have hst:∀ {q},B8 q=false→1100≤q:=fun {q} h=>by
  have:¬ q<1100:=fun h2=>by rw [B8,show Nat.blt q 1100=true by rw [Nat.blt_eq]; exact h2] at h; cases h
  omega
 have hst':∀ {q},B8 q=true→q<1100:=fun {q} h=>by simpa [B8,Nat.blt_eq] using h
 have hkl:∀ q,q∈ks→q<1100:=fun q hq=>by rw [s0] at hks; simpa [Nat.blt_eq] using hks q hq
 refine ⟨fun j B hj=>?_,hS,fun k B hk=>?_,fun q B1 hq hq1=>?_,fun t v ht q hq hs=>?_,fun j hj hs=>?_,fun j hj=>?_,hw⟩
 ·show (pre++U).lookup j=some B
  rw [T1] at hj ⊢
  cases e:bx.lookup j with
  | some C=>rw [e,K0] at hj; rw [hbp j C e,K0,hj]
  | none =>
   rw [e,l0] at hj
   rw [q5 hp (hT j B hj).2,l0]; exact (hT j B hj).1
 ·rw [T1] at hk
  show _∨((pre++U).lookup k=some B∧_)
  rw [T1,T1,T1]
  cases e:pre'.lookup k with
  | some C =>
   rw [e,K0] at hk
   injection hk with hk
   subst hk
   have h3:=hpp k C e
   have h4:=f0h hp h3
   rw [h3,hTl k h4,hTl' k h4,K0,Option.or_none]
   cases e2:bx.lookup k with
   | some D =>
    have:=hbp k D e2
    rw [h3] at this
    exact .inl this.symm
   | none =>
    refine .inr ⟨rfl,rfl,rfl,fun i x hx q hq hs=>?_⟩
    rw [s0] at hpo
    have h5:=hkl q (PV.only_mem (Cells.only_get (hpo _ (O3 e)) hx) hq)
    have:=hst hs
    omega
  | none =>
   rw [e,l0] at hk
   rcases hU k B hk with h | ⟨h1,h3,h4,h5,h6⟩
   ·exact .inl (by rw [hbx k (hT' k B h),l0,h])
   ·refine .inr ⟨by rw [q5 hp h1,l0,h3],by rw [hbx k h1,h4]; rfl,by rw [hbx k h1,h5]; rfl,fun i x hx q hq hs=>?_⟩
    have:=hst hs
    rw [T1,hbx q (by omega),l0]; exact h6 i x hx q hq this
 ·rw [T1] at hq1 ⊢
  cases e:bx.lookup q with
  | some C=>rw [e,K0] at hq1; injection hq1 with hq1; subst hq1; exact ⟨C,rfl,rfl,rfl⟩
  | none =>
   rw [e,l0] at hq1
   obtain ⟨B0,h1,h3⟩:=hfix q B1 (hst' hq) hq1
   exact ⟨B0,by rw [l0]; exact h1,h3⟩
 ·rw [s0] at hso
  have h5:=hkl q (PV.only_mem (hso _ (w8 ht)) hq)
  have:=hst hs
  omega
 ·have h1:=hst hs
  rw [T1,hbx j (by omega),l0] at hj
  exact hlo j h1 hj
 ·cases e:B8 j with
  | true=>rfl
  | false=>exact absurd (hpin j e) hj
end Go.Proofs.YtjagfionflbjbaaGreat.SH
namespace Go.Proofs.YtjagfionflbjbaaGreat.SH
open Go
theorem F0c {E:Env}{st st':Nat→Bool}{f:FuncId}{args:List PV}{H H':List (Nat×Blk)}{r:PV}(h:I4 E st f args H H' r)(hst:∀ j,st' j=true→st j=true):I4 E st' f args H H' r:=by
 intro ok ρ w vals hG hH hinj hrel
 refine Calls.mono (h ok ρ w vals hG hH hinj hrel) fun e w' ⟨v,ρ1,he,hp⟩=>⟨v,ρ1,he,{ hp with stay:=fun j h1 h2 h3=>hp.stay j h1 h2 (hst j h3) }⟩
end Go.Proofs.YtjagfionflbjbaaGreat.SH
namespace Go.Proofs.YtjagfionflbjbaaGreat.SH
open Go
section
variable {P:Program} {F:Fr} {d:Nat} {T:TypeId} {pos:String} {aft:Array Edge} {g:Option (Nat×Bool)} {x y:Operand} {xT yT:TypeId}
theorem q0a {e:TypeId}(hu:P.underlying xT=some (.slice e))(hlt:d<F.nt):O2 P F ⟨some d,.binOp .neq xT x y yT,T,pos,aft,g⟩ { rs:=[(x,.p (.a (.slice none 0 0))),(y,.p (.a (.slice none 0 0)))],ws:=[(d,.p (.a (.bool false)))] } :=
 D4 hlt fun e' w h1 h2=>by simp [execOp,h1,h2,eqGuard,run_neq_slice_nil w xT e none 0 0 hu]
theorem v0f {e:TypeId}{k off n tot:Nat}{B:Blk}(hu:P.underlying xT=some (.slice e))(hl:B.cs.len=tot)(hlt:d<F.nt):O2 P F ⟨some d,.binOp .neq xT x y yT,T,pos,aft,g⟩ { rs:=[(x,.ref k off n tot),(y,.p (.a (.slice none 0 0)))],rb:=[(k,B)],ws:=[(d,.p (.a (.bool true)))] } :=
 B4 rfl hlt rfl rfl fun ρ S a w h hA=>by
  obtain ⟨cap,c,he,hc,_,_⟩:=o9 h (hA.rs (x,.ref k off n tot) (by simp)) (hA.rb (k,B) (by simp)) hl
  have hy:=M4 h (v:=.slice none 0 0) (hA.rs (y,_) (by simp))
  exact ⟨.bool true,by simp [execOp,he,hy,eqGuard,run_neq_slice_nil w xT e _ n cap hu],by simp [K2,Rel]⟩
end
end Go.Proofs.YtjagfionflbjbaaGreat.SH
namespace Go.Proofs.YtjagfionflbjbaaGreat.SH
open Go
theorem Z2 {P:Program}{F:Fr}{d:Nat}{T:TypeId}{pos:String}{aft:Array Edge}{g:Option (Nat×Bool)}{x:Operand}{k off tot:Nat}{B:Blk}(hl:B.cs.len=tot)(hlt:d<F.nt):O2 P F ⟨some d,.nilCheck x,T,pos,aft,g⟩ { rs:=[(x,.at_ k off tot)],rb:=[(k,B)],ws:=[(d,.at_ k off tot)] } :=
 B4 rfl hlt rfl rfl fun ρ S a w h hA=>by
  have hx:=hA.rs (x,.at_ k off tot) (by simp)
  have he:=b9 h hx (hA.rb (k,B) (by simp)) hl
  exact ⟨.pointer (some ⟨ρ k,off,none⟩),by simp [execOp,he],by rw [← he]; exact Z4 h hx⟩
end Go.Proofs.YtjagfionflbjbaaGreat.SH
namespace Go.Proofs.YtjagfionflbjbaaGreat.SH
open Go Go.RowKit
def stA (_:Nat):Bool:=true
theorem p1k {F:Fr}{sl slR:List (Nat×PV)}{bx pre pre' T T' U U':List (Nat×Blk)}
  (hp:n6 pre=true) (hbp:∀ k B,bx.lookup k=some B→pre.lookup k=some B) (hpp:∀ k B,pre'.lookup k=some B→pre.lookup k=some B)
  (hT:∀ k B,T.lookup k=some B→U.lookup k=some B∧1000≤k) (hT':∀ k B,T'.lookup k=some B→1000≤k)
  (hU:∀ k B,U'.lookup k=some B→T'.lookup k=some B∨(1000≤k∧U.lookup k=some B∧T.lookup k=none∧T'.lookup k=none))
  (hfix:∀ q B1,T'.lookup q=some B1→∃ B0,T.lookup q=some B0∧B1.sz=B0.sz∧B1.cs.len=B0.cs.len)
  (hS:e7 ⟨sl,pre++U⟩ slR) (hw:Whole (bx++T')) :
  d0d stA F ⟨sl,pre++U⟩ (bx++T) (bx++T') slR (pre'++U'):=by
 have hbx:∀ k,1000≤k→bx.lookup k=none:=fun k hk=>by
  cases e:bx.lookup k with
  | none=>rfl
  | some B=>have:=f0h hp (hbp k B e); omega
 have hTl:∀ k,k<1000→T.lookup k=none:=fun k hk=>by
  cases e:T.lookup k with
  | none=>rfl
  | some B=>have:=(hT k B e).2; omega
 have hTl':∀ k,k<1000→T'.lookup k=none:=fun k hk=>by
  cases e:T'.lookup k with
  | none=>rfl
  | some B=>have:=hT' k B e; omega
 refine ⟨fun j B hj=>?_,hS,fun k B hk=>?_,fun q B1 hq hq1=>?_,fun t v ht q hq hs=>(by cases hs),fun j hj hs=>(by cases hs),fun j hj=>rfl,hw⟩
 ·show (pre++U).lookup j=some B
  rw [T1] at hj ⊢
  cases e:bx.lookup j with
  | some C=>rw [e,K0] at hj; rw [hbp j C e,K0,hj]
  | none =>
   rw [e,l0] at hj
   rw [q5 hp (hT j B hj).2,l0]; exact (hT j B hj).1
 ·rw [T1] at hk
  show _∨((pre++U).lookup k=some B∧_)
  rw [T1,T1,T1]
  cases e:pre'.lookup k with
  | some C =>
   rw [e,K0] at hk
   injection hk with hk
   subst hk
   have h3:=hpp k C e
   have h4:=f0h hp h3
   rw [h3,hTl k h4,hTl' k h4,K0,Option.or_none]
   cases e2:bx.lookup k with
   | some D =>
    have:=hbp k D e2
    rw [h3] at this
    exact .inl this.symm
   | none=>exact .inr ⟨rfl,rfl,rfl,fun i x hx q hq hs=>(by cases hs)⟩
  | none =>
   rw [e,l0] at hk
   rcases hU k B hk with h | ⟨h1,h3,h4,h5⟩
   ·exact .inl (by rw [hbx k (hT' k B h),l0,h])
   ·exact .inr ⟨by rw [q5 hp h1,l0,h3],by rw [hbx k h1,h4]; rfl,by rw [hbx k h1,h5]; rfl,fun i x hx q hq hs=>(by cases hs)⟩
 ·rw [T1] at hq1 ⊢
  cases e:bx.lookup q with
  | some C=>rw [e,K0] at hq1; injection hq1 with hq1; subst hq1; exact ⟨C,rfl,rfl,rfl⟩
  | none =>
   rw [e,l0] at hq1
   obtain ⟨B0,h1,h3⟩:=hfix q B1 hq1
   exact ⟨B0,by rw [l0]; exact h1,h3⟩
end Go.Proofs.YtjagfionflbjbaaGreat.SH
namespace Go.Proofs.YtjagfionflbjbaaGreat.SH
open Go
theorem g0a {P:Program}{F:Fr}{d:Nat}{t T:TypeId}{pos:String}{aft:Array Edge}{g:Option (Nat×Bool)}{k:Nat}{x:Operand}{j off tot:Nat}{B:Blk}(hl:B.cs.len=tot)(hf:(j != k)=true)(hpk:F.pin k=none)(hlt:d<F.nt) :
  O2 P F ⟨some d,.box t x,T,pos,aft,g⟩ { rs:=[(x,.at_ j off tot)],rb:=[(j,B)],fresh:=some k,ws:=[(d,.at_ k 0 1)],wb:=[(k,⟨t,1,.mix [.at_ j off tot]⟩)] } :=
 j0m (n:=1) (vs:=[.at_ j off tot]) rfl hpk hlt rfl rfl rfl rfl fun ρ S a w h hA=>by
  have hx:=hA.rs (x,.at_ j off tot) (by simp)
  have he:=b9 h hx (hA.rb (j,B) (by simp)) hl
  have hr:=Z4 h hx
  refine ⟨[a.eval x],?_,by simp only [D3]; exact ⟨_,_,rfl,hr,rfl⟩,fun c hc=>?_,by simp only [PV.freeL,PV.free,hf]; rfl⟩
  ·rw [he]; simp [execOp,he,Instr.box,newVar,newRow,Value.cells]
  ·obtain rfl:=List.mem_singleton.1 hc
   rw [he]; rfl
end Go.Proofs.YtjagfionflbjbaaGreat.SH
namespace Go.Proofs.YtjagfionflbjbaaGreat.SH
open Go
theorem p0T {pre T:List (Nat×Blk)}{k:Nat}(h:R5 T)(hk:(Nat.blt k 1000 && (pre.lookup k).isNone)=true):(pre++T).lookup k=none:=by
 rw [j0] at hk
 rw [T1,h.low k hk.1,Option.or_none]
 exact Option.isNone_iff_eq_none.1 hk.2
end Go.Proofs.YtjagfionflbjbaaGreat.SH
set_option maxRecDepth 100000
set_option maxHeartbeats 4000000
namespace Go.Proofs.YtjagfionflbjbaaGreat.N
open Go Go.Proofs.YtjagfionflbjbaaGreat.SH Go.Proofs.YtjagfionflbjbaaGreat.NumA
open Go.Proofs.Tryz renaming call65→cl65,call91→cl91,call93→cl93,call94→cl94,call95→cl95,call96→cl96,call98→cl98,call99→cl99,isAgg3→ag3,isAgg47→ag47,isAgg73→ag73,isAgg77→ag77,sizeOf47→sz47,sizeOf77→sz77,underlying77→un77,underlying79→un79
@[reducible] def bxI (k:Nat)(i:Nat):Nat×Blk:=(k,⟨3,1,.mix [.p (vZ i)]⟩)
theorem d5 {s k:Nat}{B:Blk}{m:List (List Rat)}(h2:s<9)(h:(I2 s m).lookup k=some B):1000≤k:=by
 rcases U5 h2 (show (I2 s m).lookup k≠none by rw [h]; simp) with rfl | ⟨q,_,rfl⟩
 ·omega
 ·simp only [G3]; omega
theorem f0b {s:Nat}{m m':List (List Rat)}(h2:s<9)(hl:m'.length=m.length){q:Nat}{B1:Blk}(hq:q<1100)(h:(I2 s m').lookup q=some B1):∃ B0,(I2 s m).lookup q=some B0∧B1.sz=B0.sz∧B1.cs.len=B0.cs.len:=by
 rcases U5 h2 (show (I2 s m').lookup q≠none by rw [h]; simp) with rfl | ⟨q,_,rfl⟩
 ·rw [hdL] at h
  injection h with h
  subst h
  exact ⟨hdB s m,hdL,rfl,by simp [Cells.len,hl]⟩
 ·simp only [G3] at hq; omega
theorem k1z {bx T:List (Nat×Blk)}(hb:(bx.all fun p=>p.2.cs.only [])=true)(hT:Whole T)(hd:∀ k B,T.lookup k=some B→bx.lookup k=none):Whole (bx++T):=by
 intro j B hj i x hx q hq
 rw [T1] at hj ⊢
 cases e:bx.lookup j with
 | some C =>
  rw [e,K0] at hj
  injection hj with hj
  subst hj
  rw [s0] at hb
  have:=PV.only_mem (Cells.only_get (hb _ (O3 e)) hx) hq
  simp at this
 | none =>
  rw [e,l0] at hj
  have:=hT j B hj i x hx q hq
  intro hn
  cases e2:T.lookup q with
  | none=>exact this e2
  | some C=>rw [hd q C e2,l0,e2] at hn; cases hn
theorem ncM {F:Fr}{n:Nat}{sl:List (Nat×PV)}{bx:List (Nat×Blk)}{s:Nat}{m m':List (List Rat)}(h2:s<9)(hl:m'.length=m.length)(G:GFr E B8 (bx++I2 s m) n F)(hp:n6 bx=true)(hb:(bx.all fun p=>p.2.cs.only [])=true) :
  d0d B8 F ⟨sl,bx++I2 s m⟩ (I2 s m) (I2 s m') [] (bx++I2 s m') :=
 ncT (bx:=[]) (T:=I2 s m) (T':=I2 s m') (U:=I2 s m) (U':=I2 s m') [] rfl hp (fun k B h=>by cases h) (fun k B h=>h) (fun k B h=>⟨h,d5 h2 h⟩) (fun k B h=>d5 h2 h) (fun k B h=>.inl h) (fun q B1 hq h=>f0b h2 hl hq h) hb rfl trivial
  (fun j hj h=>by
   rw [G.lo,T1,q5 hp oM,l0]
   cases e:(I2 s m).lookup j with
   | none=>exact absurd e h
   | some B=>rfl) G.ps (i2 h2 m').whole
theorem q0s (s:Nat)(m:List (List Rat))(i p:Nat)(h2:s<9)(hi:i<m.length)(hp:p<m.length)(hne:i≠p):I4 E B8 93 [.ref (s+1001) 0 m.length m.length,.at_ 6 0 1,.at_ 5 0 1] ([bxI 5 p,bxI 6 i]++I2 s m) ([bxI 5 p,bxI 6 i]++I2 s (L5 m i p)) (.p (.tup [])):=by
 refine n4 (xs:=[]) Tryz.func93 rfl Tryz.ntmps93 Tryz.results93 sM fun F G=>?_
 have L:=@lti _ _ G.nt
 have hG:=G.g
 have hX:=G.x
 have hN:=W5 hG
 refine D0b (nsw (c_m L) t1 t0 (nsw (Y1 ag3 rF rF L) t1 t1 ?_))
 refine nsw (Y1 ag3 rF rF L) t1 t1 ?_
 refine nsI hG hX hN [] ([(5,_),(6,_)]++(I2 s (L5 m i p))) (j1s s m i p h2 hi hp hne) L (C4 (ys:=[_,_,_]) cl94 rfl rfl) t3 (by exact ncM (bx:=[bxI 5 p,bxI 6 i]) h2 sM G rfl rfl) (fun q h=>by cases h) rfl ?_
 refine .nil ?_
 refine ⟨.inl rfl,U4.cast .nil ?_,⟨rfl,rfl,hbT [_,_] (i2 h2 _) rfl⟩⟩
 rfl
@[reducible] def bxQ (k:Nat)(c:Rat):Nat×Blk:=(k,bQ c)
theorem v0a (s:Nat)(m:List (List Rat))(p:Nat)(c:Rat)(h2:s<9)(hp:p<m.length)(hl:(m.getD p []).length<1000000000)(hs:∀ a∈m.getD p [],qw a<1000000000)(hc:qw c<1000000000):I4 E B8 95 [.ref (s+1001) 0 m.length m.length,.at_ 5 0 1,.at_ 8 0 4] ([bxI 5 p,bxQ 8 c]++I2 s m) ([bxI 5 p,bxQ 8 c]++I2 s (m.set p ((m.getD p []).map (· * c)))) (.p (.tup [])):=by
 refine n4 (xs:=[]) Tryz.func95 rfl Tryz.ntmps95 Tryz.results95 sM fun F G=>?_
 have L:=@lti _ _ G.nt
 have hG:=G.g
 have hX:=G.x
 have hN:=W5 hG
 refine D0b (nsw (c_m L) t1 t0 (nsw (Y1 ag3 rF rF L) t1 t1 ?_))
 refine nsw (l6 ag47 sz47 rF (by exact al4) rfl L) t1 t1 ?_
 refine nsI hG hX hN [] ([(5,_),(8,_)]++(I2 s (m.set p ((m.getD p []).map (· * c))))) (F0c (d1m s m p c h2 hp hl hs hc) (fun _ _=>rfl)) L (C4 (ys:=[_,_,_]) cl96 rfl rfl) t3 (by exact ncM (bx:=[bxI 5 p,bxQ 8 c]) h2 sM G rfl rfl) (fun q h=>by cases h) rfl ?_
 refine .nil ?_
 refine ⟨.inl rfl,U4.cast .nil ?_,⟨rfl,rfl,hbT [_,_] (i2 h2 _) rfl⟩⟩
 rfl
def C9 (m m':List (List Rat)):Prop:=m'.length=m.length∧∀ i,(m'.getD i []).length=(m.getD i []).length
theorem n1d {m:List (List Rat)}{i:Nat}{r:List Rat}(h:r.length=(m.getD i []).length):C9 m (m.set i r):=by
 refine ⟨by simp,fun j=>?_⟩
 rw [f0,List.getElem?_set]
 by_cases e:i=j
 ·subst e
  rw [if_pos rfl]
  by_cases hi:i<m.length
  ·rw [if_pos hi]; exact h
  ·rw [if_neg hi,f0,List.getElem?_eq_none oM]
 ·rw [if_neg e,f0]
theorem L9 {s:Nat}{m m':List (List Rat)}(h2:s<9)(hl:C9 m m'){q:Nat}{B1:Blk}(h:(I2 s m').lookup q=some B1):∃ B0,(I2 s m).lookup q=some B0∧B1.sz=B0.sz∧B1.cs.len=B0.cs.len:=by
 rcases U5 h2 (show (I2 s m').lookup q≠none by rw [h]; simp) with rfl | ⟨q,hq,rfl⟩
 ·rw [hdL] at h
  injection h with h
  subst h
  exact ⟨hdB s m,hdL,rfl,by simp [Cells.len,hl.1]⟩
 ·rw [rwL h2 hq] at h
  injection h with h
  subst h
  exact ⟨_,rwL h2 (by rw [← hl.1]; exact hq),rfl,by simp only [Cells.len,I3,hl.2 q]⟩
theorem V1n {F:Fr}{n:Nat}{sl:List (Nat×PV)}{bx:List (Nat×Blk)}{s:Nat}{m m':List (List Rat)}(h2:s<9)(hl:C9 m m')(hp:n6 bx=true) :
  d0d stA F ⟨sl,bx++I2 s m⟩ (I2 s m) (I2 s m') [] (bx++I2 s m') :=
 p1k (bx:=[]) (T:=I2 s m) (T':=I2 s m') (U:=I2 s m) (U':=I2 s m') hp (fun k B h=>by cases h) (fun k B h=>h) (fun k B h=>⟨h,d5 h2 h⟩) (fun k B h=>d5 h2 h) (fun k B h=>.inl h) (fun q B1 h=>L9 h2 hl h) t0 (i2 h2 m').whole
theorem j0y {m:List (List Rat)}{i p:Nat}{c:Rat}(hlen:(m.getD p []).length=(m.getD i []).length):C9 m (Z7 m i p c):=n1d (by simp; simp at hlen; omega)
theorem v0g (s:Nat)(m:List (List Rat))(i p:Nat)(c:Rat)(B C D:Nat)(h2:s<9)(hi:i<m.length)(hp:p<m.length)(hne:i≠p)(hlen:(m.getD p []).length=(m.getD i []).length)(hl:(m.getD i []).length<1000000000)(hB:∀ a∈m.getD i [],qw a≤B)(hC:∀ a∈m.getD p [],qw a≤C)(hD:qw c≤D)(hb:B+(D+C)+1<1000000000):I4 E stA 98 [.ref (s+1001) 0 m.length m.length,.at_ 10 0 1,.at_ 5 0 1,.at_ 11 0 4] ([bxI 5 p,bxI 10 i,bxQ 11 c]++I2 s m) ([bxI 5 p,bxI 10 i,bxQ 11 c]++I2 s (Z7 m i p c)) (.p (.tup [])):=by
 refine n4 (xs:=[]) Tryz.func98 rfl Tryz.ntmps98 Tryz.results98 sM fun F G=>?_
 have L:=@lti _ _ G.nt
 have hG:=G.g
 have hX:=G.x
 have hN:=W5 hG
 refine D0b (nsw (c_m L) t1 t0 (nsw (Y1 ag3 rF rF L) t1 t1 ?_))
 refine nsw (Y1 ag3 rF rF L) t1 t1 ?_
 refine nsw (l6 ag47 sz47 rF (by exact al4) rfl L) t1 t1 ?_
 refine nsI hG hX hN [] ([(5,_),(10,_),(11,_)]++(I2 s (Z7 m i p c))) (F0c (d1c s m i p c B C D h2 hi hp hne hlen hl hB hC hD hb) (fun _ _=>rfl)) L (C4 (ys:=[_,_,_,_]) cl99 rfl rfl) t4 (by exact V1n (n:=0) (bx:=[bxI 5 p,bxI 10 i,bxQ 11 c]) h2 (j0y hlen) rfl) (fun q h=>by cases h) rfl ?_
 refine .nil ?_
 refine ⟨.inl rfl,U4.cast .nil ?_,⟨rfl,rfl,rfl,hbT [_,_,_] (i2 h2 _) rfl⟩⟩
 rfl
@[reducible] def wB (c n:Nat):Option Nat→Blk
 | none=>⟨79,3,.mix [.ref 1001 0 n n,.p (vZ c),.p (.a (.slice none 0 0))]⟩
 | some k=>⟨79,3,.mix [.ref 1001 0 n n,.p (vZ c),.ref 1002 0 k k]⟩
theorem H0z {s k i q:Nat}{m:List (List Rat)}{B:Blk}{x:PV}(h2:s<9)(h:(I2 s m).lookup k=some B)(hx:B.cs.get i=some x)(hq:x.free q=false):∃ j,q=G3 s j:=by
 rcases U5 h2 (show (I2 s m).lookup k≠none by rw [h]; simp) with rfl | ⟨j,hj,rfl⟩
 ·rw [hdL] at h
  injection h with h
  subst h
  obtain ⟨v,_,e⟩:=B0g hx hq
  exact ⟨_,e⟩
 ·rw [rwL h2 hj] at h
  injection h with h
  subst h
  simp only [Cells.get,M0] at hx
  obtain ⟨y,_,rfl⟩:=hx
  simp [PV.free] at hq
theorem J8 {s s' k:Nat}{m b:List (List Rat)}(h2:s<2)(h2':s'<2)(hne:s≠s')(h:(I2 s m).lookup k≠none):(I2 s' b).lookup k=none:=by
 cases e:(I2 s' b).lookup k with
 | none=>rfl
 | some B =>
  rcases U5 oM h with rfl | ⟨q,_,rfl⟩ <;> rcases U5 oM (show (I2 s' b).lookup _≠none by rw [e]; simp) with h3 | ⟨q',_,h3⟩ <;> (try simp only [G3] at h3) <;> omega
theorem k1k {s k:Nat}{m m':List (List Rat)}(h2:s<9)(hl:m'.length=m.length)(h:(I2 s m).lookup k=none):(I2 s m').lookup k=none:=by
 cases e:(I2 s m').lookup k with
 | none=>rfl
 | some B =>
  rcases U5 h2 (show (I2 s m').lookup k≠none by rw [e]; simp) with rfl | ⟨q,hq,rfl⟩
  ·rw [hdL] at h; cases h
  ·exact absurd h (Q0x h2 oM)
theorem R7 (m b:List (List Rat)):R5 (I2 0 m++I2 1 b):=by
 have h0:=i2 (s:=0) dC m
 have h1:=i2 (s:=1) dC b
 refine ⟨fun k hk=>by rw [T1,h0.low k hk,h1.low k hk]; rfl,?_,fun k hk=>by rw [R4,h0.free k hk,h1.free k hk]; rfl,fun j B hj i x hx q hq=>?_⟩
 ·rw [List.map_append,List.nodup_append]
  refine ⟨h0.nd,h1.nd,fun a ha b' hb e=>?_⟩
  subst e
  obtain ⟨⟨a,A⟩,hA,rfl⟩:=G0.1 ha
  obtain ⟨⟨a',A'⟩,hA',e⟩:=G0.1 hb
  simp only at e
  subst e
  have:=J8 (m:=m) (b:=b) (k:=a') (s:=0) (s':=1) dC dC dC (by rw [V5 h0.nd hA]; simp)
  rw [V5 h1.nd hA'] at this; cases this
 ·rw [T1] at hj ⊢
  cases e:(I2 0 m).lookup j with
  | some C =>
   rw [e,K0] at hj
   injection hj with hj
   subst hj
   have:=h0.whole j C e i x hx q hq
   obtain ⟨D,hD⟩:=j1.1 this
   rw [hD]; simp
  | none =>
   rw [e,l0] at hj
   have:=h1.whole j B hj i x hx q hq
   obtain ⟨D,hD⟩:=j1.1 this
   rw [hD]; simp
theorem M1w {m b:List (List Rat)}:(I2 0 m++I2 1 b).lookup 1002=some (hdB 1 b):=by
 rw [T1,J8 (m:=b) (b:=m) (k:=1002) (s:=1) (s':=0) dC dC dC (by rw [show 1002=1+1001 from rfl,hdL]; simp),l0]; exact hdL
@[reducible] def ks8:List Nat:=[1,3,4,5,6,7,8,10,11,999,1001,1002,1003]
theorem f1y {F:Fr}{n:Nat}{H0 pre T:List (Nat×Blk)}(G:GFr E B8 H0 n F)(h:∀ k,T.lookup k≠none→H0.lookup k≠none):∀ j,1100≤j→T.lookup j≠none→F.lo j=false:=fun j _ hj=>by
 rw [G.lo]
 cases e:H0.lookup j with
 | none=>exact absurd e (h j hj)
 | some B=>rfl
theorem I8 {pre T:List (Nat×Blk)}{k:Nat}(h:T.lookup k≠none):(pre++T).lookup k≠none:=by
 rw [T1]
 cases pre.lookup k with
 | none=>simpa using h
 | some B=>simp
theorem j0z {T U:List (Nat×Blk)}{k:Nat}(h:T.lookup k≠none):(T++U).lookup k≠none:=by
 rw [T1]
 cases e:T.lookup k with
 | none=>exact absurd e h
 | some B=>simp
theorem q0w {bx r:List (Nat×Blk)}:∀ k B,bx.lookup k=some B→(bx++r).lookup k=some B:=fun k B h=>by rw [T1,h]; rfl
theorem m1h {bx T:List (Nat×Blk)}(hp:n6 bx=true)(hT:∀ k B,T.lookup k=some B→1000≤k)(hb:(bx.all fun p=>p.2.cs.only [])=true)(hw:Whole T):Whole (bx++T) :=
 k1z hb hw fun k B h=>q5 hp (hT k B h)
theorem nc1 {F:Fr}{n:Nat}{sl slR:List (Nat×PV)}{bx r:List (Nat×Blk)}{m m':List (List Rat)}(hl:m'.length=m.length)(G:GFr E B8 ((bx++r)++I2 0 m) n F)(hp:n6 (bx++r)=true)(hp':n6 bx=true)(hb:(bx.all fun p=>p.2.cs.only [])=true)(hpo:((bx++r).all fun p=>p.2.cs.only ks8)=true)(hso:(slR.all fun p=>p.2.only ks8)=true)(hS:e7 ⟨sl,(bx++r)++I2 0 m⟩ slR) :
  d0d B8 F ⟨sl,(bx++r)++I2 0 m⟩ (bx++I2 0 m) (bx++I2 0 m') slR ((bx++r)++I2 0 m') :=
 ncT (pre:=bx++r) (pre':=bx++r) ks8 rfl hp q0w (fun k B h=>h) (fun k B h=>⟨h,d5 dC h⟩) (fun k B h=>d5 dC h) (fun k B h=>.inl h) (fun q B1 hq h=>f0b dC hl hq h) hpo hso hS
  (f1y (pre:=[]) G fun k h=>I8 h) G.ps (m1h hp' (fun k B h=>d5 dC h) hb (i2 dC m').whole)
theorem P1z {F:Fr}{n:Nat}{sl slR:List (Nat×PV)}{bx r:List (Nat×Blk)}{m m' b:List (List Rat)}(hl:m'.length=m.length)(G:GFr E B8 ((bx++r)++(I2 0 m++I2 1 b)) n F)(hp:n6 (bx++r)=true)(hp':n6 bx=true)(hb:(bx.all fun p=>p.2.cs.only [])=true)(hpo:((bx++r).all fun p=>p.2.cs.only ks8)=true)(hso:(slR.all fun p=>p.2.only ks8)=true)(hS:e7 ⟨sl,(bx++r)++(I2 0 m++I2 1 b)⟩ slR) :
  d0d B8 F ⟨sl,(bx++r)++(I2 0 m++I2 1 b)⟩ (bx++I2 0 m) (bx++I2 0 m') slR ((bx++r)++(I2 0 m'++I2 1 b)) :=
 ncT (pre:=bx++r) (pre':=bx++r) ks8 rfl hp q0w (fun k B h=>h) (fun k B h=>⟨by rw [T1,h]; rfl,d5 dC h⟩) (fun k B h=>d5 dC h)
  (fun k B h=>by
   rw [T1] at h
   cases e:(I2 0 m').lookup k with
   | some C=>rw [e] at h; exact .inl h
   | none =>
    rw [e,l0] at h
    have h0:=J8 (m:=b) (b:=m) (k:=k) (s:=1) (s':=0) dC dC dC (by rw [h]; simp)
    refine .inr ⟨d5 dC h,by rw [T1,h0,l0,h],h0,rfl,fun i x hx q hq _=>?_⟩
    obtain ⟨j,rfl⟩:=H0z dC h hx hq
    cases e2:(I2 0 m').lookup (G3 1 j) with
    | none=>rfl
    | some C=>rcases U5 dC (show (I2 0 m').lookup _≠none by rw [e2]; simp) with h3 | ⟨q',_,h3⟩ <;> simp only [G3] at h3 <;> omega)
  (fun q B1 hq h=>f0b dC hl hq h) hpo hso hS (f1y (pre:=[]) G fun k h=>I8 (j0z h)) G.ps (m1h hp' (fun k B h=>d5 dC h) hb (i2 dC m').whole)
theorem P1n {F:Fr}{n:Nat}{sl slR:List (Nat×PV)}{bx r:List (Nat×Blk)}{m0 m b b':List (List Rat)}(hl:b'.length=b.length)(G:GFr E B8 ((bx++r)++(I2 0 m0++I2 1 b)) n F)(hp:n6 (bx++r)=true)(hp':n6 bx=true)(hb:(bx.all fun p=>p.2.cs.only [])=true)(hpo:((bx++r).all fun p=>p.2.cs.only ks8)=true)(hso:(slR.all fun p=>p.2.only ks8)=true)(hS:e7 ⟨sl,(bx++r)++(I2 0 m++I2 1 b)⟩ slR) :
  d0d B8 F ⟨sl,(bx++r)++(I2 0 m++I2 1 b)⟩ (bx++I2 1 b) (bx++I2 1 b') slR ((bx++r)++(I2 0 m++I2 1 b')):=by
 have hdd:∀ (b:List (List Rat)) k B,(I2 1 b).lookup k=some B→(I2 0 m).lookup k=none:=fun b k B h=>J8 (m:=b) (b:=m) (k:=k) (s:=1) (s':=0) dC dC dC (by rw [h]; simp)
 have hdd':∀ (b:List (List Rat)) k B,(I2 0 m).lookup k=some B→(I2 1 b).lookup k=none:=fun b k B h=>J8 (m:=m) (b:=b) (k:=k) (s:=0) (s':=1) dC dC dC (by rw [h]; simp)
 refine ncT (pre:=bx++r) (pre':=bx++r) ks8 rfl hp q0w (fun k B h=>h) (fun k B h=>⟨by rw [T1,hdd b k B h,l0,h],d5 dC h⟩) (fun k B h=>d5 dC h)
  (fun k B h=>?_)
  (fun q B1 hq h=>f0b dC hl hq h) hpo hso hS (f1y (pre:=[]) G fun k h=>I8 (I8 h)) G.ps (m1h hp' (fun k B h=>d5 dC h) hb (i2 dC b').whole)
 rw [T1] at h
 cases e:(I2 0 m).lookup k with
 | none=>rw [e,l0] at h; exact .inl h
 | some C =>
  rw [e,K0] at h
  injection h with h
  subst h
  refine .inr ⟨d5 dC e,by rw [T1,e]; rfl,hdd' b k C e,hdd' b' k C e,fun i x hx q hq _=>?_⟩
  obtain ⟨j,rfl⟩:=H0z dC e hx hq
  cases e2:(I2 1 b').lookup (G3 0 j) with
  | none=>rfl
  | some D=>rcases U5 dC (show (I2 1 b').lookup _≠none by rw [e2]; simp) with h3 | ⟨q',_,h3⟩ <;> simp only [G3] at h3 <;> omega
theorem W1g {F:Fr}{sl slR:List (Nat×PV)}{bx r:List (Nat×Blk)}{m m':List (List Rat)}(hl:C9 m m')(hp:n6 (bx++r)=true)(hp':n6 bx=true)(hb:(bx.all fun p=>p.2.cs.only [])=true)(hS:e7 ⟨sl,(bx++r)++I2 0 m⟩ slR) :
  d0d stA F ⟨sl,(bx++r)++I2 0 m⟩ (bx++I2 0 m) (bx++I2 0 m') slR ((bx++r)++I2 0 m') :=
 p1k (pre:=bx++r) (pre':=bx++r) hp q0w (fun k B h=>h) (fun k B h=>⟨h,d5 dC h⟩) (fun k B h=>d5 dC h) (fun k B h=>.inl h) (fun q B1 h=>L9 dC hl h) hS (m1h hp' (fun k B h=>d5 dC h) hb (i2 dC m').whole)
theorem V1b {F:Fr}{sl slR:List (Nat×PV)}{bx r:List (Nat×Blk)}{m m' b:List (List Rat)}(hl:C9 m m')(hp:n6 (bx++r)=true)(hp':n6 bx=true)(hb:(bx.all fun p=>p.2.cs.only [])=true)(hS:e7 ⟨sl,(bx++r)++(I2 0 m++I2 1 b)⟩ slR) :
  d0d stA F ⟨sl,(bx++r)++(I2 0 m++I2 1 b)⟩ (bx++I2 0 m) (bx++I2 0 m') slR ((bx++r)++(I2 0 m'++I2 1 b)) :=
 p1k (pre:=bx++r) (pre':=bx++r) hp q0w (fun k B h=>h) (fun k B h=>⟨by rw [T1,h]; rfl,d5 dC h⟩) (fun k B h=>d5 dC h)
  (fun k B h=>by
   rw [T1] at h
   cases e:(I2 0 m').lookup k with
   | some C=>rw [e] at h; exact .inl h
   | none =>
    rw [e,l0] at h
    have h0:=J8 (m:=b) (b:=m) (k:=k) (s:=1) (s':=0) dC dC dC (by rw [h]; simp)
    exact .inr ⟨d5 dC h,by rw [T1,h0,l0,h],h0,rfl⟩)
  (fun q B1 h=>L9 dC hl h) hS (m1h hp' (fun k B h=>d5 dC h) hb (i2 dC m').whole)
theorem V1k {F:Fr}{sl slR:List (Nat×PV)}{bx r:List (Nat×Blk)}{m b b':List (List Rat)}(hl:C9 b b')(hp:n6 (bx++r)=true)(hp':n6 bx=true)(hb:(bx.all fun p=>p.2.cs.only [])=true)(hS:e7 ⟨sl,(bx++r)++(I2 0 m++I2 1 b)⟩ slR) :
  d0d stA F ⟨sl,(bx++r)++(I2 0 m++I2 1 b)⟩ (bx++I2 1 b) (bx++I2 1 b') slR ((bx++r)++(I2 0 m++I2 1 b')):=by
 have hdd:∀ (b:List (List Rat)) k B,(I2 1 b).lookup k=some B→(I2 0 m).lookup k=none:=fun b k B h=>J8 (m:=b) (b:=m) (k:=k) (s:=1) (s':=0) dC dC dC (by rw [h]; simp)
 have hdd':∀ (b:List (List Rat)) k B,(I2 0 m).lookup k=some B→(I2 1 b).lookup k=none:=fun b k B h=>J8 (m:=m) (b:=b) (k:=k) (s:=0) (s':=1) dC dC dC (by rw [h]; simp)
 refine p1k (pre:=bx++r) (pre':=bx++r) hp q0w (fun k B h=>h) (fun k B h=>⟨by rw [T1,hdd b k B h,l0,h],d5 dC h⟩) (fun k B h=>d5 dC h)
  (fun k B h=>?_) (fun q B1 h=>L9 dC hl h) hS (m1h hp' (fun k B h=>d5 dC h) hb (i2 dC b').whole)
 rw [T1] at h
 cases e:(I2 0 m).lookup k with
 | none=>rw [e,l0] at h; exact .inl h
 | some C =>
  rw [e,K0] at h
  injection h with h
  subst h
  exact .inr ⟨d5 dC e,by rw [T1,e]; rfl,hdd' b k C e,hdd' b' k C e⟩
theorem K1h (c:Nat)(m:List (List Rat))(i p:Nat)(hi:i<m.length)(hp:p<m.length)(hne:i≠p):I4 E B8 92 [.at_ 999 0 3,.clo (.func 93) [] [.at_ 6 0 1,.at_ 5 0 1]] ([bxI 5 p,bxI 6 i,(999,wB c m.length none)]++I2 0 m) ([bxI 5 p,bxI 6 i,(999,wB c m.length none)]++I2 0 (L5 m i p)) (.p (.tup [])):=by
 refine n4 (xs:=[]) Tryz.func92 rfl Tryz.ntmps92 Tryz.results92 sM fun F G=>?_
 have L:=@lti _ _ G.nt
 have hG:=G.g
 have hX:=G.x
 have hN:=W5 hG
 refine k0w (nsw (c_m L) t1 t0 (nsw (c_m L) t1 t0 (nsw (Z2 rX L) t1 t1 ?_)))
 refine nsw (Z1 un79 rfl sz77 dC rX L) t1 t1 ?_
 refine nsw (Y1 ag77 rF rF L) t1 t1 ?_
 refine nsI hG hX hN [(0,.at_ 999 0 3),(1,.clo (.func 93) .nil [.at_ 6 0 1,.at_ 5 0 1])] ([(5,_),(6,_),(999,_)]++(I2 0 (L5 m i p))) (q0s 0 m i p dC hi hp hne) L (l7 (fst:=[]) (ys:=[_]) (cap:=[_,_]) cl93 rfl rfl) t2 (by exact nc1 (bx:=[bxI 5 p,bxI 6 i]) (r:=[_]) sM G rfl rfl rfl rfl rfl t2) (fun q h=>by cases h) rfl ?_
 refine .nil ⟨[(0,_),(1,_)],(5,_) :: (6,_) :: (999,_) :: I2 0 (L5 m i p),t2,⟨rfl,rfl,rfl,(hbT [_,_,_] (i2 dC (L5 m i p)) rfl)⟩,?_⟩
 refine exr (mV L rfl (sw (Z2 rX L) t1 t1 ?_))
 refine sw (Z1 un79 rfl sz77 dC rX L) t1 t1 ?_
 refine sw (Y1 ag77 rF rF L) t1 t1 ?_
 refine sw (q0a un77 L) t2 t0 ?_
 refine O1 ⟨[(0,_),(1,_),(14,_)],(5,_) :: (6,_) :: (999,_) :: (I2 0 (L5 m i p)),t3,⟨rfl,rfl,rfl,(hbT [_,_,_] (i2 dC (L5 m i p)) rfl)⟩,?_⟩
 refine W3 rfl rfl (U1 ?_)
 refine ⟨.inl rfl,U4.cast .nil ?_,⟨rfl,rfl,rfl,(hbT [_,_,_] (i2 dC (L5 m i p)) rfl)⟩⟩
 rfl
theorem N1h (c:Nat)(m b:List (List Rat))(i p:Nat)(hi:i<m.length)(hp:p<m.length)(hne:i≠p)(hib:i<b.length)(hpb:p<b.length):I4 E B8 92 [.at_ 999 0 3,.clo (.func 93) [] [.at_ 6 0 1,.at_ 5 0 1]] ([bxI 5 p,bxI 6 i,(999,wB c m.length (some b.length))]++(I2 0 m++I2 1 b)) ([bxI 5 p,bxI 6 i,(999,wB c m.length (some b.length))]++(I2 0 (L5 m i p)++I2 1 (L5 b i p))) (.p (.tup [])):=by
 refine n4 (xs:=[]) Tryz.func92 rfl Tryz.ntmps92 Tryz.results92 sM fun F G=>?_
 have L:=@lti _ _ G.nt
 have hG:=G.g
 have hX:=G.x
 have hN:=W5 hG
 refine k0w (nsw (c_m L) t1 t0 (nsw (c_m L) t1 t0 (nsw (Z2 rX L) t1 t1 ?_)))
 refine nsw (Z1 un79 rfl sz77 dC rX L) t1 t1 ?_
 refine nsw (Y1 ag77 rF rF L) t1 t1 ?_
 refine nsI hG hX hN [(0,.at_ 999 0 3),(1,.clo (.func 93) .nil [.at_ 6 0 1,.at_ 5 0 1])] ([(5,_),(6,_),(999,_)]++(I2 0 (L5 m i p)++I2 1 b)) (q0s 0 m i p dC hi hp hne) L (l7 (fst:=[]) (ys:=[_]) (cap:=[_,_]) cl93 rfl rfl) t2 (by exact P1z (bx:=[bxI 5 p,bxI 6 i]) (r:=[_]) sM G rfl rfl rfl rfl rfl t2) (fun q h=>by cases h) rfl ?_
 refine .nil ⟨[(0,_),(1,_)],(5,_) :: (6,_) :: (999,_) :: I2 0 (L5 m i p)++I2 1 b,t2,⟨rfl,rfl,rfl,(hbT [_,_,_] (R7 (L5 m i p) b) rfl)⟩,?_⟩
 refine exr (mV L rfl (sw (Z2 rX L) t1 t1 ?_))
 refine sw (Z1 un79 rfl sz77 dC rX L) t1 t1 ?_
 refine sw (Y1 ag77 rF rF L) t1 t1 ?_
 refine sw (v0f un77 (by first | exact E2 _ _ _ | exact (E2 _ _ _).trans sM) L) t2 ⟨rdT [_,_,_] (R7 (L5 m i p) b) rfl M1w,trivial⟩ ?_
 refine O1 ⟨[(0,_),(1,_),(14,_)],(5,_) :: (6,_) :: (999,_) :: (I2 0 (L5 m i p)++I2 1 b),t3,⟨rfl,rfl,rfl,(hbT [_,_,_] (R7 (L5 m i p) b) rfl)⟩,?_⟩
 refine i6 rfl rfl (D0b (nsw (c_m L) t1 t0 (nsw (c_m L) t1 t0 (nsw (Z2 rX L) t1 t1 ?_))))
 refine nsw (Z1 un79 rfl sz77 dC rX L) t1 t1 ?_
 refine nsw (Y1 ag77 rF rF L) t1 t1 ?_
 refine nsI hG hX hN [] ([(5,_),(6,_),(999,_)]++(I2 0 (L5 m i p)++I2 1 (L5 b i p))) (q0s 1 b i p dC hib hpb hne) L (l7 (fst:=[]) (ys:=[_]) (cap:=[_,_]) cl93 rfl rfl) t2 (by exact P1n (bx:=[bxI 5 p,bxI 6 i]) (r:=[_]) sM G rfl rfl rfl rfl rfl trivial) (fun q h=>by cases h) rfl ?_
 refine .nil ?_
 refine ⟨.inl rfl,U4.cast .nil ?_,⟨rfl,rfl,rfl,(hbT [_,_,_] (R7 (L5 m i p) (L5 b i p)) rfl)⟩⟩
 rfl
theorem N1c (c:Nat)(m:List (List Rat))(p:Nat)(q:Rat)(hp:p<m.length)(hl:(m.getD p []).length<1000000000)(hs:∀ a∈m.getD p [],qw a<1000000000)(hc:qw q<1000000000):I4 E B8 92 [.at_ 999 0 3,.clo (.func 95) [] [.at_ 5 0 1,.at_ 8 0 4]] ([bxI 5 p,bxQ 8 q,(999,wB c m.length none)]++I2 0 m) ([bxI 5 p,bxQ 8 q,(999,wB c m.length none)]++I2 0 (m.set p ((m.getD p []).map (· * q)))) (.p (.tup [])):=by
 refine n4 (xs:=[]) Tryz.func92 rfl Tryz.ntmps92 Tryz.results92 sM fun F G=>?_
 have L:=@lti _ _ G.nt
 have hG:=G.g
 have hX:=G.x
 have hN:=W5 hG
 refine k0w (nsw (c_m L) t1 t0 (nsw (c_m L) t1 t0 (nsw (Z2 rX L) t1 t1 ?_)))
 refine nsw (Z1 un79 rfl sz77 dC rX L) t1 t1 ?_
 refine nsw (Y1 ag77 rF rF L) t1 t1 ?_
 refine nsI hG hX hN [(0,.at_ 999 0 3),(1,.clo (.func 95) .nil [.at_ 5 0 1,.at_ 8 0 4])] ([(5,_),(8,_),(999,_)]++(I2 0 (m.set p ((m.getD p []).map (· * q))))) (v0a 0 m p q dC hp hl hs hc) L (l7 (fst:=[]) (ys:=[_]) (cap:=[_,_]) cl95 rfl rfl) t2 (by exact nc1 (bx:=[bxI 5 p,bxQ 8 q]) (r:=[_]) sM G rfl rfl rfl rfl rfl t2) (fun q h=>by cases h) rfl ?_
 refine .nil ⟨[(0,_),(1,_)],(5,_) :: (8,_) :: (999,_) :: I2 0 (m.set p ((m.getD p []).map (· * q))),t2,⟨rfl,rfl,rfl,(hbT [_,_,_] (i2 dC (m.set p ((m.getD p []).map (· * q)))) rfl)⟩,?_⟩
 refine exr (mV L rfl (sw (Z2 rX L) t1 t1 ?_))
 refine sw (Z1 un79 rfl sz77 dC rX L) t1 t1 ?_
 refine sw (Y1 ag77 rF rF L) t1 t1 ?_
 refine sw (q0a un77 L) t2 t0 ?_
 refine O1 ⟨[(0,_),(1,_),(14,_)],(5,_) :: (8,_) :: (999,_) :: (I2 0 (m.set p ((m.getD p []).map (· * q)))),t3,⟨rfl,rfl,rfl,(hbT [_,_,_] (i2 dC (m.set p ((m.getD p []).map (· * q)))) rfl)⟩,?_⟩
 refine W3 rfl rfl (U1 ?_)
 refine ⟨.inl rfl,U4.cast .nil ?_,⟨rfl,rfl,rfl,(hbT [_,_,_] (i2 dC (m.set p ((m.getD p []).map (· * q)))) rfl)⟩⟩
 rfl
theorem K1s (c:Nat)(m b:List (List Rat))(p:Nat)(q:Rat)(hp:p<m.length)(hl:(m.getD p []).length<1000000000)(hs:∀ a∈m.getD p [],qw a<1000000000)(hc:qw q<1000000000)(hpb:p<b.length)(hlb:(b.getD p []).length<1000000000)(hsb:∀ a∈b.getD p [],qw a<1000000000):I4 E B8 92 [.at_ 999 0 3,.clo (.func 95) [] [.at_ 5 0 1,.at_ 8 0 4]] ([bxI 5 p,bxQ 8 q,(999,wB c m.length (some b.length))]++(I2 0 m++I2 1 b)) ([bxI 5 p,bxQ 8 q,(999,wB c m.length (some b.length))]++(I2 0 (m.set p ((m.getD p []).map (· * q)))++I2 1 (b.set p ((b.getD p []).map (· * q))))) (.p (.tup [])):=by
 refine n4 (xs:=[]) Tryz.func92 rfl Tryz.ntmps92 Tryz.results92 sM fun F G=>?_
 have L:=@lti _ _ G.nt
 have hG:=G.g
 have hX:=G.x
 have hN:=W5 hG
 refine k0w (nsw (c_m L) t1 t0 (nsw (c_m L) t1 t0 (nsw (Z2 rX L) t1 t1 ?_)))
 refine nsw (Z1 un79 rfl sz77 dC rX L) t1 t1 ?_
 refine nsw (Y1 ag77 rF rF L) t1 t1 ?_
 refine nsI hG hX hN [(0,.at_ 999 0 3),(1,.clo (.func 95) .nil [.at_ 5 0 1,.at_ 8 0 4])] ([(5,_),(8,_),(999,_)]++(I2 0 (m.set p ((m.getD p []).map (· * q)))++I2 1 b)) (v0a 0 m p q dC hp hl hs hc) L (l7 (fst:=[]) (ys:=[_]) (cap:=[_,_]) cl95 rfl rfl) t2 (by exact P1z (bx:=[bxI 5 p,bxQ 8 q]) (r:=[_]) sM G rfl rfl rfl rfl rfl t2) (fun q h=>by cases h) rfl ?_
 refine .nil ⟨[(0,_),(1,_)],(5,_) :: (8,_) :: (999,_) :: I2 0 (m.set p ((m.getD p []).map (· * q)))++I2 1 b,t2,⟨rfl,rfl,rfl,(hbT [_,_,_] (R7 (m.set p ((m.getD p []).map (· * q))) b) rfl)⟩,?_⟩
 refine exr (mV L rfl (sw (Z2 rX L) t1 t1 ?_))
 refine sw (Z1 un79 rfl sz77 dC rX L) t1 t1 ?_
 refine sw (Y1 ag77 rF rF L) t1 t1 ?_
 refine sw (v0f un77 (by first | exact E2 _ _ _ | exact (E2 _ _ _).trans sM) L) t2 ⟨rdT [_,_,_] (R7 (m.set p ((m.getD p []).map (· * q))) b) rfl M1w,trivial⟩ ?_
 refine O1 ⟨[(0,_),(1,_),(14,_)],(5,_) :: (8,_) :: (999,_) :: (I2 0 (m.set p ((m.getD p []).map (· * q)))++I2 1 b),t3,⟨rfl,rfl,rfl,(hbT [_,_,_] (R7 (m.set p ((m.getD p []).map (· * q))) b) rfl)⟩,?_⟩
 refine i6 rfl rfl (D0b (nsw (c_m L) t1 t0 (nsw (c_m L) t1 t0 (nsw (Z2 rX L) t1 t1 ?_))))
 refine nsw (Z1 un79 rfl sz77 dC rX L) t1 t1 ?_
 refine nsw (Y1 ag77 rF rF L) t1 t1 ?_
 refine nsI hG hX hN [] ([(5,_),(8,_),(999,_)]++(I2 0 (m.set p ((m.getD p []).map (· * q)))++I2 1 (b.set p ((b.getD p []).map (· * q))))) (v0a 1 b p q dC hpb hlb hsb hc) L (l7 (fst:=[]) (ys:=[_]) (cap:=[_,_]) cl95 rfl rfl) t2 (by exact P1n (bx:=[bxI 5 p,bxQ 8 q]) (r:=[_]) sM G rfl rfl rfl rfl rfl trivial) (fun q h=>by cases h) rfl ?_
 refine .nil ?_
 refine ⟨.inl rfl,U4.cast .nil ?_,⟨rfl,rfl,rfl,(hbT [_,_,_] (R7 (m.set p ((m.getD p []).map (· * q))) (b.set p ((b.getD p []).map (· * q)))) rfl)⟩⟩
 rfl
theorem N1f (c:Nat)(m:List (List Rat))(i p:Nat)(q:Rat)(B C D:Nat)(hi:i<m.length)(hp:p<m.length)(hne:i≠p)(hlen:(m.getD p []).length=(m.getD i []).length)(hl:(m.getD i []).length<1000000000)(hB:∀ a∈m.getD i [],qw a≤B)(hC:∀ a∈m.getD p [],qw a≤C)(hD:qw q≤D)(hb:B+(D+C)+1<1000000000):I4 E stA 92 [.at_ 999 0 3,.clo (.func 98) [] [.at_ 10 0 1,.at_ 5 0 1,.at_ 11 0 4]] ([bxI 5 p,bxI 10 i,bxQ 11 q,(999,wB c m.length none)]++I2 0 m) ([bxI 5 p,bxI 10 i,bxQ 11 q,(999,wB c m.length none)]++I2 0 (Z7 m i p q)) (.p (.tup [])):=by
 refine n4 (xs:=[]) Tryz.func92 rfl Tryz.ntmps92 Tryz.results92 sM fun F G=>?_
 have L:=@lti _ _ G.nt
 have hG:=G.g
 have hX:=G.x
 have hN:=W5 hG
 refine k0w (nsw (c_m L) t1 t0 (nsw (c_m L) t1 t0 (nsw (Z2 rX L) t1 t1 ?_)))
 refine nsw (Z1 un79 rfl sz77 dC rX L) t1 t1 ?_
 refine nsw (Y1 ag77 rF rF L) t1 t1 ?_
 refine nsI hG hX hN [(0,.at_ 999 0 3),(1,.clo (.func 98) .nil [.at_ 10 0 1,.at_ 5 0 1,.at_ 11 0 4])] ([(5,_),(10,_),(11,_),(999,_)]++(I2 0 (Z7 m i p q))) (v0g 0 m i p q B C D dC hi hp hne hlen hl hB hC hD hb) L (l7 (fst:=[]) (ys:=[_]) (cap:=[_,_,_]) cl98 rfl rfl) t2 (by exact W1g (bx:=[bxI 5 p,bxI 10 i,bxQ 11 q]) (r:=[_]) (j0y hlen) rfl rfl rfl t2) (fun q h=>by cases h) rfl ?_
 refine .nil ⟨[(0,_),(1,_)],(5,_) :: (10,_) :: (11,_) :: (999,_) :: I2 0 (Z7 m i p q),t2,⟨rfl,rfl,rfl,rfl,(hbT [_,_,_,_] (i2 dC (Z7 m i p q)) rfl)⟩,?_⟩
 refine exr (mV L rfl (sw (Z2 rX L) t1 t1 ?_))
 refine sw (Z1 un79 rfl sz77 dC rX L) t1 t1 ?_
 refine sw (Y1 ag77 rF rF L) t1 t1 ?_
 refine sw (q0a un77 L) t2 t0 ?_
 refine O1 ⟨[(0,_),(1,_),(14,_)],(5,_) :: (10,_) :: (11,_) :: (999,_) :: (I2 0 (Z7 m i p q)),t3,⟨rfl,rfl,rfl,rfl,(hbT [_,_,_,_] (i2 dC (Z7 m i p q)) rfl)⟩,?_⟩
 refine W3 rfl rfl (U1 ?_)
 refine ⟨.inl rfl,U4.cast .nil ?_,⟨rfl,rfl,rfl,rfl,(hbT [_,_,_,_] (i2 dC (Z7 m i p q)) rfl)⟩⟩
 rfl
theorem K1r (c:Nat)(m b:List (List Rat))(i p:Nat)(q:Rat)(B C D:Nat)(hi:i<m.length)(hp:p<m.length)(hne:i≠p)(hlen:(m.getD p []).length=(m.getD i []).length)(hl:(m.getD i []).length<1000000000)(hB:∀ a∈m.getD i [],qw a≤B)(hC:∀ a∈m.getD p [],qw a≤C)(hD:qw q≤D)(hb:B+(D+C)+1<1000000000)(B' C':Nat)(hib:i<b.length)(hpb:p<b.length)(hlenb:(b.getD p []).length=(b.getD i []).length)(hlb:(b.getD i []).length<1000000000)(hBb:∀ a∈b.getD i [],qw a≤B')(hCb:∀ a∈b.getD p [],qw a≤C')(hbb:B'+(D+C')+1<1000000000):I4 E stA 92 [.at_ 999 0 3,.clo (.func 98) [] [.at_ 10 0 1,.at_ 5 0 1,.at_ 11 0 4]] ([bxI 5 p,bxI 10 i,bxQ 11 q,(999,wB c m.length (some b.length))]++(I2 0 m++I2 1 b)) ([bxI 5 p,bxI 10 i,bxQ 11 q,(999,wB c m.length (some b.length))]++(I2 0 (Z7 m i p q)++I2 1 (Z7 b i p q))) (.p (.tup [])):=by
 refine n4 (xs:=[]) Tryz.func92 rfl Tryz.ntmps92 Tryz.results92 sM fun F G=>?_
 have L:=@lti _ _ G.nt
 have hG:=G.g
 have hX:=G.x
 have hN:=W5 hG
 refine k0w (nsw (c_m L) t1 t0 (nsw (c_m L) t1 t0 (nsw (Z2 rX L) t1 t1 ?_)))
 refine nsw (Z1 un79 rfl sz77 dC rX L) t1 t1 ?_
 refine nsw (Y1 ag77 rF rF L) t1 t1 ?_
 refine nsI hG hX hN [(0,.at_ 999 0 3),(1,.clo (.func 98) .nil [.at_ 10 0 1,.at_ 5 0 1,.at_ 11 0 4])] ([(5,_),(10,_),(11,_),(999,_)]++(I2 0 (Z7 m i p q)++I2 1 b)) (v0g 0 m i p q B C D dC hi hp hne hlen hl hB hC hD hb) L (l7 (fst:=[]) (ys:=[_]) (cap:=[_,_,_]) cl98 rfl rfl) t2 (by exact V1b (bx:=[bxI 5 p,bxI 10 i,bxQ 11 q]) (r:=[_]) (j0y hlen) rfl rfl rfl t2) (fun q h=>by cases h) rfl ?_
 refine .nil ⟨[(0,_),(1,_)],(5,_) :: (10,_) :: (11,_) :: (999,_) :: I2 0 (Z7 m i p q)++I2 1 b,t2,⟨rfl,rfl,rfl,rfl,(hbT [_,_,_,_] (R7 (Z7 m i p q) b) rfl)⟩,?_⟩
 refine exr (mV L rfl (sw (Z2 rX L) t1 t1 ?_))
 refine sw (Z1 un79 rfl sz77 dC rX L) t1 t1 ?_
 refine sw (Y1 ag77 rF rF L) t1 t1 ?_
 refine sw (v0f un77 (by first | exact E2 _ _ _ | exact (E2 _ _ _).trans sM) L) t2 ⟨rdT [_,_,_,_] (R7 (Z7 m i p q) b) rfl M1w,trivial⟩ ?_
 refine O1 ⟨[(0,_),(1,_),(14,_)],(5,_) :: (10,_) :: (11,_) :: (999,_) :: (I2 0 (Z7 m i p q)++I2 1 b),t3,⟨rfl,rfl,rfl,rfl,(hbT [_,_,_,_] (R7 (Z7 m i p q) b) rfl)⟩,?_⟩
 refine i6 rfl rfl (D0b (nsw (c_m L) t1 t0 (nsw (c_m L) t1 t0 (nsw (Z2 rX L) t1 t1 ?_))))
 refine nsw (Z1 un79 rfl sz77 dC rX L) t1 t1 ?_
 refine nsw (Y1 ag77 rF rF L) t1 t1 ?_
 refine nsI hG hX hN [] ([(5,_),(10,_),(11,_),(999,_)]++(I2 0 (Z7 m i p q)++I2 1 (Z7 b i p q))) (v0g 1 b i p q B' C' D dC hib hpb hne hlenb hlb hBb hCb hD hbb) L (l7 (fst:=[]) (ys:=[_]) (cap:=[_,_,_]) cl98 rfl rfl) t2 (by exact V1k (bx:=[bxI 5 p,bxI 10 i,bxQ 11 q]) (r:=[_]) (j0y hlenb) rfl rfl rfl trivial) (fun q h=>by cases h) rfl ?_
 refine .nil ?_
 refine ⟨.inl rfl,U4.cast .nil ?_,⟨rfl,rfl,rfl,rfl,(hbT [_,_,_,_] (R7 (Z7 m i p q) (Z7 b i p q)) rfl)⟩⟩
 rfl
@[reducible] def wV (c n:Nat)(v:PV):Nat×Blk:=(999,⟨79,3,.mix [.ref 1001 0 n n,.p (vZ c),v]⟩)
@[reducible] def bxW:Nat×Blk:=(1,⟨73,1,.mix [.at_ 999 0 3]⟩)
theorem m1z (m:List (List Rat))(cols c i:Nat)(v:PV)(T:List (Nat×Blk))(hT:R5 T)(hsub:∀ k B,(I2 0 m).lookup k=some B→T.lookup k=some B)(hi:i<m.length)(hc:c<(m.getD i []).length)(hq:qw ((m.getD i []).getD c 0)<1000000000):I4 E (fun _=>true) 90 [.p (vZ i),.at_ 1 0 1,.at_ 4 0 1] ([bxW,bxI 4 c,wV cols m.length v]++T) ([bxW,bxI 4 c,wV cols m.length v]++T) (.p (bZ (nzI m c i))):=by
 refine n4 (xs:=[bZ (nzI m c i)]) Tryz.func90 rfl Tryz.ntmps90 Tryz.results90 sM fun F G=>?_
 have L:=@lti _ _ G.nt
 have hG:=G.g
 have hX:=G.x
 have hN:=W5 hG
 refine exr (aV L rfl ?_)
 refine O1 ⟨[(0,_),(1,_),(2,_)],(1,_) :: (4,_) :: (999,_) :: T,t3,⟨rfl,rfl,rfl,(hbT [_,_,_] hT rfl)⟩,?_⟩
 refine exd rF ?_
 refine sw (Y1 ag73 rF rF L) t1 t1 ?_
 refine sw (Z2 rX L) t1 t1 ?_
 refine sw (Z1 un79 rfl sz77 dC rX L) t1 t1 ?_
 refine sw (Y1 ag77 rF rF L) t1 t1 ?_
 refine mV L rfl (sw (Y1 ag3 rF rF L) t1 t1 ?_)
 refine sw (s5 hG hX hN (f1x 0 m i c dC hi hc) rfl L (C4 (ys:=[_,_,_]) cl91 rfl rfl) (i2 dC m).nd (i2 dC m).whole (fun q h=>by cases h)) t3 (P7 (y5 (i2 dC m).nd fun k B h=>rdT [_,_,_] hT rfl (hsub k B h))) ?_
 refine cK hG hX cl65 hN (K6 ((m.getD i []).getD c 0) hq) L t1 (sw (P3 L) t1 t0 (aV L rfl ?_))
 refine O1 ⟨h0g [⟨[1],[1],[5],[]⟩,⟨[5],[999],[6],[]⟩,⟨[6],[999],[7],[]⟩,⟨[7],[999],[8],[]⟩,⟨[0],[],[9],[]⟩,⟨[2],[4],[10],[]⟩,⟨[8,9,10],[1000],[11],[]⟩,⟨[11],[],[12],[]⟩,⟨[12],[],[13],[]⟩,⟨[13],[],[4],[]⟩] (.cons (cf0 rfl) (.cons (cf0 rfl) (.cons (cf0 rfl) (.cons (cf0 rfl) (.cons (cf0 rfl) (.cons (cf0 rfl) (.cons (cfT rfl rfl (fun p hp=>by rw [B0j (d0c (i2 dC m) p hp)]; exact List.mem_singleton.2 rfl) rfl (fun _ h=>by cases h)) (.cons (cf0 rfl) (.cons (cf0 rfl) (.cons (cf0 rfl)  .nil)))))))))) rfl (frS [] [_,_,_] hT rfl rfl) dC,[(4,_)],(1,_) :: (4,_) :: (999,_) :: T,t1,⟨rfl,rfl,rfl,(hbT [_,_,_] hT rfl)⟩,?_⟩
 refine V1 ?_
 refine ⟨.inr rfl,U4.cast (.cons (.tmp rfl) .nil) ?_,⟨rfl,rfl,rfl,(hbT [_,_,_] hT rfl)⟩⟩
 rfl
def stO (k:Nat):Bool:=!(k == 603 || k == 604 || k == 605)
theorem M0d (cols n p c:Nat)(T:List (Nat×Blk))(hT:R5 T):I4 E stO 97 [.at_ 999 0 3,.p (vZ p),.p (vZ c)] ([wV cols n (.p (.a (.slice none 0 0)))]++T) ([(603,⟨73,1,.mix [.at_ 999 0 3]⟩),bxI 604 p,bxI 605 c,wV cols n (.p (.a (.slice none 0 0)))]++T) (.clo (.func 126) [] [.at_ 603 0 1,.at_ 604 0 1,.at_ 605 0 1]):=by
 refine q0h Tryz.func97 rfl Tryz.ntmps97 Tryz.results97 sM fun F G=>?_
 have L:=@lti _ _ G.nt
 have hG:=G.g
 have hX:=G.x
 have hN:=W5 hG
 have P0:=fun k (hk:(Nat.blt k 1000 && (List.lookup k _).isNone)=true)=>G.p0 k (p0T hT hk)
 refine exr (swb (g0a (k:=603) rX rfl (P0 _ rfl) L) t1 t1 (frT [_] hT rfl rfl rfl) ?_)
 refine swb (R3 (k:=604) (n:=1) (.atom rfl) rfl rfl (P0 _ rfl) L) t1 t0 (frT [_,_] hT rfl rfl rfl) (swb (R3 (k:=605) (n:=1) (.atom rfl) rfl rfl (P0 _ rfl) L) t1 t0 (frT [_,_,_] hT rfl rfl rfl) (aV L rfl ?_))
 refine O1 ⟨[(3,_),(4,_),(5,_)],(603,_) :: (604,_) :: (605,_) :: (999,_) :: T,t3,⟨rfl,rfl,rfl,rfl,(hbT [_,_,_,_] hT rfl)⟩,?_⟩
 refine exr (sw (j0d (vs:=[]) (us:=[_,_,_]) rfl rfl L) t3 t0 (aV L rfl ?_))
 refine O1 ⟨[(6,_)],(603,_) :: (604,_) :: (605,_) :: (999,_) :: T,t1,⟨rfl,rfl,rfl,rfl,(hbT [_,_,_,_] hT rfl)⟩,?_⟩
 refine V1 ?_
 refine ⟨.inr rfl,rfl,⟨rfl,rfl,rfl,rfl,hbT [_,_,_,_] hT rfl⟩⟩
theorem N0s (cols n nb p c:Nat)(T:List (Nat×Blk))(hT:R5 T):I4 E stO 97 [.at_ 999 0 3,.p (vZ p),.p (vZ c)] ([wV cols n (.ref 1002 0 nb nb)]++T) ([(603,⟨73,1,.mix [.at_ 999 0 3]⟩),bxI 604 p,bxI 605 c,wV cols n (.ref 1002 0 nb nb)]++T) (.clo (.func 126) [] [.at_ 603 0 1,.at_ 604 0 1,.at_ 605 0 1]):=by
 refine q0h Tryz.func97 rfl Tryz.ntmps97 Tryz.results97 sM fun F G=>?_
 have L:=@lti _ _ G.nt
 have hG:=G.g
 have hX:=G.x
 have hN:=W5 hG
 have P0:=fun k (hk:(Nat.blt k 1000 && (List.lookup k _).isNone)=true)=>G.p0 k (p0T hT hk)
 refine exr (swb (g0a (k:=603) rX rfl (P0 _ rfl) L) t1 t1 (frT [_] hT rfl rfl rfl) ?_)
 refine swb (R3 (k:=604) (n:=1) (.atom rfl) rfl rfl (P0 _ rfl) L) t1 t0 (frT [_,_] hT rfl rfl rfl) (swb (R3 (k:=605) (n:=1) (.atom rfl) rfl rfl (P0 _ rfl) L) t1 t0 (frT [_,_,_] hT rfl rfl rfl) (aV L rfl ?_))
 refine O1 ⟨[(3,_),(4,_),(5,_)],(603,_) :: (604,_) :: (605,_) :: (999,_) :: T,t3,⟨rfl,rfl,rfl,rfl,(hbT [_,_,_,_] hT rfl)⟩,?_⟩
 refine exr (sw (j0d (vs:=[]) (us:=[_,_,_]) rfl rfl L) t3 t0 (aV L rfl ?_))
 refine O1 ⟨[(6,_)],(603,_) :: (604,_) :: (605,_) :: (999,_) :: T,t1,⟨rfl,rfl,rfl,rfl,(hbT [_,_,_,_] hT rfl)⟩,?_⟩
 refine V1 ?_
 refine ⟨.inr rfl,rfl,⟨rfl,rfl,rfl,rfl,hbT [_,_,_,_] hT rfl⟩⟩
end Go.Proofs.YtjagfionflbjbaaGreat.N
namespace Go.Proofs.YtjagfionflbjbaaGreat.SH
open Go Go.RowKit
theorem V1f {P:Program}{F:Fr}{ops:Array Oper}{d:Nat}{fo o1 o2:Operand}{ts:Array TypeId}{T:TypeId}{pos:String}{aft:Array Edge}{j g:Nat}{want b:Bool}{l n k:Nat}{encs:Nat→J2×J2}{H:Nat→List (Nat×Blk)}(hY:Yields P F l n encs H)(hk:k<n)(hj:((ops[j]?).bind (·.dst))=some g)(hb:b=want)(hlt:d<F.nt) :
  k1r P F ops ⟨some d,.call ⟨.value fo,#[o1,o2],ts⟩,T,pos,aft,some (j,want)⟩ ⟨[(.tmp g,.p (.a (.bool b))),(fo,.clo (.yield l) [] []),(o1,.p (encs k).1),(o2,.p (encs k).2)],H k,none,[(d,.p (.a (.bool true)))],H (k+1)⟩:=by
 intro S a w hS hh Q K hK
 have hr:=hh.rs (.tmp g,.p (.a (.bool b))) (by simp)
 obtain ⟨ρ,hS'⟩:=hS
 obtain ⟨u,hu,hru⟩:=hS'.slots g _ hr
 have:u = .bool b:=by simpa [K2,Rel] using hru
 subst this
 have hw:Region.wanted ⟨some d,.call ⟨.value fo,#[o1,o2],ts⟩,T,pos,aft,some (j,want)⟩ (yielded ops a.tmps)=true:=by simp [Region.wanted,yielded,hj,hu,hb]
 rw [if_pos hw]
 exact .inr fun m=>hY k hk d fo o1 o2 ts T pos aft (some (j,want)) hlt S a w ⟨ρ,hS'⟩ ⟨fun q hq=>hh.rs q (List.mem_cons_of_mem _ hq),hh.rb,fun _ h=>by cases h⟩ Q K (fun a' w' hs=>hK a' w' hs) m
theorem W1a {P:Program}{F:Fr}{ops:Array Oper}{d:Nat}{fo o1 o2:Operand}{ts:Array TypeId}{T:TypeId}{pos:String}{aft:Array Edge}{j g:Nat}{want b:Bool}{l n k:Nat}{encs:Nat→J2×J2}{H:Nat→List (Nat×Blk)}{os:List Oper}{sl:List (Nat×PV)}{hb:List (Nat×Blk)}{K:List Ann→St→Prop}(hY:Yields P F l n encs H)(hk:k<n)(hj:((ops[j]?).bind (·.dst))=some g)(hbw:b=want)(hlt:d<F.nt)
  (hgs:St.opd ⟨sl,hb⟩ (.tmp g)=some (.p (.a (.bool b)))) (h1:v8 ⟨sl,hb⟩ [(fo,.clo (.yield l) [] []),(o1,.p (encs k).1),(o2,.p (encs k).2)]) (h2:J6 ⟨sl,hb⟩ (H k))
  (hn:y7 P F ops ⟨(d,.p (.a (.bool true))) :: sl,H (k+1)++hb⟩ os fun As S'=>K (⟨[(.tmp g,.p (.a (.bool b))),(fo,.clo (.yield l) [] []),(o1,.p (encs k).1),(o2,.p (encs k).2)],H k,none,[(d,.p (.a (.bool true)))],H (k+1)⟩ :: As) S') :
  y7 P F ops ⟨sl,hb⟩ (⟨some d,.call ⟨.value fo,#[o1,o2],ts⟩,T,pos,aft,some (j,want)⟩ :: os) K :=
 let ⟨As,S',h,hK⟩:=hn
 ⟨_,S',.cons (V1f hY hk hj hbw hlt) (H7 ⟨hgs,h1⟩ h2 trivial) h,hK⟩
theorem W1k {S:St}{As:List Ann}(h:i7 As=[]):∀ k∈i7 As,S.free k=true:=fun k hk=>by rw [h] at hk; cases hk
theorem D0n:∀ {As done:List Ann},i7 As=[]→(∀ A∈done,A.fresh=none)→F0d As done=true
 | [],_,_,_=>rfl
 | B :: As,done,h,hd=>by
  simp only [i7,List.append_eq_nil_iff,Option.toList_eq_nil_iff] at h
  simp only [F0d,j0,s0]
  refine ⟨fun A hA=>by simp [p0y,hd A hA,h.1],D0n h.2 fun A hA=>?_⟩
  rcases List.mem_append.1 hA with hA | hA
  ·exact hd A hA
  ·obtain rfl:=List.mem_singleton.1 hA; exact h.1
theorem p1x (cf:Nat→Nat){os:List Oper}{As:List Ann}{S:St}(sks:List Sk)(h1:R9 cf As sks)(hn:i7 As=[])(h2:b8 os sks [] []=true):(W7 os As [] [] && b6 S As)=true:=J1q cf sks h1 (D0n hn fun _ h=>by cases h) (W1k hn) h2
def cfI (ns:List Nat)(k:Nat):Nat:=if ns.contains k then k else 1000
structure h0z (ns:List Nat) (U:List (Nat×Blk)):Prop where
 no:∀ q,ns.contains q=true→U.lookup q=none
 nd:(U.map (·.1)).Nodup
theorem h0z.ne {ns:List Nat}{U:List (Nat×Blk)}(h:h0z ns U):∀ p∈U,cfI ns p.1=1000:=fun p hp=>by
 unfold cfI
 by_cases e:ns.contains p.1=true
 ·have:=h.no p.1 e
  rw [V5 h.nd hp] at this; cases this
 ·rw [if_neg e]
theorem v0p {ns:List Nat}{pre U:List (Nat×Blk)}(h:h0z ns U)(hp:(pre.all fun p=>ns.contains p.1)=true){k:Nat}{B:Blk}(hk:U.lookup k=some B):pre.lookup k=none:=by
 cases e:pre.lookup k with
 | none=>rfl
 | some C =>
  rw [s0] at hp
  have:=h.no k (hp _ (O3 e))
  rw [hk] at this; cases this
theorem B0s {ns:List Nat}{sl:List (Nat×PV)}{U:List (Nat×Blk)}(pre:List (Nat×Blk))(h:h0z ns U)(hp:(pre.all fun p=>ns.contains p.1)=true):T5 ⟨sl,pre++U⟩ U:=y5 h.nd fun k B hk=>by
 show (pre++U).lookup k=some B
 rw [T1,v0p h hp hk,l0,hk]
theorem V1a {ns:List Nat}{sl:List (Nat×PV)}{U r:List (Nat×Blk)}(pre:List (Nat×Blk))(h:h0z ns U)(hp:(pre.all fun p=>ns.contains p.1)=true):T5 ⟨sl,(pre++U)++r⟩ U:=y5 h.nd fun k B hk=>by
 show ((pre++U)++r).lookup k=some B
 rw [T1,T1,v0p h hp hk,l0,hk]; rfl
theorem H1c {ns:List Nat}{sl:List (Nat×PV)}{U:List (Nat×Blk)}{k:Nat}{B:Blk}(pre:List (Nat×Blk))(h:h0z ns U)(hp:(pre.all fun p=>ns.contains p.1)=true)(hk:U.lookup k=some B):St.blk ⟨sl,pre++U⟩ k=some B:=by
 show (pre++U).lookup k=some B
 rw [T1,v0p h hp hk,l0,hk]
theorem h1k {ns:List Nat}{l r:List (Nat×Blk)}{ks:List Nat}(h1:(l.all fun p=>ks.contains (cfI ns p.1))=true)(h2:h0z ns r)(h3:ks.contains 1000=true):∀ p∈l++r,cfI ns p.1∈ks:=by
 intro p hp
 rcases List.mem_append.1 hp with hp | hp
 ·rw [s0] at h1; simpa using h1 p hp
 ·rw [h2.ne p hp]; simpa using h3
theorem K0y {ns:List Nat}{l U:List (Nat×Blk)}(h2:h0z ns U)(hl:∀ k B,l.lookup k=some B→U.lookup k=some B)(hnd:(l.map (·.1)).Nodup):∀ p∈l,cfI ns p.1∈[1000]:=by
 intro p hp
 have h1:=hl p.1 p.2 (V5 hnd hp)
 rw [h2.ne (p.1,p.2) (O3 h1)]; exact List.mem_singleton.2 rfl
end Go.Proofs.YtjagfionflbjbaaGreat.SH
set_option maxRecDepth 100000
set_option maxHeartbeats 4000000
namespace Go.Proofs.YtjagfionflbjbaaGreat.N
open Go Go.Proofs.YtjagfionflbjbaaGreat.SH Go.Proofs.YtjagfionflbjbaaGreat.NumA
open Go.Proofs.Tryz renaming call65→cl65,call91→cl91,isAgg3→ag3,isAgg73→ag73,isAgg77→ag77,sizeOf77→sz77,underlying77→un77,underlying79→un79
@[reducible] def p1n:List Nat:=[603,604,605,999]
theorem f0k {m:List (List Rat)}{p c i:Nat}:J9 m p c (i+1)=J9 m p c i+(if h0f m p c i=true then 1 else 0):=by
 rw [J9,List.range_succ,List.filter_append,K1]
 congr 1
 by_cases h:h0f m p c i=true
 ·rw [if_pos h,List.filter_cons_of_pos h]; rfl
 ·rw [if_neg h,List.filter_cons_of_neg h]; rfl
theorem h1d {m:List (List Rat)}{p c:Nat}:∀ {i j:Nat},i≤j→J9 m p c i≤J9 m p c j
 | i,j,h=>by
  induction j with
  | zero =>
   obtain rfl:i=0:=by omega
   exact Nat.le_refl _
  | succ j ih =>
   by_cases e:i=j+1
   ·rw [e]; exact Nat.le_refl _
   ·rw [f0k]; have:=ih (by omega); omega
theorem lkY {ns:List Nat}{sl:List (Nat×PV)}{w:Nat×Blk}{U' r:List (Nat×Blk)}{k:Nat}{B:Blk}(h:h0z ns U')(hw:(k == w.1)=false)(hk:ns.contains k=true)(hr:r.lookup k=some B):St.blk ⟨sl,([w]++U')++r⟩ k=some B:=by
 show List.lookup k _=some B
 rw [T1,T1,h.no k hk,Option.or_none,i0,hw]
 exact hr
theorem atM {M m:List (List Rat)}{n i c:Nat}(hl:M.length=n)(hr:M.getD i []=m.getD i [])(hi:i<n)(hc:c<(m.getD i []).length):I4 E (fun _=>true) 91 [.ref 1001 0 n n,.p (vZ i),.p (vZ c)] (I2 0 M) (I2 0 M) (.p (pQ ((m.getD i []).getD c 0))):=by
 subst hl
 rw [← hr] at hc ⊢
 exact f1x 0 M i c dC hi hc
theorem P0x (cols p c n l:Nat)(m:List (List Rat))(v:PV)(M:Nat→List (List Rat))(U:Nat→List (Nat×Blk))(encs:Nat→J2×J2)(hU:∀ k,k≤n→h0z p1n (U k))(hsub:∀ k,k≤n→∀ q B,(I2 0 (M k)).lookup q=some B→(U k).lookup q=some B)(hlen:∀ k,k≤n→(M k).length=m.length)(hrow:∀ i,i<m.length→(M (J9 m p c i)).getD i []=m.getD i [])(hcl:∀ i,i<m.length→c<(m.getD i []).length)(hq:∀ i,i<m.length→qw ((m.getD i []).getD c 0)<1000000000)(hn:n=J9 m p c m.length)(henc:∀ i,i<m.length→h0f m p c i=true→encs (J9 m p c i)=(vZ i,pQ ((m.getD i []).getD c 0)))(hml:m.length<1000000000):∀ (F:Fr) (code:Code),Tryz.f126.body=some code→XFr E ([(603,⟨73,1,.mix [.at_ 999 0 3]⟩),bxI 604 p,bxI 605 c]++([wV cols m.length v]++U 0)) 42 F→Go.Proofs.YtjagfionflbjbaaGreat.SH.Yields E.P F l n encs (fun k=>[wV cols m.length v]++U k)→l4 E.P F code ⟨[(0,.clo (.yield l) [] []),(1,.at_ 603 0 1),(2,.at_ 604 0 1),(3,.at_ 605 0 1)],[(603,⟨73,1,.mix [.at_ 999 0 3]⟩),bxI 604 p,bxI 605 c,wV cols m.length v]++U 0⟩ (fun e S'=>(e = .normal∨e = .ret)∧T5 S' ([(603,⟨73,1,.mix [.at_ 999 0 3]⟩),bxI 604 p,bxI 605 c]++([wV cols m.length v]++U n))):=by
 intro F code hcode XF hY
 injection (show some _=some code from hcode) with hcode
 subst hcode
 have hG:=XF.g
 have hX:=XF.x
 have hN:=XF.ng
 have L:=@lti _ _ XF.nt
 have hs0:(U 0).lookup 1001=some (hdB 0 (M 0)):=hsub 0 (Nat.zero_le _) _ _ hdL
 have hl0:=hlen 0 (Nat.zero_le _)
 have cle:∀ i,i≤m.length→J9 m p c i≤n:=fun i hi=>by rw [hn]; exact h1d hi
 refine exr (sw (Y1 ag73 rF rF L) t1 t1 ?_)
 refine sw (Z2 rX L) t1 t1 ?_
 refine sw (Z1 un79 rfl sz77 dC rX L) t1 t1 ?_
 refine sw (Y1 ag77 rF rF L) t1 t1 ?_
 refine sw (p0d un77 (by first | exact E2 _ _ _ | exact (E2 _ _ _).trans sM | exact (E2 _ _ _).trans (by assumption)) L) t1 ⟨H1c [_,_,_,_] (hU 0 (Nat.zero_le _)) rfl (hs0),trivial⟩ ?_
 refine mV L rfl ?_
 refine O1 ⟨[(0,_),(1,_),(2,_),(3,_),(10,_),(11,_)],(603,_) :: (604,_) :: (605,_) :: (999,_) :: ((U 0)),t6,⟨rfl,rfl,rfl,rfl,(B0s [_,_,_,_] (hU 0 (Nat.zero_le _)) rfl)⟩,?_⟩
 refine X1 ?_
 refine F0r (α:=Nat) (fun i=>[(11,vi (i:Int))]) (fun i=>[]) (fun i=>(U (J9 m p c i))) (fun i=>i≤m.length) (fun i=>m.length - i) (0) (sl:=[(0,_),(1,_),(2,_),(3,_),(10,_)]) (hb:=[(603,_),(604,_),(605,_),(999,_)]) ?_ ⟨oR,rfl,rfl,rfl,rfl,rfl,trivial⟩ ⟨rfl,rfl,rfl,rfl,(B0s [_,_,_,_] (hU 0 (Nat.zero_le _)) rfl)⟩ ?_
 ·exact Nat.zero_le _
 intro i hi
 refine exr (sw (d4 L) t2 t0 ?_)
 refine O1 ⟨[(0,_),(1,_),(2,_),(3,_),(10,_),(11,_),(12,_)],(603,_) :: (604,_) :: (605,_) :: (999,_) :: ((U (J9 m p c i))),t7,⟨rfl,rfl,rfl,rfl,(B0s [_,_,_,_] (hU _ (cle i hi)) rfl)⟩,?_⟩
 refine R1 ?_
 refine D2 rfl (fun hc=>?_) (fun hc=>?_)
 ·have hc:=dt hc
  have hil:i<m.length:=by omega
  refine U1 (xq ?_)
  refine R1 (X1 (exr (mV L rfl (aV L rfl ?_))))
  refine O1 ⟨[(0,_),(1,_),(2,_),(3,_),(5,_),(10,_),(11,_)],(603,_) :: (604,_) :: (605,_) :: (999,_) :: ((U (J9 m p c i))),t7,⟨rfl,rfl,rfl,rfl,(B0s [_,_,_,_] (hU _ (cle i hi)) rfl)⟩,?_⟩
  have atI:=atM (c:=c) (hlen _ (cle i hi)) (hrow i hil) hil (hcl i hil)
  have zI:=K6 ((m.getD i []).getD c 0) (hq i hil)
  by_cases hip:i=p
  ·have ho:h0f m p c i=false:=by rw [h0f,decide_eq_false (by simpa using hip)]; rfl
   refine exd rF ?_
   refine mV L rfl (sw (Y1 ag3 rF rF L) t1 t1 ?_)
   refine sw (c_n L) t2 t0 (mV L rfl (swn (g:=17) rfl sO L rfl (swn (g:=17) rfl sO L rfl (swn (g:=17) rfl sO L rfl (swn (g:=17) rfl sO L rfl (swn (g:=17) rfl sO L rfl (swn (g:=17) rfl sO L rfl (swn (g:=17) rfl sO L rfl (swn (g:=17) rfl sO L rfl (swn (g:=17) rfl sO L rfl (sw (V3 sO L) t2 t0 ?_)))))))))))
   refine mV L rfl (swn (g:=28) rfl rfl L rfl (swn (g:=28) rfl rfl L rfl (swn (g:=28) rfl rfl L rfl (swn (g:=28) rfl rfl L rfl (swn (g:=28) rfl rfl L rfl (swn (g:=28) rfl rfl L rfl (swn (g:=28) rfl rfl L rfl (swn (g:=28) rfl rfl L rfl (swn (g:=28) rfl rfl L rfl (swn (g:=28) rfl rfl L rfl (swn (g:=28) rfl rfl L rfl ?_)))))))))))
   refine sw (V3 rfl L) t2 t0 ?_
   refine O1 ⟨p1x (cfI p1n) [⟨[5],[],[14],[]⟩,⟨[2],[604],[15],[]⟩,⟨[14,15],[],[16],[]⟩,⟨[16],[],[17],[]⟩,⟨[17],[],[18],[]⟩,⟨[17],[],[19],[]⟩,⟨[17],[],[20],[]⟩,⟨[17],[],[21],[]⟩,⟨[17],[],[22],[]⟩,⟨[17],[],[23],[]⟩,⟨[17],[],[24],[]⟩,⟨[17],[],[25],[]⟩,⟨[17],[],[26],[]⟩,⟨[17],[],[27],[]⟩,⟨[27],[],[28],[]⟩,⟨[28],[],[29],[]⟩,⟨[28],[],[30],[]⟩,⟨[28],[],[31],[]⟩,⟨[28],[],[32],[]⟩,⟨[28],[],[33],[]⟩,⟨[28],[],[34],[]⟩,⟨[28],[],[35],[]⟩,⟨[28],[],[36],[]⟩,⟨[28],[],[37],[]⟩,⟨[28],[],[38],[]⟩,⟨[28],[],[39],[]⟩,⟨[28],[],[40],[]⟩] (.cons (cf0 rfl) (.cons (cf0 rfl) (.cons (cf0 rfl) (.cons (cf0 rfl) (.cons (cf0 rfl) (.cons (cf0 rfl) (.cons (cf0 rfl) (.cons (cf0 rfl) (.cons (cf0 rfl) (.cons (cf0 rfl) (.cons (cf0 rfl) (.cons (cf0 rfl) (.cons (cf0 rfl) (.cons (cf0 rfl) (.cons (cf0 rfl) (.cons (cf0 rfl) (.cons (cf0 rfl) (.cons (cf0 rfl) (.cons (cf0 rfl) (.cons (cf0 rfl) (.cons (cf0 rfl) (.cons (cf0 rfl) (.cons (cf0 rfl) (.cons (cf0 rfl) (.cons (cf0 rfl) (.cons (cf0 rfl) (.cons (cf0 rfl)  .nil))))))))))))))))))))))))))) rfl dC,[(0,_),(1,_),(2,_),(3,_),(10,_),(11,_),(40,_)],(603,_) :: (604,_) :: (605,_) :: (999,_) :: ((U (J9 m p c i))),t7,⟨rfl,rfl,rfl,rfl,(B0s [_,_,_,_] (hU _ (cle i hi)) rfl)⟩,?_⟩
   refine W3 rfl rfl ?_
   refine U1 (xq ?_)
   refine y3 (sw (K3 L (w64 oM oM)) t2 t0 (mV L rfl (O1 ?_)))
   exact ⟨i+1,oM,by omega,E3 ⟨oR,rfl,rfl,rfl,rfl,rfl,trivial⟩ ⟨rfl,rfl,rfl,rfl,(by rw [f0k,ho,if_neg Bool.false_ne_true,Nat.add_zero]; exact B0s [_,_,_,_] (hU _ (cle i hi)) rfl)⟩⟩
  ·by_cases hz:(m.getD i []).getD c 0=0
   ·have ho:h0f m p c i=false:=by rw [h0f,nzI,decide_eq_true hz]; simp
    refine exd rF ?_
    refine mV L rfl (sw (Y1 ag3 rF rF L) t1 t1 ?_)
    refine sw (c_n L) t2 t0 (mV L rfl (swg (g:=17) rfl sO (Y1 ag73 rF rF L) rfl t1 t1 ?_))
    refine swg (g:=17) rfl sO (Z2 rX L) rfl t1 t1 ?_
    refine swg (g:=17) rfl sO (Z1 un79 rfl sz77 dC rX L) rfl t1 t1 ?_
    refine swg (g:=17) rfl sO (Y1 ag77 rF rF L) rfl t1 t1 ?_
    refine gV (g:=17) rfl sO L rfl rfl (swg (g:=17) rfl sO (Y1 ag3 rF rF L) rfl t1 t1 ?_)
    refine swg (g:=17) rfl sO (s5 hG hX hN atI rfl L (C4 (ys:=[_,_,_]) cl91 rfl rfl) (i2 dC _).nd (i2 dC _).whole (fun q h=>by cases h)) rfl t3 (P7 (y5 (i2 dC _).nd fun k B h=>H1c [_,_,_,_] (hU _ (cle i hi)) rfl (hsub _ (cle i hi) k B h))) ?_
    refine swg (g:=17) rfl sO (c_c hG hX cl65 rfl hN zI L) rfl t1 t0 (swg (g:=17) rfl sO (P3 L) rfl t1 t0 (sw (m4 sO L) t2 t0 (mV L rfl (swn (g:=28) rfl (by rw [decide_eq_true hz]) L rfl ?_))))
    refine swn (g:=28) rfl (by rw [decide_eq_true hz]) L rfl ?_
    refine swn (g:=28) rfl (by rw [decide_eq_true hz]) L rfl ?_
    refine swn (g:=28) rfl (by rw [decide_eq_true hz]) L rfl ?_
    refine swn (g:=28) rfl (by rw [decide_eq_true hz]) L rfl ?_
    refine swn (g:=28) rfl (by rw [decide_eq_true hz]) L rfl ?_
    refine swn (g:=28) rfl (by rw [decide_eq_true hz]) L rfl ?_
    refine swn (g:=28) rfl (by rw [decide_eq_true hz]) L rfl ?_
    refine swn (g:=28) rfl (by rw [decide_eq_true hz]) L rfl ?_
    refine swn (g:=28) rfl (by rw [decide_eq_true hz]) L rfl ?_
    refine swn (g:=28) rfl (by rw [decide_eq_true hz]) L rfl ?_
    refine sw (V3 (by rw [decide_eq_true hz]; rfl) L) t2 t0 ?_
    refine O1 ⟨p1x (cfI p1n) [⟨[5],[],[14],[]⟩,⟨[2],[604],[15],[]⟩,⟨[14,15],[],[16],[]⟩,⟨[16],[],[17],[]⟩,⟨[17,1],[603],[18],[]⟩,⟨[17,18],[999],[19],[]⟩,⟨[17,19],[999],[20],[]⟩,⟨[17,20],[999],[21],[]⟩,⟨[17,5],[],[22],[]⟩,⟨[17,3],[605],[23],[]⟩,⟨[17,21,22,23],[1000],[24],[]⟩,⟨[17,24],[],[25],[]⟩,⟨[17,25],[],[26],[]⟩,⟨[17,26],[],[27],[]⟩,⟨[27],[],[28],[]⟩,⟨[28],[],[29],[]⟩,⟨[28],[],[30],[]⟩,⟨[28],[],[31],[]⟩,⟨[28],[],[32],[]⟩,⟨[28],[],[33],[]⟩,⟨[28],[],[34],[]⟩,⟨[28],[],[35],[]⟩,⟨[28],[],[36],[]⟩,⟨[28],[],[37],[]⟩,⟨[28],[],[38],[]⟩,⟨[28],[],[39],[]⟩,⟨[28],[],[40],[]⟩] (.cons (cf0 rfl) (.cons (cf0 rfl) (.cons (cf0 rfl) (.cons (cf0 rfl) (.cons (cf0 rfl) (.cons (cf0 rfl) (.cons (cf0 rfl) (.cons (cf0 rfl) (.cons (cf0 rfl) (.cons (cf0 rfl) (.cons (cfT rfl rfl (K0y (hU _ (cle i hi)) (hsub _ (cle i hi)) (i2 dC _).nd) rfl (fun _ h=>by cases h)) (.cons (cf0 rfl) (.cons (cf0 rfl) (.cons (cf0 rfl) (.cons (cf0 rfl) (.cons (cf0 rfl) (.cons (cf0 rfl) (.cons (cf0 rfl) (.cons (cf0 rfl) (.cons (cf0 rfl) (.cons (cf0 rfl) (.cons (cf0 rfl) (.cons (cf0 rfl) (.cons (cf0 rfl) (.cons (cf0 rfl) (.cons (cf0 rfl) (.cons (cf0 rfl)  .nil))))))))))))))))))))))))))) rfl dC,[(0,_),(1,_),(2,_),(3,_),(10,_),(11,_),(40,_)],(603,_) :: (604,_) :: (605,_) :: (999,_) :: ((U (J9 m p c i))),t7,⟨rfl,rfl,rfl,rfl,(B0s [_,_,_,_] (hU _ (cle i hi)) rfl)⟩,?_⟩
    refine W3 rfl rfl ?_
    refine U1 (xq ?_)
    refine y3 (sw (K3 L (w64 oM oM)) t2 t0 (mV L rfl (O1 ?_)))
    exact ⟨i+1,oM,by omega,E3 ⟨oR,rfl,rfl,rfl,rfl,rfl,trivial⟩ ⟨rfl,rfl,rfl,rfl,(by rw [f0k,ho,if_neg Bool.false_ne_true,Nat.add_zero]; exact B0s [_,_,_,_] (hU _ (cle i hi)) rfl)⟩⟩
   ·have ho:h0f m p c i=true:=by rw [h0f,nzI,decide_eq_false hz,decide_eq_true hip]; rfl
    have hk1:J9 m p c i+1≤n:=by
     have:=cle (i+1) hil
     rw [f0k,if_pos ho] at this; exact this
    refine exd rF ?_
    refine mV L rfl (sw (Y1 ag3 rF rF L) t1 t1 ?_)
    refine sw (c_n L) t2 t0 (mV L rfl (swg (g:=17) rfl sO (Y1 ag73 rF rF L) rfl t1 t1 ?_))
    refine swg (g:=17) rfl sO (Z2 rX L) rfl t1 t1 ?_
    refine swg (g:=17) rfl sO (Z1 un79 rfl sz77 dC rX L) rfl t1 t1 ?_
    refine swg (g:=17) rfl sO (Y1 ag77 rF rF L) rfl t1 t1 ?_
    refine gV (g:=17) rfl sO L rfl rfl (swg (g:=17) rfl sO (Y1 ag3 rF rF L) rfl t1 t1 ?_)
    refine swg (g:=17) rfl sO (s5 hG hX hN atI rfl L (C4 (ys:=[_,_,_]) cl91 rfl rfl) (i2 dC _).nd (i2 dC _).whole (fun q h=>by cases h)) rfl t3 (P7 (y5 (i2 dC _).nd fun k B h=>H1c [_,_,_,_] (hU _ (cle i hi)) rfl (hsub _ (cle i hi) k B h))) ?_
    refine swg (g:=17) rfl sO (c_c hG hX cl65 rfl hN zI L) rfl t1 t0 (swg (g:=17) rfl sO (P3 L) rfl t1 t0 (sw (m4 sO L) t2 t0 (mV L rfl (gV (g:=28) rfl (by rw [decide_eq_false hz] <;> rfl) L rfl rfl ?_))))
    refine gV (g:=28) rfl (by rw [decide_eq_false hz] <;> rfl) L rfl rfl ?_
    refine swg (g:=28) rfl (by rw [decide_eq_false hz] <;> rfl) (Y1 ag73 rF rF L) rfl t1 t1 ?_
    refine swg (g:=28) rfl (by rw [decide_eq_false hz] <;> rfl) (Z2 rX L) rfl t1 t1 ?_
    refine swg (g:=28) rfl (by rw [decide_eq_false hz] <;> rfl) (Z1 un79 rfl sz77 dC rX L) rfl t1 t1 ?_
    refine swg (g:=28) rfl (by rw [decide_eq_false hz] <;> rfl) (Y1 ag77 rF rF L) rfl t1 t1 ?_
    refine gV (g:=28) rfl (by rw [decide_eq_false hz] <;> rfl) L rfl rfl ?_
    refine swg (g:=28) rfl (by rw [decide_eq_false hz] <;> rfl) (Y1 ag3 rF rF L) rfl t1 t1 ?_
    refine swg (g:=28) rfl (by rw [decide_eq_false hz] <;> rfl) (s5 hG hX hN atI rfl L (C4 (ys:=[_,_,_]) cl91 rfl rfl) (i2 dC _).nd (i2 dC _).whole (fun q h=>by cases h)) rfl t3 (P7 (y5 (i2 dC _).nd fun k B h=>H1c [_,_,_,_] (hU _ (cle i hi)) rfl (hsub _ (cle i hi) k B h))) ?_
    refine W1a (k:=J9 m p c i) hY hk1 rfl (by rw [decide_eq_false hz] <;> rfl) L rfl ⟨rfl,(by rw [henc i hil ho]; rfl),(by rw [henc i hil ho]; rfl),trivial⟩ ⟨rfl,P7 (B0s [_,_,_,_] (hU _ (cle i hi)) rfl)⟩ ?_
    refine swg (g:=28) rfl (by rw [decide_eq_false hz] <;> rfl) (P3 L) rfl t1 t0 ?_
    refine sw (m4 (by rw [decide_eq_false hz]; rfl) L) t2 t0 ?_
    refine O1 ⟨p1x (cfI p1n) [⟨[5],[],[14],[]⟩,⟨[2],[604],[15],[]⟩,⟨[14,15],[],[16],[]⟩,⟨[16],[],[17],[]⟩,⟨[17,1],[603],[18],[]⟩,⟨[17,18],[999],[19],[]⟩,⟨[17,19],[999],[20],[]⟩,⟨[17,20],[999],[21],[]⟩,⟨[17,5],[],[22],[]⟩,⟨[17,3],[605],[23],[]⟩,⟨[17,21,22,23],[1000],[24],[]⟩,⟨[17,24],[],[25],[]⟩,⟨[17,25],[],[26],[]⟩,⟨[17,26],[],[27],[]⟩,⟨[27],[],[28],[]⟩,⟨[28,0],[],[29],[]⟩,⟨[28,5],[],[30],[]⟩,⟨[28,1],[603],[31],[]⟩,⟨[28,31],[999],[32],[]⟩,⟨[28,32],[999],[33],[]⟩,⟨[28,33],[999],[34],[]⟩,⟨[28,5],[],[35],[]⟩,⟨[28,3],[605],[36],[]⟩,⟨[28,34,35,36],[1000],[37],[]⟩,⟨[28,29,30,37],[999,1000],[38],[999,1000]⟩,⟨[28,38],[],[39],[]⟩,⟨[28,39],[],[40],[]⟩] (.cons (cf0 rfl) (.cons (cf0 rfl) (.cons (cf0 rfl) (.cons (cf0 rfl) (.cons (cf0 rfl) (.cons (cf0 rfl) (.cons (cf0 rfl) (.cons (cf0 rfl) (.cons (cf0 rfl) (.cons (cf0 rfl) (.cons (cfT rfl rfl (K0y (hU _ (cle i hi)) (hsub _ (cle i hi)) (i2 dC _).nd) rfl (fun _ h=>by cases h)) (.cons (cf0 rfl) (.cons (cf0 rfl) (.cons (cf0 rfl) (.cons (cf0 rfl) (.cons (cf0 rfl) (.cons (cf0 rfl) (.cons (cf0 rfl) (.cons (cf0 rfl) (.cons (cf0 rfl) (.cons (cf0 rfl) (.cons (cf0 rfl) (.cons (cf0 rfl) (.cons (cfT rfl rfl (K0y (hU _ (cle i hi)) (hsub _ (cle i hi)) (i2 dC _).nd) rfl (fun _ h=>by cases h)) (.cons (cfT rfl rfl (h1k rF (hU _ (cle i hi)) rfl) rfl (h1k rF (hU _ hk1) rfl)) (.cons (cf0 rfl) (.cons (cf0 rfl)  .nil))))))))))))))))))))))))))) rfl dC,[(0,_),(1,_),(2,_),(3,_),(10,_),(11,_),(40,_)],(603,_) :: (604,_) :: (605,_) :: (999,_) :: ((U (J9 m p c i+1))),t7,⟨(lkY (hU _ hk1) rfl rfl rfl),(lkY (hU _ hk1) rfl rfl rfl),(lkY (hU _ hk1) rfl rfl rfl),rfl,(V1a [_] (hU _ hk1) rfl)⟩,?_⟩
    refine W3 rfl rfl ?_
    refine U1 (xq ?_)
    refine y3 (sw (K3 L (w64 oM oM)) t2 t0 (mV L rfl (O1 ?_)))
    exact ⟨i+1,oM,by omega,E3 ⟨oR,rfl,rfl,rfl,rfl,rfl,trivial⟩ ⟨rfl,rfl,rfl,rfl,(by rw [f0k,if_pos ho]; exact B0s [_,_,_,_] (hU _ hk1) rfl)⟩⟩
 ·have hc:=df hc
  have e:i=m.length:=by omega
  subst e
  refine L2 ?_
  refine ⟨.inl rfl,rfl,rfl,rfl,rfl,(by rw [hn]; exact B0s [_,_,_,_] (hU _ (cle _ (Nat.le_refl _))) rfl)⟩
end Go.Proofs.YtjagfionflbjbaaGreat.N
namespace Go.Proofs.YtjagfionflbjbaaGreat.SH
open Go Go.RowKit
@[reducible] def pvV (k:Nat):List J2→PV
 | []=>.p (.a (.slice none 0 0))
 | a :: v=>.ref k 0 (v.length+1) (v.length+1)
@[reducible] def pvB (k:Nat)(e:TypeId):List J2→List (Nat×Blk)
 | []=>[]
 | a :: v=>[(k,⟨e,1,.pure (a :: v)⟩)]
@[reducible] def pvF (k:Nat):List J2→Option Nat
 | []=>some k
 | _ :: _=>none
theorem p0g {k:Nat}{e:TypeId}{xs:List J2}{q:Nat}{B:Blk}(h:(pvB k e xs).lookup q=some B):q=k∧B.cs.only []=true:=by
 cases xs with
 | nil=>cases h
 | cons a v =>
  simp only [pvB,i0] at h
  by_cases e:q=k
  ·subst e; simp at h; subst h; exact ⟨rfl,rfl⟩
  ·rw [show (q == k)=false by simpa using e] at h; cases h
section
variable {P:Program} {F:Fr} {d:Nat} {T:TypeId} {pos:String} {aft:Array Edge} {g:Option (Nat×Bool)} {t tx:TypeId}
theorem J0x {x:Operand}{k:Nat}{e:TypeId}{xs:List J2}(hu:P.underlying t=some (.slice e))(hlt:d<F.nt) :
  O2 P F ⟨some d,.call ⟨.builtin .len,#[x],#[t]⟩,T,pos,aft,g⟩ { rs:=[(x,pvV k xs)],rb:=pvB k e xs,ws:=[(d,.p (.a (.int .i64 xs.length)))] }:=by
 cases xs with
 | nil=>exact q0v hu hlt
 | cons a v=>exact p0d (n:=v.length+1) (B:=⟨e,1,.pure (a :: v)⟩) hu rfl hlt
theorem H0n {x y:Operand}{k:Nat}{e:TypeId}{ie:TypeInfo}{z:Value}{xs:List J2}{y0:J2}(hu:P.underlying t=some (.slice e))(hux:P.underlying tx=some (.slice e))(hi:∀ w,(typeInfo e).run P w = .ok ie w)(hz:ie.zero=some z)(hsz:ie.size=1)
  (hzl:z.cells.size=1) (hby:2*(xs.length+1)*ie.bytes≤281474976710656) (h63:xs.length+1≤9223372036854775807) (hpk:F.pin k=none) (hlt:d<F.nt) :
  O2 P F ⟨some d,.call ⟨.builtin .append,#[x,y],#[t,tx]⟩,T,pos,aft,g⟩ ⟨[(x,pvV k xs),(y,.p (.sl 1 [y0]))],pvB k e xs,pvF k xs,[(d,pvV k (xs++[y0]))],pvB k e (xs++[y0])⟩:=by
 cases xs with
 | nil=>exact apN (k:=k) (m:=1) (sz:=1) (r:=1) hu hux hi hz hsz hzl (by omega) rfl rfl (by simpa using hby) (by omega) hpk hlt
 | cons a v =>
  have:=apP (P:=P) (F:=F) (d:=d) (T:=T) (pos:=pos) (aft:=aft) (g:=g) (t:=t) (tx:=tx) (x:=x) (y:=y) (k:=k) (n:=v.length+1) (m:=1) (sz:=1) (q:=(v++[y0]).length+1) (r:=(v++[y0]).length+1) (xs:=a :: v) (ys:=[y0]) hu hux hi hz hsz hzl (by omega) rfl (by simp) rfl rfl (by simp) (by simp) (by simpa using hby) (by simpa using h63) hpk hlt
  exact this
end
section
variable {P:Program} {F:Fr} {ops:Array Oper} {sl:List (Nat×PV)} {hb:List (Nat×Blk)} {op:Op} {T:TypeId} {pos:String} {aft:Array Edge} {os:List Oper} {dst:Option Nat} {rs:List (Operand×PV)} {rb wb:List (Nat×Blk)} {fr:Option Nat}
theorem swA {K:List Ann→St→Prop}{d:Nat}{v:PV}(hc:O2 P F ⟨dst,op,T,pos,aft,none⟩ ⟨rs,rb,fr,[(d,v)],wb⟩)(h1:v8 ⟨sl,hb⟩ rs)(h2:J6 ⟨sl,hb⟩ rb)(h3:g0n ⟨sl,hb⟩ fr)(hn:y7 P F ops ⟨(d,v) :: sl,wb++hb⟩ os fun As S'=>K (⟨rs,rb,fr,[(d,v)],wb⟩ :: As) S') :
  y7 P F ops ⟨sl,hb⟩ (⟨dst,op,T,pos,aft,none⟩ :: os) K :=
 let ⟨As,S',h,hK⟩:=hn
 ⟨_,S',.cons (C7 rfl hc) (H7 h1 h2 h3) h,hK⟩
end
theorem p1v {A B:List (Nat×Blk)}(hA:R5 A)(hB:R5 B)(hd:∀ k,A.lookup k≠none→B.lookup k=none):R5 (A++B):=by
 refine ⟨fun k hk=>by rw [T1,hA.low k hk,hB.low k hk]; rfl,?_,fun k hk=>by rw [R4,hA.free k hk,hB.free k hk]; rfl,fun j C hj i x hx q hq=>?_⟩
 ·rw [List.map_append,List.nodup_append]
  refine ⟨hA.nd,hB.nd,fun a ha b hb e=>?_⟩
  subst e
  obtain ⟨⟨a,X⟩,hX,rfl⟩:=G0.1 ha
  obtain ⟨⟨a',Y⟩,hY,e⟩:=G0.1 hb
  simp only at e
  subst e
  have:=hd a' (by rw [V5 hA.nd hX]; simp)
  rw [V5 hB.nd hY] at this; cases this
 ·rw [T1] at hj ⊢
  cases e:A.lookup j with
  | some D =>
   rw [e,K0] at hj
   injection hj with hj
   subst hj
   obtain ⟨D',hD'⟩:=j1.1 (hA.whole j D e i x hx q hq)
   rw [hD']; simp
  | none =>
   rw [e,l0] at hj
   obtain ⟨D',hD'⟩:=j1.1 (hB.whole j C hj i x hx q hq)
   rw [hD']; simp
theorem q1m {k:Nat}(hk:1000≤k){e:TypeId}(xs:List J2):R5 (pvB k e xs):=by
 cases xs with
 | nil=>exact ⟨fun _ _=>rfl,List.nodup_nil,fun _ _=>rfl,fun j B hj=>by cases hj⟩
 | cons a v =>
  refine ⟨fun q hq=>?_,by simp,fun q hq=>by simp [X2,Cells.free],fun j B hj i x hx q hq=>?_⟩
  ·have:q<1000:=by simpa [Nat.blt_eq] using hq
   simp only [pvB,i0]
   rw [show (q == k)=false by simp; omega]; rfl
  ·have:=PV.only_mem (Cells.only_get (p0g hj).2 hx) hq
   simp at this
end Go.Proofs.YtjagfionflbjbaaGreat.SH
namespace Go.Proofs.YtjagfionflbjbaaGreat.SH
open Go
theorem G1q {sl:List (Nat×PV)}{R:List (Nat×Blk)}{k:Nat}{e:TypeId}{xs:List J2}(pre:List (Nat×Blk))(hp:n6 pre=true)(hk:1000≤k):J6 ⟨sl,pre++(pvB k e xs++R)⟩ (pvB k e xs):=by
 cases xs with
 | nil=>trivial
 | cons a v =>
  refine ⟨?_,trivial⟩
  show (pre++_).lookup k=_
  rw [T1,q5 hp hk,l0]; simp [pvB]
theorem Q1f {k:Nat}(hk:1000≤k){e:TypeId}{xs:List J2}:∀ p∈pvB k e xs,cls p.1∈[1000]:=by
 intro p hp
 cases xs with
 | nil=>cases hp
 | cons a v=>obtain rfl:=List.mem_singleton.1 hp; rw [B0j hk]; exact List.mem_singleton.2 rfl
end Go.Proofs.YtjagfionflbjbaaGreat.SH
namespace Go.Proofs.YtjagfionflbjbaaGreat.SH
open Go
theorem X3 {k d:Nat}{xs:List J2}(h:k≠d):(pvV k xs).free d=true:=by
 cases xs with
 | nil=>rfl
 | cons a v=>simp [PV.free,h]
end Go.Proofs.YtjagfionflbjbaaGreat.SH
namespace Go.Proofs.YtjagfionflbjbaaGreat.SH
open Go
theorem G1j {P:Program}{F:Fr}{Q:Exit→St→Prop}{S:St}{x y:Code}{sl sl0:List (Nat×PV)}{hb T:List (Nat×Blk)}(_:e7 S sl0)(h:l4 P F x S (G0s (fun S1=>e7 S1 (sl++sl0)∧T5 S1 (hb++T)) Q))(hn:l4 P F y ⟨sl++sl0,hb++T⟩ Q):l4 P F x S (G0s (fun S'=>l4 P F y S' Q) Q):=by
 refine ⟨fun n a w hS=>wpIn_mono (h.run n a w hS) fun e a' w' hq=>hq.elim (fun ⟨S',h1,h4⟩=>.inl ⟨S',?_,h4⟩) .inr⟩
 cases e with
 | normal=>exact hn.weak (E3 h1.1 h1.2)
 | _=>exact h1
end Go.Proofs.YtjagfionflbjbaaGreat.SH
set_option maxRecDepth 100000
set_option maxHeartbeats 4000000
namespace Go.Proofs.YtjagfionflbjbaaGreat.N
open Go Go.Proofs.YtjagfionflbjbaaGreat.SH Go.Proofs.YtjagfionflbjbaaGreat.NumA
open Go.Proofs.Tryz renaming call126→cl126,call52→cl52,call55→cl55,call56→cl56,call66→cl66,call67→cl67,call90→cl90,call91→cl91,call92→cl92,call97→cl97,isAgg3→ag3,isAgg47→ag47,isAgg73→ag73,isAgg77→ag77,sizeOf3→sz3,sizeOf47→sz47,sizeOf77→sz77,typeInfo3→ti3,underlying27→un27,underlying77→un77,underlying79→un79,zeroValue3→zv3,zeroValue47→zv47
theorem w1q {m:List (List Rat)}{p c i:Nat}(hi:i<m.length)(ho:h0f m p c i=true):(G5 m p c).getD (J9 m p c i) 0=i∧J9 m p c i<(G5 m p c).length:=by
 obtain ⟨d,hd⟩:∃ d,m.length=i+(1+d):=⟨m.length - i - 1,by omega⟩
 have e:G5 m p c=(List.range i).filter (h0f m p c)++(i :: ((List.range' (i+1) d).filter (h0f m p c))):=by
  rw [G5,hd,List.range_eq_range',← List.range'_append,List.filter_append,List.range_eq_range']
  congr 1
  rw [Nat.add_comm 1 d,List.range'_succ,F1,Nat.one_mul,List.filter_cons_of_pos ho]
 rw [e,J9]
 constructor
 ·rw [f0,D0 (Nat.le_refl _)]; simp
 ·simp
theorem d1v {m:List (List Rat)}{p c i:Nat}(hi:i≤m.length):(G5 m p c).take (J9 m p c i)=(List.range i).filter (h0f m p c):=by
 obtain ⟨d,hd⟩:∃ d,m.length=i+d:=⟨m.length - i,by omega⟩
 have e:G5 m p c=(List.range i).filter (h0f m p c)++(List.range' i d).filter (h0f m p c):=by
  rw [G5,hd,List.range_eq_range',← List.range'_append,List.filter_append,List.range_eq_range',F1,Nat.one_mul]
 rw [e,J9,List.take_left]
theorem w1r {m:List (List Rat)}{p c i n cc:Nat}(h:RC n cc m)(hp:p<n)(hi:i<m.length):(I6 m m p c (J9 m p c i)).getD i []=m.getD i []:=by
 rw [f0c h.1 h hp _ (h1d (Nat.le_of_lt hi)),if_neg]
 rw [d1v (Nat.le_of_lt hi)]
 intro hm
 have:=(List.mem_filter.1 hm).1
 simp at this
theorem h1v {m:List (List Rat)}{p c:Nat}:(G5 m p c).length=J9 m p c m.length:=rfl
def bv (s:Bool)(n:Nat):PV:=if s then .ref 1002 0 n n else .p (.a (.slice none 0 0))
def bsT (s:Bool)(b:List (List Rat)):List (Nat×Blk):=if s then I2 1 b else []
def Z3 (s:Bool)(m b:List (List Rat)):List (Nat×Blk):=I2 0 m++bsT s b
theorem P0g {s:Bool}{n k:Nat}(h:1002≠k):(bv s n).free k=true:=by cases s <;> simp [bv,PV.free,h]
theorem H1f {s:Bool}{n:Nat}:(bv s n).only [999,1001,1002]=true:=by cases s <;> rfl
theorem n0d {m b:List (List Rat)}:Z3 false m b=I2 0 m:=by simp [Z3,bsT]
theorem M1a {m b:List (List Rat)}:Z3 true m b=I2 0 m++I2 1 b:=rfl
theorem L7 (s:Bool)(m b:List (List Rat)):R5 (Z3 s m b):=by
 cases s
 ·rw [n0d]; exact i2 dC m
 ·exact R7 m b
theorem j0p {s:Bool}{m b:List (List Rat)}:∀ k B,(I2 0 m).lookup k=some B→(Z3 s m b).lookup k=some B:=fun k B h=>by rw [Z3,T1,h]; rfl
theorem f1m {s:Bool}{m b:List (List Rat)}:(Z3 s m b).lookup 1001=some (hdB 0 m):=j0p _ _ hdL
theorem V9 {s:Bool}{m b:List (List Rat)}{k:Nat}{B:Blk}(h:(Z3 s m b).lookup k=some B):(I2 0 m).lookup k=some B∨(s=true∧(I2 1 b).lookup k=some B):=by
 rw [Z3,T1] at h
 cases e:(I2 0 m).lookup k with
 | some C=>rw [e] at h; exact .inl h
 | none =>
  rw [e,l0] at h
  cases s
  ·cases h
  ·exact .inr ⟨rfl,h⟩
theorem k0g {s:Bool}{m b:List (List Rat)}{k:Nat}{B:Blk}(h:(Z3 s m b).lookup k=some B):1000≤k:=by
 rcases V9 h with h | ⟨_,h⟩ <;> exact d5 dC h
theorem k0b {m b:List (List Rat)}:∀ k B,(I2 1 b).lookup k=some B→(Z3 true m b).lookup k=some B:=fun k B h=>by
 rw [M1a,T1,J8 (m:=b) (b:=m) (k:=k) (s:=1) (s':=0) dC dC dC (by rw [h]; simp),l0,h]
theorem v1d {s:Bool}{m m' b b':List (List Rat)}(hl:m'.length=m.length)(hl2:b'.length=b.length){q:Nat}{B1:Blk}(hq:q<1100)(h:(Z3 s m' b').lookup q=some B1):∃ B0,(Z3 s m b).lookup q=some B0∧B1.sz=B0.sz∧B1.cs.len=B0.cs.len:=by
 rcases V9 h with hx | ⟨rfl,hx⟩
 ·obtain ⟨B0,h0,h1⟩:=f0b (s:=0) dC hl hq hx
  exact ⟨B0,j0p _ _ h0,h1⟩
 ·obtain ⟨B0,h0,h1⟩:=f0b (s:=1) dC hl2 hq hx
  exact ⟨B0,k0b _ _ h0,h1⟩
theorem K0b {s:Bool}{m m' b b':List (List Rat)}(hl:C9 m m')(hl2:C9 b b'){q:Nat}{B1:Blk}(h:(Z3 s m' b').lookup q=some B1):∃ B0,(Z3 s m b).lookup q=some B0∧B1.sz=B0.sz∧B1.cs.len=B0.cs.len:=by
 rcases V9 h with hx | ⟨rfl,hx⟩
 ·obtain ⟨B0,h0,h1⟩:=L9 (s:=0) dC hl hx
  exact ⟨B0,j0p _ _ h0,h1⟩
 ·obtain ⟨B0,h0,h1⟩:=L9 (s:=1) dC hl2 hx
  exact ⟨B0,k0b _ _ h0,h1⟩
theorem J0j {s k:Nat}{m m':List (List Rat)}(h2:s<9)(hl:m'.length=m.length)(h:(I2 s m').lookup k≠none):(I2 s m).lookup k≠none:=fun e=>h (k1k h2 hl e)
theorem n1y {s:Bool}{m m' b b':List (List Rat)}(hl:m'.length=m.length)(hl2:b'.length=b.length){k:Nat}(h:(Z3 s m' b').lookup k≠none):(Z3 s m b).lookup k≠none:=by
 obtain ⟨B,hB⟩:=j1.1 h
 rcases V9 hB with hx | ⟨rfl,hx⟩
 ·have:=J0j (s:=0) (m:=m) (m':=m') (k:=k) dC hl (by rw [hx]; simp)
  obtain ⟨C,hC⟩:=j1.1 this
  rw [j0p _ _ hC]; simp
 ·have:=J0j (s:=1) (m:=b) (m':=b') (k:=k) dC hl2 (by rw [hx]; simp)
  obtain ⟨C,hC⟩:=j1.1 this
  rw [k0b _ _ hC]; simp
theorem Q1h (s:Bool)(c:Nat)(m b:List (List Rat))(i p:Nat)(hi:i<m.length)(hp:p<m.length)(hne:i≠p)(hb:b.length=m.length):I4 E B8 92 [.at_ 999 0 3,.clo (.func 93) [] [.at_ 6 0 1,.at_ 5 0 1]] ([bxI 5 p,bxI 6 i,wV c m.length (bv s m.length)]++Z3 s m b) ([bxI 5 p,bxI 6 i,wV c m.length (bv s m.length)]++Z3 s (L5 m i p) (L5 b i p)) (.p (.tup [])):=by
 cases s
 ·rw [n0d,n0d]; exact K1h c m i p hi hp hne
 ·have:=N1h c m b i p hi hp hne oM oM
  rw [hb] at this; exact this
theorem P1g (s:Bool)(c:Nat)(m b:List (List Rat))(p:Nat)(q:Rat)(hp:p<m.length)(hb:b.length=m.length)(hl:(m.getD p []).length<1000000000)(hs:∀ a∈m.getD p [],qw a<1000000000)(hc:qw q<1000000000)(hlb:(b.getD p []).length<1000000000)(hsb:∀ a∈b.getD p [],qw a<1000000000):I4 E B8 92 [.at_ 999 0 3,.clo (.func 95) [] [.at_ 5 0 1,.at_ 8 0 4]] ([bxI 5 p,bxQ 8 q,wV c m.length (bv s m.length)]++Z3 s m b) ([bxI 5 p,bxQ 8 q,wV c m.length (bv s m.length)]++Z3 s (G9 m p q) (G9 b p q)) (.p (.tup [])):=by
 cases s
 ·rw [n0d,n0d]; exact N1c c m p q hp hl hs hc
 ·have:=K1s c m b p q hp hl hs hc oM hlb hsb
  rw [hb] at this; exact this
theorem P1s (s:Bool)(c:Nat)(m b:List (List Rat))(i p:Nat)(q:Rat)(B C D:Nat)(hi:i<m.length)(hp:p<m.length)(hne:i≠p)(hb:b.length=m.length)(hlen:(m.getD p []).length=(m.getD i []).length)(hl:(m.getD i []).length<1000000000)(hB:∀ a∈m.getD i [],qw a≤B)(hC:∀ a∈m.getD p [],qw a≤C)(hD:qw q≤D)(hlenb:(b.getD p []).length=(b.getD i []).length)(hlb:(b.getD i []).length<1000000000)(hBb:∀ a∈b.getD i [],qw a≤B)(hCb:∀ a∈b.getD p [],qw a≤C)(hbd:B+(D+C)+1<1000000000):I4 E stA 92 [.at_ 999 0 3,.clo (.func 98) [] [.at_ 10 0 1,.at_ 5 0 1,.at_ 11 0 4]] ([bxI 5 p,bxI 10 i,bxQ 11 q,wV c m.length (bv s m.length)]++Z3 s m b) ([bxI 5 p,bxI 10 i,bxQ 11 q,wV c m.length (bv s m.length)]++Z3 s (Z7 m i p q) (Z7 b i p q)) (.p (.tup [])):=by
 cases s
 ·rw [n0d,n0d]; exact N1f c m i p q B C D hi hp hne hlen hl hB hC hD hbd
 ·have:=K1r c m b i p q B C D hi hp hne hlen hl hB hC hD hbd B C oM oM hlenb hlb hBb hCb hbd
  rw [hb] at this; exact this
theorem W0f (s:Bool)(cols n p c:Nat)(T:List (Nat×Blk))(hT:R5 T):I4 E stO 97 [.at_ 999 0 3,.p (vZ p),.p (vZ c)] ([wV cols n (bv s n)]++T) ([(603,⟨73,1,.mix [.at_ 999 0 3]⟩),bxI 604 p,bxI 605 c,wV cols n (bv s n)]++T) (.clo (.func 126) [] [.at_ 603 0 1,.at_ 604 0 1,.at_ 605 0 1]):=by
 cases s
 ·exact M0d cols n p c T hT
 ·exact N0s cols n n p c T hT
def Z6 (pv:List Nat):List J2:=pv.map fun k:Nat=>vZ (k:Int)
@[simp] theorem m8 (pv:List Nat):(Z6 pv).length=pv.length:=by simp [Z6]
@[reducible] def tlP (pv:List Nat)(R:List (Nat×Blk)):List (Nat×Blk):=pvB 1003 3 (Z6 pv)++R
theorem q1j {s k:Nat}{m:List (List Rat)}(h2:s<2)(hk:k=1003):(I2 s m).lookup k=none:=by
 cases e:(I2 s m).lookup k with
 | none=>rfl
 | some B=>rcases U5 oM (show (I2 s m).lookup k≠none by rw [e]; simp) with h3 | ⟨q',_,h3⟩ <;> (try simp only [G3] at h3) <;> omega
theorem f8 {s:Bool}{k:Nat}{m b:List (List Rat)}(hk:k=1003):(Z3 s m b).lookup k=none:=by
 cases e:(Z3 s m b).lookup k with
 | none=>rfl
 | some B=>rcases V9 e with h | ⟨_,h⟩ <;> rw [q1j dC hk] at h <;> cases h
theorem N1a {pv:List Nat}{R:List (Nat×Blk)}(hR:R5 R)(h:R.lookup 1003=none):R5 (tlP pv R) :=
 p1v (q1m dC _) hR fun k hk=>by
  obtain ⟨B,hB⟩:=j1.1 hk
  rw [(p0g hB).1]; exact h
theorem B3 {pv:List Nat}{s:Bool}{m b:List (List Rat)}:R5 (tlP pv (Z3 s m b)):=N1a (L7 s m b) (f8 rfl)
theorem E8 {pv:List Nat}{s:Bool}{m b:List (List Rat)}:∀ k B,(Z3 s m b).lookup k=some B→(tlP pv (Z3 s m b)).lookup k=some B:=fun k B h=>by
 rw [tlP,T1]
 cases e:(pvB 1003 3 (Z6 pv)).lookup k with
 | none=>rw [l0,h]
 | some C =>
  have:=(p0g e).1
  rw [f8 this] at h; cases h
theorem y0g {pv:List Nat}{s:Bool}{m b:List (List Rat)}:∀ k B,(I2 0 m).lookup k=some B→(tlP pv (Z3 s m b)).lookup k=some B:=fun k B h=>E8 _ _ (j0p _ _ h)
theorem w1d {pv:List Nat}{s:Bool}{m b:List (List Rat)}:(tlP pv (Z3 s m b)).lookup 1001=some (hdB 0 m):=y0g _ _ hdL
@[reducible] def hC (cols n c:Nat)(v:PV)(T:List (Nat×Blk)):List (Nat×Blk):=[bxW,bxI 4 c,wV cols n v]++T
theorem H1x {cols n c:Nat}{v:PV}{T:List (Nat×Blk)}(hT:R5 T):((hC cols n c v T).map (·.1)).Nodup:=by
 have h:∀ k,k<1000→k ∉ T.map (·.1):=fun k hk hm=>by
  obtain ⟨⟨q,B⟩,hp,e⟩:=G0.1 hm
  simp only at e
  subst e
  have:=hT.low q (by simpa [Nat.blt_eq] using hk)
  rw [V5 hT.nd hp] at this; cases this
 simp only [hC,L1,List.nil_append,R0,List.nodup_cons,List.mem_cons,not_or]
 exact ⟨⟨by decide,by decide,h 1 dC⟩,⟨by decide,h 4 dC⟩,h 999 dC,hT.nd⟩
theorem U8 {bx T:List (Nat×Blk)}(ks:List Nat)(hb:(bx.all fun p=>p.2.cs.only ks)=true)(hk:∀ k∈ks,(bx++T).lookup k≠none)(hT:Whole T):Whole (bx++T):=by
 intro j B hj i x hx q hq
 rw [T1] at hj
 cases e:bx.lookup j with
 | some C =>
  rw [e,K0] at hj
  injection hj with hj
  subst hj
  rw [s0] at hb
  exact hk q (PV.only_mem (Cells.only_get (hb _ (O3 e)) hx) hq)
 | none =>
  rw [e,l0] at hj
  exact I8 (hT j B hj i x hx q hq)
def ksB (s:Bool):List Nat:=if s then [999,1001,1002] else [999,1001]
theorem y0w {s:Bool}{c n:Nat}:(wV c n (bv s n)).2.cs.only (ksB s)=true:=by cases s <;> rfl
theorem D0j {s:Bool}{m b:List (List Rat)}{T bx:List (Nat×Blk)}(h9:bx.lookup 999≠none)(hT:∀ k B,(Z3 s m b).lookup k=some B→T.lookup k=some B):∀ k∈ksB s,(bx++T).lookup k≠none:=by
 intro k hk
 have h1:T.lookup 1001≠none:=by rw [hT _ _ f1m]; simp
 cases s
 ·simp only [ksB,Bool.false_eq_true,if_false,List.mem_cons,List.not_mem_nil,or_false] at hk
  rcases hk with rfl | rfl
  ·exact j0z h9
  ·exact I8 h1
 ·simp only [ksB,if_true,List.mem_cons,List.not_mem_nil,or_false] at hk
  rcases hk with rfl | rfl | rfl
  ·exact j0z h9
  ·exact I8 h1
  ·exact I8 (by rw [hT _ _ (k0b _ _ (show (I2 1 b).lookup 1002=some (hdB 1 b) from hdL))]; simp)
theorem Q1v {s:Bool}{cols n c:Nat}{m b:List (List Rat)}{T:List (Nat×Blk)}(hT:R5 T)(hs:∀ k B,(Z3 s m b).lookup k=some B→T.lookup k=some B):Whole (hC cols n c (bv s n) T) :=
 U8 (ksB s) (by simp only [List.all_cons,List.all_nil,Bool.and_true,j0]; exact ⟨by cases s <;> rfl,by cases s <;> rfl,y0w⟩) (D0j (by simp [i0]) hs) hT.whole
theorem B0z {xs:List J2}:(pvV 1003 xs).only ks8=true:=by cases xs <;> rfl
theorem ncE {F:Fr}{n:Nat}{s:Bool}{sl slR:List (Nat×PV)}{w0 bx pre pre':List (Nat×Blk)}{pv:List Nat}{m0 b0 m b m' b':List (List Rat)}(hl:m'.length=m.length)(hlb:b'.length=b.length)(hl0:m.length=m0.length)(hlb0:b.length=b0.length)(G:GFr E B8 (w0++Z3 s m0 b0) n F)(hp:n6 pre=true)(hbp:T5 ⟨[],pre⟩ bx)(hpp:T5 ⟨[],pre⟩ pre')(hbx:(bx.all fun p=>p.2.cs.only (ksB s))=true)(h9:bx.lookup 999≠none)(hpo:(pre'.all fun p=>p.2.cs.only ks8)=true)(hso:(slR.all fun p=>p.2.only ks8)=true)(hS:e7 ⟨sl,pre++tlP pv (Z3 s m b)⟩ slR) :
  d0d B8 F ⟨sl,pre++tlP pv (Z3 s m b)⟩ (bx++Z3 s m b) (bx++Z3 s m' b') slR (pre'++tlP pv (Z3 s m' b')):=by
 refine ncT (T:=Z3 s m b) (T':=Z3 s m' b') (U:=tlP pv (Z3 s m b)) (U':=tlP pv (Z3 s m' b')) ks8 rfl hp (fun k B h=>hbp.all k B h) (fun k B h=>hpp.all k B h) (fun k B h=>⟨E8 k B h,k0g h⟩) (fun k B h=>k0g h) (fun k B h=>?_) (fun q B1 hq h=>v1d hl hlb hq h) hpo hso hS
  (f1y (pre:=[]) G fun k h=>I8 (n1y hl0 hlb0 h)) G.ps (U8 (ksB s) hbx (D0j h9 fun _ _ h=>h) (L7 s m' b').whole)
 rw [tlP,T1] at h
 cases e:(pvB 1003 3 (Z6 pv)).lookup k with
 | none=>rw [e,l0] at h; exact .inl h
 | some C =>
  rw [e,K0] at h
  injection h with h
  subst h
  obtain ⟨h1,h2⟩:=p0g e
  refine .inr ⟨by omega,by rw [tlP,T1,e]; rfl,f8 h1,f8 h1,fun i x hx q hq _=>?_⟩
  have:=PV.only_mem (Cells.only_get h2 hx) hq
  simp at this
@[simp] theorem P1p {s:Bool}{n k:Nat}(h:1002≠k):(bv s n).free k=true:=P0g h
theorem h1s {s:Bool}{m b:List (List Rat)}{k:Nat}(h:k<1100):X2 k (Z3 s m b)=true:=by
 have h1:∀ (q:Nat) (x:List (List Rat)),X2 k (I2 q x)=true:=fun q x=>by
  simp only [I2,X2,Cells.free,j0]; exact ⟨q0p h 0 x,d0y 0 x⟩
 rw [Z3,R4,h1]
 cases s
 ·rfl
 ·exact h1 1 b
@[reducible] def bxs (s:Bool)(cols n c p:Nat)(q:Rat):List (Nat×Blk):=[wV cols n (bv s n),(1,⟨73,1,.mix [.at_ 999 0 3]⟩),(3,bQ q),bxI 4 c,bxI 5 p]
theorem g1p {s:Bool}{cols n c p:Nat}{q:Rat}{k:Nat}(h:(bxs s cols n c p q).lookup k≠none):k=999∨k=1∨k=3∨k=4∨k=5:=by
 simp only [bxs,i0,List.lookup_nil] at h
 by_cases e1:k=999; exact .inl e1
 by_cases e2:k=1; exact .inr (.inl e2)
 by_cases e3:k=3; exact .inr (.inr (.inl e3))
 by_cases e4:k=4; exact .inr (.inr (.inr (.inl e4)))
 by_cases e5:k=5; exact .inr (.inr (.inr (.inr e5)))
 rw [show (k == 999)=false by simpa using e1,show (k == 1)=false by simpa using e2,show (k == 3)=false by simpa using e3,show (k == 4)=false by simpa using e4,show (k == 5)=false by simpa using e5] at h
 exact absurd rfl h
@[reducible] def hR (s:Bool)(cols n c p:Nat)(q:Rat)(pv:List Nat)(m b:List (List Rat)):List (Nat×Blk):=bxs s cols n c p q++tlP pv (Z3 s m b)
theorem g1m {s:Bool}{cols n c p:Nat}{q:Rat}{pv:List Nat}{m b:List (List Rat)}{k:Nat}(h:k<1000)(h1:k≠999)(h2:k≠1)(h3:k≠3)(h4:k≠4)(h5:k≠5):(hR s cols n c p q pv m b).lookup k=none:=by
 rw [hR,T1,B3.low k (by simpa [Nat.blt_eq] using h),Option.or_none]
 cases e:(bxs s cols n c p q).lookup k with
 | none=>rfl
 | some B=>rcases g1p (by rw [e]; simp) with h | h | h | h | h <;> contradiction
theorem V1x {s:Bool}{cols n c p:Nat}{q:Rat}{pv:List Nat}{m b:List (List Rat)}:Whole (hR s cols n c p q pv m b) :=
 U8 (ksB s) (by simp only [List.all_cons,List.all_nil,Bool.and_true,j0]; exact ⟨y0w,by cases s <;> rfl,by cases s <;> rfl,by cases s <;> rfl,by cases s <;> rfl⟩) (D0j (by simp [i0]) fun k B h=>E8 k B h) B3.whole
theorem y1c {s:Bool}{cols n c p:Nat}{q:Rat}{pv:List Nat}{m b:List (List Rat)}{k:Nat}{B:Blk}(h:(hR s cols n c p q pv m b).lookup k=some B):(bxs s cols n c p q).lookup k=some B∨((bxs s cols n c p q).lookup k=none∧((pvB 1003 3 (Z6 pv)).lookup k=some B∨((pvB 1003 3 (Z6 pv)).lookup k=none∧(Z3 s m b).lookup k=some B))):=by
 rw [hR,T1] at h
 cases e:(bxs s cols n c p q).lookup k with
 | some C=>rw [e,K0] at h; exact .inl h
 | none =>
  rw [e,l0,tlP,T1] at h
  cases e2:(pvB 1003 3 (Z6 pv)).lookup k with
  | some C=>rw [e2,K0] at h; exact .inr ⟨rfl,.inl h⟩
  | none=>rw [e2,l0] at h; exact .inr ⟨rfl,.inr ⟨rfl,h⟩⟩
theorem b1v {s:Bool}{cols n c p:Nat}{q:Rat}{pv:List Nat}{m b m' b':List (List Rat)}(hm:C9 m m')(hb:C9 b b'){k:Nat}{B1:Blk}(h:(hR s cols n c p q pv m' b').lookup k=some B1):∃ B0,(hR s cols n c p q pv m b).lookup k=some B0∧B1.sz=B0.sz∧B1.cs.len=B0.cs.len:=by
 rw [hR,T1]
 rcases y1c h with h | ⟨h0,h | ⟨h1,h⟩⟩
 ·exact ⟨B1,by rw [h]; rfl,rfl,rfl⟩
 ·exact ⟨B1,by rw [h0,l0,tlP,T1,h]; rfl,rfl,rfl⟩
 ·obtain ⟨B0,h2,h3⟩:=K0b hm hb h
  exact ⟨B0,by rw [h0,l0,tlP,T1,h1,l0,h2],h3⟩
theorem G0f {m m':List (List Rat)}(h:C9 m m'):C9 m' m:=⟨h.1.symm,fun i=>(h.2 i).symm⟩
theorem f0m {n c:Nat}{m m':List (List Rat)}(h:RC n c m)(h':RC n c m'):C9 m m':=by
 refine ⟨by rw [h.1,h'.1],fun i=>?_⟩
 by_cases e:i<n
 ·rw [h.get e,h'.get e]
 ·rw [f0,f0,List.getElem?_eq_none (by have:=h'.1; omega),List.getElem?_eq_none (by have:=h.1; omega)]
theorem V1r {s:Bool}{c p:Nat}{q:Rat}{pv:List Nat}{m b:List (List Rat)}:h0z p1n ([(1,⟨73,1,.mix [.at_ 999 0 3]⟩),(3,bQ q),bxI 4 c,bxI 5 p]++tlP pv (Z3 s m b)):=by
 refine ⟨fun k hk=>?_,?_⟩
 ·have hk:k=603∨k=604∨k=605∨k=999:=by simpa using hk
  rw [T1,B3.low k (by simp [Nat.blt_eq]; omega),Option.or_none]
  rcases hk with rfl | rfl | rfl | rfl <;> rfl
 ·have hno:∀ k,k<1000→k ∉ (tlP pv (Z3 s m b)).map (·.1):=fun k hk hm=>by
   obtain ⟨⟨q,B⟩,hp,e⟩:=G0.1 hm
   simp only at e
   subst e
   have:=(B3 (pv:=pv) (s:=s) (m:=m) (b:=b)).low q (by simpa [Nat.blt_eq] using hk)
   rw [V5 B3.nd hp] at this; cases this
  simp only [L1,List.nil_append,R0,List.nodup_cons,List.mem_cons,not_or]
  exact ⟨⟨by decide,by decide,by decide,hno 1 dC⟩,⟨by decide,by decide,hno 3 dC⟩,⟨by decide,hno 4 dC⟩,hno 5 dC,B3.nd⟩
theorem V1s {F:Fr}{s:Bool}{sl slR:List (Nat×PV)}{bx pre pre':List (Nat×Blk)}{pv:List Nat}{m b m' b':List (List Rat)}(hl:C9 m m')(hlb:C9 b b')(hp:n6 pre=true)(hbp:T5 ⟨[],pre⟩ bx)(hpp:T5 ⟨[],pre⟩ pre')(hbx:(bx.all fun p=>p.2.cs.only (ksB s))=true)(h9:bx.lookup 999≠none)(hS:e7 ⟨sl,pre++tlP pv (Z3 s m b)⟩ slR) :
  d0d stA F ⟨sl,pre++tlP pv (Z3 s m b)⟩ (bx++Z3 s m b) (bx++Z3 s m' b') slR (pre'++tlP pv (Z3 s m' b')):=by
 refine p1k (T:=Z3 s m b) (T':=Z3 s m' b') (U:=tlP pv (Z3 s m b)) (U':=tlP pv (Z3 s m' b')) hp (fun k B h=>hbp.all k B h) (fun k B h=>hpp.all k B h) (fun k B h=>⟨E8 k B h,k0g h⟩) (fun k B h=>k0g h) (fun k B h=>?_) (fun q B1 h=>K0b hl hlb h) hS (U8 (ksB s) hbx (D0j h9 fun _ _ h=>h) (L7 s m' b').whole)
 rw [tlP,T1] at h
 cases e:(pvB 1003 3 (Z6 pv)).lookup k with
 | none=>rw [e,l0] at h; exact .inl h
 | some C =>
  rw [e,K0] at h
  injection h with h
  subst h
  obtain ⟨h1,h2⟩:=p0g e
  exact .inr ⟨by omega,by rw [tlP,T1,e]; rfl,f8 h1,f8 h1⟩
@[reducible] def bx3 (p c:Nat):List (Nat×Blk):=[(603,⟨73,1,.mix [.at_ 999 0 3]⟩),bxI 604 p,bxI 605 c]
theorem f1k {p c k:Nat}(h:(bx3 p c).lookup k≠none):k=603∨k=604∨k=605:=by
 simp only [bx3,i0,List.lookup_nil] at h
 by_cases e1:k=603; exact .inl e1
 by_cases e2:k=604; exact .inr (.inl e2)
 by_cases e3:k=605; exact .inr (.inr e3)
 rw [show (k == 603)=false by simpa using e1,show (k == 604)=false by simpa using e2,show (k == 605)=false by simpa using e3] at h
 exact absurd rfl h
theorem g1h {k:Nat}(h:stO k=false):k=603∨k=604∨k=605:=by
 simp only [stO,Bool.not_eq_false',Bool.or_eq_true,beq_iff_eq] at h
 omega
theorem n1a {f:Fn}{q:Nat}(h:(PV.clo f [] [.at_ 603 0 1,.at_ 604 0 1,.at_ 605 0 1]).free q=false):q=603∨q=604∨q=605:=by
 by_cases h1:q=603; exact .inl h1
 by_cases h2:q=604; exact .inr (.inl h2)
 by_cases h3:q=605; exact .inr (.inr h3)
 simp [PV.free,PV.freeL,Ne.symm h1,Ne.symm h2,Ne.symm h3] at h
theorem ncO {F:Fr}{s:Bool}{sl slR:List (Nat×PV)}{pre:List (Nat×Blk)}{cols n c p p' c':Nat}{q:Rat}{pv:List Nat}{m b:List (List Rat)}(hp:T5 ⟨[],pre⟩ (bxs s cols n c p q))(hb:n6 pre=true)(hpin:∀ k,k=603∨k=604∨k=605→F.pin k=none)(hso:(slR.all fun p=>p.2.only ks8)=true)(hS:e7 ⟨sl,pre++tlP pv (Z3 s m b)⟩ slR) :
  d0d stO F ⟨sl,pre++tlP pv (Z3 s m b)⟩ ([wV cols n (bv s n)]++tlP pv (Z3 s m b)) (bx3 p' c'++([wV cols n (bv s n)]++tlP pv (Z3 s m b))) slR (bx3 p' c'++(bxs s cols n c p q++tlP pv (Z3 s m b))):=by
 have hpre:∀ k,1000≤k→pre.lookup k=none:=fun k hk=>q5 hb hk
 have htl:∀ k,k<1000→(tlP pv (Z3 s m b)).lookup k=none:=fun k hk=>B3.low k (by simpa [Nat.blt_eq] using hk)
 have h999:∀ k B,([wV cols n (bv s n)]:List (Nat×Blk)).lookup k=some B→k=999∧B=(wV cols n (bv s n)).2:=fun k B h=>by
  simp only [i0,List.lookup_nil] at h
  by_cases e:k=999
  ·subst e; simp at h; exact ⟨rfl,h.symm⟩
  ·rw [show (k == 999)=false by simpa using e] at h; cases h
 have hbl:∀ k B,(bxs s cols n c p q).lookup k=some B→pre.lookup k=some B:=fun k B h=>hp.all k B h
 refine ⟨fun j B hj=>?_,hS,fun k B hk=>?_,fun k B1 hst h=>?_,fun t v ht k hk hst=>?_,fun j hj hst=>?_,fun j hj=>?_,?_⟩
 ·show (pre++_).lookup j=some B
  rw [T1] at hj ⊢
  cases e:([wV cols n (bv s n)]:List (Nat×Blk)).lookup j with
  | some C =>
   rw [e,K0] at hj
   injection hj with hj
   subst hj
   obtain ⟨rfl,rfl⟩:=h999 j C e
   rw [hbl 999 _ rF]; rfl
  | none =>
   rw [e,l0] at hj
   rw [hpre j (by apply Classical.byContradiction; intro h2; rw [htl j oM] at hj; cases hj),l0,hj]
 ·rw [T1] at hk
  cases e:(bx3 p' c').lookup k with
  | some C=>rw [e,K0] at hk; exact .inl (by rw [T1,e]; exact hk)
  | none =>
   rw [e,l0,T1] at hk
   cases e2:(bxs s cols n c p q).lookup k with
   | some C =>
    rw [e2,K0] at hk
    injection hk with hk
    subst hk
    rcases g1p (by rw [e2]; simp) with rfl | h5
    ·refine .inl ?_
     rw [T1,e,l0,T1]
     rw [show (bxs s cols n c p q).lookup 999=some (wV cols n (bv s n)).2 from rfl] at e2
     rw [← e2]; rfl
    ·refine .inr ⟨?_,?_,?_,fun i x hx k2 hk2 hst=>?_⟩
     ·show (pre++_).lookup k=_
      rw [T1,hbl k C e2]; rfl
     ·rw [T1,htl k oM,Option.or_none]
      rcases h5 with rfl | rfl | rfl | rfl <;> rfl
     ·rw [T1,e,l0,T1,htl k oM,Option.or_none]
      rcases h5 with rfl | rfl | rfl | rfl <;> rfl
     ·have ho:C.cs.only [999]=true:=by
       rcases h5 with rfl | rfl | rfl | rfl <;> (injection e2 with e2; subst e2; rfl)
      have:=PV.only_mem (Cells.only_get ho hx) hk2
      have:=g1h hst
      simp at *
      omega
   | none =>
    rw [e2,l0] at hk
    refine .inl ?_
    rw [T1,e,l0,T1,hk]
    cases e3:([wV cols n (bv s n)]:List (Nat×Blk)).lookup k with
    | none=>rfl
    | some C =>
     obtain ⟨rfl,_⟩:=h999 k C e3
     cases e2
 ·rw [T1] at h
  cases e:(bx3 p' c').lookup k with
  | some C =>
   rcases f1k (by rw [e]; simp) with rfl | rfl | rfl <;> cases hst
  | none=>rw [e,l0] at h; exact ⟨B1,h,rfl,rfl⟩
 ·rw [s0] at hso
  have h5:=PV.only_mem (hso _ (w8 ht)) hk
  have:=g1h hst
  simp only [ks8,List.mem_cons,List.not_mem_nil,or_false] at h5
  omega
 ·have h5:=g1h hst
  rw [T1,htl j oM,Option.or_none] at hj
  rcases h5 with rfl | rfl | rfl <;> exact absurd rfl hj
 ·cases e:stO j with
  | true=>rfl
  | false=>exact absurd (hpin j (g1h e)) hj
 ·refine U8 [999] rfl (fun k hk=>?_) (U8 (ksB s) (by simp only [List.all_cons,List.all_nil,Bool.and_true]; exact y0w) (D0j (by simp [i0]) fun k B h=>E8 k B h) B3.whole)
  simp only [List.mem_singleton] at hk
  subst hk
  exact I8 (j0z (by simp [i0]))
theorem W0m (pv:List Nat)(c:Nat):Z6 (pv++[c])=Z6 pv++[vZ (c:Int)]:=by simp [Z6]
theorem V1q {s:Bool}{sl:List (Nat×PV)}{pre:List (Nat×Blk)}{pv:List Nat}{m b:List (List Rat)}(hp:n6 pre=true)(hf:pv=[]→(F3 1003 sl && X2 1003 pre)=true):g0n ⟨sl,pre++tlP pv (Z3 s m b)⟩ (pvF 1003 (Z6 pv)):=by
 cases pv with
 | cons a l=>trivial
 | nil =>
  have h:=hf rfl
  simp only [j0] at h
  refine ⟨?_,?_⟩
  ·show (pre++_).lookup 1003=none
   rw [T1,q5 hp dC,l0]
   exact f8 rfl
  ·show (F3 1003 sl && X2 1003 (pre++_))=true
   rw [R4,h.1,h.2]
   exact h1s dC
theorem F0h {xs:List J2}{y:J2}{k:Nat}{e:TypeId}:∃ B,pvB k e (xs++[y])=[(k,B)]:=by
 cases xs with
 | nil=>exact ⟨_,rfl⟩
 | cons a l=>exact ⟨_,rfl⟩
theorem b1d {sl:List (Nat×PV)}{pre T:List (Nat×Blk)}{xs:List J2}{y:J2}{e:TypeId}{k:Nat}{B:Blk}(hk:k<1000)(h:pre.lookup k=some B):St.blk ⟨sl,pvB 1003 e (xs++[y])++(pre++T)⟩ k=some B:=by
 obtain ⟨C,hC⟩:=F0h (xs:=xs) (y:=y) (k:=1003) (e:=e)
 show (pvB 1003 e (xs++[y])++_).lookup k=_
 rw [hC,List.singleton_append,i0,show (k == 1003)=false by simp; omega,T1,h]; rfl
theorem W1h {s:Bool}{sl:List (Nat×PV)}{pre:List (Nat×Blk)}{pv:List Nat}{c:Nat}{m b:List (List Rat)}(hp:n6 pre=true):T5 ⟨sl,pvB 1003 3 (Z6 pv++[vZ (c:Int)])++(pre++tlP pv (Z3 s m b))⟩ (tlP (pv++[c]) (Z3 s m b)):=by
 obtain ⟨C,hC⟩:=F0h (xs:=Z6 pv) (y:=vZ (c:Int)) (k:=1003) (e:=3)
 refine y5 B3.nd fun k B hk=>?_
 show (pvB 1003 3 (Z6 pv++[vZ (c:Int)])++_).lookup k=_
 rw [tlP,W0m,hC,List.singleton_append,i0] at hk
 rw [hC,List.singleton_append,i0]
 by_cases e:k=1003
 ·subst e; exact hk
 ·rw [show (k == 1003)=false by simpa using e] at hk ⊢
  show (pre++tlP pv (Z3 s m b)).lookup k=some B
  rw [T1,q5 hp (k0g hk),l0]
  exact E8 _ _ hk
theorem Q1d {s:Bool}{sl:List (Nat×PV)}{pre:List (Nat×Blk)}{pv:List Nat}{m b:List (List Rat)}(hp:n6 pre=true):Cv (St.blk ⟨sl,pre++tlP pv (Z3 s m b)⟩) [1003] (pvV 1003 (Z6 pv)) (.p (.sl pv.length (Z6 pv))):=by
 cases pv with
 | nil=>exact .p .nil
 | cons a l =>
  have hB:St.blk ⟨sl,pre++tlP (a :: l) (Z3 s m b)⟩ 1003=some ⟨3,1,.pure (Z6 (a :: l))⟩:=by
   show (pre++_).lookup 1003=_
   rw [T1,q5 hp dC]; rfl
  have:=Cv.ref (n:=(a :: l).length) (z:=[1003]) rfl hB (by rw [m8]) (Nat.mul_one _)
  simp only [Z6,R0,D1,O0,Nat.mul_one] at this ⊢
  simp only [pvV,O0]
  exact this
theorem p0m {S:St}{z:List Nat}:∀ {l:List (Nat×Blk)},(∀ p∈l,z.contains p.1=false∧S.blk p.1=some p.2)→h0w S z l
 | [],_=>trivial
 | p :: l,h=>⟨⟨(h p sM).1,p.2,(h p sM).2,.same⟩,p0m fun q hq=>h q (by simp [hq])⟩
theorem n0w {l:List (Nat×Blk)}:∀ {l':List (Nat×Blk)},T5 ⟨[],l⟩ l'→∀ {p:Nat×Blk},p∈l'→l.lookup p.1=some p.2
 | (k,B) :: l',h,p,hp=>by
  rcases List.mem_cons.1 hp with rfl | hp
  ·exact h.1
  ·exact n0w h.2 hp
theorem P1v {s:Bool}{sl:List (Nat×PV)}{pre pre':List (Nat×Blk)}{pv:List Nat}{m b:List (List Rat)}(hp:n6 pre=true)(hb:T5 ⟨[],pre⟩ pre')(hp':n6 pre'=true):h0w ⟨sl,pre++tlP pv (Z3 s m b)⟩ [1003] (pre'++Z3 s m b):=by
 refine p0m fun p hp2=>?_
 rcases List.mem_append.1 hp2 with h | h
 ·have h1:p.1<1000:=by
   unfold n6 at hp'
   rw [s0] at hp'
   simpa [Nat.blt_eq] using hp' p h
  refine ⟨by simp; omega,?_⟩
  show (pre++_).lookup p.1=_
  have:pre.lookup p.1=some p.2:=n0w hb h
  rw [T1,this]; rfl
 ·have h1:=V5 (j:=p.1) (B:=p.2) (L7 s m b).nd h
  refine ⟨?_,?_⟩
  ·by_cases e:p.1=1003
   ·rw [f8 e] at h1; cases h1
   ·simpa using e
  ·show (pre++_).lookup p.1=_
   rw [T1,q5 hp (k0g h1),l0]
   exact E8 _ _ h1
theorem Q0h {m b:List (List Rat)}{c:Nat}(h:¬ (ech m b c).pv.length<(ech m b c).m.length):∀ d,ech m b (c+d)=ech m b c
 | 0=>rfl
 | d+1=>by rw [← Nat.add_assoc,m9,Q0h h d,F9,if_neg h]
theorem V0z {m x:List (List Rat)}{p c n cc k:Nat}(hm:m.length=n)(h:RC n cc x)(hp:p<n)(hk:k<(G5 m p c).length):(I6 m x p c k).getD ((G5 m p c).getD k 0) []=x.getD ((G5 m p c).getD k 0) []∧(I6 m x p c k).getD p []=x.getD p []:=by
 constructor
 ·rw [f0c hm h hp k oM,if_neg]
  intro hh
  obtain ⟨i,hi,he⟩:=List.getElem_of_mem hh
  simp only [J0] at hi
  rw [List.getElem_take,f0,J1 hk,Option.getD_some] at he
  have:=(List.getElem_inj (m0f (m:=m) (p:=p) (c:=c))).1 he
  omega
 ·rw [f0c hm h hp k oM,if_neg (fun hh=>(q9.1 (List.mem_of_mem_take hh)).2.1 rfl)]
theorem f0w {B:Nat}{m:List (List Rat)}{i j:Nat}(h:MB B m)(h0:0<B):qw (ent m i j)≤B:=by
 rcases p0j (m:=m) (i:=i) (j:=j) with e | ⟨r,hr,e⟩
 ·rw [e,P0b]; exact h0
 ·exact h r hr _ e
theorem g0r {m:List (List Rat)}{i:Nat}{a:Rat}(h:a∈m.getD i []):∃ j,a=ent m i j:=by
 obtain ⟨j,hj,e⟩:=List.getElem_of_mem h
 refine ⟨j,?_⟩
 have:∀ (r:List Rat) (h:j<r.length),r[j]=r.getD j 0:=fun r h=>by simp [f0,h]
 rw [← e,this _ hj]; rfl
structure EB (n cols d B DB:Nat) (m b:List (List Rat)):Prop where
 rc:RC n cols m
 rb:RC n d b
 n0:0<n
 nl:n<1000
 cl:cols<1000
 dl:d<1000
 b0:0<B
 bl:B<100000000
 dbl:DB+B<1000000000
 me:∀ c,c≤cols→MB B (ech m b c).m
 be:∀ c,c≤cols→MB B (ech m b c).b
 de:∀ c,c≤cols→qw (ech m b c).det≤DB
theorem B1j (s:Bool)(n cols d B DB:Nat)(m b:List (List Rat))(H:EB n cols d B DB m b):I4 E B8 51 [.at_ 999 0 3] ([wV cols n (bv s n)]++Z3 s m b) ([wV cols n (bv s n)]++Z3 s (ech m b cols).m (ech m b cols).b) (.p (.tup [.sl (ech m b cols).pv.length (Z6 (ech m b cols).pv),pQ (ech m b cols).det])):=by
 refine n4 (xs:=[.sl (ech m b cols).pv.length (Z6 (ech m b cols).pv),pQ (ech m b cols).det]) Tryz.func51 rfl Tryz.ntmps51 Tryz.results51 sM fun F G=>?_
 have L:=@lti _ _ G.nt
 have hG:=G.g
 have hX:=G.x
 have hN:=W5 hG
 have P0:=fun k (hk:(Nat.blt k 1000 && (List.lookup k _).isNone)=true)=>G.p0 k (p0T (L7 s m b) hk)
 have H1:=H.nl
 have H2:=H.cl
 have H3:=H.bl
 have H4:=H.dbl
 have H5:=H.rc.1
 have H6:=H.rb.1
 subst H5
 have hlo:F.lo 1003=true:=by rw [G.lo,T1,f8 rfl,Option.or_none]; rfl
 have hpin3:F.pin 1003=none:=G.p0 _ (by rw [T1,f8 rfl,Option.or_none]; rfl)
 refine exr (swb (g0a (k:=1) rX rfl (P0 _ rfl) L) t1 t1 (frT [_] (L7 s m b) rfl rfl (by simp [F3,X2,Cells.free,PV.freeL,PV.free,X3,i3])) ?_)
 refine aV L rfl (swb (T3 (k:=3) (n:=4) zv47 (.cons rfl (.cons rfl (.cons rfl (.cons rfl .nil)))) rfl (P0 _ rfl) L) t0 t0 (frT [_,_] (L7 s m b) rfl rfl (by simp [F3,X2,Cells.free,PV.freeL,PV.free,X3,i3])) ?_)
 refine O1 ⟨[(1,_),(2,_),(3,_)],(1,_) :: (3,_) :: (999,_) :: ((Z3 s m b)),t3,⟨rfl,rfl,rfl,(hbT [_,_,_] (L7 s m b) rfl)⟩,?_⟩
 refine exr (cK hG hX cl55 hN (R6 1 dC dC) L t1 (sb (U2 sz47 rF pa4 rfl pu4) t2 t1 ?_))
 refine O1 ⟨[(1,_),(2,pvV 1003 (Z6 [])),(3,_)],(1,_) :: (3,_) :: (999,_) :: ((tlP [] (Z3 s m b))),t3,⟨rfl,rfl,rfl,(hbT [_,_,_,_] (L7 s m b) rfl)⟩,?_⟩
 refine R1 (exr (swb (T3 (k:=4) (n:=1) zv3 (.cons rfl .nil) rfl (P0 _ rfl) L) t0 t0 (frT [_,_,_] (B3 (pv:=[]) (s:=s) (m:=m) (b:=b)) rfl rfl (by simp [F3,X2,Cells.free,PV.freeL,PV.free,X3,i3])) ?_))
 refine sb (U2 sz3 rF (.atom rfl) rfl pu1) t2 t1 ?_
 refine O1 ⟨[(1,_),(2,_),(3,_),(4,_)],(1,_) :: (3,_) :: (4,_) :: (999,_) :: ((tlP [] (Z3 s m b))),t4,⟨rfl,rfl,rfl,rfl,(hbT [_,_,_,_,_] (B3 (pv:=[]) (s:=s) (m:=m) (b:=b)) rfl)⟩,?_⟩
 refine X1 ?_
 refine F0r (α:=(Nat×ESt)) (fun x=>[(2,pvV 1003 (Z6 x.2.pv))]) (fun x=>[(3,bQ x.2.det),(4,⟨3,1,.mix [.p (vZ (x.1:Int))]⟩)]) (fun x=>(tlP x.2.pv (Z3 s x.2.m x.2.b))) (fun x=>x.1≤cols∧x.2=ech m b x.1) (fun x=>cols - x.1) ((0,⟨m,b,[],1⟩)) (sl:=[(1,_),(3,_),(4,_)]) (hb:=[(1,_),(999,_)]) ?_ ⟨oR,rfl,rfl,rfl,trivial⟩ ⟨rfl,rfl,rfl,rfl,(hbT [_,_,_,_] (B3 (pv:=[]) (s:=s) (m:=m) (b:=b)) rfl)⟩ ?_
 ·exact ⟨Nat.zero_le _,rfl⟩
 intro x hx
 obtain ⟨c,t⟩:=x
 obtain ⟨hc,hs⟩:=hx
 simp only at hc hs
 dsimp only
 have hrc:=D7 H.rc H.rb c hc
 have hme:=H.me c hc
 have hbe:=H.be c hc
 have hde:=H.de c hc
 rw [← hs] at hrc hme hbe hde
 obtain ⟨r1,r2,r3,-⟩:=hrc
 have hn:t.m.length=m.length:=r1.1
 by_cases hcc:c<cols
 ·refine R1 (exd rF ?_)
  refine sw (Y1 ag3 rF rF L) t1 t1 ?_
  refine sw (Y1 ag73 rF rF L) t1 t1 ?_
  refine sw (Z2 rX L) t1 t1 ?_
  refine sw (Z1 un79 rfl sz3 dC rX L) t1 t1 ?_
  refine sw (Y1 ag3 rF rF L) t1 t1 ?_
  refine sw (d4 L) t2 t0 (mV L rfl (gV (g:=19) rfl sO L rfl rfl (swg (g:=19) rfl sO (J0x un27 L) rfl t1 (G1q [_,_,_,_] rfl dC) (swg (g:=19) rfl sO (Y1 ag73 rF rF L) rfl t1 t1 ?_))))
  refine swg (g:=19) rfl sO (Z2 rX L) rfl t1 t1 ?_
  refine swg (g:=19) rfl sO (Z1 un79 rfl sz77 dC rX L) rfl t1 t1 ?_
  refine swg (g:=19) rfl sO (Y1 ag77 rF rF L) rfl t1 t1 ?_
  refine swg (g:=19) rfl sO (p0d un77 (by first | exact E2 _ _ _ | exact (E2 _ _ _).trans sM | exact (E2 _ _ _).trans (by assumption)) L) rfl t1 ⟨rdT [_,_,_,_] (B3 (pv:=t.pv) (s:=s) (m:=t.m) (b:=t.b)) rfl w1d,trivial⟩ ?_
  refine swg (g:=19) rfl sO (d4 L) rfl t2 t0 (sw (m4 sO L) t2 t0 ?_)
  refine O1 ⟨h0g [⟨[4],[4],[13],[]⟩,⟨[1],[1],[14],[]⟩,⟨[14],[999],[15],[]⟩,⟨[15],[999],[16],[]⟩,⟨[16],[999],[17],[]⟩,⟨[13,17],[],[18],[]⟩,⟨[18],[],[19],[]⟩,⟨[19,2],[],[20],[]⟩,⟨[19,20],[1000],[21],[]⟩,⟨[19,1],[1],[22],[]⟩,⟨[19,22],[999],[23],[]⟩,⟨[19,23],[999],[24],[]⟩,⟨[19,24],[999],[25],[]⟩,⟨[19,25],[1000],[26],[]⟩,⟨[19,21,26],[],[27],[]⟩,⟨[19,27],[],[28],[]⟩] (.cons (cf0 rfl) (.cons (cf0 rfl) (.cons (cf0 rfl) (.cons (cf0 rfl) (.cons (cf0 rfl) (.cons (cf0 rfl) (.cons (cf0 rfl) (.cons (cf0 rfl) (.cons (cfT rfl rfl (Q1f dC) rfl (fun _ h=>by cases h)) (.cons (cf0 rfl) (.cons (cf0 rfl) (.cons (cf0 rfl) (.cons (cf0 rfl) (.cons (cfT rfl rfl (P8 dC) rfl (fun _ h=>by cases h)) (.cons (cf0 rfl) (.cons (cf0 rfl)  .nil)))))))))))))))) rfl (frS [] [_,_,_,_] (B3 (pv:=t.pv) (s:=s) (m:=t.m) (b:=t.b)) rfl (by simp [F3,X2,Cells.free,PV.freeL,PV.free,X3,i3])) dC,[(1,_),(2,_),(3,_),(4,_),(28,_)],(1,_) :: (3,_) :: (4,_) :: (999,_) :: ((tlP t.pv (Z3 s t.m t.b))),t5,⟨rfl,rfl,rfl,rfl,(hbT [_,_,_,_] (B3 (pv:=t.pv) (s:=s) (m:=t.m) (b:=t.b)) rfl)⟩,?_⟩
  refine D2 rfl (fun hp=>?_) (fun hp=>?_)
  ·have hp:=dt hp
   rw [m8] at hp
   have hpn:t.pv.length<m.length:=by omega
   have f1:=f7 90 [.at_ 1 0 1,.at_ 4 0 1] (hC cols m.length c (bv s m.length) (tlP t.pv (Z3 s t.m t.b))) (H1x B3) (Q1v B3 fun k B h=>E8 k B h) cl90 (nzI t.m c) t.pv.length m.length oM (fun i _ hi=>by
    have h4:=r1.get hi
    have:=m1z t.m cols c i (bv s m.length) (tlP t.pv (Z3 s t.m t.b)) B3 y0g oM oM (by have:=f0w (i:=i) (j:=c) hme H.b0; unfold ent at this; omega)
    rw [hn] at this; exact this)
   refine U1 (xq ?_)
   refine R1 (X1 (exr (mV L rfl (sw (J0x un27 L) t1 (G1q [_,_,_,_] rfl dC) (swb (T3 (k:=5) (n:=1) zv3 (.cons rfl .nil) rfl (P0 _ rfl) L) t0 t0 (frT [_,_,_,_] (B3 (pv:=t.pv) (s:=s) (m:=t.m) (b:=t.b)) rfl rfl (by simp [F3,X2,Cells.free,PV.freeL,PV.free,X3,i3])) ?_)))))
   refine sb (U2 sz3 rF (.atom rfl) rfl pu1) t2 t1 ?_
   refine O1 ⟨[(1,_),(2,_),(3,_),(4,_),(5,_)],(1,_) :: (3,_) :: (4,_) :: (5,⟨3,1,.mix [.p (vZ (t.pv.length:Int))]⟩) :: (999,_) :: ((tlP t.pv (Z3 s t.m t.b))),t5,⟨rfl,rfl,rfl,obl rfl (by rw [m8]),rfl,(hbT [_,_,_,_,_,_] (B3 (pv:=t.pv) (s:=s) (m:=t.m) (b:=t.b)) rfl)⟩,?_⟩
   refine exd rF ?_
   refine sw (Y1 ag3 rF rF L) t1 t1 ?_
   refine sw (Y1 ag73 rF rF L) t1 t1 ?_
   refine sw (Z2 rX L) t1 t1 ?_
   refine sw (Z1 un79 rfl sz77 dC rX L) t1 t1 ?_
   refine sw (Y1 ag77 rF rF L) t1 t1 ?_
   refine sw (p0d un77 (by first | exact E2 _ _ _ | exact (E2 _ _ _).trans sM | exact (E2 _ _ _).trans (by assumption)) L) t1 ⟨rdT [_,_,_,_,_] (B3 (pv:=t.pv) (s:=s) (m:=t.m) (b:=t.b)) rfl w1d,trivial⟩ ?_
   refine sw (j0d (vs:=[]) (us:=[_,_]) rfl rfl L) t2 t0 (sw (s5 hG hX hN f1 rfl L (C4 (ys:=[_,_,_]) cl52 rfl rfl) (H1x B3) (Q1v B3 fun k B h=>E8 k B h) (fun q h=>by cases h)) t3 ⟨rfl,rfl,rfl,P7 (hbT [_,_,_,_,_] B3 rfl)⟩ ?_)
   refine swb (T3 (k:=6) (n:=1) zv3 (.cons rfl .nil) rfl (P0 _ rfl) L) t0 t0 (frT [_,_,_,_,_] (B3 (pv:=t.pv) (s:=s) (m:=t.m) (b:=t.b)) rfl rfl (by simp [F3,X2,Cells.free,PV.freeL,PV.free,X3,i3])) ?_
   refine sb (U2 sz3 rF (.atom rfl) rfl pu1) t2 t1 ?_
   refine O1 ⟨h0g [⟨[5],[5],[33],[]⟩,⟨[1],[1],[34],[]⟩,⟨[34],[999],[35],[]⟩,⟨[35],[999],[36],[]⟩,⟨[36],[999],[37],[]⟩,⟨[37],[1000],[38],[]⟩,⟨[1,4],[],[39],[]⟩,⟨[33,38,39],[1,4,999,1000],[40],[]⟩,⟨[],[],[6],[6]⟩,⟨[6,40],[6],[],[6]⟩] (.cons (cf0 rfl) (.cons (cf0 rfl) (.cons (cf0 rfl) (.cons (cf0 rfl) (.cons (cf0 rfl) (.cons (cfT rfl rfl (P8 dC) rfl (fun _ h=>by cases h)) (.cons (cf0 rfl) (.cons (cfT rfl rfl (D1n (l:=[_,_,_]) rF (d0c B3) rfl) rfl (fun _ h=>by cases h)) (.cons (cf0 rfl) (.cons (cf0 rfl)  .nil)))))))))) rfl (frS [6] [_,_,_,_,_] (B3 (pv:=t.pv) (s:=s) (m:=t.m) (b:=t.b)) rfl (by simp [F3,X2,Cells.free,PV.freeL,PV.free,X3,i3])) dC,[(1,_),(2,_),(3,_),(4,_),(5,_),(6,_)],(1,_) :: (3,_) :: (4,_) :: (5,_) :: (6,_) :: (999,_) :: ((tlP t.pv (Z3 s t.m t.b))),t6,⟨rfl,rfl,rfl,rfl,rfl,rfl,(hbT [_,_,_,_,_,_,_] (B3 (pv:=t.pv) (s:=s) (m:=t.m) (b:=t.b)) rfl)⟩,?_⟩
   have hpe:L4 (nzI t.m c) t.pv.length (m.length - t.pv.length)=f0d t.m c t.pv.length:=by rw [f0d,hn]
   rw [hpe]
   refine R1 (exr (sw (Y1 ag3 rF rF L) t1 t1 ?_))
   refine sw (d4 L) t2 t0 ?_
   refine O1 ⟨[(1,_),(2,_),(3,_),(4,_),(5,_),(6,_),(42,_)],(1,_) :: (3,_) :: (4,_) :: (5,_) :: (6,_) :: (999,_) :: ((tlP t.pv (Z3 s t.m t.b))),t7,⟨rfl,rfl,rfl,rfl,rfl,rfl,(hbT [_,_,_,_,_,_] (B3 (pv:=t.pv) (s:=s) (m:=t.m) (b:=t.b)) rfl)⟩,?_⟩
   refine D2 rfl (fun hneg=>?_) (fun hneg=>?_)
   ·have hneg:=dt hneg
    have hst:ech m b (c+1)=t:=by rw [m9,← hs,F9,if_pos oM,if_pos hneg]
    refine L2 (xq ?_)
    refine R1 (exr (sw (Y1 ag3 rF rF L) t1 t1 ?_))
    refine O1 ⟨[(1,_),(2,_),(3,_),(83,_)],(1,_) :: (3,_) :: (999,_) :: ((tlP t.pv (Z3 s t.m t.b))),t4,⟨rfl,rfl,rfl,(hbT [_,_,_,_,_,_] (B3 (pv:=t.pv) (s:=s) (m:=t.m) (b:=t.b)) rfl)⟩,?_⟩
    refine y3 (swb (T3 (k:=4) (n:=1) zv3 (.cons rfl .nil) rfl (P0 _ rfl) L) t0 t0 (frT [_,_,_] (B3 (pv:=t.pv) (s:=s) (m:=t.m) (b:=t.b)) rfl rfl (by simp [F3,X2,Cells.free,PV.freeL,PV.free,X3,i3])) ?_)
    refine sb (U2 sz3 rF (.atom rfl) rfl pu1) t2 t1 ?_
    refine O1 (show l4 _ _ _ _ _ from exw (sl:=[(1,_),(2,_),(3,_),(4,_)]) (hb:=(1,_) :: (3,_) :: (4,_) :: (999,_) :: ((tlP t.pv (Z3 s t.m t.b)))) t4 ⟨rfl,rfl,rfl,rfl,(hbT [_,_,_,_,_] (B3 (pv:=t.pv) (s:=s) (m:=t.m) (b:=t.b)) rfl)⟩ ?_)
    refine y3 (sw (Y1 ag3 rF rF L) t1 t1 ?_)
    refine sw (K3 L (w64 oM oM)) t2 t0 (sb (U2 sz3 rF (.atom rfl) rfl pu1) t2 t1 ?_)
    refine O1 ?_
    exact ⟨(c+1,t),⟨by simp only; omega,hst.symm⟩,(by simp only; omega),E3 ⟨oR,rfl,rfl,rfl,trivial⟩ ⟨rfl,rfl,rfl,rfl,(hbT [_,_,_,_,_] (B3 (pv:=t.pv) (s:=s) (m:=t.m) (b:=t.b)) rfl)⟩⟩
   ·have hneg:=df hneg
    have hst:ech m b (c+1)=stp t.m t.b t.pv t.det (f0d t.m c t.pv.length).toNat c:=by rw [m9,← hs,F9,if_pos oM,if_neg hneg]
    obtain ⟨hp1,hp2,hp3,hp4⟩:=n0q hneg (show t.pv.length<t.m.length by omega)
    obtain ⟨i,hi⟩:∃ i,i=(f0d t.m c t.pv.length).toNat:=⟨_,rfl⟩
    rw [← hi] at hp1 hp2 hp3 hp4 hst
    rw [← hp4]
    have hl0:ent t.m i c≠0:=by simpa [nzI,ent] using hp3
    have hin:i<m.length:=by omega
    have hnm:=H.me (c+1) hcc
    have hnb:=H.be (c+1) hcc
    rw [hst] at hnm hnb
    have hld:M5 (swapped t.m i t.pv.length) t.pv.length c=ent t.m i c:=by
     have:=Y5 (k:=t.pv.length) (j:=c) r1.1 hin hpn
     rw [if_pos rfl] at this; exact this
    obtain ⟨p,hpp⟩:∃ p,p=t.pv.length:=⟨_,rfl⟩
    rw [← hpp] at hp1 hpn hld
    rw [← hpp]
    have hbl:t.b.length=m.length:=r2.1
    refine U1 (xq ?_)
    refine R1 (exr (sw (Y1 ag3 rF rF L) t1 t1 ?_))
    refine sw (Y1 ag3 rF rF L) t1 t1 ?_
    refine sw (c_n L) t2 t0 ?_
    refine O1 ⟨[(1,_),(2,_),(3,_),(4,_),(5,_),(6,_),(45,_)],(1,_) :: (3,_) :: (4,_) :: (5,_) :: (6,_) :: (999,_) :: ((tlP t.pv (Z3 s t.m t.b))),t7,⟨rfl,rfl,rfl,rfl,rfl,rfl,(hbT [_,_,_,_,_,_] (B3 (pv:=t.pv) (s:=s) (m:=t.m) (b:=t.b)) rfl)⟩,?_⟩
    refine G1j (sl:=[]) (sl0:=[(1,_),(2,_),(3,_),(4,_),(5,_)]) (hb:=[(1,⟨73,1,.mix [.at_ 999 0 3]⟩),(3,bQ (if i=p then t.det else -t.det)),(4,⟨3,1,.mix [.p (vZ (c:Int))]⟩),(5,⟨3,1,.mix [.p (vZ (p:Int))]⟩),(999,(wV cols m.length (bv s m.length)).2)]) (T:=(tlP t.pv (Z3 s (swapped t.m i p) (swapped t.b i p)))) t5 ?_ ?_
    ·refine D2 rfl (fun hne=>?_) (fun hne=>?_)
     ·have hne:=nt hne
      have hne':i≠p:=fun e=>hne (by rw [e])
      have hb2:=Q1h s cols t.m t.b i p hp2 oM hne' oM
      rw [hn] at hb2
      refine k0w (nsw (Y1 ag73 rF rF L) t1 t1 ?_)
      refine nsw (j0d (vs:=[]) (us:=[_,_]) rfl rfl L) t2 t0 (nsI hG hX hN [(1,.at_ 1 0 1),(2,pvV 1003 (Z6 t.pv)),(3,.at_ 3 0 4),(4,.at_ 4 0 1),(5,.at_ 5 0 1)] ([(1,_),(3,_),(4,_),(5,_),(999,_)]++(tlP t.pv (Z3 s (L5 t.m i p) (L5 t.b i p)))) hb2 L (C4 (ys:=[_,_]) cl92 rfl rfl) t2 (by exact ncE (pre:=[_,_,_,_,_,_]) (pre':=[_,_,_,_,_]) (bx:=[bxI 5 p,bxI 6 i,wV cols m.length (bv s m.length)]) sM sM hn (hbl.trans H6.symm) G rfl t3 t5 (by cases s <;> rfl) (by simp [i0]) (by cases s <;> rfl) (by simp [PV.only,B0z]) t5) (fun q h=>by cases h) rfl ?_)
      refine .nil ⟨[(1,_),(2,_),(3,_),(4,_),(5,_)],(1,_) :: (3,_) :: (4,_) :: (5,_) :: (999,_) :: tlP t.pv (Z3 s (L5 t.m i p) (L5 t.b i p)),t5,⟨rfl,rfl,rfl,rfl,rfl,(hbT [_,_,_,_,_] (B3 (pv:=t.pv) (s:=s) (m:=L5 t.m i p) (b:=L5 t.b i p)) rfl)⟩,?_⟩
      refine y3 (lp4 ag47 sz47 L rfl rfl (cK hG hX cl56 hN (v0j t.det oM) L t1 (sb (U2 sz47 rF pa4 rfl pu4) t2 t1 ?_)))
      refine O1 ?_
      exact ⟨⟨oR,oR,oR,oR,oR,trivial⟩,⟨rfl,obl rfl (by rw [if_neg hne']),rfl,rfl,rfl,(by rw [swapped,if_neg hne',swapped,if_neg hne']; exact hbT [_,_,_,_,_,_] B3 rfl)⟩⟩
     ·have hne:=nf hne
      have hne':i=p:=by omega
      refine U1 ?_
      exact ⟨⟨oR,oR,oR,oR,oR,trivial⟩,⟨rfl,obl rfl (by rw [if_pos hne']),rfl,rfl,rfl,(by rw [swapped,if_pos hne',swapped,if_pos hne']; exact hbT [_,_,_,_,_,_] B3 rfl)⟩⟩
    ·obtain ⟨m1,hm1⟩:∃ m1,m1=swapped t.m i p:=⟨_,rfl⟩
     obtain ⟨b1,hb1⟩:∃ b1,b1=swapped t.b i p:=⟨_,rfl⟩
     obtain ⟨d1,hd1⟩:∃ d1,d1=(if i=p then t.det else -t.det):=⟨_,rfl⟩
     rw [← hm1,← hb1,← hd1]
     have hrc1:RC m.length cols m1:=by rw [hm1]; exact r1.swapped hin hpn
     have hrb1:RC m.length d b1:=by rw [hb1]; exact r2.swapped hin hpn
     have hn1:=hrc1.1
     have hcp:c<(m1.getD p []).length:=by rw [hrc1.get hpn]; exact hcc
     rw [← hm1] at hld
     refine exd rF ?_
     refine sw (Y1 ag73 rF rF L) t1 t1 ?_
     refine sw (Z2 rX L) t1 t1 ?_
     refine sw (Z1 un79 rfl sz77 dC rX L) t1 t1 ?_
     refine sw (Y1 ag77 rF rF L) t1 t1 ?_
     refine sw (Y1 ag3 rF rF L) t1 t1 ?_
     refine sw (Y1 ag3 rF rF L) t1 t1 ?_
     refine sw (s5 hG hX hN (atM (M:=m1) (m:=m1) hn1 rfl hpn hcp) rfl L (C4 (ys:=[_,_,_]) cl91 rfl rfl) (i2 dC m1).nd (i2 dC m1).whole (fun q h=>by cases h)) t3 (P7 (y5 (i2 dC m1).nd fun k B h=>rdT [_,_,_,_,_] B3 rfl (y0g k B h))) ?_
     refine swb (T3 (k:=7) (n:=4) zv47 (.cons rfl (.cons rfl (.cons rfl (.cons rfl .nil)))) rfl (P0 _ rfl) L) t0 t0 (frT [_,_,_,_,_] (B3 (pv:=t.pv) (s:=s) (m:=m1) (b:=b1)) rfl rfl (by simp [F3,X2,Cells.free,PV.freeL,PV.free,X3,i3])) ?_
     refine sb (U2 sz47 rF pa4 rfl pu4) t2 t1 ?_
     refine O1 ⟨h0g [⟨[1],[1],[51],[]⟩,⟨[51],[999],[52],[]⟩,⟨[52],[999],[53],[]⟩,⟨[53],[999],[54],[]⟩,⟨[5],[5],[55],[]⟩,⟨[4],[4],[56],[]⟩,⟨[54,55,56],[1000],[57],[]⟩,⟨[],[],[7],[7]⟩,⟨[7,57],[7],[],[7]⟩] (.cons (cf0 rfl) (.cons (cf0 rfl) (.cons (cf0 rfl) (.cons (cf0 rfl) (.cons (cf0 rfl) (.cons (cf0 rfl) (.cons (cfT rfl rfl (fun p hp=>by rw [B0j (d0c (i2 dC m1) p hp)]; exact List.mem_singleton.2 rfl) rfl (fun _ h=>by cases h)) (.cons (cf0 rfl) (.cons (cf0 rfl)  .nil))))))))) rfl (frS [7] [_,_,_,_,_] (B3 (pv:=t.pv) (s:=s) (m:=m1) (b:=b1)) rfl (by simp [F3,X2,Cells.free,PV.freeL,PV.free,X3,i3])) dC,[(1,_),(2,_),(3,_),(4,_),(5,_),(7,_)],(1,_) :: (3,_) :: (4,_) :: (5,_) :: (7,_) :: (999,_) :: ((tlP t.pv (Z3 s m1 b1))),t6,⟨rfl,rfl,rfl,rfl,rfl,rfl,(hbT [_,_,_,_,_,_,_] (B3 (pv:=t.pv) (s:=s) (m:=m1) (b:=b1)) rfl)⟩,?_⟩
     have hq1:qw (M5 m1 p c)≤B:=by rw [hld]; exact f0w hme H.b0
     have hq2:M5 m1 p c≠0:=by rw [hld]; exact hl0
     have hq3:qw d1≤DB:=by rw [hd1]; split; exact hde; rw [M0r]; exact hde
     have hq4:qw (1 / M5 m1 p c)≤B+1:=by have:=M1j (a:=1) hq2; rw [F0g] at this; omega
     refine exr (lp4 ag47 sz47 L rfl rfl (lp4 ag47 sz47 L rfl rfl (cK hG hX cl67 hN (y8 d1 (M5 m1 p c) oM oM) L t2 (sb (U2 sz47 rF pa4 rfl pu4) t2 t1 ?_))))
     refine O1 ⟨[(1,_),(2,_),(3,_),(4,_),(5,_),(7,_)],(1,_) :: (3,_) :: (4,_) :: (5,_) :: (7,_) :: (999,_) :: ((tlP t.pv (Z3 s m1 b1))),t6,⟨rfl,rfl,rfl,rfl,rfl,rfl,(hbT [_,_,_,_,_,_,_] (B3 (pv:=t.pv) (s:=s) (m:=m1) (b:=b1)) rfl)⟩,?_⟩
     refine exd rF ?_
     refine cK hG hX cl55 hN (R6 1 dC dC) L t1 (lp4 ag47 sz47 L rfl rfl (cK hG hX cl66 hN (v0k 1 (M5 m1 p c) (by rw [F0g]; decide) oM hq2) L t2 ?_))
     refine mV L rfl (sw (i4 rfl L) t1 t0 (sw (i4 rfl L) t1 t0 (swb (T3 (k:=8) (n:=4) zv47 (.cons rfl (.cons rfl (.cons rfl (.cons rfl .nil)))) rfl (P0 _ rfl) L) t0 t0 (frT [_,_,_,_,_,_] (B3 (pv:=t.pv) (s:=s) (m:=m1) (b:=b1)) rfl rfl (by simp [F3,X2,Cells.free,PV.freeL,PV.free,X3,i3])) ?_)))
     refine sb (U2 sz47 rF pa4 rfl pu4) t2 t1 ?_
     refine aV L rfl ?_
     refine O1 ⟨h0g [⟨[],[],[62],[]⟩,⟨[7],[7],[63],[]⟩,⟨[62,63],[],[64],[]⟩,⟨[64],[],[61],[]⟩,⟨[61],[],[65],[]⟩,⟨[61],[],[66],[]⟩,⟨[],[],[8],[8]⟩,⟨[8,65],[8],[],[8]⟩,⟨[66],[],[9],[]⟩] (.cons (cf0 rfl) (.cons (cf0 rfl) (.cons (cf0 rfl) (.cons (cf0 rfl) (.cons (cf0 rfl) (.cons (cf0 rfl) (.cons (cf0 rfl) (.cons (cf0 rfl) (.cons (cf0 rfl)  .nil))))))))) rfl (frS [8] [_,_,_,_,_,_] (B3 (pv:=t.pv) (s:=s) (m:=m1) (b:=b1)) rfl (by simp [F3,X2,Cells.free,PV.freeL,PV.free,X3,i3])) dC,[(1,_),(2,_),(3,_),(4,_),(5,_),(8,_)],(1,_) :: (3,_) :: (4,_) :: (5,_) :: (8,_) :: (999,_) :: ((tlP t.pv (Z3 s m1 b1))),t6,⟨rfl,rfl,rfl,rfl,rfl,rfl,(hbT [_,_,_,_,_,_,_,_] (B3 (pv:=t.pv) (s:=s) (m:=m1) (b:=b1)) rfl)⟩,?_⟩
     have hm1B:∀ i j,qw (ent m1 i j)≤B:=fun i' j=>by rw [hm1,Y5 r1.1 hin hpn]; exact f0w hme H.b0
     have hb1B:∀ i j,qw (ent b1 i j)≤B:=fun i' j=>by rw [hb1,Y5 r2.1 hin hpn]; exact f0w hbe H.b0
     have hb3:=P1g s cols m1 b1 p (1 / M5 m1 p c) oM (by rw [hrb1.1,hn1]) (by rw [hrc1.get hpn]; omega) (fun a ha=>by obtain ⟨j,rfl⟩:=g0r ha; have:=hm1B p j; omega) oM (by rw [hrb1.get hpn]; have:=H.dl; omega) (fun a ha=>by obtain ⟨j,rfl⟩:=g0r ha; have:=hb1B p j; omega)
     rw [hn1] at hb3
     refine k0w (nsw (Y1 ag73 rF rF L) t1 t1 ?_)
     refine nsw (j0d (vs:=[]) (us:=[_,_]) rfl rfl L) t2 t0 (nsI hG hX hN [(1,.at_ 1 0 1),(2,pvV 1003 (Z6 t.pv)),(3,.at_ 3 0 4),(4,.at_ 4 0 1),(5,.at_ 5 0 1)] ([(1,_),(3,_),(4,_),(5,_),(999,_)]++(tlP t.pv (Z3 s (G9 m1 p (1 / M5 m1 p c)) (G9 b1 p (1 / M5 m1 p c))))) hb3 L (C4 (ys:=[_,_]) cl92 rfl rfl) t2 (by exact ncE (pre:=[_,_,_,_,_,_]) (pre':=[_,_,_,_,_]) (bx:=[bxI 5 p,bxQ 8 (1 / M5 m1 p c),wV cols m.length (bv s m.length)]) (by simp [G9]) (by simp [G9]) hn1 (hrb1.1.trans H6.symm) G rfl t3 t5 (by cases s <;> rfl) (by simp [i0]) (by cases s <;> rfl) (by simp [PV.only,B0z]) t5) (fun q h=>by cases h) rfl ?_)
     refine .nil ⟨[(1,_),(2,_),(3,_),(4,_),(5,_)],(1,_) :: (3,_) :: (4,_) :: (5,_) :: (999,_) :: tlP t.pv (Z3 s (G9 m1 p (1 / M5 m1 p c)) (G9 b1 p (1 / M5 m1 p c))),t5,⟨rfl,rfl,rfl,rfl,rfl,(hbT [_,_,_,_,_] (B3 (pv:=t.pv) (s:=s) (m:=G9 m1 p (1 / M5 m1 p c)) (b:=G9 b1 p (1 / M5 m1 p c))) rfl)⟩,?_⟩
     have hrc2:=hrc1.scl (q:=1 / M5 m1 p c) hpn
     have hrb2:=hrb1.scl (q:=1 / M5 m1 p c) hpn
     have hm2B:∀ i j,qw (ent (G9 m1 p (1 / M5 m1 p c)) i j)≤B+(B+1):=fun i' j=>by
      rw [d0f hrc1 hpn]
      split
      ·have:=Z9 (ent m1 p j) (1 / M5 m1 p c); have:=hm1B p j; omega
      ·have:=hm1B i' j; omega
     have hb2B:∀ i j,qw (ent (G9 b1 p (1 / M5 m1 p c)) i j)≤B+(B+1):=fun i' j=>by
      rw [d0f hrb1 hpn]
      split
      ·have:=Z9 (ent b1 p j) (1 / M5 m1 p c); have:=hb1B p j; omega
      ·have:=hb1B i' j; omega
     have hst2:stp t.m t.b t.pv t.det i c=⟨n0n (G9 m1 p (1 / M5 m1 p c)) (G9 m1 p (1 / M5 m1 p c)) p c,n0n (G9 m1 p (1 / M5 m1 p c)) (G9 b1 p (1 / M5 m1 p c)) p c,t.pv++[c],d1*M5 m1 p c⟩:=by
      rw [stp,hm1,hb1,hd1,hpp]
     obtain ⟨m2,hm2⟩:∃ m2,m2=G9 m1 p (1 / M5 m1 p c):=⟨_,rfl⟩
     obtain ⟨b2,hb2⟩:∃ b2,b2=G9 b1 p (1 / M5 m1 p c):=⟨_,rfl⟩
     obtain ⟨q2,hq⟩:∃ q2,q2=d1*M5 m1 p c:=⟨_,rfl⟩
     rw [← hm2,← hb2,← hq] at hst2
     rw [← hm2] at hrc2 hm2B
     rw [← hb2] at hrb2 hb2B
     rw [← hm2,← hb2,← hq]
     obtain ⟨N,hN2⟩:∃ N,N=(G5 m2 p c).length:=⟨_,rfl⟩
     have hpin:∀ k,k<1000→k≠999→F.pin k=none:=fun k hk hk9=>G.p0 k (by rw [T1,(L7 s m b).low k (by simpa [Nat.blt_eq] using hk),Option.or_none,i0,show (k == 999)=false by simpa using hk9]; rfl)
     refine R1 (k0w (nsw (Y1 ag73 rF rF L) t1 t1 ?_))
     refine nsw (Y1 ag3 rF rF L) t1 t1 ?_
     refine nsw (Y1 ag3 rF rF L) t1 t1 ?_
     refine nsI hG hX hN [(1,.at_ 1 0 1),(2,pvV 1003 (Z6 t.pv)),(3,.at_ 3 0 4),(4,.at_ 4 0 1),(5,.at_ 5 0 1)] ([(603,_),(604,_),(605,_),(999,_),(1,_),(3,_),(4,_),(5,_)]++(tlP t.pv (Z3 s m2 b2))) (W0f s cols m.length p c (tlP t.pv (Z3 s m2 b2)) B3) L (C4 (ys:=[_,_,_]) cl97 rfl rfl) t3 (by exact ncO (q:=q2) (c:=c) (p:=p) (pre:=[_,_,_,_,_]) t5 rfl (fun k hk=>hpin k oM oM) (by simp [PV.only,B0z]) t5) (fun q h=>by rcases n1a h with rfl | rfl | rfl <;> exact j0z (by simp [i0])) rfl ?_
     refine .nil ⟨[(1,_),(2,_),(3,_),(4,_),(5,_),(73,_)],(1,_) :: (3,_) :: (4,_) :: (5,_) :: (603,_) :: (604,_) :: (605,_) :: (999,_) :: tlP t.pv (Z3 s m2 b2),t6,⟨rfl,rfl,rfl,rfl,rfl,rfl,rfl,rfl,(hbT [_,_,_,_,_,_,_,_] (B3 (pv:=t.pv) (s:=s) (m:=m2) (b:=b2)) rfl)⟩,?_⟩
     refine X1 ?_
     have hMr:∀ k,k≤N→RC m.length cols (I6 m2 m2 p c k):=fun k hk=>j0b hrc2.1 hrc2 hpn k oM
     have hBr:∀ k,k≤N→RC m.length d (I6 m2 b2 p c k):=fun k hk=>j0b hrc2.1 hrb2 hpn k oM
     refine n1s (fn:=Tryz.f126) (n:=N) (nI:=42) (Hc:=bx3 p c) (Hc':=bx3 p c) (fun k=>hR s cols m.length c p q2 t.pv (I6 m2 m2 p c k) (I6 m2 b2 p c k)) (fun k=>(vZ ((G5 m2 p c).getD k 0:Nat),pQ (ent m2 ((G5 m2 p c).getD k 0) c))) (sl:=[(1,.at_ 1 0 1),(2,pvV 1003 (Z6 t.pv)),(3,.at_ 3 0 4),(4,.at_ 4 0 1),(5,.at_ 5 0 1)]) hG hX hN G.ro rfl ?_ cl126 Tryz.func126 rfl Tryz.ntmps126 Tryz.results126 dC ⟨L,L⟩ ?_ ?_ ?_ ?_ (fun q h=>h) ?_ ?_ ?_ ?_
     ·exact E3 t5 ⟨rfl,rfl,rfl,rfl,rfl,rfl,rfl,rfl,hbT [_,_,_,_,_,_,_,_] B3 rfl⟩
     ·intro k hk j hj
      rcases f1k hk with rfl | rfl | rfl <;> exact g1m dC dC dC dC dC dC
     ·intro k hk q'
      have h1:=f0m (hMr k oM) (hMr (k+1) oM)
      have h2:=f0m (hBr k oM) (hBr (k+1) oM)
      constructor
      ·intro h
       obtain ⟨B1,hB1⟩:=j1.1 h
       obtain ⟨B0,h0,_⟩:=b1v h1 h2 hB1
       rw [h0]; simp
      ·intro h
       obtain ⟨B1,hB1⟩:=j1.1 h
       obtain ⟨B0,h0,_⟩:=b1v (G0f h1) (G0f h2) hB1
       rw [h0]; simp
     ·intro k hk q' B0 B1 h0 h1
      obtain ⟨B2,h2,h3⟩:=b1v (f0m (hMr k oM) (hMr (k+1) oM)) (f0m (hBr k oM) (hBr (k+1) oM)) h1
      rw [h0] at h2
      injection h2 with h2
      subst h2; exact h3
     ·exact fun k hk=>V1x
     ·intro tt v hv q' hq'
      have hm:(tt,v)∈_:=w8 hv
      simp only [List.mem_cons,List.not_mem_nil,or_false,Prod.mk.injEq] at hm
      have hb:∀ k,(k=1∨k=3∨k=4∨k=5)→(hR s cols m.length c p q2 t.pv (I6 m2 m2 p c 0) (I6 m2 b2 p c 0)).lookup k≠none:=fun k hk=>j0z (by rcases hk with rfl | rfl | rfl | rfl <;> simp [i0])
      rcases hm with ⟨_,rfl⟩ | ⟨_,rfl⟩ | ⟨_,rfl⟩ | ⟨_,rfl⟩ | ⟨_,rfl⟩
      ·obtain rfl:1=q':=by simpa [PV.free] using hq'
       exact hb 1 sM
      ·cases hpv:t.pv with
       | nil=>rw [hpv] at hq'; cases hq'
       | cons a l =>
        rw [hpv] at hq'
        obtain rfl:1003=q':=by simpa [PV.free,Z6] using hq'
        exact I8 (by simp [tlP,Z6,pvB])
      ·obtain rfl:3=q':=by simpa [PV.free] using hq'
       exact hb 3 sM
      ·obtain rfl:4=q':=by simpa [PV.free] using hq'
       exact hb 4 sM
      ·obtain rfl:5=q':=by simpa [PV.free] using hq'
       exact hb 5 sM
     ·intro l F' XF hro' hY
      have hlen2:m2.length=m.length:=hrc2.1
      have hit:=P0x cols p c N l m2 (bv s m.length) (fun k=>I6 m2 m2 p c k) (fun k=>[(1,⟨73,1,.mix [.at_ 999 0 3]⟩),(3,bQ q2),bxI 4 c,bxI 5 p]++tlP t.pv (Z3 s (I6 m2 m2 p c k) (I6 m2 b2 p c k))) (fun k=>(vZ ((G5 m2 p c).getD k 0:Nat),pQ (ent m2 ((G5 m2 p c).getD k 0) c))) (fun k hk=>V1r) (fun k hk q' B' h=>by
        rw [T1,show ([(1,⟨73,1,.mix [.at_ 999 0 3]⟩),(3,bQ q2),bxI 4 c,bxI 5 p]:List (Nat×Blk)).lookup q'=none from q5 rF (d5 dC h),l0]
        exact y0g q' B' h) (fun k hk=>(hMr k hk).1.trans hlen2.symm) (fun i' hi'=>w1r hrc2 hpn hi') (fun i' hi'=>by rw [hrc2.get oM]; exact hcc) (fun i' hi'=>by have:=hm2B i' c; unfold ent at this; omega) (by rw [hN2]; exact h1v) (fun i' hi' ho=>by rw [(w1q hi' ho).1]; rfl) oM
      rw [hlen2] at hit
      exact hit F' _ rfl XF hY
     ·intro k hk
      obtain ⟨ix,hix⟩:∃ ix,ix=(G5 m2 p c).getD k 0:=⟨_,rfl⟩
      have hmem:=q9.1 (e9 (show k<(G5 m2 p c).length by omega))
      have hat:=V0z (k:=k) hrc2.1 hrc2 hpn (by omega:k<(G5 m2 p c).length)
      have hatb:=V0z (m:=m2) (c:=c) (k:=k) hrc2.1 hrb2 hpn (by omega:k<(G5 m2 p c).length)
      have hMk:=hMr k oM
      have hBk:=hBr k oM
      have e1:I6 m2 m2 p c (k+1)=Z7 (I6 m2 m2 p c k) ix p (ent m2 ix c):=by rw [f0r oM,hix]; rfl
      have e2:I6 m2 b2 p c (k+1)=Z7 (I6 m2 b2 p c k) ix p (ent m2 ix c):=by rw [f0r oM,hix]; rfl
      rw [← hix] at hmem hat hatb
      simp only
      rw [e1,e2,← hix]
      obtain ⟨mk,hmk⟩:∃ mk,mk=I6 m2 m2 p c k:=⟨_,rfl⟩
      obtain ⟨bk,hbk⟩:∃ bk,bk=I6 m2 b2 p c k:=⟨_,rfl⟩
      rw [← hmk] at hat hMk ⊢
      rw [← hbk] at hatb hBk ⊢
      have hixn:ix<m.length:=by have:=hrc2.1; omega
      refine ⟨⟨[(10,.at_ 10 0 1),(11,.at_ 11 0 4),(1,.at_ 1 0 1),(2,pvV 1003 (Z6 t.pv)),(3,.at_ 3 0 4),(4,.at_ 4 0 1),(5,.at_ 5 0 1)],[bxI 10 ix,bxQ 11 (ent m2 ix c),wV cols m.length (bv s m.length),(1,⟨73,1,.mix [.at_ 999 0 3]⟩),(3,bQ q2),bxI 4 c,bxI 5 p]++tlP t.pv (Z3 s mk bk)⟩,fun F' XF=>?_,fun F' XF=>?_⟩
      ·have L:=@lti _ _ (XF.nt.trans G.nt)
       have P0:∀ k,(k == 10 || k == 11)=true→F'.pin k=none:=fun k hk=>XF.p0 k (by simp only [Bool.or_eq_true,beq_iff_eq] at hk; rcases hk with rfl | rfl <;> exact g1m dC dC dC dC dC dC)
       skip
       refine exr (swb (T3 (k:=10) (n:=1) zv3 (.cons rfl .nil) rfl (P0 _ rfl) L) t0 t0 (frT [_,_,_,_,_] (B3 (pv:=t.pv) (s:=s) (m:=mk) (b:=bk)) rfl rfl (by simp [F3,X2,Cells.free,PV.freeL,PV.free,X3,i3])) ?_)
       refine sb (U2 sz3 rF (.atom rfl) rfl pu1) t2 t1 ?_
       refine O1 ⟨[(1,_),(2,_),(3,_),(4,_),(5,_),(10,_),(74,_),(75,_)],(1,_) :: (3,_) :: (4,_) :: (5,_) :: (10,_) :: (999,_) :: ((tlP t.pv (Z3 s mk bk))),t8,⟨rfl,rfl,rfl,rfl,rfl,rfl,(hbT [_,_,_,_,_,_,_] (B3 (pv:=t.pv) (s:=s) (m:=mk) (b:=bk)) rfl)⟩,?_⟩
       refine y3 (swb (T3 (k:=11) (n:=4) zv47 (.cons rfl (.cons rfl (.cons rfl (.cons rfl .nil)))) rfl (P0 _ rfl) L) t0 t0 (frT [_,_,_,_,_,_] (B3 (pv:=t.pv) (s:=s) (m:=mk) (b:=bk)) rfl rfl (by simp [F3,X2,Cells.free,PV.freeL,PV.free,X3,i3])) ?_)
       refine sb (U2 sz47 rF pa4 rfl pu4) t2 t1 ?_
       refine O1 ?_
       exact ⟨rfl,E3 t7 ⟨rfl,rfl,rfl,rfl,rfl,rfl,rfl,hbT [_,_,_,_,_,_,_,_] B3 rfl⟩⟩
      ·have L:=@lti _ _ (XF.nt.trans G.nt)
       have hG:=XF.g
       have hX:=XF.x
       have hN:=XF.ng
       have hb4:=P1s s cols mk bk ix p (ent m2 ix c) (B+(B+1)) (B+(B+1)) (B+(B+1)) (by rw [hMk.1]; exact hixn) (by rw [hMk.1]; exact hpn) hmem.2.1 (by rw [hBk.1,hMk.1]) (by rw [hMk.get hpn,hMk.get hixn]) (by rw [hMk.get hixn]; omega) (fun a ha=>by rw [hat.1] at ha; obtain ⟨j,rfl⟩:=g0r ha; exact hm2B ix j) (fun a ha=>by rw [hat.2] at ha; obtain ⟨j,rfl⟩:=g0r ha; exact hm2B p j) (hm2B ix c) (by rw [hBk.get hpn,hBk.get hixn]) (by rw [hBk.get hixn]; have:=H.dl; omega) (fun a ha=>by rw [hatb.1] at ha; obtain ⟨j,rfl⟩:=g0r ha; exact hb2B ix j) (fun a ha=>by rw [hatb.2] at ha; obtain ⟨j,rfl⟩:=g0r ha; exact hb2B p j) oM
       rw [hMk.1] at hb4
       have hs1:=f0m hMk (hMk.take (q:=ent m2 ix c) hixn hpn)
       have hs2:=f0m hBk (hBk.take (q:=ent m2 ix c) hixn hpn)
       skip
       refine X1 (D0b (nsw (Y1 ag73 rF rF L) t1 t1 ?_))
       refine nsw (j0d (vs:=[]) (us:=[_,_,_]) rfl rfl L) t3 t0 (nsI hG hX hN [] ([(999,_),(1,_),(3,_),(4,_),(5,_)]++(tlP t.pv (Z3 s (Z7 mk ix p (ent m2 ix c)) (Z7 bk ix p (ent m2 ix c))))) hb4 L (C4 (ys:=[_,_]) cl92 rfl rfl) t2 (by exact V1s (pre:=[_,_,_,_,_,_,_]) (pre':=[_,_,_,_,_]) (bx:=[bxI 5 p,bxI 10 ix,bxQ 11 (ent m2 ix c),wV cols m.length (bv s m.length)]) hs1 hs2 rfl t4 t5 (by cases s <;> rfl) (by simp [i0]) trivial) (fun q h=>by cases h) rfl ?_)
       refine .nil ?_
       exact ⟨rfl,rfl,rfl,rfl,rfl,rfl,hbT [_,_,_,_,_] B3 rfl⟩
     ·show l4 _ _ _ ⟨_,bx3 p c++(bxs s cols m.length c p q2++tlP t.pv (Z3 s (I6 m2 m2 p c N) (I6 m2 b2 p c N)))⟩ _
      obtain ⟨mN,hmN⟩:∃ mN,mN=I6 m2 m2 p c N:=⟨_,rfl⟩
      obtain ⟨bN,hbN⟩:∃ bN,bN=I6 m2 b2 p c N:=⟨_,rfl⟩
      have hst3:ech m b (c+1)=⟨mN,bN,t.pv++[c],q2⟩:=by rw [hst,hst2,n0n,n0n,← hN2,hmN,hbN]
      rw [← hmN,← hbN]
      skip
      refine y3 (mV L rfl (sw (Y1 ag3 rF rF L) t1 t1 ?_))
      refine sw (F4 (vs:=[_]) un27 ti3 rfl rfl dC dC rfl (M2 (.cons rfl .nil) rfl) rfl (.cons rfl (.atom rfl) rfl pu1 .nil) (.cons .nil) L) t1 t0 (swA (H0n (k:=1003) un27 un27 ti3 rfl rfl rfl (by first | (simp [Tryz.t3]; done) | (simp [Tryz.t3]; omega)) sO hpin3 L) t2 ((G1q [_,_,_,_,_,_,_,_] rfl dC)) (V1q (pre:=[_,_,_,_,_,_,_,_]) rfl (fun e=>by rw [e]; simp [F3,X2,Cells.free,PV.freeL,PV.free,Z6])) ?_)
      refine aV L rfl ?_
      refine O1 (show l4 _ _ _ _ _ from exw (sl:=[(1,_),(2,pvV 1003 (Z6 (t.pv++[c]))),(3,_),(4,_)]) (hb:=(1,_) :: (3,_) :: (4,_) :: (999,_) :: ((tlP (t.pv++[c]) (Z3 s mN bN)))) ⟨rfl,(by rw [W0m]; rfl),rfl,rfl,trivial⟩ ⟨(b1d (pre:=[_,_,_,_,_,_,_,_]) dC rfl),(b1d (pre:=[_,_,_,_,_,_,_,_]) dC rfl),(b1d (pre:=[_,_,_,_,_,_,_,_]) dC rfl),(b1d (pre:=[_,_,_,_,_,_,_,_]) dC rfl),(W1h (pre:=[_,_,_,_,_,_,_,_]) rfl)⟩ ?_)
      refine R1 (exr (sw (Y1 ag3 rF rF L) t1 t1 ?_))
      refine O1 ⟨[(1,_),(2,_),(3,_),(83,_)],(1,_) :: (3,_) :: (999,_) :: ((tlP (t.pv++[c]) (Z3 s mN bN))),t4,⟨rfl,rfl,rfl,(hbT [_,_,_,_] (B3 (pv:=t.pv++[c]) (s:=s) (m:=mN) (b:=bN)) rfl)⟩,?_⟩
      refine y3 (swb (T3 (k:=4) (n:=1) zv3 (.cons rfl .nil) rfl (P0 _ rfl) L) t0 t0 (frT [_,_,_] (B3 (pv:=t.pv++[c]) (s:=s) (m:=mN) (b:=bN)) rfl rfl (by simp [F3,X2,Cells.free,PV.freeL,PV.free,X3,i3])) ?_)
      refine sb (U2 sz3 rF (.atom rfl) rfl pu1) t2 t1 ?_
      refine O1 (show l4 _ _ _ _ _ from exw (sl:=[(1,_),(2,_),(3,_),(4,_)]) (hb:=(1,_) :: (3,_) :: (4,_) :: (999,_) :: ((tlP (t.pv++[c]) (Z3 s mN bN)))) t4 ⟨rfl,rfl,rfl,rfl,(hbT [_,_,_,_,_] (B3 (pv:=t.pv++[c]) (s:=s) (m:=mN) (b:=bN)) rfl)⟩ ?_)
      refine y3 (sw (Y1 ag3 rF rF L) t1 t1 ?_)
      refine sw (K3 L (w64 oM oM)) t2 t0 (sb (U2 sz3 rF (.atom rfl) rfl pu1) t2 t1 ?_)
      refine O1 ?_
      exact ⟨(c+1,⟨mN,bN,t.pv++[c],q2⟩),⟨by simp only; omega,hst3.symm⟩,(by simp only; omega),E3 ⟨oR,rfl,rfl,rfl,trivial⟩ ⟨rfl,rfl,rfl,rfl,(hbT [_,_,_,_,_] (B3 (pv:=t.pv++[c]) (s:=s) (m:=mN) (b:=bN)) rfl)⟩⟩
  ·have hp:=df hp
   rw [m8] at hp
   have hfin:ech m b cols=t:=by
    have:=Q0h (m:=m) (b:=b) (c:=c) (by rw [← hs]; omega) (cols - c)
    rw [show c+(cols - c)=cols by omega,← hs] at this; exact this
   rw [hfin]
   refine L2 (xq ?_)
   refine exd rF ?_
   refine mV L rfl (lp4 ag47 sz47 L rfl rfl (aV L rfl (sb (U2 sz47 rF pa4 rfl pu4) t2 t1 ?_)))
   refine O1 ⟨h0g [⟨[2],[],[84],[]⟩,⟨[3],[3],[85],[]⟩,⟨[84],[],[2],[]⟩,⟨[3,85],[3],[],[3]⟩] (.cons (cf0 rfl) (.cons (cf0 rfl) (.cons (cf0 rfl) (.cons (cf0 rfl)  .nil)))) rfl (frS [] [_,_,_,_] (B3 (pv:=t.pv) (s:=s) (m:=t.m) (b:=t.b)) rfl (by simp [F3,X2,Cells.free,PV.freeL,PV.free,X3,i3])) dC,[(2,_),(3,_)],(3,_) :: (999,_) :: ((tlP t.pv (Z3 s t.m t.b))),t2,⟨rfl,rfl,(hbT [_,_,_,_,_] (B3 (pv:=t.pv) (s:=s) (m:=t.m) (b:=t.b)) rfl)⟩,?_⟩
   refine G4 [1003] (sl:=[(2,.p (.sl t.pv.length (Z6 t.pv))),(3,.at_ 3 0 4)]) (hb:=[(3,bQ t.det),wV cols m.length (bv s m.length)]++Z3 s t.m t.b) (g0c (by simp [hlo])) ⟨⟨_,rfl,Q1d (pre:=[_,_]) rfl⟩,⟨_,rfl,.same⟩,trivial⟩ (P1v (pre:=[_,_]) rfl t2 rfl) ?_
   refine V1 ?_
   exact ⟨.inr rfl,.cons (.tmp rfl) (.cons (.agg rfl rfl rfl ag47 sz47 (.cons (.cons (.cons (.cons .nil))))) .nil),rfl,hbT [_,_] (L7 s t.m t.b) rfl⟩
 ·refine R1 (exd rF ?_)
  refine sw (Y1 ag3 rF rF L) t1 t1 ?_
  refine sw (Y1 ag73 rF rF L) t1 t1 ?_
  refine sw (Z2 rX L) t1 t1 ?_
  refine sw (Z1 un79 rfl sz3 dC rX L) t1 t1 ?_
  refine sw (Y1 ag3 rF rF L) t1 t1 ?_
  refine sw (d4 L) t2 t0 (mV L rfl (swn (g:=19) rfl sO L rfl (swn (g:=19) rfl sO L rfl (swn (g:=19) rfl sO L rfl (swn (g:=19) rfl sO L rfl (swn (g:=19) rfl sO L rfl (swn (g:=19) rfl sO L rfl (swn (g:=19) rfl sO L rfl (swn (g:=19) rfl sO L rfl (sw (V3 sO L) t2 t0 ?_))))))))))
  refine O1 ⟨h0g [⟨[4],[4],[13],[]⟩,⟨[1],[1],[14],[]⟩,⟨[14],[999],[15],[]⟩,⟨[15],[999],[16],[]⟩,⟨[16],[999],[17],[]⟩,⟨[13,17],[],[18],[]⟩,⟨[18],[],[19],[]⟩,⟨[19],[],[20],[]⟩,⟨[19],[],[21],[]⟩,⟨[19],[],[22],[]⟩,⟨[19],[],[23],[]⟩,⟨[19],[],[24],[]⟩,⟨[19],[],[25],[]⟩,⟨[19],[],[26],[]⟩,⟨[19],[],[27],[]⟩,⟨[19],[],[28],[]⟩] (.cons (cf0 rfl) (.cons (cf0 rfl) (.cons (cf0 rfl) (.cons (cf0 rfl) (.cons (cf0 rfl) (.cons (cf0 rfl) (.cons (cf0 rfl) (.cons (cf0 rfl) (.cons (cf0 rfl) (.cons (cf0 rfl) (.cons (cf0 rfl) (.cons (cf0 rfl) (.cons (cf0 rfl) (.cons (cf0 rfl) (.cons (cf0 rfl) (.cons (cf0 rfl)  .nil)))))))))))))))) rfl (frS [] [_,_,_,_] (B3 (pv:=t.pv) (s:=s) (m:=t.m) (b:=t.b)) rfl (by simp [F3,X2,Cells.free,PV.freeL,PV.free,X3,i3])) dC,[(1,_),(2,_),(3,_),(4,_),(28,_)],(1,_) :: (3,_) :: (4,_) :: (999,_) :: ((tlP t.pv (Z3 s t.m t.b))),t5,⟨rfl,rfl,rfl,rfl,(hbT [_,_,_,_] (B3 (pv:=t.pv) (s:=s) (m:=t.m) (b:=t.b)) rfl)⟩,?_⟩
  refine W3 rfl rfl ?_
  have hfin:ech m b cols=t:=by rw [hs,show c=cols by omega]
  rw [hfin]
  refine L2 (xq ?_)
  refine exd rF ?_
  refine mV L rfl (lp4 ag47 sz47 L rfl rfl (aV L rfl (sb (U2 sz47 rF pa4 rfl pu4) t2 t1 ?_)))
  refine O1 ⟨h0g [⟨[2],[],[84],[]⟩,⟨[3],[3],[85],[]⟩,⟨[84],[],[2],[]⟩,⟨[3,85],[3],[],[3]⟩] (.cons (cf0 rfl) (.cons (cf0 rfl) (.cons (cf0 rfl) (.cons (cf0 rfl)  .nil)))) rfl (frS [] [_,_,_,_] (B3 (pv:=t.pv) (s:=s) (m:=t.m) (b:=t.b)) rfl (by simp [F3,X2,Cells.free,PV.freeL,PV.free,X3,i3])) dC,[(2,_),(3,_)],(3,_) :: (999,_) :: ((tlP t.pv (Z3 s t.m t.b))),t2,⟨rfl,rfl,(hbT [_,_,_,_,_] (B3 (pv:=t.pv) (s:=s) (m:=t.m) (b:=t.b)) rfl)⟩,?_⟩
  refine G4 [1003] (sl:=[(2,.p (.sl t.pv.length (Z6 t.pv))),(3,.at_ 3 0 4)]) (hb:=[(3,bQ t.det),wV cols m.length (bv s m.length)]++Z3 s t.m t.b) (g0c (by simp [hlo])) ⟨⟨_,rfl,Q1d (pre:=[_,_]) rfl⟩,⟨_,rfl,.same⟩,trivial⟩ (P1v (pre:=[_,_]) rfl t2 rfl) ?_
  refine V1 ?_
  exact ⟨.inr rfl,.cons (.tmp rfl) (.cons (.agg rfl rfl rfl ag47 sz47 (.cons (.cons (.cons (.cons .nil))))) .nil),rfl,hbT [_,_] (L7 s t.m t.b) rfl⟩
end Go.Proofs.YtjagfionflbjbaaGreat.N
set_option maxRecDepth 100000
set_option maxHeartbeats 4000000
namespace Go.Proofs.YtjagfionflbjbaaGreat.SH
open Go Go.RowKit
def rvV (k:Nat):List PV→PV
 | []=>.p (.a (.slice none 0 0))
 | _ :: v=>.ref k 0 (v.length+1) (v.length+1)
def rvB (k:Nat)(e:TypeId):List PV→List (Nat×Blk)
 | []=>[]
 | a :: v=>[(k,⟨e,1,.mix (a :: v)⟩)]
def rvF (k:Nat):List PV→Option Nat
 | []=>some k
 | _ :: _=>none
section
variable {P:Program} {F:Fr} {d:Nat} {T:TypeId} {pos:String} {aft:Array Edge} {g:Option (Nat×Bool)} {t tx:TypeId}
theorem k1v {x y:Operand}{k j:Nat}{e:TypeId}{ie:TypeInfo}{z:Value}{cs:List PV}{u:PV}(hu:P.underlying t=some (.slice e))(hux:P.underlying tx=some (.slice e))(hi:∀ w,(typeInfo e).run P w = .ok ie w)(hz:ie.zero=some z)(hsz:ie.size=1)
  (hzl:z.cells.size=1) (hf:u.free k=true) (hby:2*(cs.length+1)*ie.bytes≤281474976710656) (h63:cs.length+1≤9223372036854775807) (hpk:F.pin k=none) (hlt:d<F.nt) :
  O2 P F ⟨some d,.call ⟨.builtin .append,#[x,y],#[t,tx]⟩,T,pos,aft,g⟩ ⟨[(x,rvV k cs),(y,.ref j 0 1 1)],rvB k e cs++[(j,⟨e,1,.mix [u]⟩)],rvF k cs,[(d,rvV k (cs++[u]))],rvB k e (cs++[u])⟩:=by
 cases cs with
 | nil=>exact K0x (k:=k) (m:=1) (us:=[u]) hu hi hz hsz hzl oM (K1b hux rfl rfl rfl) rfl (.inr rfl) (by simp [PV.freeL,hf]) rfl (by simpa using hby) oM hpk hlt
 | cons a v =>
  have:=y0z (P:=P) (F:=F) (d:=d) (T:=T) (pos:=pos) (aft:=aft) (g:=g) (t:=t) (tx:=tx) (x:=x) (y:=y) (k:=k) (n:=v.length+1) (m:=1) (sz:=1) (cs:=.mix (a :: v)) (us:=[u]) hu hi hz hsz hzl oM rfl sM (K1b (B:=⟨e,1,.mix [u]⟩) (k:=j) (o:=0) hux rfl rfl rfl) rfl .mix rfl (by simpa using hby) (by simpa using h63) hpk hlt
  simpa [rvV,rvB,rvF] using this
theorem m1r {x y:Operand}{k j:Nat}{e:TypeId}{ie:TypeInfo}{z:Value}{cs:List PV}{u:PV}(hu:P.underlying t=some (.slice e))(hux:P.underlying tx=some (.slice e))(hi:∀ w,(typeInfo e).run P w = .ok ie w)(hz:ie.zero=some z)(hsz:ie.size=1)
  (hzl:z.cells.size=1) (hf:u.free k=true) (hby:2*(cs.length+1)*ie.bytes≤281474976710656) (h63:cs.length+1≤9223372036854775807) (hpk:F.pin k=none) (hlt:d<F.nt) :
  O2 P F ⟨some d,.call ⟨.builtin .append,#[x,y],#[t,tx]⟩,T,pos,aft,g⟩ ⟨[(x,rvV k cs),(y,.ref j 0 1 1)],rvB k e cs++[(j,⟨e,1,.mix [u]⟩)],rvF k cs,[(d,.ref k 0 (cs.length+1) (cs.length+1))],[(k,⟨e,1,.mix (cs++[u])⟩)]⟩:=by
 have:=k1v (P:=P) (F:=F) (d:=d) (T:=T) (pos:=pos) (aft:=aft) (g:=g) (x:=x) (y:=y) (j:=j) hu hux hi hz hsz hzl hf hby h63 hpk hlt
 cases cs <;> simpa [rvV,rvB] using this
end
theorem j0f {k q:Nat}{cs:List PV}(h:k≠q):(rvV k cs).free q=true:=by cases cs <;> simp [rvV,PV.free,h]
theorem p1b {k q:Nat}{e:TypeId}{cs:List PV}(h:PV.freeL q cs=true):X2 q (rvB k e cs)=true:=by
 cases cs with
 | nil=>rfl
 | cons a v=>simp only [rvB,X2,Cells.free,h]; rfl
theorem F1b {k:Nat}{e:TypeId}{cs:List PV}{u:PV}:rvB k e (cs++[u])=[(k,⟨e,1,.mix (cs++[u])⟩)]:=by cases cs <;> rfl
theorem F1z {k:Nat}{cs:List PV}{u:PV}:rvV k (cs++[u]) = .ref k 0 (cs.length+1) (cs.length+1):=by cases cs <;> simp [rvV]
end Go.Proofs.YtjagfionflbjbaaGreat.SH
namespace Go.Proofs.YtjagfionflbjbaaGreat.N
open Go Go.Proofs.YtjagfionflbjbaaGreat.SH Go.Proofs.YtjagfionflbjbaaGreat.NumA
theorem k0p {s:Nat}:∀ {i:Nat} {a:List (List Rat)} {v:List Rat},V4 s i (a++[v])=V4 s i a++[.ref (G3 s (i+a.length)) 0 v.length (v.length*4)]
 | i,[],v=>rfl
 | i,x :: a,v=>by simp only [L1,V4,k0p (i:=i+1) (a:=a),D1]; rw [show i+1+a.length=i+(a.length+1) by omega]
theorem v0n {s:Nat}:∀ {i:Nat} {a:List (List Rat)} {v:List Rat},U6 s i (a++[v])=U6 s i a++[(G3 s (i+a.length),q4 v)]
 | i,[],v=>rfl
 | i,x :: a,v=>by simp only [L1,U6,v0n (i:=i+1) (a:=a),D1]; rw [show i+1+a.length=i+(a.length+1) by omega]
def y0f (s:Nat)(m:List (List Rat)):List (Nat×Blk):=rvB (s+1001) 40 (V4 s 0 m)++U6 s 0 m
theorem q0x {s:Nat}{m:List (List Rat)}(h:0<m.length):y0f s m=I2 s m:=by
 cases m with
 | nil=>cases h
 | cons v m=>rfl
theorem H0y {s j:Nat}{m:List (List Rat)}(h2:s<9)(h:(y0f s m).lookup j≠none):j=s+1001∨∃ q,q<m.length∧j=G3 s q:=by
 cases m with
 | nil=>exact absurd rfl h
 | cons v m=>exact U5 h2 h
end Go.Proofs.YtjagfionflbjbaaGreat.N
namespace Go.Proofs.YtjagfionflbjbaaGreat.SH
open Go
end Go.Proofs.YtjagfionflbjbaaGreat.SH
namespace Go.Proofs.YtjagfionflbjbaaGreat.SH
open Go Go.RowKit
end Go.Proofs.YtjagfionflbjbaaGreat.SH
namespace Go.Proofs.YtjagfionflbjbaaGreat.SH
open Go Go.RowKit
end Go.Proofs.YtjagfionflbjbaaGreat.SH
namespace Go.Proofs.YtjagfionflbjbaaGreat.SH
open Go Go.RowKit
section
variable {P:Program} {F:Fr} {ops:Array Oper} {sl:List (Nat×PV)} {hb:List (Nat×Blk)} {op:Op} {T:TypeId} {pos:String} {aft:Array Edge} {os:List Oper} {dst:Option Nat} {rs:List (Operand×PV)} {rb:List (Nat×Blk)} {K:St→Prop}
end
end Go.Proofs.YtjagfionflbjbaaGreat.SH
namespace Go.Proofs.YtjagfionflbjbaaGreat.SH
open Go Go.RowKit
end Go.Proofs.YtjagfionflbjbaaGreat.SH
namespace Go.Proofs.YtjagfionflbjbaaGreat.SH
open Go Go.RowKit
end Go.Proofs.YtjagfionflbjbaaGreat.SH
namespace Go.Proofs.YtjagfionflbjbaaGreat.SH
open Go Go.RowKit
section
variable {P:Program} {F:Fr} {Q:Exit→St→Prop} {S:St}
end
section
variable {P:Program} {F:Fr} {d:Nat} {T:TypeId} {pos:String} {aft:Array Edge} {g:Option (Nat×Bool)} {x:Operand} {t xT yT:TypeId} {y:J2} {c:Value} {ms:Array (String×TypeId)} {fs:Array Field}
end
end Go.Proofs.YtjagfionflbjbaaGreat.SH
namespace Go.Proofs.YtjagfionflbjbaaGreat.SH
open Go Go.RowKit
end Go.Proofs.YtjagfionflbjbaaGreat.SH
namespace Go.Proofs.YtjagfionflbjbaaGreat.SH
open Go Go.RowKit
structure Mk (cf:Nat→Nat) (A:Ann) (f:List Nat×List Nat):Prop where
 fr:∀ k,A.fresh=some k→cf k∈f.1
 me:∀ k,A.free k=false→cf k∈f.2
inductive Mks (cf:Nat→Nat):List Ann→List (List Nat×List Nat)→Prop
 | nil:Mks cf [] []
 | cons {A:Ann} {f:List Nat×List Nat} {As:List Ann} {fs:List (List Nat×List Nat)}:Mk cf A f→Mks cf As fs→Mks cf (A :: As) (f :: fs)
theorem H1m {cf:Nat→Nat}{As:List Ann}{fs:List (List Nat×List Nat)}(h:Mks cf As fs):∀ (i:Nat) (A:Ann),As[i]? = some A→∃ f,fs[i]? = some f∧Mk cf A f:=by
 induction h with
 | nil=>intro i A h; simp at h
 | cons hc _ ih =>
  intro i A hA
  cases i with
  | zero =>
    obtain rfl := by simpa using hA
    exact ⟨_,rfl,hc⟩
  | succ i=>simpa using ih i A (by simpa using hA)
theorem F1w {cf:Nat→Nat}{As As':List Ann}{fs fs':List (List Nat×List Nat)}(h:Mks cf As fs)(h':Mks cf As' fs'):Mks cf (As++As') (fs++fs'):=by
 induction h with
 | nil=>exact h'
 | cons hc _ ih=>exact .cons hc ih
theorem n1g {cf:Nat→Nat}{A B:Ann}{a b:List Nat×List Nat}(hA:Mk cf A a)(hB:Mk cf B b)(h1:hit a.1 b.2=false)(h2:hit b.1 a.2=false):p0y A B=true:=by
 simp only [p0y,j0]
 constructor
 ·cases e:A.fresh with
  | none=>rfl
  | some k =>
   cases e2:B.free k with
   | true=>simp [e2]
   | false=>exact absurd (hB.me k e2) (o8.1 h1 _ (hA.fr k e))
 ·cases e:B.fresh with
  | none=>rfl
  | some k =>
   cases e2:A.free k with
   | true=>simp [e2]
   | false=>exact absurd (hA.me k e2) (o8.1 h2 _ (hB.fr k e))
def F1d:List Oper→List (List Nat×List Nat)→List Nat→List (List Nat×List Nat)→Bool
 | [],[],_,_=>true
 | o :: os,b :: fs,ms,done=>((List.range ms.length).all fun i=>(T8 ms o).testBit i || (done[i]?.all fun a=>!hit a.1 b.2 && !hit b.1 a.2)) && F1d os fs (ms++[T8 ms o]) (done++[b])
 | _,_,_,_=>false
theorem B0y {cf cg:Nat→Nat}:∀ (os:List Oper) (As:List Ann) (sks:List Sk) (fs:List (List Nat×List Nat)) (ms:List Nat) (done:List Ann) (dsk:List Sk) (dfs:List (List Nat×List Nat)),R9 cf As sks→R9 cf done dsk→Mks cg As fs→Mks cg done dfs→done.length=ms.length→F1d os fs ms dfs=true→b8 os sks ms dsk=true→W7 os As ms done=true
 | [],[],_,_,_,_,_,_,_,_,_,_,_,_,_=>rfl
 | [],_ :: _,_ :: _,_,_,_,_,_,_,_,_,_,_,_,hh=>by simp [b8] at hh
 | _ :: _,[],[],_,_,_,_,_,_,_,_,_,_,_,hh=>by simp [b8] at hh
 | _ :: _,_ :: _,[],_,_,_,_,_,h,_,_,_,_,_,_=>by cases h
 | _,[],_ :: _,_,_,_,_,_,h,_,_,_,_,_,_=>by cases h
 | [],_ :: _,[],_,_,_,_,_,h,_,_,_,_,_,_=>by cases h
 | _,_ :: _,_,[],_,_,_,_,_,_,h,_,_,_,_=>by cases h
 | o :: os,B :: As,b :: sks,f :: fs,ms,done,dsk,dfs,h,h',g,g',hl,hf,hh=>by
  cases h with
  | cons hB hAs =>
   cases g with
   | cons gB gAs =>
    simp only [b8,j0] at hh
    simp only [F1d,j0] at hf
    obtain ⟨⟨h1,h2⟩,h3⟩:=hh
    simp only [W7,j0]
    refine ⟨⟨h1,?_⟩,B0y os As sks fs _ _ _ _ hAs (J0b h' (.cons hB .nil)) gAs (F1w g' (.cons gB .nil)) (by simp [hl]) hf.2 h3⟩
    rw [s0] at h2 ⊢
    intro i hi
    have hi':i<done.length:=by simpa using hi
    have:=h2 i (by simpa [← hl] using hi')
    have h5:=s0.1 hf.1 i (by simpa [← hl] using hi')
    rw [Bool.or_eq_true] at this h5 ⊢
    rcases this with h | h
    ·exact .inl h
    rcases h5 with h5 | h5
    ·exact .inl h5
    ·refine .inr ?_
     obtain ⟨A,hA⟩:∃ A,done[i]? = some A:=⟨done[i],by simp [hi']⟩
     obtain ⟨sk,hs,hc⟩:=K0n h' i A hA
     obtain ⟨fk,hfs,hfc⟩:=H1m g' i A hA
     rw [hs] at h
     rw [hfs] at h5
     rw [hA]
     simp only [Option.all_some,j0,Bool.not_eq_true'] at h5
     exact D0f hc hB (n1g hfc gB h5.1 h5.2) h
theorem W1m (cf cg:Nat→Nat){os:List Oper}{As:List Ann}{S:St}(sks:List Sk)(fs:List (List Nat×List Nat))(h1:R9 cf As sks)(g1:Mks cg As fs)(hS:∀ k∈i7 As,S.free k=true)(h2:b8 os sks [] []=true)(h3:F1d os fs [] []=true):(W7 os As [] [] && b6 S As)=true:=by
 rw [B0y os As sks fs [] [] [] [] h1 .nil g1 .nil rfl h3 h2,b0d hS]; rfl
theorem h0h {E:Env}{st:Nat→Bool}{f:FuncId}{xs:List J2}{r:J2}(h:I4 E st f (xs.map .p) [] [] (.p r)):Y2 E f xs r:=by
 intro ok w vals hG hrel
 have hv:∀ (xs:List J2) (vals:List Value),K5 ok (hp w) xs vals→D3 (lk []) (fun j=>j) ok (hp w) (xs.map .p) vals:=by
  intro xs
  induction xs with
  | nil=>intro vals h; simpa [K5,D3] using h
  | cons x xs ih =>
   intro vals h
   simp only [K5] at h
   simp only [R0,D3]
   obtain ⟨v,r,h1,h2,h3⟩:=h
   exact ⟨v,r,h1,by simpa [K2] using h2,ih _ h3⟩
 refine Calls.mono (h ok (fun j=>j) w vals hG (fun j B hj=>by cases hj) (fun j j' hj=>absurd rfl hj) (hv xs vals hrel)) fun e w' ⟨v,ρ',he,hp⟩=>?_
 refine ⟨v,he,?_,⟨hp.os,hp.tape,hp.output,hp.size,fun b hb=>hp.frame b hb fun j hj=>absurd rfl hj⟩⟩
 have:=hp.res
 simp only [K2] at this
 exact Rel.mono (fun b hb _=>⟨hb.1,rfl⟩) _ _ this
end Go.Proofs.YtjagfionflbjbaaGreat.SH
set_option maxRecDepth 100000
set_option maxHeartbeats 4000000
namespace Go.Proofs.YtjagfionflbjbaaGreat.N
open Go Go.Proofs.YtjagfionflbjbaaGreat.SH Go.Proofs.YtjagfionflbjbaaGreat.NumA
open Go.Proofs.Tryz renaming call89→cl89,isAgg22→ag22,isAgg3→ag3,isAgg40→ag40,isAgg77→ag77,sizeOf22→sz22,sizeOf3→sz3,sizeOf40→sz40,sizeOf77→sz77,typeInfo40→ti40,underlying22→un22,underlying24→un24,underlying77→un77,underlying79→un79,zeroValue79→zv79
theorem G1v {s:Bool}{n:Nat}:P6 (bv s n) [bv s n]:=by
 cases s
 ·exact .atom rfl
 ·exact .ref
theorem w5 (s:Bool)(b:List (List Rat)):R5 (bsT s b):=by
 cases s
 ·exact ⟨fun _ _=>rfl,List.nodup_nil,fun _ _=>rfl,fun j B hj=>by cases hj⟩
 ·exact i2 dC b
@[reducible] def wU (c:Nat)(m:List (List Rat))(v:PV):Nat×Blk:=(999,⟨79,3,.mix [rvV 1001 (V4 0 0 m),.p (vZ c),v]⟩)
def i5 (s:Bool)(m b:List (List Rat)):List (Nat×Blk):=y0f 0 m++bsT s b
theorem N0v {s:Bool}{m b:List (List Rat)}(h:0<m.length):i5 s m b=Z3 s m b:=by rw [i5,q0x h]; rfl
theorem V1g {c:Nat}{m:List (List Rat)}{v:PV}(h:0<m.length):wU c m v=wV c m.length v:=by
 cases m with
 | nil=>cases h
 | cons r m=>simp [wU,wV,rvV,V4]
theorem f6 (s:Bool)(m b:List (List Rat)):R5 (i5 s m b):=by
 cases m with
 | nil=>exact w5 s b
 | cons r m=>rw [N0v sM]; exact L7 s _ b
theorem B1d {s:Bool}{b:List (List Rat)}{k:Nat}(h:(bsT s b).lookup k≠none):k=1002∨∃ q,k=G3 1 q:=by
 cases s
 ·exact absurd rfl h
 ·rcases U5 dC h with h | ⟨q,_,h⟩
  ·exact .inl h
  ·exact .inr ⟨q,h⟩
theorem N0b {s:Bool}{b:List (List Rat)}{k:Nat}(h1:k≠1002)(h2:∀ q,k≠G3 1 q):(bsT s b).lookup k=none:=by
 cases e:(bsT s b).lookup k with
 | none=>rfl
 | some B =>
  rcases B1d (show (bsT s b).lookup k≠none by rw [e]; simp) with h | ⟨q,h⟩
  ·exact absurd h h1
  ·exact absurd h (h2 q)
theorem B1p {s:Bool}{b:List (List Rat)}{k:Nat}(h:∀ q,k≠G3 1 q):X2 k (bsT s b)=true:=by
 cases s
 ·rfl
 ·have hr:∀ (i:Nat) (m:List (List Rat)),PV.freeL k (V4 1 i m)=true:=by
   intro i m
   induction m generalizing i with
   | nil=>rfl
   | cons v m ih=>simp only [V4,PV.freeL,PV.free,ih,Bool.and_true,bne_iff_ne]; exact fun e=>h i e.symm
  simp only [bsT,if_true,I2,X2,Cells.free,hr,d0y,Bool.and_self]
theorem m0x {k:Nat}:∀ {i:Nat} {m:List (List Rat)},(∀ q,q<i+m.length→k≠G3 0 q)→PV.freeL k (V4 0 i m)=true
 | _,[],_=>rfl
 | i,v :: m,h=>by
  simp only [V4,PV.freeL,PV.free,j0,bne_iff_ne]
  exact ⟨fun e=>h i sM e.symm,m0x fun q hq=>h q sO⟩
theorem q0z {s:Bool}{m b:List (List Rat)}{k:Nat}(h1:∀ q,q<m.length→k≠G3 0 q)(h2:∀ q,k≠G3 1 q):X2 k (i5 s m b)=true:=by
 rw [i5,y0f,R4,R4,B1p h2,d0y,p1b (m0x (by simpa using h1))]; rfl
theorem W0h {s:Bool}{m b:List (List Rat)}{k:Nat}(h1:∀ q,q<m.length→k≠G3 0 q)(h2:∀ q,k≠G3 1 q)(h3:k=1001→m=[])(h4:k≠1002):(i5 s m b).lookup k=none:=by
 rw [i5,T1,N0b h4 h2,Option.or_none]
 cases e:(y0f 0 m).lookup k with
 | none=>rfl
 | some B =>
  rcases H0y dC (show (y0f 0 m).lookup k≠none by rw [e]; simp) with h | ⟨q,hq,h⟩
  ·rw [h3 h] at e; cases e
  ·exact absurd h (h1 q hq)
theorem d1q (i q:Nat):G3 0 i≠G3 1 q:=by unfold G3; omega
theorem y0h {i q:Nat}(h:q<i):G3 0 i≠G3 0 q:=by unfold G3; omega
theorem g1g {k:Nat}{e:TypeId}{cs:List PV}{p:Nat×Blk}(h:p∈rvB k e cs):p.1=k:=by
 cases cs with
 | nil=>cases h
 | cons a l=>obtain rfl:=List.mem_singleton.1 h; rfl
theorem b1f {k q:Nat}{cs:List PV}(h:rvF k cs=some q):q=k∧cs=[]:=by
 cases cs with
 | nil=>injection h with h; exact ⟨h.symm,rfl⟩
 | cons a l=>cases h
theorem B0q {S:St}:∀ {a b:List (Nat×Blk)},J6 S a→J6 S b→J6 S (a++b)
 | [],_,_,h=>h
 | _ :: _,_,h,h'=>⟨h.1,B0q h.2 h'⟩
theorem K0w {k q:Nat}{cs:List PV}(h:(rvV k cs).free q=false):q=k:=by
 cases cs with
 | nil=>cases h
 | cons a l =>
  have h:(k != q)=false:=h
  exact (bne_eq_false_iff_eq.1 h).symm
def cgB (i k:Nat):Nat:=if k=G3 0 i then 2000 else if k<1003 then k else 1003
theorem h1g {i:Nat}:cgB i (G3 0 i)=2000:=by rw [cgB,if_pos rfl]
theorem j0a {i k:Nat}(h:k<1003):cgB i k=k:=by
 have h1:¬ k=G3 0 i:=by unfold G3; omega
 rw [cgB,if_neg h1,if_pos h]
theorem H1y {i q:Nat}:∀ {a:Nat} {m:List (List Rat)},PV.freeL q (V4 0 a m)=false→a+m.length≤i→cgB i q=1003
 | _,[],h,_=>by cases h
 | a,v :: m,h,hl=>by
  simp only [V4,PV.freeL,PV.free,Bool.and_eq_false_iff,bne_eq_false_iff_eq] at h
  simp only [D1] at hl
  rcases h with h | h
  ·subst h
   have h1:¬ G3 0 a=G3 0 i:=by unfold G3; omega
   have h2:¬ G3 0 a<1003:=by unfold G3; omega
   rw [cgB,if_neg h1,if_neg h2]
  ·exact H1y h oM
theorem m7 {k j:Nat}{B:Blk}{l:List (Nat×Blk)}(h:k≠j):List.lookup k ((j,B) :: l)=List.lookup k l:=by rw [i0,show (k == j)=false by simpa using h]
theorem M1v {s:Bool}{sl:List (Nat×PV)}{i:Nat}{m b:List (List Rat)}{v:List Rat}{X Y Z:Blk}(hm:m.length=i) :
  T5 ⟨sl,(999,X) :: ([(1001,⟨40,1,.mix (V4 0 0 m++[.ref (G3 0 i) 0 v.length (v.length*4)])⟩)]++(27,Y) :: (G3 0 i,q4 v) :: ([(999,Z)]++i5 s m b))⟩ (i5 s (m++[v]) b):=by
 have hr:∀ q j,G3 q j≠999∧G3 q j≠1001∧G3 q j≠27:=fun q j=>by unfold G3; omega
 refine y5 (f6 s (m++[v]) b).nd fun k B hk=>?_
 show List.lookup k _=some B
 rw [i5,y0f,k0p,F1b,v0n,hm] at hk
 simp only [L1,List.nil_append,List.append_assoc,F1] at hk ⊢
 by_cases e1:k=1001
 ·subst e1
  rw [m7 dC]
  rw [i0] at hk ⊢
  exact hk
 ·rw [m7 e1,T1] at hk
  have h999:k≠999:=by
   rintro rfl
   have h1:(U6 0 0 m).lookup 999=none:=n0m fun j _=>by have:=(hr 0 (0+j)).1; omega
   rw [h1,l0,m7 (Ne.symm (hr 0 i).1),N0b dC (fun q=>Ne.symm (hr 1 q).1)] at hk; cases hk
  have h27:k≠27:=by
   rintro rfl
   have h1:(U6 0 0 m).lookup 27=none:=n0m fun j _=>by have:=(hr 0 (0+j)).2.2; omega
   rw [h1,l0,m7 (Ne.symm (hr 0 i).2.2),N0b dC (fun q=>Ne.symm (hr 1 q).2.2)] at hk; cases hk
  rw [m7 h999,m7 e1,m7 h27]
  by_cases e2:k=G3 0 i
  ·subst e2
   have h1:(U6 0 0 m).lookup (G3 0 i)=none:=n0m fun j hj=>by rw [F1]; exact y0h oM
   rw [h1,l0,List.lookup_cons_self] at hk
   rw [List.lookup_cons_self]; exact hk
  ·rw [m7 e2,m7 h999,i5,y0f,T1,T1]
   have h2:(rvB (0+1001) 40 (V4 0 0 m)).lookup k=none:=by
    cases e:(rvB (0+1001) 40 (V4 0 0 m)).lookup k with
    | none=>rfl
    | some C=>exact absurd (g1g (O3 e)) oM
   rw [h2,l0]
   rw [m7 e2] at hk
   exact hk
theorem m1p {i d k o t:Nat}{rs:List (Operand×PV)}{rb:List (Nat×Blk)}(hk:k<1003):Mk (cgB i) ⟨rs,rb,none,[(d,.at_ k o t)],[]⟩ ([],[k]):=by
 refine ⟨fun q hq=>(by cases hq),fun q hq=>?_⟩
 simp only [Ann.free,F3,X2,PV.free,Bool.and_true,bne_eq_false_iff_eq] at hq
 subst hq
 rw [j0a hk]; simp
theorem W1d {i d:Nat}{rs:List (Operand×PV)}{rb:List (Nat×Blk)}{cs:List PV}:Mk (cgB i) ⟨rs,rb,none,[(d,rvV 1001 cs)],[]⟩ ([],[1001]):=by
 refine ⟨fun q hq=>(by cases hq),fun q hq=>?_⟩
 simp only [Ann.free,F3,X2,Bool.and_true] at hq
 rw [K0w hq,j0a dC]; simp
theorem mkP {i d:Nat}{rs:List (Operand×PV)}{rb:List (Nat×Blk)}{x:J2}:Mk (cgB i) ⟨rs,rb,none,[(d,.p x)],[]⟩ ([],[]):=by
 refine ⟨fun q hq=>(by cases hq),fun q hq=>?_⟩
 simp [Ann.free,F3,X2,PV.free] at hq
theorem mkN {i d n t:Nat}{rs:List (Operand×PV)}{rb:List (Nat×Blk)}{T:TypeId}{sz:Nat}{xs:List J2}:Mk (cgB i) ⟨rs,rb,some (G3 0 i),[(d,.ref (G3 0 i) 0 n t)],[(G3 0 i,⟨T,sz,.pure xs⟩)]⟩ ([2000],[2000]):=by
 refine ⟨fun q hq=>(by injection hq with hq; subst hq; rw [h1g]; simp),fun q hq=>?_⟩
 simp only [Ann.free,F3,X2,PV.free,Cells.free,Bool.and_true,bne_eq_false_iff_eq] at hq
 subst hq
 rw [h1g]; simp
theorem mkS {i d a n t a' n' t':Nat}{rs:List (Operand×PV)}{rb:List (Nat×Blk)}{T:TypeId}{sz:Nat}(ha:a<1000):Mk (cgB i) ⟨rs,rb,some a,[(d,.ref a 0 n t)],[(a,⟨T,sz,.mix [.ref (G3 0 i) a' n' t']⟩)]⟩ ([a],[a,2000]):=by
 refine ⟨fun q hq=>(by injection hq with hq; subst hq; rw [j0a oM]; simp),fun q hq=>?_⟩
 simp only [Ann.free,F3,X2,PV.free,PV.freeL,Cells.free,Bool.and_true,Bool.and_eq_false_iff,bne_eq_false_iff_eq] at hq
 rcases hq with hq | hq <;> subst hq
 ·rw [j0a oM]; simp
 ·rw [h1g]; simp
theorem mkH {i d n t n' t':Nat}{rs:List (Operand×PV)}{rb:List (Nat×Blk)}{T:TypeId}{sz:Nat}{m:List (List Rat)}(hm:m.length=i):Mk (cgB i) ⟨rs,rb,rvF 1001 (V4 0 0 m),[(d,.ref 1001 0 n t)],[(1001,⟨T,sz,.mix (V4 0 0 m++[.ref (G3 0 i) 0 n' t'])⟩)]⟩ ([1001],[1001,1003,2000]):=by
 have hap:∀ (q:Nat) (l r:List PV),PV.freeL q (l++r)=(PV.freeL q l && PV.freeL q r):=fun q l r=>by
  induction l with
  | nil=>rfl
  | cons x l ih=>simp [PV.freeL,ih,Bool.and_assoc]
 refine ⟨fun q hq=>(by rw [(b1f hq).1,j0a dC]; simp),fun q hq=>?_⟩
 simp only [Ann.free,F3,X2,PV.free,PV.freeL,Cells.free,hap,Bool.and_true,Bool.and_eq_false_iff,bne_eq_false_iff_eq] at hq
 rcases hq with hq | hq | hq
 ·subst hq; rw [j0a dC]; simp
 ·rw [H1y (i:=i) hq oM]; simp
 ·subst hq; rw [h1g]; simp
theorem mkW {i n t:Nat}{s:Bool}{c:J2}{rs:List (Operand×PV)}{rb:List (Nat×Blk)}{T:TypeId}{sz n':Nat}:Mk (cgB i) ⟨rs,rb,none,[],[(999,⟨T,sz,.mix [.ref 1001 0 n t,.p c,bv s n']⟩)]⟩ ([],[999,1001,1002]):=by
 refine ⟨fun q hq=>(by cases hq),fun q hq=>?_⟩
 simp only [Ann.free,F3,X2,PV.free,PV.freeL,Cells.free,Bool.and_true,Bool.true_and,Bool.and_eq_false_iff,bne_eq_false_iff_eq] at hq
 rcases hq with hq | hq
 ·subst hq; rw [j0a dC]; simp
 ·have:=PV.only_mem (H1f (s:=s) (n:=n')) hq
  simp only [List.mem_cons,List.not_mem_nil,or_false] at this
  rcases this with rfl | rfl | rfl <;> (rw [j0a dC]; simp)
theorem V1w {s:Bool}{sl:List (Nat×PV)}{pre:List (Nat×Blk)}{m b:List (List Rat)}(hp:∀ B,(1001,B) ∉ pre):J6 ⟨sl,pre++i5 s m b⟩ (rvB 1001 40 (V4 0 0 m)):=by
 cases m with
 | nil=>trivial
 | cons v m =>
  refine ⟨?_,trivial⟩
  show (pre++_).lookup 1001=_
  rw [T1]
  have:pre.lookup 1001=none:=by
   cases e:pre.lookup 1001 with
   | none=>rfl
   | some B=>exact absurd (O3 e) (hp B)
  rw [this,l0]; rfl
theorem m0n {M:List (List Rat)}{i:Nat}(h:i<M.length):M.take (i+1)=M.take i++[M.getD i []]:=by
 rw [I1]; congr 1; simp [f0,h]
theorem g0g (s:Bool)(n cols:Nat)(M b:List (List Rat))(hM:RC n cols M)(hn:n<1000)(hc:cols<1000):I4 E (fun _=>false) 50 [.p (.agg [vZ cols,.sl n (O5 M)]),bv s n] (bsT s b) ([wU cols M (bv s n)]++i5 s M b) (.at_ 999 0 3):=by
 refine q0h Tryz.func50 rfl Tryz.ntmps50 Tryz.results50 sM fun F G=>?_
 have L:=@lti _ _ G.nt
 have hG:=G.g
 have hX:=G.x
 have hN:=W5 hG
 have P0:∀ k,Nat.blt k 1000=true→F.pin k=none:=fun k hk=>G.p0 k ((w5 s b).low k hk)
 obtain ⟨rfl,hMc⟩:=hM
 refine exr (swb (R3 (k:=989) (n:=2) pa2 rfl rfl (P0 _ rfl) L) t1 t0 (frT [] (w5 s b) rfl rfl (by simp [F3,X2,Cells.free,PV.freeL,PV.free,X3,i3])) ?_)
 refine aV L rfl ?_
 refine O1 ⟨[(1,_),(2,_)],(989,_) :: ((bsT s b)),t2,⟨rfl,(hbT [_] (w5 s b) rfl)⟩,?_⟩
 refine exr (sw (Z1 un24 rfl sz3 dC rX L) t1 t1 ?_)
 refine sw (Y1 ag3 rF rF L) t1 t1 ?_
 refine mV L rfl (sw (b0r (vs:=[_,_]) un79 zv79 (.cons rfl (.cons rfl (.cons rfl .nil))) ((y2.cons sz77 (y2.cons sz3 (y2.cons sz77 y2.nil)))).to rfl (.cons rfl (.atom rfl) rfl (.skip pu1) (.cons rfl G1v rfl (.skip (.skip pu1)) .nil)) L) t2 t0 (swb (R3 (k:=999) (n:=3) .agg rfl (by simp [PV.freeL,PV.free]) (P0 _ rfl) L) t1 t0 (frT [_] (w5 s b) rfl rfl (by simp [F3,X2,Cells.free,PV.freeL,PV.free,X3,i3])) ?_))
 refine aV L rfl ?_
 refine O1 ⟨[(2,_),(5,_)],(989,_) :: (999,_) :: ((bsT s b)),t2,⟨rfl,rfl,(hbT [_,_] (w5 s b) rfl)⟩,?_⟩
 refine R1 (exr (sw (Z1 un24 rfl sz22 dC rX L) t1 t1 ?_))
 refine sw (Y1 ag22 rF rF L) t1 t1 ?_
 refine sw (R2 un22 L) t1 t0 (mV L rfl ?_)
 refine O1 ⟨[(5,_),(14,_),(15,_),(16,_)],(999,_) :: ((bsT s b)),t4,⟨rfl,(hbT [_,_] (w5 s b) rfl)⟩,?_⟩
 refine X1 ?_
 refine F0r (α:=Nat) (fun i=>[(16,vi (i:Int))]) (fun i=>[(999,(wU cols (M.take i) (bv s M.length)).2)]) (fun i=>(i5 s (M.take i) b)) (fun i=>i≤M.length) (fun i=>M.length - i) (0) (sl:=[(5,_),(14,_),(15,_)]) (hb:=[]) ?_ ⟨oR,rfl,rfl,rfl,trivial⟩ ⟨rfl,(hbT [_] (w5 s b) rfl)⟩ ?_
 ·exact Nat.zero_le _
 intro i hi
 refine exr (sw (d4 L) t2 t0 ?_)
 refine O1 ⟨[(5,_),(14,_),(15,_),(16,_),(17,_)],(999,_) :: ((i5 s (M.take i) b)),t5,⟨rfl,(hbT [_] (f6 s (M.take i) b) rfl)⟩,?_⟩
 refine R1 ?_
 refine D2 rfl (fun hc=>?_) (fun hc=>?_)
 ·have hc2:=dt hc
  have hil:i<M.length:=by omega
  refine U1 (xq ?_)
  refine R1 (X1 (exr (sw (ixJ un22 sz40 (j:=i) rO oM sM L) t2 t0 ?_)))
  refine sw (v4 ag40 (by rw [W9 hil]) L) t1 t0 ?_
  refine aV L rfl ?_
  refine O1 ⟨[(5,_),(7,_),(14,_),(15,_),(16,_)],(999,_) :: ((i5 s (M.take i) b)),t5,⟨rfl,(hbT [_] (f6 s (M.take i) b) rfl)⟩,?_⟩
  obtain ⟨v,hv⟩:∃ v,v=M.getD i []:=⟨_,rfl⟩
  obtain ⟨cs,hcs⟩:∃ cs,cs=V4 0 0 (M.take i):=⟨_,rfl⟩
  have hvl:v.length=cols:=by rw [hv]; exact hMc _ (k0h hil)
  have htl:(M.take i).length=i:=by rw [J0]; omega
  have hcl:cs.length=i:=by rw [hcs,E2,htl]
  have hts:=m0n hil
  rw [← hv] at hts ⊢
  have hcs2:V4 0 0 (M.take (i+1))=cs++[.ref (G3 0 i) 0 v.length (v.length*4)]:=by rw [hts,k0p,← hcs,htl,F1]
  have hp1:F.pin 1001=none:=G.ps _ rfl
  have hp2:F.pin (G3 0 i)=none:=G.ps _ rfl
  show l4 _ _ _ ⟨_,[(999,⟨79,3,.mix [rvV 1001 (V4 0 0 (M.take i)),.p (vZ cols),bv s M.length]⟩)]++i5 s (M.take i) b⟩ _
  rw [← hcs]
  have nf:∀ k,k<1001→X2 k (i5 s (M.take i) b)=true:=fun k hk=>q0z (fun q _=>by simp only [G3]; omega) (fun q=>by simp only [G3]; omega)
  have nfi:X2 (G3 0 i) (i5 s (M.take i) b)=true:=q0z (fun q hq=>y0h oM) (fun q=>d1q i q)
  have nli:(i5 s (M.take i) b).lookup (G3 0 i)=none:=W0h (fun q hq=>y0h oM) (fun q=>d1q i q) (fun h=>by simp only [G3] at h; omega) (by simp only [G3]; omega)
  have nf1:X2 1001 (i5 s (M.take i) b)=true:=q0z (fun q _=>by unfold G3; omega) (fun q=>by unfold G3; omega)
  have nl:∀ k,k<1000→(i5 s (M.take i) b).lookup k=none:=fun k hk=>(f6 s (M.take i) b).low k (by simpa [Nat.blt_eq] using hk)
  have h27:G3 0 i≠27∧G3 0 i≠999∧G3 0 i≠1001∧G3 0 i≠1002:=by simp only [G3]; omega
  refine m0v rF ?_
  refine mV L rfl (mV L rfl (sw (Z2 rX L) t1 t1 ?_))
  refine sw (Z1 un79 rfl sz77 dC rX L) t1 t1 ?_
  refine sw (Y1 ag77 rF rF L) t1 t1 ?_
  refine mV L rfl ?_
  refine swb (V0k (k:=G3 0 i) hG hX cl89 rfl hN (W0z v oM) hp2 L) t1 t0 ⟨?_,?_⟩ ?_
  ·show ([(999,_)]++i5 s (M.take i) b).lookup (G3 0 i)=none
   rw [T1,i0,show (G3 0 i == 999)=false by simpa using h27.2.1]; exact nli
  ·show (F3 (G3 0 i) _ && X2 (G3 0 i) ([(999,_)]++i5 s (M.take i) b))=true
   have hcf:PV.freeL (G3 0 i) cs=true:=by rw [hcs]; exact m0x fun q hq=>y0h oM
   rw [R4,nfi]
   simp [F3,X2,Cells.free,PV.freeL,PV.free,j0f (cs:=cs) (Ne.symm h27.2.2.1),P0g (s:=s) (n:=M.length) (Ne.symm h27.2.2.2),Ne.symm h27.2.1]
  refine swb (N1j (k:=27) (vs:=[_]) un77 ti40 rfl rfl dC dC rfl (M2 (.cons rfl .nil) rfl) rfl (.cons rfl .ref rfl pu1 .nil) rfl (by simp [PV.freeL,PV.free,h27.1]; rfl) (P0 _ rfl) L) t1 t0 ⟨?_,?_⟩ ?_
  ·show (List.lookup 27 ((G3 0 i,_) :: ([(999,_)]++i5 s (M.take i) b)))=none
   rw [i0,show (27 == G3 0 i)=false by simpa using Ne.symm h27.1,T1,i0]; exact nl 27 dC
  ·show (F3 27 _ && X2 27 ((G3 0 i,_) :: ([(999,_)]++i5 s (M.take i) b)))=true
   simp only [X2,R4,nf 27 dC]
   simp [F3,Cells.free,PV.freeL,PV.free,j0f (k:=1001) (q:=27) (cs:=cs) dC,h27.1]
  refine swA (m1r (k:=1001) (j:=27) (cs:=cs) (u:=.ref (G3 0 i) 0 v.length (v.length*4)) un77 un77 ti40 rfl rfl rfl (by simp [PV.free,h27.2.2.1]) (by simp [Tryz.t40]; omega) oM hp1 L) t2 ?_ ?_ ?_
  ·refine B0q ?_ t1
   rw [hcs]
   exact V1w (pre:=[_,_,_]) (fun B hB=>by simp [Ne.symm h27.2.2.1] at hB)
  ·cases hcs0:cs with
   | cons a l=>trivial
   | nil =>
    have hM0:M.take i=[]:=List.length_eq_zero_iff.1 (by rw [htl,← hcl,hcs0]; rfl)
    refine ⟨?_,?_⟩
    ·show (List.lookup 1001 ((27,_) :: (G3 0 i,_) :: ([(999,_)]++i5 s (M.take i) b)))=none
     rw [m7 dC,m7 (Ne.symm h27.2.2.1),T1,m7 dC]
     exact W0h (fun q _=>by unfold G3; omega) (fun q=>by unfold G3; omega) (fun _=>hM0) dC
    ·show (F3 1001 _ && X2 1001 ((27,_) :: (G3 0 i,_) :: ([(999,_)]++i5 s (M.take i) b)))=true
     simp only [X2,R4,nf1]
     simp [F3,Cells.free,PV.freeL,PV.free,rvV,h27.2.2.1,q1z]
  refine sw (Z2 rX L) t1 t1 ?_
  refine sw (Z1 un79 rfl sz77 dC rX L) t1 t1 ?_
  refine sb (U2 sz77 rF .ref rfl pu1) t2 t1 ?_
  refine O1 ⟨W1m cls (cgB i) [⟨[5],[],[20],[]⟩,⟨[5],[],[21],[]⟩,⟨[21],[999],[22],[]⟩,⟨[22],[999],[23],[]⟩,⟨[23],[999],[24],[]⟩,⟨[7],[],[25],[]⟩,⟨[25],[],[26],[1000]⟩,⟨[26],[],[27],[27]⟩,⟨[24,27],[1000,27],[28],[1000]⟩,⟨[20],[999],[29],[]⟩,⟨[29],[999],[30],[]⟩,⟨[30,28],[999],[],[999]⟩] [([],[999]),([],[999]),([],[999]),([],[999]),([],[1001]),([],[]),([2000],[2000]),([27],[27,2000]),([1001],[1001,1003,2000]),([],[999]),([],[999]),([],[999,1001,1002])] (.cons (cf0 rfl) (.cons (cf0 rfl) (.cons (cf0 rfl) (.cons (cf0 rfl) (.cons (cf0 rfl) (.cons (cf0 rfl) (.cons ?_ (.cons (cf0 rfl) (.cons ?_ (.cons (cf0 rfl) (.cons (cf0 rfl) (.cons (cf0 rfl) .nil)))))))))))) (.cons ?_ (.cons ?_ (.cons ?_ (.cons ?_ (.cons ?_ (.cons ?_ (.cons ?_ (.cons ?_ (.cons ?_ (.cons ?_ (.cons ?_ (.cons ?_ .nil)))))))))))) ?_ dC dC,(show l4 _ _ _ _ _ from exw (sl:=[(5,_),(14,_),(15,_),(16,_)]) (hb:=(wU cols (M.take (i+1)) (bv s M.length)) :: (i5 s (M.take (i+1)) b)) t4 ⟨?_,?_⟩ ?_)⟩
  ·exact ⟨fun k hk=>(by injection hk with hk; subst hk; simp),rfl,fun _ h=>(by cases h),rfl,P8 (E5 0 i)⟩
  ·refine ⟨fun k hk=>by rw [(b1f hk).1]; rfl,rfl,fun p hp=>?_,rfl,P8 dC⟩
   rcases List.mem_append.1 hp with hp | hp
   ·rw [g1g hp]; decide
   ·obtain rfl:=List.mem_singleton.1 hp
    show cls 27∈[1000,27]
    decide
  ·exact m1p dC
  ·exact m1p dC
  ·exact m1p dC
  ·exact m1p dC
  ·exact W1d
  ·exact mkP
  ·exact mkN
  ·exact mkS dC
  ·rw [hcs]; exact mkH htl
  ·exact m1p dC
  ·exact m1p dC
  ·exact mkW
  ·intro k hk
   show (F3 k _ && X2 k ([(999,_)]++i5 s (M.take i) b))=true
   simp only [i7,Option.toList_none,Option.toList_some,List.nil_append,List.append_nil,List.mem_append,List.mem_singleton,Option.mem_toList] at hk
   rw [R4]
   rcases hk with rfl | rfl | hk
   ·rw [nfi]; simp [F3,X2,Cells.free,PV.freeL,PV.free,j0f (cs:=cs) (Ne.symm h27.2.2.1),P0g (s:=s) (n:=M.length) (Ne.symm h27.2.2.2),Ne.symm h27.2.1]
   ·rw [nf 27 dC]; simp [F3,X2,Cells.free,PV.freeL,PV.free,j0f (k:=1001) (q:=27) (cs:=cs) dC]
   ·obtain ⟨rfl,h0⟩:=b1f hk
    rw [nf1,h0]; simp [F3,X2,Cells.free,PV.freeL,PV.free,rvV]
  ·rw [hcs2,F1z]; rfl
  ·rw [hts,hcs]; exact M1v htl
  refine y3 (sw (K3 L (w64 oM oM)) t2 t0 (mV L rfl (O1 ?_)))
  exact ⟨i+1,oM,by omega,E3 ⟨oR,rfl,rfl,rfl,trivial⟩ ⟨rfl,(hbT [_] (f6 s (M.take (i+1)) b) rfl)⟩⟩
 ·have hc2:=df hc
  have e:i=M.length:=by omega
  subst e
  rw [I0]
  refine L2 (xq ?_)
  refine exr (mV L rfl (aV L rfl ?_))
  refine O1 ⟨[(4,_)],(999,_) :: ((i5 s M b)),t1,⟨rfl,(hbT [_] (f6 s M b) rfl)⟩,?_⟩
  refine V1 ?_
  refine ⟨.inr rfl,rfl,⟨rfl,hbT [_] (f6 s M b) rfl⟩⟩
end Go.Proofs.YtjagfionflbjbaaGreat.N
