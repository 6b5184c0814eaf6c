/- Part D of the proof: lemmas for the walks of the given functions. No statement of its own. -/
import Derived.Laws.Cover3
import Derived.RecoverIn
import Derived.LaidEql
import Derived.Test.YtjagfionflbjbaaGreatPC
set_option linter.unusedVariables false
set_option linter.unusedSimpArgs false
set_option linter.deprecated false
namespace Go.Proofs.YtjagfionflbjbaaGreat.SH
open Go Go.RowKit
structure Q0h (cf:Nat→Nat) (A:Ann) (sk:Sk):Prop where
 fresh:∀ k,A.fresh=some k→A.wb.any (fun p=>p.1 == k)=true
 rs:G7 A.rs=sk.rs
 rb:∀ p∈A.rb,cf p.1∈sk.rb
 ws:A.ws.map (·.1)=sk.ws
 wb:∀ p∈A.wb,cf p.1∈sk.wb
inductive V9 (cf:Nat→Nat):List Ann→List Sk→Prop
 | nil:V9 cf [] []
 | cons {A:Ann} {sk:Sk} {As:List Ann} {sks:List Sk}:Q0h cf A sk→V9 cf As sks→V9 cf (A :: As) (sk :: sks)
theorem f1a {cf:Nat→Nat}{A B:Ann}{a b:Sk}(hA:Q0h cf A a)(hB:Q0h cf B b)(h1:hit a.wb b.rb=false)(h2:hit a.wb b.wb=false):j7 A.wb B.rbk=false:=by
 rw [d0w,f8]
 intro x hx hy
 obtain ⟨p,hp,rfl⟩:=G0.1 hx
 simp only [Ann.rbk,List.mem_append,Option.mem_toList] at hy
 rcases hy with hy | hy
 ·have:=hB.fresh _ hy
  rw [List.any_eq_true] at this
  obtain ⟨q,hq,e⟩:=this
  have e:q.1=p.1:=by simpa using e
  exact f8.1 h2 _ (hA.wb p hp) (e ▸ hB.wb q hq)
 ·obtain ⟨q,hq,e⟩:=G0.1 hy
  exact f8.1 h1 _ (hA.wb p hp) (e ▸ hB.rb q hq)
def q0k (A B:Ann):Bool:=(A.fresh.all fun k=>B.free k) && (B.fresh.all fun k=>A.free k)
theorem B0s {cf:Nat→Nat}{A B:Ann}{a b:Sk}(hA:Q0h cf A a)(hB:Q0h cf B b)(hf:q0k A B=true)(h:F0k a b=true):n7 A B=true:=by
 simp only [F0k,j0,Bool.not_eq_true'] at h
 obtain ⟨⟨⟨⟨⟨h1,h2⟩,h3⟩,h4⟩,h5⟩,h6⟩:=h
 simp only [q0k,j0] at hf
 simp only [n7,j0,Bool.not_eq_true']
 have h6':hit b.wb a.wb=false:=by rw [f8] at h6 ⊢; exact fun x hx hy=>h6 x hy hx
 refine ⟨⟨⟨⟨⟨⟨⟨?_,?_⟩,?_⟩,?_⟩,?_⟩,?_⟩,hf.1⟩,hf.2⟩
 ·rw [d0w,hA.ws,hB.rs]; exact h1
 ·rw [d0w,hB.ws,hA.rs]; exact h2
 ·rw [d0w,hA.ws,hB.ws]; exact h3
 ·exact f1a hA hB h4 h6
 ·exact f1a hB hA h5 h6'
 ·exact W0w hA.wb hB.wb h6
theorem G0r {cf:Nat→Nat}{As:List Ann}{sks:List Sk}(h:V9 cf As sks):∀ (i:Nat) (A:Ann),As[i]? = some A→∃ sk,sks[i]? = some sk∧Q0h cf A sk:=by
 induction h with
 | nil=>intro i A h; simp at h
 | cons hc _ ih =>
  intro i A hA
  cases i with
  | zero =>
    obtain rfl := by simpa using hA
    exact ⟨_,rfl,hc⟩
  | succ i=>simpa using ih i A (by simpa using hA)
theorem J0x {cf:Nat→Nat}{As As':List Ann}{sks sks':List Sk}(h:V9 cf As sks)(h':V9 cf As' sks'):V9 cf (As++As') (sks++sks'):=by
 induction h with
 | nil=>exact h'
 | cons hc _ ih=>exact .cons hc ih
def F0g:List Ann→List Ann→Bool
 | [],_=>true
 | B :: As,done=>(done.all fun A=>q0k A B) && F0g As (done++[B])
theorem F0r {cf:Nat→Nat}:∀ (os:List Oper) (As:List Ann) (sks:List Sk) (ms:List Nat) (done:List Ann) (dsk:List Sk),V9 cf As sks→V9 cf done dsk→done.length=ms.length→F0g As done=true→P7 os sks ms dsk=true→K7 os As ms done=true
 | [],[],[],_,_,_,_,_,_,_,_=>rfl
 | o :: os,B :: As,b :: sks,ms,done,dsk,h,h',hl,hf,hh=>by
  cases h with
  | cons hB hAs =>
   simp only [P7,j0] at hh
   simp only [F0g,j0] at hf
   obtain ⟨⟨h1,h2⟩,h3⟩:=hh
   simp only [K7,j0]
   refine ⟨⟨h1,?_⟩,F0r os As sks _ _ _ hAs (J0x h' (.cons hB .nil)) (by simp [hl]) hf.2 h3⟩
   rw [s0] at h2 ⊢
   intro i hi
   have hi':i<done.length:=by simpa using hi
   have:=h2 i (by simpa [← hl] using hi')
   rw [Bool.or_eq_true] at this ⊢
   rcases this with h | h
   ·exact .inl h
   ·refine .inr ?_
    obtain ⟨A,hA⟩:∃ A,done[i]? = some A:=⟨done[i],by simp [hi']⟩
    obtain ⟨sk,hs,hc⟩:=G0r h' i A hA
    rw [hs] at h
    rw [hA]
    have hff:=hf.1
    rw [s0] at hff
    exact B0s hc hB (hff A (O1 hA)) h
 | [],_ :: _,_ :: _,_,_,_,_,_,_,_,hh=>by simp [P7] at hh
 | _ :: _,[],[],_,_,_,_,_,_,_,hh=>by simp [P7] at hh
 | _ :: _,_ :: _,[],_,_,_,h,_,_,_,_=>by cases h
 | _,[],_ :: _,_,_,_,h,_,_,_,_=>by cases h
 | [],_ :: _,[],_,_,_,h,_,_,_,_=>by cases h
def U6:List Ann→List Nat
 | []=>[]
 | A :: As=>A.fresh.toList++U6 As
theorem T9 {S:St}:∀ {As:List Ann},(∀ k∈U6 As,S.free k=true)→X5 S As=true
 | [],_=>rfl
 | A :: As,h=>by
  simp only [X5,j0]
  refine ⟨?_,T9 fun k hk=>h k (by simp [U6,hk])⟩
  cases e:A.fresh with
  | none=>rfl
  | some k=>exact h k (by simp [U6,e])
theorem frS {sl:List (Nat×PV)}{T:List (Nat×Blk)}{As:List Ann}(ns:List Nat)(pre:List (Nat×Blk))(h:K5 T)(hn:U6 As=ns)(h1:(ns.all fun k=>Nat.blt k 1000 && (G3 k sl && Y2 k pre))=true):∀ k∈U6 As,St.free ⟨sl,pre++T⟩ k=true:=by
 subst hn
 intro k hk
 rw [s0] at h1
 have:=h1 k hk
 simp only [j0] at this
 show (G3 k sl && Y2 k (pre++T))=true
 rw [J4,this.2.1,this.2.2,h.free k this.1]; rfl
theorem G1m (cf:Nat→Nat){os:List Oper}{As:List Ann}{S:St}(sks:List Sk)(h1:V9 cf As sks)(hf:F0g As []=true)(hS:∀ k∈U6 As,S.free k=true)(h2:P7 os sks [] []=true):(K7 os As [] [] && X5 S As)=true:=by
 rw [F0r os As sks [] [] [] h1 .nil rfl hf h2,T9 hS]; rfl
theorem g0p {os:List Oper}{As:List Ann}{S:St}(sks:List Sk)(h1:V9 cls As sks)(hf:F0g As []=true)(hS:∀ k∈U6 As,S.free k=true)(h2:P7 os sks [] []=true):(K7 os As [] [] && X5 S As)=true:=G1m cls sks h1 hf hS h2
theorem cf0 {cf:Nat→Nat}{A:Ann}{sk:Sk}(h:((A.fresh.all fun k=>A.wb.any fun p=>p.1 == k) && decide (G7 A.rs=sk.rs) && decide (A.ws.map (·.1)=sk.ws) && (A.rb.all fun p=>sk.rb.contains (cf p.1)) && (A.wb.all fun p=>sk.wb.contains (cf p.1)))=true):Q0h cf A sk:=by
 simp only [j0,decide_eq_true_eq,s0,List.contains_eq_mem] at h
 refine ⟨fun k hk=>?_,h.1.1.1.2,fun p hp=>h.1.2 p hp,h.1.1.2,fun p hp=>h.2 p hp⟩
 have:=h.1.1.1.1
 rw [hk] at this
 simpa using this
theorem cfT {cf:Nat→Nat}{A:Ann}{sk:Sk}(h0:A.fresh=none)(hr:G7 A.rs=sk.rs)(h1:∀ p∈A.rb,cf p.1∈sk.rb)(hw:A.ws.map (·.1)=sk.ws)(h2:∀ p∈A.wb,cf p.1∈sk.wb):Q0h cf A sk:=⟨fun k hk=>(by rw [h0] at hk; cases hk),hr,h1,hw,h2⟩
theorem B0d {k:Nat}(h:1000≤k):cls k=1000:=by unfold cls; rw [if_neg (by omega)]
theorem D1f {l r:List (Nat×Blk)}{ks:List Nat}(h1:(l.all fun p=>ks.contains (cls p.1))=true)(h2:∀ p∈r,1000≤p.1)(h3:ks.contains 1000=true):∀ p∈l++r,cls p.1∈ks:=by
 intro p hp
 rcases List.mem_append.1 hp with hp | hp
 ·rw [s0] at h1; simpa using h1 p hp
 ·rw [B0d (h2 p hp)]; simpa using h3
theorem b0s {T:List (Nat×Blk)}(h:K5 T):∀ p∈T,1000≤p.1:=by
 intro p hp
 obtain ⟨k,B⟩:=p
 by_cases hk:Nat.blt k 1000=true
 ·have:=h.low k hk
  rw [R5 h.nd hp] at this; cases this
 ·simp [Nat.blt_eq] at hk; exact hk
theorem rdT {sl:List (Nat×PV)}{T:List (Nat×Blk)}{k:Nat}{B:Blk}(pre:List (Nat×Blk))(h:K5 T)(hp:(pre.all fun p=>Nat.blt p.1 1000)=true)(hk:T.lookup k=some B):St.blk ⟨sl,pre++T⟩ k=some B:=by
 show (pre++T).lookup k=some B
 rw [T1]
 cases e:pre.lookup k with
 | none=>simpa using hk
 | some C =>
  rw [s0] at hp
  have:=hp _ (M3 e)
  rw [h.low k this] at hk; cases hk
theorem J8 {k:Nat}{B:Blk}{ks:List Nat}(h:1000≤k)(h2:ks.contains 1000=true:=by rfl):∀ p∈[(k,B)],cls p.1∈ks:=by
 intro p hp
 obtain rfl:=List.mem_singleton.1 hp
 rw [B0d h]; simpa using h2
theorem E7 {S:St}:∀ {l:List (Nat×Blk)},O5 S l→B6 S l
 | [],_=>trivial
 | _ :: _,h=>⟨h.1,E7 h.2⟩
theorem p0q {P:Program}{F:Fr}{d:Nat}{t T:TypeId}{pos:String}{aft:Array Edge}{g:Option (Nat×Bool)}{x y:Operand}{k n tot j sz:Nat}{B:Blk}{e:TypeId}{kd:IntKind}{i:Int}(hu:P.underlying t=some (.slice e))(hsz:∀ w,(sizeOf e).run P w = .ok sz w)(hl:B.cs.len=tot)(hi:i=(j:Int))(h1:j<n)(hlt:d<F.nt) :
  P2 P F ⟨some d,.indexAddr t x y,T,pos,aft,g⟩ { rs:=[(x,.ref k 0 n tot),(y,.p (.a (.int kd i)))],rb:=[(k,B)],ws:=[(d,.at_ k (j*sz) tot)] }:=by
 subst hi
 have:=Y9 (P:=P) (F:=F) (d:=d) (t:=t) (T:=T) (pos:=pos) (aft:=aft) (g:=g) (x:=x) (y:=y) (kd:=kd) (off:=0) (k:=k) (n:=n) hu hsz hl (i:=j) (by omega) (by omega) hlt
 simpa using this
end Go.Proofs.YtjagfionflbjbaaGreat.SH
set_option maxRecDepth 100000
set_option maxHeartbeats 4000000
namespace Go.Proofs.YtjagfionflbjbaaGreat.N
open Go Go.Proofs.YtjagfionflbjbaaGreat.SH Go.Proofs.YtjagfionflbjbaaGreat.NumA
open Go.Proofs.Tryz renaming call100→cl100,call101→cl101,call106→cl106,call107→cl107,call108→cl108,call112→cl112,call127→cl127,call40→cl40,call52→cl52,call55→cl55,call64→cl64,call65→cl65,call67→cl67,call68→cl68,call70→cl70,call85→cl85,isAgg22→ag22,isAgg24→ag24,isAgg3→ag3,isAgg40→ag40,isAgg47→ag47,sizeOf22→sz22,sizeOf24→sz24,sizeOf3→sz3,sizeOf40→sz40,sizeOf47→sz47,typeInfo40→ti40,typeInfo47→ti47,underlying22→un22,underlying24→un24,underlying40→un40,underlying77→un77,zeroValue24→zv24,zeroValue47→zv47
@[reducible] def cQ (a:Rat):List L2:=[.a (.bool (decide (a.num<0))),.sl (s3 a.num.natAbs).length (B4 (s3 a.num.natAbs)),.a (.bool (decide ((a.den:Int)<0))),.sl (s3 (a.den:Int).natAbs).length (B4 (s3 (a.den:Int).natAbs))]
def V5:List Rat→List L2
 | []=>[]
 | a :: v=>cQ a++V5 v
@[simp] theorem E3:∀ v:List Rat,(V5 v).length=v.length*4
 | []=>rfl
 | a :: v=>by simp only [V5,L1,E3 v,cQ,E1,List.length_nil]; omega
theorem D0g:∀ v u:List Rat,V5 (v++u)=V5 v++V5 u
 | [],u=>rfl
 | a :: v,u=>by simp only [M1,V5,D0g v u,List.append_assoc]
theorem b8:∀ {v:List Rat}{i:Nat},i<v.length→((V5 v).drop (i*4)).take 4=cQ (v.getD i 0)
 | [],i,h=>by simp at h
 | a :: v,0,_=>by simp [V5,cQ]
 | a :: v,i+1,h=>by
  have:=b8 (v:=v) (i:=i) (by simpa using h)
  rw [show (i+1)*4=i*4+1+1+1+1 by omega]
  simp only [V5,cQ,M1,List.nil_append,List.drop_succ_cons,List.getD_cons_succ]
  exact this
theorem J1v:∀ {v:List Rat}{i:Nat}(b:Rat),i<v.length→(V5 v).take (i*4)++cQ b++(V5 v).drop (i*4+4)=V5 (v.set i b)
 | [],i,_,h=>by simp at h
 | a :: v,0,b,_=>by simp [V5,cQ]
 | a :: v,i+1,b,h=>by
  have:=J1v (v:=v) (i:=i) b (by simpa using h)
  rw [show (i+1)*4=i*4+1+1+1+1 by omega,show i*4+1+1+1+1+4=i*4+4+1+1+1+1 by omega]
  simp only [List.set_cons_succ,V5,← this]
  simp only [cQ,M1,List.nil_append,List.drop_succ_cons,List.take_succ_cons]
@[reducible] def pV (v:List Rat):L2:=.sl v.length (V5 v)
def T5 (m:List (List Rat)):List L2:=m.map pV
@[simp] theorem w7 (m:List (List Rat)):(T5 m).length=m.length:=by simp [T5]
theorem R9 {m:List (List Rat)}{i:Nat}(h:i<m.length):(T5 m)[i]? = some (pV (m.getD i [])):=by
 simp [T5,h,f0]
def F3 (s i:Nat):Nat:=2*i+s+1100
@[reducible] def E4 (v:List Rat):Blk:=⟨47,4,.pure (V5 v)⟩
theorem p0w {v:List Rat}{k:Nat}(b:Rat)(h:k<v.length):(⟨47,4,.pure ((V5 v).take (k*4)++cQ b++(V5 v).drop (k*4+4))⟩:Blk)=E4 (v.set k b):=by rw [J1v b h]
def J6 (s:Nat):Nat→List (List Rat)→List (Nat×Blk)
 | _,[]=>[]
 | i,v :: m=>(F3 s i,E4 v) :: J6 s (i+1) m
def P4 (s:Nat):Nat→List (List Rat)→List PV
 | _,[]=>[]
 | i,v :: m=>.ref (F3 s i) 0 v.length (v.length*4) :: P4 s (i+1) m
@[simp] theorem F2 (s:Nat):∀ (i:Nat) (m:List (List Rat)),(P4 s i m).length=m.length
 | _,[]=>rfl
 | i,v :: m=>by simp [P4,F2 s (i+1) m]
theorem h0m {s:Nat}:∀ {i j:Nat} {m:List (List Rat)},(P4 s i m)[j]? = (m[j]?).map fun v=>.ref (F3 s (i+j)) 0 v.length (v.length*4)
 | i,j,[]=>by simp [P4]
 | i,0,v :: m=>by simp [P4]
 | i,j+1,v :: m=>by
  simp only [P4,List.getElem?_cons_succ]
  rw [h0m (i:=i+1) (j:=j) (m:=m),show i+1+j=i+(j+1) by omega]
theorem f0m {s:Nat}:∀ {i j:Nat} {m:List (List Rat)},(J6 s i m).lookup (F3 s (i+j))=(m[j]?).map E4
 | i,j,[]=>by simp [J6]
 | i,0,v :: m=>by simp [J6]
 | i,j+1,v :: m=>by
  simp only [J6,i0,List.getElem?_cons_succ]
  rw [show (F3 s (i+(j+1)) == F3 s i)=false by simp [F3]; omega,show i+(j+1)=i+1+j by omega]
  exact f0m
theorem n0y {s:Nat}:∀ {i k:Nat} {m:List (List Rat)},(∀ j,j<m.length→k≠F3 s (i+j))→(J6 s i m).lookup k=none
 | i,k,[],_=>rfl
 | i,k,v :: m,h=>by
  simp only [J6,i0]
  rw [show (k == F3 s i)=false by simpa using h 0 sM]
  exact n0y fun j hj=>by have:=h (j+1) (by simpa using hj); rwa [show i+1+j=i+(j+1) by omega]
theorem n9 {s:Nat}:∀ {i k:Nat} {m:List (List Rat)},k∈(J6 s i m).map (·.1)→∃ j,j<m.length∧k=F3 s (i+j)
 | i,k,[],h=>by simp [J6] at h
 | i,k,v :: m,h=>by
  simp only [J6,R0,List.mem_cons] at h
  rcases h with h | h
  ·exact ⟨0,by simp,h⟩
  ·obtain ⟨j,h1,h2⟩:=n9 h
   exact ⟨j+1,by simpa using h1,by rw [h2,show i+1+j=i+(j+1) by omega]⟩
theorem g1m {s:Nat}:∀ (i:Nat) (m:List (List Rat)),((J6 s i m).map (·.1)).Nodup
 | i,[]=>List.nodup_nil
 | i,v :: m=>by
  simp only [J6,R0]
  refine List.nodup_cons.2 ⟨fun h=>?_,g1m (i+1) m⟩
  obtain ⟨j,_,h2⟩:=n9 h
  simp only [F3] at h2; omega
theorem d0p {s k:Nat}:∀ (i:Nat) (m:List (List Rat)),Y2 k (J6 s i m)=true
 | _,[]=>rfl
 | i,v :: m=>by simp [J6,Y2,Cells.free,d0p (i+1) m]
theorem q0a {s k:Nat}(h:k<1100):∀ (i:Nat) (m:List (List Rat)),PV.freeL k (P4 s i m)=true
 | _,[]=>rfl
 | i,v :: m=>by
  simp only [P4,PV.freeL,PV.free,j0]
  exact ⟨by simp [F3]; omega,q0a h (i+1) m⟩
theorem y0x {s:Nat}:∀ {i j q:Nat} {m:List (List Rat)} {x:PV},(P4 s i m)[j]? = some x→x.free q=false→∃ v,m[j]? = some v∧q=F3 s (i+j):=by
 intro i j q m x h hq
 rw [h0m,M0] at h
 obtain ⟨v,hv,rfl⟩:=h
 simp only [PV.free,bne_eq_false_iff_eq] at hq
 exact ⟨v,hv,hq.symm⟩
@[reducible] def hdB (s:Nat)(m:List (List Rat)):Blk:=⟨40,1,.mix (P4 s 0 m)⟩
def J2 (s:Nat)(m:List (List Rat)):List (Nat×Blk):=(s+1001,hdB s m) :: J6 s 0 m
theorem D2 {s:Nat}(h2:s<9)(m:List (List Rat)):K5 (J2 s m):=by
 have hno:∀ k,k<1100→(J6 s 0 m).lookup k=none:=fun k hk=>n0y fun j _=>by simp only [F3]; omega
 refine ⟨fun k hk=>?_,?_,fun k hk=>?_,fun j B hj i x hx q hq=>?_⟩
 ·simp only [Nat.blt_eq] at hk
  rw [J2,i0,show (k == s+1001)=false by simp; omega]
  exact hno k oM
 ·simp only [J2,R0]
  refine List.nodup_cons.2 ⟨fun hm=>?_,g1m 0 m⟩
  obtain ⟨j,_,h3⟩:=n9 hm
  simp only [F3] at h3; omega
 ·simp only [Nat.blt_eq] at hk
  simp only [J2,Y2,Cells.free,j0]
  exact ⟨q0a oM 0 m,d0p 0 m⟩
 ·rw [J2,i0] at hj
  split at hj
  ·injection hj with hj; subst hj
   obtain ⟨v,hv,rfl⟩:=y0x hx hq
   rw [J2,i0,show (F3 s (0+i) == s+1001)=false by simp [F3]; omega,f0m,hv]; simp
  ·obtain ⟨j',_,rfl⟩:=n9 (G0.2 ⟨_,M3 hj,rfl⟩)
   rw [f0m,M0] at hj
   obtain ⟨v,hv,rfl⟩:=hj
   simp only [Cells.get,M0] at hx
   obtain ⟨y,_,rfl⟩:=hx
   simp [PV.free] at hq
theorem J0m {s i:Nat}{m:List (List Rat)}(h:i<m.length):(Cells.mix (P4 s 0 m)).get i=some (.ref (F3 s i) 0 (m.getD i []).length ((m.getD i []).length*4)):=by
 show (P4 s 0 m)[i]? = _
 rw [h0m]; simp [h,f0]
theorem hdL {s:Nat}{m:List (List Rat)}:(J2 s m).lookup (s+1001)=some (hdB s m):=by simp [J2]
theorem rwL {s i:Nat}{m:List (List Rat)}(hh:s<9)(hi:i<m.length):(J2 s m).lookup (F3 s i)=some (E4 (m.getD i [])):=by
 rw [J2,i0,show (F3 s i == s+1001)=false by simp [F3]; omega]
 have:=f0m (s:=s) (i:=0) (j:=i) (m:=m)
 rw [G1] at this
 rw [this]; simp [hi,f0]
theorem rwS {s i:Nat}{m:List (List Rat)}{r:List Rat}(hh:s<9)(hi:i<m.length):(J2 s (m.set i r)).lookup (F3 s i)=some (E4 r):=by
 have:=rwL (s:=s) (i:=i) (m:=m.set i r) hh (by simpa using hi)
 rw [this,f0,List.getElem?_set_self hi]; rfl
theorem rwO {s i j:Nat}{m:List (List Rat)}{r:List Rat}(hh:s<9)(hj:j<m.length)(hne:i≠j):(J2 s (m.set i r)).lookup (F3 s j)=some (E4 (m.getD j [])):=by
 have:=rwL (s:=s) (i:=j) (m:=m.set i r) hh (by simpa using hj)
 rw [this,f0,f0,List.getElem?_set_ne hne]
theorem P0m {s:Nat}:∀ {i j:Nat} {m:List (List Rat)} {r r':List Rat},r'.length=r.length→P4 s i (m.set j r')=P4 s i (m.set j r)
 | i,j,[],r,r',_=>rfl
 | i,0,v :: m,r,r',h=>by simp [P4,h]
 | i,j+1,v :: m,r,r',h=>by simp only [List.set_cons_succ,P4,P0m (i:=i+1) (j:=j) h]
theorem B0h {s i j:Nat}:F3 s i=F3 s j↔i=j:=by simp only [F3]; omega
theorem hbS {sl:List (Nat×PV)}{s i:Nat}{m:List (List Rat)}{r r':List Rat}{B:Blk}(pre:List (Nat×Blk))(hp:(pre.all fun p=>Nat.blt p.1 1000)=true)(h2:s<9)(hi:i<m.length)(hB:B=E4 r')(hl:r'.length=r.length):O5 ⟨sl,(F3 s i,B) :: (pre++J2 s (m.set i r))⟩ (J2 s (m.set i r')):=by
 subst hB
 refine o5 (D2 h2 _).nd fun k C hk=>?_
 show List.lookup k _=some C
 rw [i0]
 have hno:∀ k,k<1000→(J2 s (m.set i r')).lookup k=none:=fun k hk=>(D2 h2 _).low k (by simpa [Nat.blt_eq] using hk)
 have hpre:pre.lookup k=none:=by
  cases e:pre.lookup k with
  | none=>rfl
  | some D =>
   rw [s0] at hp
   have:=hp _ (M3 e)
   rw [(D2 h2 _).low k this] at hk; cases hk
 by_cases e:k=F3 s i
 ·subst e
  rw [rwS h2 hi] at hk
  simpa using hk
 ·rw [show (k == F3 s i)=false by simpa using e,T1,hpre,l0]
  rw [J2,i0] at hk ⊢
  by_cases e1:k=s+1001
  ·subst e1
   simp only [BEq.rfl,U0] at hk ⊢
   rw [← hk,hdB,hdB,P0m hl]
  ·rw [show (k == s+1001)=false by simpa using e1] at hk ⊢
   obtain ⟨j,hj,e2⟩:=n9 (G0.2 ⟨_,M3 hk,rfl⟩)
   simp only [G1] at e2
   subst e2
   have hne:i≠j:=fun h=>e (by rw [h])
   have h3:=f0m (s:=s) (i:=0) (j:=j) (m:=m.set i r')
   have h4:=f0m (s:=s) (i:=0) (j:=j) (m:=m.set i r)
   rw [G1,List.getElem?_set_ne hne] at h3 h4
   rw [h4,← h3]; exact hk
theorem d1b {s i:Nat}{m:List (List Rat)}{r:List Rat}{n:Nat}(h:i<m.length)(hr:r.length=n):(Cells.mix (P4 s 0 (m.set i r))).get i=some (.ref (F3 s i) 0 n (n*4)):=by
 subst hr
 have:=J0m (s:=s) (i:=i) (m:=m.set i r) (by simpa using h)
 rwa [f0,List.getElem?_set_self h] at this
theorem D5 (s i:Nat):1000≤F3 s i:=by simp only [F3]; omega
theorem o6 (s:Nat):1000≤s+1001:=by omega
theorem d1h (s:Nat)(m:List (List Rat))(i c:Nat)(h2:s<9)(hi:i<m.length)(hc:c<(m.getD i []).length):I4 E (fun _=>true) 91 [.ref (s+1001) 0 m.length m.length,.p (vZ i),.p (vZ c)] (J2 s m) (J2 s m) (.p (pQ ((m.getD i []).getD c 0))):=by
 refine m4 (xs:=[pQ ((m.getD i []).getD c 0)]) Tryz.func91 rfl Tryz.ntmps91 Tryz.results91 sM fun F G=>?_
 have L:=@lti _ _ G.nt
 have hG:=G.g
 have hX:=G.x
 have hN:=U5 hG
 have P0:∀ k,Nat.blt k 1000=true→F.pin k=none:=fun k hk=>G.p0 k ((D2 h2 m).low k hk)
 refine exr (swb (T3 (k:=6) (n:=4) zv47 (.cons rfl (.cons rfl (.cons rfl (.cons rfl .nil)))) rfl (P0 _ rfl) L) t0 t0 (frT [] (D2 h2 m) rfl rfl rfl) ?_)
 refine R1 ⟨[(0,_),(1,_),(2,_),(6,_)],(6,_) :: ((J2 s m)),t4,⟨rfl,(hbT [_] (D2 h2 m) rfl)⟩,?_⟩
 refine exr (mV L rfl (mV L rfl (sw (n6 un77 sz40 (by first | exact F2 _ _ _ | exact (F2 _ _ _).trans sM | simp [Cells.len]) (j:=i) rO oM L) t2 ⟨rdT [_] (D2 h2 m) rfl hdL,trivial⟩ ?_)))
 refine sw (Z1 ag40 (by first | exact F2 _ _ _ | exact (F2 _ _ _).trans sM) (J0m hi) L) t1 ⟨rdT [_] (D2 h2 m) rfl hdL,trivial⟩ ?_
 refine mV L rfl (sw (p0q un40 sz47 (by first | exact E3 _ | exact (E3 _).trans oM) (j:=c) rO oM L) t2 ⟨rdT [_] (D2 h2 m) rfl (rwL h2 hi),trivial⟩ ?_)
 refine sw (B1b ag47 sz47 (by first | exact E3 _ | exact (E3 _).trans oM) (b8 oM) rfl L) t1 ⟨rdT [_] (D2 h2 m) rfl (rwL h2 hi),trivial⟩ ?_
 refine sb (Z2 sz47 rF pa4 rfl pu4) t2 t1 ?_
 refine R1 ⟨[(6,_)],(6,_) :: ((J2 s m)),t1,⟨rfl,(hbT [_,_] (D2 h2 m) rfl)⟩,?_⟩
 refine X1 ?_
 refine ⟨.inr rfl,T4.cast (.cons (.agg rfl rfl rfl ag47 sz47 (.cons (.cons (.cons (.cons .nil))))) .nil) ?_,(hbT [_] (D2 h2 m) rfl)⟩
 rfl
def scl (v:List Rat)(c:Rat)(k:Nat):List Rat:=(v.take k).map (· * c)++v.drop k
@[simp] theorem Y0z (v:List Rat)(c:Rat)(k:Nat):(scl v c k).length=v.length:=by simp [scl]; omega
theorem g1d {v:List Rat}{c:Rat}{k:Nat}(h:k<v.length):(scl v c k).getD k 0=v.getD k 0:=by
 simp [scl,f0,D0,I1 (Nat.le_of_lt h)]
theorem v1q {v:List Rat}{c:Rat}{k:Nat}(h:k<v.length):(scl v c k).set k ((scl v c k).getD k 0*c)=scl v c (k+1):=by
 rw [g1d h,scl,scl,List.set_append,if_neg sO]
 have e:k - (List.map (· * c) (v.take k)).length=0:=by simp; omega
 rw [e,J1,List.map_append,List.append_assoc]
 have e2:(List.drop k v).set 0 (v.getD k 0*c)=(v.getD k 0*c) :: List.drop (k+1) v:=by
  rw [List.drop_eq_getElem_cons h,List.set_cons_zero]
 have e3:List.map (· * c) v[k]?.toList=[v.getD k 0*c]:=by simp [f0,h]
 rw [e2,e3]; rfl
theorem D1d {v:List Rat}{c:Rat}:scl v c v.length=v.map (· * c):=by simp [scl]
theorem v1h {v:List Rat}{c:Rat}:scl v c 0=v:=by simp [scl]
theorem F0n {m:List (List Rat)}{i:Nat}:m.set i (m.getD i [])=m:=by
 by_cases h:i<m.length
 ·rw [f0,K1 h]; simp
 ·rw [List.set_eq_of_length_le oM]
theorem w5 {v:List Rat}{k:Nat}(h:k<v.length):v.getD k 0∈v:=by simp [f0,h]
theorem Y0r (s:Nat)(m:List (List Rat))(i:Nat)(c:Rat)(h2:s<9)(hi:i<m.length)(hl:(m.getD i []).length<1000000000)(hs:∀ a∈m.getD i [],qw a<1000000000)(hc:qw c<1000000000):I4 E (fun _=>true) 96 [.ref (s+1001) 0 m.length m.length,.p (vZ i),.p (pQ c)] (J2 s m) (J2 s (m.set i ((m.getD i []).map (· * c)))) (.p (.tup [])):=by
 refine m4 (xs:=[]) Tryz.func96 rfl Tryz.ntmps96 Tryz.results96 sM fun F G=>?_
 have L:=@lti _ _ G.nt
 have hG:=G.g
 have hX:=G.x
 have hN:=U5 hG
 have P0:∀ k,Nat.blt k 1000=true→F.pin k=none:=fun k hk=>G.p0 k ((D2 h2 m).low k hk)
 refine exr (swb (W3 (k:=5) (n:=4) pa4 rfl rfl (P0 _ rfl) L) t1 t0 (frT [] (D2 h2 m) rfl rfl rfl) ?_)
 refine R1 ⟨[(0,_),(1,_),(5,_)],(5,_) :: ((J2 s m)),t3,⟨rfl,(hbT [_] (D2 h2 m) rfl)⟩,?_⟩
 refine exr (mV L rfl (mV L rfl (sw (n6 un77 sz40 (by first | exact F2 _ _ _ | exact (F2 _ _ _).trans sM | simp [Cells.len]) (j:=i) rO oM L) t2 ⟨rdT [_] (D2 h2 m) rfl hdL,trivial⟩ ?_)))
 refine sw (Z1 ag40 (by first | exact F2 _ _ _ | exact (F2 _ _ _).trans sM) (J0m hi) L) t1 ⟨rdT [_] (D2 h2 m) rfl hdL,trivial⟩ ?_
 refine sw (n0z un40 (by first | exact E3 _ | exact (E3 _).trans oM) L) t1 ⟨rdT [_] (D2 h2 m) rfl (rwL h2 hi),trivial⟩ ?_
 refine mV L rfl ?_
 refine R1 ⟨[(0,_),(1,_),(5,_),(11,_),(12,_),(13,_)],(5,_) :: ((J2 s m)),t6,⟨rfl,(hbT [_] (D2 h2 m) rfl)⟩,?_⟩
 obtain ⟨v,hv⟩:∃ v,v=m.getD i []:=⟨_,rfl⟩
 rw [← hv] at hl hs ⊢
 refine Y1 ?_
 refine G0k (α:=Nat) (fun k=>[(13,vi (k:Int))]) (fun k=>[]) (fun k=>(J2 s (m.set i (scl v c k)))) (fun k=>k≤v.length) (fun k=>v.length - k) (0) (sl:=[(0,_),(1,_),(5,_),(11,_),(12,_)]) (hb:=[(5,_)]) ?_ ⟨oR,rfl,rfl,rfl,rfl,rfl,trivial⟩ ⟨rfl,(by rw [v1h,hv,F0n]; exact hbT [_] (D2 h2 m) rfl)⟩ ?_
 ·exact Nat.zero_le _
 intro k hk
 have hlen:=Y0z v c k
 refine exr (sw (d4 L) t2 t0 ?_)
 refine R1 ⟨[(0,_),(1,_),(5,_),(11,_),(12,_),(13,_),(14,_)],(5,_) :: ((J2 s (m.set i (scl v c k)))),t7,⟨rfl,(hbT [_] (D2 h2 (m.set i (scl v c k))) rfl)⟩,?_⟩
 refine U1 ?_
 refine E2 rfl (fun hc2=>?_) (fun hc2=>?_)
 ·have hc2:=dt hc2
  have hk2:k<v.length:=by omega
  refine V1 (xq ?_)
  refine U1 (Y1 (exr (mV L rfl (sw (p0q un40 sz47 (by first | exact E3 _ | exact (E3 _).trans oM) (j:=k) rO oM L) t2 ⟨rdT [_] (D2 h2 (m.set i (scl v c k))) rfl (rwS h2 hi),trivial⟩ ?_))))
  refine sw (B1b ag47 sz47 (by first | exact E3 _ | exact (E3 _).trans oM) (b8 oM) rfl L) t1 ⟨rdT [_] (D2 h2 (m.set i (scl v c k))) rfl (rwS h2 hi),trivial⟩ ?_
  refine swb (T3 (k:=7) (n:=4) zv47 (.cons rfl (.cons rfl (.cons rfl (.cons rfl .nil)))) rfl (P0 _ rfl) L) t0 t0 (frT [_] (D2 h2 (m.set i (scl v c k))) rfl rfl rfl) (aV L rfl (sb (Z2 sz47 rF pa4 rfl pu4) t2 t1 ?_))
  refine R1 ⟨[(0,_),(1,_),(5,_),(6,_),(7,_),(11,_),(12,_),(13,_)],(5,_) :: (7,_) :: ((J2 s (m.set i (scl v c k)))),t8,⟨rfl,rfl,(hbT [_,_,_] (D2 h2 (m.set i (scl v c k))) rfl)⟩,?_⟩
  refine h0b rF ?_
  refine mV L rfl (mV L rfl (sw (n6 un77 sz40 (by first | exact F2 _ _ _ | exact (F2 _ _ _).trans sM | simp [Cells.len]) (j:=i) rO oM L) t2 ⟨rdT [_,_] (D2 h2 (m.set i (scl v c k))) rfl hdL,trivial⟩ ?_))
  refine sw (Z1 ag40 (by first | exact F2 _ _ _ | exact (F2 _ _ _).trans sM) (d1b hi hlen) L) t1 ⟨rdT [_,_] (D2 h2 (m.set i (scl v c k))) rfl hdL,trivial⟩ ?_
  refine mV L rfl (lp4 ag47 sz47 L rfl rfl (lp4 ag47 sz47 L rfl rfl (cK hG hX cl67 hN (g8 ((scl v c k).getD k 0) c (by rw [g1d hk2]; exact hs _ (w5 hk2)) hc) L t2 ?_)))
  refine sw (p0q un40 sz47 (by first | exact E3 _ | exact (E3 _).trans oM) (j:=k) rO oM L) t2 ⟨rdT [_,_] (D2 h2 (m.set i (scl v c k))) rfl (rwS h2 hi),trivial⟩ ?_
  refine sb (G0g (n:=4) sz47 (by first | exact E3 _ | exact (E3 _).trans oM) rfl oM) t2 ⟨rdT [_,_] (D2 h2 (m.set i (scl v c k))) rfl (rwS h2 hi),trivial⟩ ?_
  refine R1 ⟨g0p [⟨[0],[],[18],[]⟩,⟨[1],[],[19],[]⟩,⟨[18,19],[1000],[20],[]⟩,⟨[20],[1000],[21],[]⟩,⟨[6],[],[22],[]⟩,⟨[7],[7],[23],[]⟩,⟨[5],[5],[24],[]⟩,⟨[23,24],[],[25],[]⟩,⟨[21,22],[1000],[26],[]⟩,⟨[26,25],[1000],[],[1000]⟩] (.cons (cf0 rfl) (.cons (cf0 rfl) (.cons (cfT rfl rfl (J8 (by first | exact o6 _ | exact D5 _ _)) rfl (fun _ h=>by cases h)) (.cons (cfT rfl rfl (J8 (by first | exact o6 _ | exact D5 _ _)) rfl (fun _ h=>by cases h)) (.cons (cf0 rfl) (.cons (cf0 rfl) (.cons (cf0 rfl) (.cons (cf0 rfl) (.cons (cfT rfl rfl (J8 (by first | exact o6 _ | exact D5 _ _)) rfl (fun _ h=>by cases h)) (.cons (cfT rfl rfl (J8 (by first | exact o6 _ | exact D5 _ _)) rfl (J8 (by first | exact o6 _ | exact D5 _ _)))  .nil)))))))))) rfl (frS [] [_,_] (D2 h2 (m.set i (scl v c k))) rfl rfl) dC,(show i4 _ _ _ _ _ from exw (sl:=[(0,_),(1,_),(5,_),(11,_),(12,_),(13,_)]) (hb:=(5,_) :: ((J2 s (m.set i (scl v c (k+1)))))) t6 ⟨rfl,(hbS [_,_] rfl h2 hi ((p0w ((scl v c k).getD k 0*c) oM).trans (by rw [v1q hk2])) sM)⟩ ?_)⟩
  refine J3 (sw (L3 L (w64 oM oM)) t2 t0 (mV L rfl (R1 ?_)))
  exact ⟨k+1,oM,by omega,I3 ⟨oR,rfl,rfl,rfl,rfl,rfl,trivial⟩ ⟨rfl,(hbT [_] (D2 h2 (m.set i (scl v c (k+1)))) rfl)⟩⟩
 ·have hc2:=df hc2
  refine U2 ?_
  refine ⟨.inl rfl,T4.cast .nil ?_,(by rw [← D1d,show v.length=k by omega]; exact hbT [_] (D2 h2 _) rfl)⟩
  rfl
def tak (v u:List Rat)(c:Rat)(k:Nat):List Rat:=(List.zipWith (fun a b=>a - c*b) v u).take k++v.drop k
theorem m0a {v u:List Rat}(c:Rat)(k:Nat)(h:u.length=v.length):(tak v u c k).length=v.length:=by simp [tak]; omega
theorem D1y {v u:List Rat}{c:Rat}{k:Nat}(h:k<v.length)(hu:u.length=v.length):(tak v u c k).getD k 0=v.getD k 0:=by
 simp only [tak,f0]
 rw [D0 sO]
 congr 1; simp; congr 1; omega
theorem Q0a {v u:List Rat}{c:Rat}{k:Nat}(h:k<v.length)(hu:u.length=v.length):(tak v u c k).set k ((tak v u c k).getD k 0 - c*u.getD k 0)=tak v u c (k+1):=by
 rw [D1y h hu,tak,tak,List.set_append,if_neg sO]
 have e:k - ((List.zipWith (fun a b=>a - c*b) v u).take k).length=0:=by simp; omega
 rw [e,J1,List.append_assoc]
 have e2:(List.drop k v).set 0 (v.getD k 0 - c*u.getD k 0)=(v.getD k 0 - c*u.getD k 0) :: List.drop (k+1) v:=by
  rw [List.drop_eq_getElem_cons h,List.set_cons_zero]
 have e3:(List.zipWith (fun a b=>a - c*b) v u)[k]?.toList=[v.getD k 0 - c*u.getD k 0]:=by
  have h2:k<u.length:=by omega
  simp [List.getElem?_zipWith,f0,h,h2]
 rw [e2,e3]; rfl
theorem v1w {v u:List Rat}{c:Rat}{k:Nat}(h:k<v.length)(hu:u.length=v.length)(h0:u.getD k 0=0):tak v u c k=tak v u c (k+1):=by
 rw [← Q0a h hu,h0,Rat.mul_zero,show ∀ x:Rat,x - 0=x from fun x=>by grind]
 have hl:=m0a (v:=v) (u:=u) c k hu
 simp [f0,show k<(tak v u c k).length by omega]
theorem F1r {v u:List Rat}{c:Rat}(hu:u.length=v.length):tak v u c v.length=List.zipWith (fun a b=>a - c*b) v u:=by
 simp [tak,C0,hu]
theorem y1a {v u:List Rat}{c:Rat}:tak v u c 0=v:=by simp [tak]
theorem K1m (a:Rat):q0c a 0=0↔a=0:=by
 unfold q0c
 constructor
 ·intro h
  split at h
  ·cases h
  ·split at h
   ·cases h
   ·rename_i h1 h2; exact Rat.le_antisymm (Rat.not_lt.1 h2) (Rat.not_lt.1 h1)
 ·rintro rfl; simp [Rat.lt_irrefl]
theorem D6 (a:Rat)(ha:qw a<1000000000):C3 E 65 [pQ a] (bZ (decide (a=0))):=by
 refine I2 (xs:=[bZ (decide (a=0))]) Tryz.func65 rfl Tryz.ntmps65 Tryz.results65 sM fun F hG hX0 hnt hdf P0=>?_
 obtain ⟨L,hX,hN⟩:=pro hnt hX0 hG
 refine exr (swb (W3 (k:=1) (n:=4) pa4 rfl rfl (P0 _ rfl) L) t1 t0 ⟨rfl,rfl⟩ (aV L rfl (zn [(1,_)] [(1,_)] t1 t1 (exr (lp4 ag47 sz47 L rfl rfl (cK hG hX cl108 hN (B0g a ha) L t1 (sw (c_e L) t2 t0 (aV L rfl (zn [(2,_)] [] t1 trivial (X1 ?_))))))))))
 refine Q0 (.tmp rfl) ?_
 rw [show decide (q0c a 0=0)=decide (a=0) from decide_eq_decide.2 (K1m a)]
theorem T6 (n:Int)(h : -9223372036854775808≤n)(h1:n<9223372036854775808):C3 E 55 [vZ n] (pQ (n:Rat)):=by
 refine I2 (xs:=[pQ (n:Rat)]) Tryz.func55 rfl Tryz.ntmps55 Tryz.results55 sM fun F hG hX0 hnt hdf P0=>?_
 obtain ⟨L,hX,hN⟩:=pro hnt hX0 hG
 refine exr (swb (T3 (k:=2) (n:=4) zv47 (.cons rfl (.cons rfl (.cons rfl (.cons rfl .nil)))) rfl (P0 _ rfl) L) t0 t0 ⟨rfl,rfl⟩ (zn [(0,_),(2,_)] [(2,_)] t2 t1 (exr (mV L rfl (cK hG hX cl101 hN (K0k n h h1) L t1 (cK hG hX cl100 hN (w0q n) L t1 (sb (Z2 sz47 rF pa4 rfl pu4) t2 t1 ?_)))))))
 refine zn [(2,_)] [(2,_)] t1 t1 (X1 ?_)
 refine Q0 (.agg rfl rfl rfl ag47 sz47 (.cons (.cons (.cons (.cons .nil))))) ?_
 rfl
@[reducible] def bQ (a:Rat):Blk:=⟨47,4,.mix [.p (.a (.bool (decide (a.num<0)))),.p (.sl (s3 a.num.natAbs).length (B4 (s3 a.num.natAbs))),.p (.a (.bool (decide ((a.den:Int)<0)))),.p (.sl (s3 (a.den:Int).natAbs).length (B4 (s3 (a.den:Int).natAbs)))]⟩
def s8 (v:List Rat):Rat:=v.foldl (· + ·) 0
theorem H0m (v:List Rat)(a:Rat):s8 (v++[a])=s8 v+a:=by simp [s8]
theorem G0z {v:List Rat}{k:Nat}(h:k<v.length):s8 (v.take (k+1))=s8 (v.take k)+v.getD k 0:=by
 rw [J1,show v[k]?.toList=[v.getD k 0] by simp [f0,h],H0m]
theorem b1z {B:Nat}:∀ {v:List Rat},(∀ a∈v,qw a≤B)→qw (s8 v)≤v.length*(B+1)+1:=by
 intro v
 suffices h:∀ (n:Nat) (l:List Rat),l.length=n→(∀ a∈l,qw a≤B)→qw (s8 l)≤l.length*(B+1)+1 from h _ v rfl
 intro n
 induction n with
 | zero=>intro l hl _; rw [E0 hl]; simp [s8,y0p]
 | succ n ih =>
  intro l hl hB
  obtain ⟨l',a,rfl⟩:∃ l' a,l=l'++[a]:=⟨l.dropLast,l.getLast (by intro e; simp [e] at hl),(List.dropLast_concat_getLast _).symm⟩
  simp only [L1,E1,List.length_nil] at hl
  have h1:=ih l' oM (fun b hb=>hB b (by simp [hb]))
  have h2:=hB a sM
  have h3:=v1k (s8 l') a
  rw [H0m,L1,E1,List.length_nil,Nat.add_mul]
  omega
theorem w0k {B:Nat}{v:List Rat}{k:Nat}(h:∀ a∈v,qw a≤B):qw (s8 (v.take k))≤v.length*(B+1)+1:=by
 have h1:=b1z (v:=v.take k) (B:=B) fun a ha=>h a (List.mem_of_mem_take ha)
 have h2:(v.take k).length*(B+1)≤v.length*(B+1):=V0 _ sO
 omega
theorem n0r (v:List Rat)(B:Nat)(hl:v.length<1000000000)(hB:∀ a∈v,qw a≤B)(hb:v.length*(B+1)+1<900000000):C3 E 68 [pV v] (pQ (s8 v)):=by
 refine I2 (xs:=[pQ (s8 v)]) Tryz.func68 rfl Tryz.ntmps68 Tryz.results68 sM fun F hG hX0 hnt hdf P0=>?_
 obtain ⟨L,hX,hN⟩:=pro hnt hX0 hG
 have hBB:∀ a∈v,qw a<1000000000:=fun a ha=>by
  have h1:=hB a ha
  have h2:0<v.length:=List.length_pos_of_mem ha
  have h3:1*(B+1)≤v.length*(B+1):=V0 _ h2
  omega
 refine exr (swb (T3 (k:=2) (n:=4) zv47 (.cons rfl (.cons rfl (.cons rfl (.cons rfl .nil)))) rfl (P0 _ rfl) L) t0 t0 ⟨rfl,rfl⟩ (zn [(0,_),(2,_)] [(2,_)] t2 t1 (exr (cK hG hX cl55 hN (T6 0 dC dC) L t1 (swb (T3 (k:=3) (n:=4) zv47 (.cons rfl (.cons rfl (.cons rfl (.cons rfl .nil)))) rfl (P0 _ rfl) L) t0 t0 ⟨rfl,rfl⟩ (sb (Z2 sz47 rF pa4 rfl pu4) t2 t1 ?_))))))
 refine zn [(0,_),(2,_),(3,_)] [(2,_),(3,_)] t3 t2 (U1 (exr (mV L rfl (sw (l3 un40 L) t1 t0 (mV L rfl (zn [(2,_),(3,_),(7,_),(8,_),(9,_)] [(2,_),(3,_)] t5 t2 (Y1 ?_)))))))
 refine exl (α:=Nat) (fun k=>[(9,vi (k:Int))]) (fun k=>[(3,bQ (s8 (v.take k)))]) (fun k=>k≤v.length) (fun k=>v.length - k) (0) (sl:=[(2,_),(3,_),(7,_),(8,_)]) (hb:=[(2,_)]) ?_ ⟨oR,rfl,rfl,rfl,rfl,trivial⟩ t2 ?_
 ·exact Nat.zero_le _
 intro k hk
 refine exr (sw (d4 L) t2 t0 (zn [(2,_),(3,_),(7,_),(8,_),(9,_),(10,_)] [(2,_),(3,_)] t6 t2 (U1 ?_)))
 refine E2 rfl (fun hc=>?_) (fun hc=>?_)
 ·have hc:=dt hc
  have hkl:k<v.length:=by omega
  have hq:=w0k (k:=k) hB
  refine V1 (xq ?_)
  refine U1 (Y1 (exr (sw (K2 un40 sz47 oM oM sM dC L) t2 t0 ?_)))
  refine sw (d8 ag47 sz47 (b8 hkl) rfl L) t1 t0 (swb (T3 (k:=5) (n:=4) zv47 (.cons rfl (.cons rfl (.cons rfl (.cons rfl .nil)))) rfl (P0 _ rfl) L) t0 t0 ⟨rfl,rfl⟩ (sb (Z2 sz47 rF pa4 rfl pu4) t2 t1 ?_))
  refine zn [(2,_),(3,_),(5,_),(7,_),(8,_),(9,_)] [(2,_),(3,_),(5,_)] t6 t3 (J3 (lp4 ag47 sz47 L rfl rfl (lp4 ag47 sz47 L rfl rfl (cK hG hX cl112 hN (H0b (s8 (v.take k)) (v.getD k 0) oM (hBB _ (w5 hkl))) L t2 (sb (Z2 sz47 rF pa4 rfl pu4) t2 t1 ?_)))))
  refine R1 (J3 (sw (L3 L (w64 oM oM)) t2 t0 (mV L rfl (R1 ?_))))
  exact ⟨k+1,oM,by omega,I3 ⟨oR,rfl,rfl,rfl,rfl,trivial⟩ ⟨obl rfl (by rw [G0z hkl]),rfl,trivial⟩⟩
 ·have hc:=df hc
  refine U2 (xq ?_)
  refine exr (lp4 ag47 sz47 L rfl rfl (sb (Z2 sz47 rF pa4 rfl pu4) t2 t1 ?_))
  refine zn [(2,_)] [(2,_)] t1 t1 (X1 ?_)
  refine Q0 (.agg rfl rfl rfl ag47 sz47 (.cons (.cons (.cons (.cons .nil))))) ?_
  rw [C0 oM]
theorem hbI {S:St}{l l':List (Nat×Blk)}(e:l=l')(h:O5 S l'):O5 S l:=e ▸ h
@[reducible] def j1j (k:Nat):List Rat→PV
 | []=>.p (.a (.slice none 0 0))
 | a :: v=>.ref k 0 (a :: v).length ((a :: v).length*4)
@[reducible] def k1z (k:Nat):List Rat→List (Nat×Blk)
 | []=>[]
 | a :: v=>[(k,⟨47,4,.pure (V5 (a :: v))⟩)]
theorem k0y (v:List Rat)(a:Rat):(⟨47,4,.pure (V5 v++cQ a)⟩:Blk)=E4 (v++[a]):=by rw [E4,D0g]; simp [V5]
def G0f (u v:List Rat):List Rat:=((List.zip u v).filter fun p=>decide (p.1≠0∧p.2≠0)).map fun p=>p.1*p.2
def f0h (u v:List Rat):Rat:=s8 (G0f u v)
theorem j0q {u v:List Rat}:(G0f u v).length≤u.length:=by
 unfold G0f; rw [O0]
 refine Nat.le_trans (List.length_filter_le _ _) ?_
 simp; omega
theorem J0v {u v:List Rat}{k:Nat}(h:k<u.length)(hv:u.length=v.length):G0f (u.take (k+1)) v=G0f (u.take k) v++(if u.getD k 0≠0∧v.getD k 0≠0 then [u.getD k 0*v.getD k 0] else []):=by
 have h2:k<v.length:=by omega
 have e:List.zip (u.take (k+1)) v=List.zip (u.take k) v++[(u.getD k 0,v.getD k 0)]:=by
  apply List.ext_getElem?
  intro i
  rw [List.getElem?_append]
  simp only [List.zip,List.getElem?_zipWith,List.length_zipWith,J0,List.getElem?_take]
  by_cases h3:i<k
  ·rw [if_pos oM,if_pos oM,if_pos oM]
  ·rw [if_neg (show ¬ i<min (min k u.length) v.length by omega)]
   by_cases h4:i=k
   ·subst h4
    rw [if_pos oM]
    have:i - min (min i u.length) v.length=0:=by omega
    rw [this]; simp [f0,h,h2]
   ·rw [if_neg oM]
    obtain ⟨m,hm⟩:∃ m,i - min (min k u.length) v.length=m+1:=⟨i - min (min k u.length) v.length - 1,by omega⟩
    rw [hm]; rfl
 unfold G0f
 rw [e,List.filter_append,List.map_append]
 congr 1
 by_cases hc:u.getD k 0≠0∧v.getD k 0≠0
 ·rw [if_pos hc,List.filter_cons_of_pos (by simpa using hc)]; rfl
 ·rw [if_neg hc,List.filter_cons_of_neg (by simpa using hc)]; rfl
theorem K0m {B C:Nat}{u v:List Rat}(hB:∀ a∈u,qw a≤B)(hC:∀ a∈v,qw a≤C):∀ a∈G0f u v,qw a≤B+C:=by
 intro a ha
 simp only [G0f,G0,List.mem_filter] at ha
 obtain ⟨p,⟨h1,-⟩,rfl⟩:=ha
 have h2:=List.of_mem_zip (a:=p.1) (b:=p.2) h1
 have:=K9 p.1 p.2
 have:=hB _ h2.1
 have:=hC _ h2.2
 omega
theorem F0c (u v:List Rat)(B C:Nat)(huv:u.length=v.length)(hl:u.length<1000000000)(hB:∀ a∈u,qw a≤B)(hC:∀ a∈v,qw a≤C)(hBl:B<1000000000)(hCl:C<1000000000)(hb:u.length*(B+C+1)+1<900000000):C3 E 70 [pV u,pV v] (pQ (f0h u v)):=by
 refine I2 (xs:=[pQ (f0h u v)]) Tryz.func70 rfl Tryz.ntmps70 Tryz.results70 sM fun F hG hX0 hnt hdf P0=>?_
 obtain ⟨L,hX,hN⟩:=pro hnt hX0 hG
 refine exr (swb (T3 (k:=4) (n:=4) zv47 (.cons rfl (.cons rfl (.cons rfl (.cons rfl .nil)))) rfl (P0 _ rfl) L) t0 t0 ⟨rfl,rfl⟩ (zn [(0,_),(1,_),(4,_)] [(4,_)] t3 t1 (exr (aV L rfl (zn [(0,_),(1,_),(4,_),(5,_)] [(4,_)] t4 t1 (U1 (exr (mV L rfl (sw (l3 un40 L) t1 t0 (mV L rfl (zn [(1,_),(4,_),(5,_),(8,_),(9,_),(10,_)] [(4,_)] t6 t1 ?_)))))))))))
 refine Y1 ?_
 refine exl (α:=(Nat×List Rat)) (fun x=>[(10,vi (x.1:Int)),(5,j1j 34 x.2)]) (fun x=>[]++k1z 34 x.2) (fun x=>x.1≤u.length∧G0f (u.take x.1) v=x.2) (fun x=>u.length - x.1) ((0,[])) (sl:=[(1,_),(4,_),(8,_),(9,_)]) (hb:=[(4,_)]) ?_ ⟨oR,oR,rfl,rfl,rfl,rfl,trivial⟩ (hbI (l':=[(4,_)]) rfl t1) ?_
 ·exact ⟨Nat.zero_le _,rfl⟩
 intro x hk
 obtain ⟨k,T⟩:=x
 obtain ⟨hk,hT⟩:=hk
 simp only at hk hT
 rcases T with _ | ⟨q,T⟩
 ·dsimp only [j1j,k1z,List.append_nil]
  refine exr (sw (d4 L) t2 t0 (zn [(1,_),(4,_),(5,_),(8,_),(9,_),(10,_),(11,_)] [(4,_)] t7 t1 (U1 ?_)))
  refine E2 rfl (fun hc=>?_) (fun hc=>?_)
  ·have hc:=dt hc
   have hk2:k<u.length:=by omega
   have hk3:k<v.length:=by omega
   have ht:=J0v hk2 huv
   have b1:qw (u.getD k 0)≤B:=hB _ (w5 hk2)
   have b2:qw (v.getD k 0)≤C:=hC _ (w5 hk3)
   refine V1 (xq ?_)
   refine U1 (Y1 (exr (mV L rfl (sw (K2 un40 sz47 oM oM sM dC L) t2 t0 ?_))))
   refine sw (d8 ag47 sz47 (b8 hk2) rfl L) t1 t0 (swb (T3 (k:=7) (n:=4) zv47 (.cons rfl (.cons rfl (.cons rfl (.cons rfl .nil)))) rfl (P0 _ rfl) L) t0 t0 ⟨rfl,rfl⟩ (aV L rfl (sb (Z2 sz47 rF pa4 rfl pu4) t2 t1 ?_)))
   refine zn [(1,_),(4,_),(5,_),(6,_),(7,_),(8,_),(9,_),(10,_)] [(4,_),(7,_)] t8 t2 ?_
   refine exm (sl:=[(25,vb (decide (u.getD k 0≠0∧v.getD k 0≠0)))]) (sl0:=[(1,_),(4,_),(5,_),(6,_),(7,_),(8,_),(9,_),(10,_)]) (hb:=[]) (hb0:=[(4,_),(7,_)]) t8 t2 ?_ ?_
   ·by_cases h0:u.getD k 0=0
    ·refine lp4 ag47 sz47 L rfl rfl (cK hG hX cl65 hN (D6 (u.getD k 0) oM) L t1 (sw (l4 L) t1 t0 (mV L rfl (swn (g:=18) rfl (by rw [h0]; rfl) L rfl ?_))))
     refine swn (g:=18) rfl (by rw [h0]; rfl) L rfl ?_
     refine swn (g:=18) rfl (by rw [h0]; rfl) L rfl ?_
     refine swn (g:=18) rfl (by rw [h0]; rfl) L rfl ?_
     refine swn (g:=18) rfl (by rw [h0]; rfl) L rfl ?_
     refine swn (g:=18) rfl (by rw [h0]; rfl) L rfl ?_
     refine sw (Y3 (by rw [h0]; rfl) L) t2 t0 ?_
     exact R1 ⟨⟨ob rfl (by simp only [h0]; rfl),rfl,rfl,rfl,rfl,rfl,rfl,rfl,rfl,trivial⟩,t2⟩
    ·refine lp4 ag47 sz47 L rfl rfl (cK hG hX cl65 hN (D6 (u.getD k 0) oM) L t1 (sw (l4 L) t1 t0 (mV L rfl (gV (g:=18) rfl (by simp only [h0]; rfl) L rfl rfl ?_))))
     refine gV (g:=18) rfl (by simp only [h0]; rfl) L rfl rfl ?_
     refine swg (g:=18) rfl (by simp only [h0]; rfl) (K2 un40 sz47 oM oM sM dC L) rfl t2 t0 ?_
     refine swg (g:=18) rfl (by simp only [h0]; rfl) (d8 ag47 sz47 (b8 hk3) rfl L) rfl t1 t0 ?_
     refine swg (g:=18) rfl (by simp only [h0]; rfl) (c_c hG hX cl65 rfl hN (D6 (v.getD k 0) oM) L) rfl t1 t0 ?_
     refine swg (g:=18) rfl (by simp only [h0]; rfl) (l4 L) rfl t1 t0 ?_
     refine sw (M4 (by simp only [h0]; rfl) L) t2 t0 ?_
     exact R1 ⟨⟨ob rfl (by rw [decide_eq_decide.2 (show (¬ (v.getD k 0=0))↔(u.getD k 0≠0∧v.getD k 0≠0) from ⟨fun h=>⟨h0,h⟩,fun h=>h.2⟩).symm]; exact (decide_not).symm),rfl,rfl,rfl,rfl,rfl,rfl,rfl,rfl,trivial⟩,t2⟩
   refine E2 rfl (fun h1=>?_) (fun h1=>?_)
   ·have h1:=dt h1
    rw [if_pos h1,hT] at ht
    refine h0b rF ?_
    refine mV L rfl (lp4 ag47 sz47 L rfl rfl (mV L rfl (mV L rfl (sw (K2 un40 sz47 oM oM sM dC L) t2 t0 ?_))))
    refine sw (d8 ag47 sz47 (b8 hk3) rfl L) t1 t0 (cK hG hX cl67 hN (g8 (u.getD k 0) (v.getD k 0) oM oM) L t2 (sw (K4 (vs:=[_]) un40 ti47 rfl rfl dC dC rfl (X2 (.cons rfl (.cons rfl (.cons rfl (.cons rfl .nil)))) rfl) rfl (.cons rfl pa4 rfl pu4 .nil) (.cons (.cons (.cons (.cons .nil)))) L) t1 t0 (swb (apN (k:=34) (sz:=4) un40 un40 ti47 rfl rfl rfl dC sM rfl (by first | (simp [Tryz.t47]; done) | (simp [Tryz.t47]; omega)) oM (P0 _ rfl) L) t2 t0 ⟨rfl,rfl⟩ ?_)))
    refine aV L rfl ?_
    refine R1 ⟨aok rfl rfl,?_⟩
    refine J3 (sw (L3 L (w64 oM oM)) t2 t0 (mV L rfl (R1 ?_)))
    exact ⟨(k+1,[u.getD k 0*v.getD k 0]),⟨by simp only; omega,ht⟩,(by simp only; omega),I3 ⟨oR,oR,rfl,rfl,rfl,rfl,trivial⟩ (hbI (l':=[(34,_),(4,_)]) rfl t2)⟩
   ·have h1:=df h1
    rw [if_neg h1,hT,List.append_nil] at ht
    refine V1 (xq ?_)
    refine J3 (sw (L3 L (w64 oM oM)) t2 t0 (mV L rfl (R1 ?_)))
    exact ⟨(k+1,[]),⟨by simp only; omega,ht⟩,(by simp only; omega),I3 ⟨oR,oR,rfl,rfl,rfl,rfl,trivial⟩ (hbI (l':=[(4,_)]) rfl t1)⟩
  ·have hc:=df hc
   have hku:k=u.length:=by omega
   rw [hku,I0] at hT
   refine U2 (xq ?_)
   refine j5 [] (sl:=[(4,_),(5,_)]) (hb:=[(4,_)]) (V3 hX0) ⟨⟨_,rfl,.same⟩,⟨_,rfl,(.p .nil)⟩,trivial⟩ ⟨⟨rfl,_,rfl,.same⟩,trivial⟩ (exr (mV L rfl (cK hG hX cl68 hN (n0r [] (B+C) (by rw [← hT]; have:=j0q (u:=u) (v:=v); omega) (by rw [← hT]; exact K0m hB hC) (by rw [← hT]; have:=V0 (B+C+1) (j0q (u:=u) (v:=v)); omega)) L t1 ?_)))
   refine sb (Z2 sz47 rF pa4 rfl pu4) t2 t1 ?_
   refine zn [(4,_)] [(4,_)] t1 t1 (X1 ?_)
   refine Q0 (.agg rfl rfl rfl ag47 sz47 (.cons (.cons (.cons (.cons .nil))))) ?_
   rw [f0h,hT]
 ·dsimp only [j1j,k1z]
  have hTl:T.length+1≤u.length:=by
   have h1:=j0q (u:=u.take k) (v:=v)
   rw [hT] at h1; simp at h1; omega
  have hTl2:(q :: T).length≤u.length:=hTl
  refine exr (sw (d4 L) t2 t0 (zn [(1,_),(4,_),(5,_),(8,_),(9,_),(10,_),(11,_)] [(4,_),(34,_)] t7 t2 (U1 ?_)))
  refine E2 rfl (fun hc=>?_) (fun hc=>?_)
  ·have hc:=dt hc
   have hk2:k<u.length:=by omega
   have hk3:k<v.length:=by omega
   have ht:=J0v hk2 huv
   have b1:qw (u.getD k 0)≤B:=hB _ (w5 hk2)
   have b2:qw (v.getD k 0)≤C:=hC _ (w5 hk3)
   refine V1 (xq ?_)
   refine U1 (Y1 (exr (mV L rfl (sw (K2 un40 sz47 oM oM sM dC L) t2 t0 ?_))))
   refine sw (d8 ag47 sz47 (b8 hk2) rfl L) t1 t0 (swb (T3 (k:=7) (n:=4) zv47 (.cons rfl (.cons rfl (.cons rfl (.cons rfl .nil)))) rfl (P0 _ rfl) L) t0 t0 ⟨rfl,rfl⟩ (aV L rfl (sb (Z2 sz47 rF pa4 rfl pu4) t2 t1 ?_)))
   refine zn [(1,_),(4,_),(5,_),(6,_),(7,_),(8,_),(9,_),(10,_)] [(4,_),(7,_),(34,_)] t8 t3 ?_
   refine exm (sl:=[(25,vb (decide (u.getD k 0≠0∧v.getD k 0≠0)))]) (sl0:=[(1,_),(4,_),(5,_),(6,_),(7,_),(8,_),(9,_),(10,_)]) (hb:=[]) (hb0:=[(4,_),(7,_),(34,_)]) t8 t3 ?_ ?_
   ·by_cases h0:u.getD k 0=0
    ·refine lp4 ag47 sz47 L rfl rfl (cK hG hX cl65 hN (D6 (u.getD k 0) oM) L t1 (sw (l4 L) t1 t0 (mV L rfl (swn (g:=18) rfl (by rw [h0]; rfl) L rfl ?_))))
     refine swn (g:=18) rfl (by rw [h0]; rfl) L rfl ?_
     refine swn (g:=18) rfl (by rw [h0]; rfl) L rfl ?_
     refine swn (g:=18) rfl (by rw [h0]; rfl) L rfl ?_
     refine swn (g:=18) rfl (by rw [h0]; rfl) L rfl ?_
     refine swn (g:=18) rfl (by rw [h0]; rfl) L rfl ?_
     refine sw (Y3 (by rw [h0]; rfl) L) t2 t0 ?_
     exact R1 ⟨⟨ob rfl (by simp only [h0]; rfl),rfl,rfl,rfl,rfl,rfl,rfl,rfl,rfl,trivial⟩,t3⟩
    ·refine lp4 ag47 sz47 L rfl rfl (cK hG hX cl65 hN (D6 (u.getD k 0) oM) L t1 (sw (l4 L) t1 t0 (mV L rfl (gV (g:=18) rfl (by simp only [h0]; rfl) L rfl rfl ?_))))
     refine gV (g:=18) rfl (by simp only [h0]; rfl) L rfl rfl ?_
     refine swg (g:=18) rfl (by simp only [h0]; rfl) (K2 un40 sz47 oM oM sM dC L) rfl t2 t0 ?_
     refine swg (g:=18) rfl (by simp only [h0]; rfl) (d8 ag47 sz47 (b8 hk3) rfl L) rfl t1 t0 ?_
     refine swg (g:=18) rfl (by simp only [h0]; rfl) (c_c hG hX cl65 rfl hN (D6 (v.getD k 0) oM) L) rfl t1 t0 ?_
     refine swg (g:=18) rfl (by simp only [h0]; rfl) (l4 L) rfl t1 t0 ?_
     refine sw (M4 (by simp only [h0]; rfl) L) t2 t0 ?_
     exact R1 ⟨⟨ob rfl (by rw [decide_eq_decide.2 (show (¬ (v.getD k 0=0))↔(u.getD k 0≠0∧v.getD k 0≠0) from ⟨fun h=>⟨h0,h⟩,fun h=>h.2⟩).symm]; exact (decide_not).symm),rfl,rfl,rfl,rfl,rfl,rfl,rfl,rfl,trivial⟩,t3⟩
   refine E2 rfl (fun h1=>?_) (fun h1=>?_)
   ·have h1:=dt h1
    rw [if_pos h1,hT] at ht
    refine h0b rF ?_
    refine mV L rfl (lp4 ag47 sz47 L rfl rfl (mV L rfl (mV L rfl (sw (K2 un40 sz47 sM (by simp; trace_state; omega) sM dC L) t2 t0 ?_))))
    refine sw (d8 ag47 sz47 (b8 hk3) rfl L) t1 t0 (cK hG hX cl67 hN (g8 (u.getD k 0) (v.getD k 0) oM oM) L t2 (sw (K4 (vs:=[_]) un40 ti47 rfl rfl dC dC rfl (X2 (.cons rfl (.cons rfl (.cons rfl (.cons rfl .nil)))) rfl) rfl (.cons rfl pa4 rfl pu4 .nil) (.cons (.cons (.cons (.cons .nil)))) L) t1 t0 (swb (apP (sz:=4) un40 un40 ti47 rfl rfl rfl dC (by exact sM) oF sM rfl rfl rfl (by first | (simp [Tryz.t47]; done) | (simp [Tryz.t47]; omega)) oM (P0 _ rfl) L) t2 t1 t0 ?_)))
    refine aV L rfl ?_
    refine R1 ⟨C5 [⟨[5],[],[26],[]⟩,⟨[7],[7],[27],[]⟩,⟨[1],[],[28],[]⟩,⟨[6],[],[29],[]⟩,⟨[28,29],[],[30],[]⟩,⟨[30],[],[31],[]⟩,⟨[27,31],[],[32],[]⟩,⟨[32],[],[33],[]⟩,⟨[26,33],[34],[34],[34]⟩,⟨[34],[],[5],[]⟩] rF rF dC,?_⟩
    refine J3 (sw (L3 L (w64 oM oM)) t2 t0 (mV L rfl (R1 ?_)))
    exact ⟨(k+1,q :: T++[u.getD k 0*v.getD k 0]),⟨by simp only; omega,ht⟩,(by simp only; omega),I3 ⟨oR,(by exact ov rfl sO),rfl,rfl,rfl,rfl,trivial⟩ (hbI (l':=[(34,_),(4,_)]) rfl ⟨(obl rfl (k0y (q :: T) _)),rfl,trivial⟩)⟩
   ·have h1:=df h1
    rw [if_neg h1,hT,List.append_nil] at ht
    refine V1 (xq ?_)
    refine J3 (sw (L3 L (w64 oM oM)) t2 t0 (mV L rfl (R1 ?_)))
    exact ⟨(k+1,q :: T),⟨by simp only; omega,ht⟩,(by simp only; omega),I3 ⟨oR,oR,rfl,rfl,rfl,rfl,trivial⟩ (hbI (l':=[(34,_),(4,_)]) rfl t2)⟩
  ·have hc:=df hc
   have hku:k=u.length:=by omega
   rw [hku,I0] at hT
   refine U2 (xq ?_)
   refine j5 [34] (sl:=[(4,_),(5,_)]) (hb:=[(4,_)]) (V3 hX0) ⟨⟨_,rfl,.same⟩,⟨_,rfl,(.ref rfl rfl (by exact sM) (by first | rfl | omega))⟩,trivial⟩ ⟨⟨rfl,_,rfl,.same⟩,trivial⟩ ?_
   refine exr (mV L rfl (cK hG hX cl68 hN (n0r (q :: T) (B+C) (by rw [← hT]; have:=j0q (u:=u) (v:=v); omega) (by rw [← hT]; exact K0m hB hC) (by rw [← hT]; have:=V0 (B+C+1) (j0q (u:=u) (v:=v)); omega)) L t1 ?_))
   refine sb (Z2 sz47 rF pa4 rfl pu4) t2 t1 ?_
   refine zn [(4,_)] [(4,_)] t1 t1 (X1 ?_)
   refine Q0 (.agg rfl rfl rfl ag47 sz47 (.cons (.cons (.cons (.cons .nil))))) ?_
   rw [f0h,hT]
theorem P0x (v:List Rat)(hl:v.length<1000000000):w0b E 89 [pV v] 47 4 v.length (V5 v):=by
 refine n0h (k:=3) (tot:=v.length*4) Tryz.func89 rfl Tryz.ntmps89 Tryz.results89 sM fun F hG hX0 hnt hdf P0=>?_
 obtain ⟨L,hX,hN⟩:=pro hnt hX0 hG
 refine exr (aV L rfl (zn [(0,_)] [] t1 trivial (exr (swb (q0p (k:=3) (sz:=4) un40 ti47 (P0 _ rfl) L) t0 t0 ⟨rfl,rfl⟩ (mV L rfl (swb (apP (sz:=4) un40 un40 ti47 rfl rfl rfl dC rX oF sM rfl rfl rfl (by simp [Tryz.t47]; omega) oM (P0 _ rfl) L) t2 t1 t0 ?_))))))
 refine aV L rfl ?_
 refine R1 ⟨[(2,.ref 3 0 v.length (v.length*4))],[(3,_)],⟨ov rfl sM,trivial⟩,t1,?_⟩
 refine X1 ?_
 refine ⟨.inr rfl,rfl,_,rfl,by simp,?_,by simp⟩
 rw [C0 sM]; rfl
def zq (n:Nat):List Rat:=List.replicate n 0
@[simp] theorem k0d (n:Nat):(zq n).length=n:=by simp [zq]
theorem F1v (n:Nat):zq (n+1)=zq n++[0]:=by simp [zq,List.replicate_succ']
def zc0:List L2:=[.a (.bool false),.a (.slice none 0 0),.a (.bool false),.a (.slice none 0 0)]
theorem g1x (n:Nat)(z:List L2):T8 (n+1) z=z++T8 n z:=by simp [T8,List.replicate_succ]
theorem p0n {v:List Rat}{n k:Nat}(hv:v.length=k)(h:k<n)(a:Rat):(V5 v++T8 (n - k) zc0).take (k*4)++cQ a++(V5 v++T8 (n - k) zc0).drop (k*4+4)=V5 (v++[a])++T8 (n - (k+1)) zc0:=by
 have e:(V5 v).length=k*4:=by rw [E3,hv]
 obtain ⟨m,hm⟩:∃ m,n - k=m+1:=⟨n - k - 1,by omega⟩
 rw [hm,show n - (k+1)=m by omega,g1x]
 rw [List.take_append_of_le_length oM,C0 oM,← List.append_assoc (V5 v),List.drop_append,List.drop_eq_nil_of_le (by rw [L1,e]; simp [zc0])]
 have e2:k*4+4 - (V5 v++zc0).length=0:=by rw [L1,e]; simp [zc0]
 rw [e2,D0g]
 simp [V5]
theorem F6 {v:List Rat}{n k:Nat}(hv:v.length=k)(h:k≤n):(V5 v++T8 (n - k) zc0).length=n*4:=by
 rw [L1,E3,Z8,hv]; simp only [zc0,E1,List.length_nil]; omega
theorem m0v (n:Nat)(hn:n<1000000000):w0b E 54 [vZ n] 47 4 n (V5 (zq n)):=by
 refine n0h (k:=6) (tot:=n*4) Tryz.func54 rfl Tryz.ntmps54 Tryz.results54 sM fun F hG hX0 hnt hdf P0=>?_
 obtain ⟨L,hX,hN⟩:=pro hnt hX0 hG
 refine exr (aV L rfl (zn [(0,_)] [] t1 trivial (exr (mV L rfl (swb (e7 (sz:=4) (k:=6) un40 ti47 rfl rfl dC rfl rfl rfl rfl rfl (Nat.le_refl _) (by simp [Tryz.t47]; omega) oM (P0 _ rfl) L) t2 t0 ⟨rfl,rfl⟩ ?_)))))
 refine aV L rfl (zn [(3,_)] [(6,_)] t1 t1 (U1 (exr (mV L rfl (sw (n0z un40 (by exact (Z8 _ _)) L) t1 t1 ?_)))))
 refine mV L rfl (zn [(3,_),(8,_),(9,_)] [(6,_)] t3 t1 (Y1 ?_))
 refine exl (α:=Nat) (fun k=>[(9,vi (k:Int))]) (fun k=>[(6,⟨47,4,.pure (V5 (zq k)++T8 (n - k) zc0)⟩)]) (fun k=>k≤n) (fun k=>n - k) (0) (sl:=[(3,_),(8,_)]) (hb:=[]) ?_ ⟨oR,rfl,rfl,trivial⟩ t1 ?_
 ·exact Nat.zero_le _
 intro k hk
 refine exr (sw (d4 L) t2 t0 (zn [(3,_),(8,_),(9,_),(10,_)] [(6,_)] t4 t1 (U1 ?_)))
 refine E2 rfl (fun hc=>?_) (fun hc=>?_)
 ·have hc:=dt hc
  refine V1 (xq ?_)
  refine U1 (Y1 (exr (mV L rfl (aV L rfl (zn [(3,_),(4,_),(8,_),(9,_)] [(6,_)] t4 t1 (J3 (mV L rfl (mV L rfl (cK hG hX cl55 hN (T6 0 dC dC) L t1 (sw (p0q (sz:=4) un40 sz47 (by exact (F6 (k0d _) hk)) (j:=k) rO oM L) t2 t1 ?_))))))))))
  refine sb (G0g (n:=4) sz47 (by exact (F6 (k0d _) hk)) rfl oM) t2 t1 ?_
  refine R1 (J3 (sw (L3 L (w64 oM oM)) t2 t0 (mV L rfl (R1 ?_))))
  exact ⟨k+1,oM,by omega,I3 ⟨oR,rfl,rfl,trivial⟩ ⟨obl rfl (congrArg (fun c=>(⟨47,4,.pure c⟩:Blk)) ((p0n (k0d k) (show k<n by omega) 0).trans (by rw [F1v]))),trivial⟩⟩
 ·have hc:=df hc
  refine U2 (xq ?_)
  refine exr (mV L rfl (aV L rfl (zn [(2,_)] [(6,_)] t1 t1 (X1 ?_))))
  refine ⟨.inr rfl,rfl,_,rfl,(F6 (k0d _) hk),?_,by simp⟩
  have e:k=n:=by omega
  subst e
  simp [T8,C0]
theorem P0h {p:Nat→Bool}{i b:Nat}(h:i<b):F4 p i (b - i)=if p i=true then (i:Int) else F4 p (i+1) (b - (i+1)):=by
 obtain ⟨m,hm⟩:∃ m,b - i=m+1:=⟨b - i - 1,by omega⟩
 rw [hm,show b - (i+1)=m by omega]; rfl
theorem O8 (g:FuncId)(caps:List PV)(H:List (Nat×Blk))(hnd:(H.map (·.1)).Nodup)(hw:Whole H)(hcall:∀ args w,(callFunc g args).run E.P w = .ok (.enter g args) w)(p:Nat→Bool)(a b:Nat)(hb:b<9000000000000)(hg:∀ i:Nat,a≤i→i<b→I4 E (fun _=>true) g (List.cons (.p (vZ i)) caps) H H (.p (bZ (p i)))):I4 E (fun _=>true) 52 [.p (vZ a),.p (vZ b),.clo (.func g) [] caps] (H) (H) (.p (vZ (F4 p a (b - a)))):=by
 refine m4 (xs:=[vZ (F4 p a (b - a))]) Tryz.func52 rfl Tryz.ntmps52 Tryz.results52 sM fun F G=>?_
 have L:=@lti _ _ G.nt
 have hG:=G.g
 have hX:=G.x
 have hN:=U5 hG
 refine exr (aV L rfl ?_)
 refine R1 ⟨[(0,_),(1,_),(2,_)],H,t3,(o5 (l:=H) hnd (fun _ _ h=>h)),?_⟩
 refine U1 (exr (mV L rfl (aV L rfl ?_)))
 refine R1 ⟨[(1,_),(2,_),(7,_)],H,t3,(o5 (l:=H) hnd (fun _ _ h=>h)),?_⟩
 refine Y1 ?_
 refine G0k (α:=Nat) (fun i=>[(7,vi (i:Int))]) (fun i=>[]) (fun i=>H) (fun i=>a≤i∧F4 p i (b - i)=F4 p a (b - a)) (fun i=>b - i) (a) (sl:=[(1,_),(2,_)]) (hb:=[]) ?_ ⟨oR,rfl,rfl,trivial⟩ (o5 (l:=H) hnd (fun _ _ h=>h)) ?_
 ·exact ⟨Nat.le_refl _,rfl⟩
 intro i hi
 obtain ⟨hi,hI⟩:=hi
 refine U1 (exr (mV L rfl (mV L rfl (sw (d4 L) t2 t0 ?_))))
 refine R1 ⟨[(1,_),(2,_),(7,_),(11,_)],H,t4,(o5 (l:=H) hnd (fun _ _ h=>h)),?_⟩
 refine E2 rfl (fun hc=>?_) (fun hc=>?_)
 ·have hc:=dt hc
  have hib:i<b:=by omega
  rw [P0h hib] at hI
  refine V1 (xq ?_)
  refine U1 (Y1 (exr (mV L rfl (mV L rfl (sw (i6 hG hX hN (hg i hi hib) rfl L (Y6 (fst:=[]) (ys:=[_]) (cap:=caps) hcall rfl rfl) hnd hw (fun q h=>by cases h)) t2 (E7 (o5 hnd fun _ _ h=>h)) ?_)))))
  refine R1 ⟨[(1,_),(2,_),(7,_),(16,_)],H,t4,(o5 (l:=H) hnd (fun _ _ h=>h)),?_⟩
  refine E2 rfl (fun hp=>?_) (fun hp=>?_)
  ·rw [if_pos hp] at hI
   refine exr (mV L rfl (aV L rfl ?_))
   refine R1 ⟨[(6,_)],H,t1,(o5 (l:=H) hnd (fun _ _ h=>h)),?_⟩
   refine X1 ?_
   refine ⟨.inr rfl,T4.cast (.cons (.tmp rfl) .nil) ?_,(o5 (l:=H) hnd (fun _ _ h=>h))⟩
   rw [← hI]
  ·rw [hp,if_neg Bool.false_ne_true] at hI
   refine V1 (xq ?_)
   refine J3 (mV L rfl (sw (L3 L (w64 oM oM)) t2 t0 (aV L rfl (R1 ?_))))
   exact ⟨i+1,⟨by omega,hI⟩,by omega,I3 ⟨oR,rfl,rfl,trivial⟩ (o5 (l:=H) hnd (fun _ _ h=>h))⟩
 ·have hc:=df hc
  have e:b - i=0:=by omega
  rw [e] at hI
  refine U2 (xq ?_)
  refine exr (aV L rfl ?_)
  refine R1 ⟨[(6,_)],H,t1,(o5 (l:=H) hnd (fun _ _ h=>h)),?_⟩
  refine X1 ?_
  refine ⟨.inr rfl,T4.cast (.cons (.tmp rfl) .nil) ?_,(o5 (l:=H) hnd (fun _ _ h=>h))⟩
  rw [← hI]; rfl
structure RQ where
 m:Bool
 ws:List Int
 n:Bool
 vs:List Int
instance:Inhabited RQ:=⟨⟨false,[],false,[]⟩⟩
def RQ.of (a:Rat):RQ:=⟨decide (a.num<0),s3 a.num.natAbs,decide ((a.den:Int)<0),s3 (a.den:Int).natAbs⟩
def RQ.is (r:RQ):Bool:=R2 r.m r.ws && (R2 r.n r.vs && decide (0<sg r.n (val r.vs)∧(Int.gcd (sg r.m (val r.ws)) (sg r.n (val r.vs)):Int)=1))
def RQ.wd (r:RQ):Prop:=Wd r.ws∧Wd r.vs
theorem H1f (n:Int):sg (decide (n<0)) (val (s3 n.natAbs))=n:=by
 rw [L4]; unfold sg; split <;> rename_i h <;> simp at h <;> omega
theorem RQ.is_of (a:Rat):(RQ.of a).is=true:=by
 simp only [RQ.is,RQ.of,K3,H1f,Bool.true_and,decide_eq_true_eq]
 refine ⟨by exact_mod_cast a.den_pos,?_⟩
 have:=a.reduced
 unfold Nat.Coprime at this
 unfold Int.gcd
 exact_mod_cast this
theorem RQ.of_is {r:RQ}(h:r.wd)(hi:r.is=true):∃ a:Rat,r=RQ.of a:=by
 obtain ⟨m,ws,n,vs⟩:=r
 simp only [RQ.is,j0,decide_eq_true_eq] at hi
 obtain ⟨h1,h2,h3,h4⟩:=hi
 obtain ⟨e1,e2⟩:=d0r h.1 h1
 obtain ⟨e3,e4⟩:=d0r h.2 h2
 simp only at e1 e2 e3 e4
 refine ⟨⟨sg m (val ws),(sg n (val vs)).natAbs,by omega,?_⟩,?_⟩
 ·unfold Int.gcd at h4; exact_mod_cast h4
 ·have e5:(((sg n (val vs)).natAbs:Nat):Int)=sg n (val vs):=by omega
  simp only [RQ.of,e5,e1,e2,e3,e4]
@[reducible] def cR (r:RQ):List L2:=[.a (.bool r.m),.sl r.ws.length (B4 r.ws),.a (.bool r.n),.sl r.vs.length (B4 r.vs)]
def m0y:List RQ→List L2
 | []=>[]
 | a :: v=>cR a++m0y v
@[simp] theorem v0w:∀ v:List RQ,(m0y v).length=v.length*4
 | []=>rfl
 | a :: v=>by simp only [m0y,L1,v0w v,cR,E1,List.length_nil]; omega
theorem h1y:∀ {v:List RQ}{i:Nat},i<v.length→((m0y v).drop (i*4)).take 4=cR (v.getD i default)
 | [],i,h=>by simp at h
 | a :: v,0,_=>by simp [m0y,cR]
 | a :: v,i+1,h=>by
  have:=h1y (v:=v) (i:=i) (by simpa using h)
  rw [show (i+1)*4=i*4+1+1+1+1 by omega]
  simp only [m0y,cR,M1,List.nil_append,List.drop_succ_cons,List.getD_cons_succ]
  exact this
theorem f1k:∀ v:List Rat,m0y (v.map RQ.of)=V5 v
 | []=>rfl
 | a :: v=>by simp only [R0,m0y,V5,f1k v]; rfl
@[reducible] def pVR (v:List RQ):L2:=.sl v.length (m0y v)
theorem M0x (v:List Rat):pVR (v.map RQ.of)=pV v:=by rw [pVR,pV,f1k,O0]
theorem p1g {r:RQ}(hw:r.wd)(hl:r.ws.length<1000000000)(hl2:r.vs.length<1000000000):C3 E 107 [.agg (cR r)] (bZ r.is):=by
 obtain ⟨m,ws,n,vs⟩:=r
 by_cases h:R2 m ws=true∧R2 n vs=true
 ·obtain ⟨e1,e2⟩:=d0r hw.1 h.1
  obtain ⟨e3,e4⟩:=d0r hw.2 h.2
  have:=M1m (sg m (val ws)) (sg n (val vs)) (by unfold nw; simp only at e2 hl; rw [e2]; exact hl) (by unfold nw; simp only at e4 hl2; rw [e4]; exact hl2)
  rw [pN,e1,e2,e3,e4] at this
  rw [RQ.is,show R2 (RQ.mk m ws n vs).m (RQ.mk m ws n vs).ws=true from h.1,show R2 (RQ.mk m ws n vs).n (RQ.mk m ws n vs).vs=true from h.2]
  exact this
 ·have:=K1w m n ws vs hl hl2 h
  have e:(RQ.mk m ws n vs).is=false:=by
   rw [RQ.is,Bool.eq_false_iff]; simp only [j0,ne_eq]; exact fun hh=>h ⟨hh.1,hh.2.1⟩
  rw [e]; exact this
theorem J0s {r:RQ}(hw:r.wd)(hl:r.ws.length<1000000000)(hl2:r.vs.length<1000000000):C3 E 36 [.agg (cR r)] (bZ r.is):=by
 obtain ⟨m,ws,n,vs⟩:=r
 by_cases h:R2 m ws=true∧R2 n vs=true
 ·obtain ⟨e1,e2⟩:=d0r hw.1 h.1
  obtain ⟨e3,e4⟩:=d0r hw.2 h.2
  have:=K1x (sg m (val ws)) (sg n (val vs)) (by unfold nw; simp only at e2 hl; rw [e2]; exact hl) (by unfold nw; simp only at e4 hl2; rw [e4]; exact hl2)
  rw [pN,e1,e2,e3,e4] at this
  rw [RQ.is,show R2 (RQ.mk m ws n vs).m (RQ.mk m ws n vs).ws=true from h.1,show R2 (RQ.mk m ws n vs).n (RQ.mk m ws n vs).vs=true from h.2]
  exact this
 ·have:=D1w m n ws vs hl hl2 h
  have e:(RQ.mk m ws n vs).is=false:=by
   rw [RQ.is,Bool.eq_false_iff]; simp only [j0,ne_eq]; exact fun hh=>h ⟨hh.1,hh.2.1⟩
  rw [e]; exact this
def RQ.sm (r:RQ):Prop:=r.wd∧r.ws.length<1000000000∧r.vs.length<1000000000
theorem RQ.sm_of {a:Rat}(h:qw a<1000000000):(RQ.of a).sm:=by
 have h1:=f5 a
 have h2:=G5 a
 exact ⟨⟨O3 _,O3 _⟩,by show nw a.num<_; omega,by show nw (a.den:Int)<_; omega⟩
theorem gD {v:List RQ}{i:Nat}(h:i<v.length):v.getD i default∈v:=by simp [f0,h]
@[reducible] def bV (v:List RQ):List (Nat×Blk):=[(1,⟨40,1,.mix [.p (pVR v)]⟩)]
theorem w0y (v:List RQ)(i:Nat)(hi:i<v.length)(hl:v.length<1000000000)(hs:∀ r∈v,r.sm):I4 E (fun _=>true) 106 [.p (vZ i),.at_ 1 0 1] (bV v) (bV v) (.p (bZ (!(v.getD i default).is))):=by
 refine m4 (xs:=[bZ (!(v.getD i default).is)]) Tryz.func106 rfl Tryz.ntmps106 Tryz.results106 sM fun F G=>?_
 have L:=@lti _ _ G.nt
 have hG:=G.g
 have hX:=G.x
 have hN:=U5 hG
 have P0:=G.p0
 have hr:=hs _ (gD hi)
 refine exr (aV L rfl (zn [(0,_),(1,_)] [(1,_)] t2 t1 (exr (sw (Z1 ag40 rF rF L) t1 t1 ?_))))
 refine mV L rfl (sw (K2 un40 sz47 oM oM sM dC L) t2 t0 ?_)
 refine sw (d8 ag47 sz47 (h1y hi) rfl L) t1 t0 (cK hG hX cl107 hN (p1g hr.1 hr.2.1 hr.2.2) L t1 (sw (l4 L) t1 t0 (aV L rfl (zn [(3,_)] [(1,_)] t1 t1 (X1 ?_)))))
 refine ⟨.inr rfl,T4.cast (.cons (.tmp rfl) .nil) ?_,t1⟩
 rfl
theorem k0z {p:Nat→Bool}:∀ {n a:Nat},(F4 p a n<0)↔(List.range' a n).all (fun i=>!p i)=true
 | 0,a=>by simp [F4]
 | n+1,a=>by
  simp only [F4,List.range'_succ,List.all_cons]
  by_cases h:p a=true
  ·simp [h]
  ·simp only [Bool.not_eq_true] at h
   rw [h,if_neg Bool.false_ne_true,k0z]; simp
theorem X7 {H:List (Nat×Blk)}(h:(H.all fun p=>p.2.cs.only (H.map (·.1)))=true):Whole H:=by
 intro j B hj i x hx q hq
 rw [s0] at h
 have h1:=PV.only_mem (Cells.only_get (h _ (M3 hj)) hx) hq
 obtain ⟨p,hp,e⟩:=G0.1 h1
 intro hn
 rw [List.lookup_eq_none_iff] at hn
 have:=hn p hp
 simp [e] at this
theorem g1s {p:RQ→Bool}{v:List RQ}:((List.range' 0 v.length).all fun i=>p (v.getD i default))=v.all p:=by
 rw [← List.range_eq_range']
 induction v with
 | nil=>rfl
 | cons a v ih =>
  rw [E1,List.range_succ_eq_map,List.all_cons,List.all_map,List.all_cons]
  simp only [List.getD_cons_zero,Function.comp_def,List.getD_cons_succ]
  rw [← ih]
theorem b1y {p:RQ→Bool}{v:List RQ}:decide (F4 (fun i=>!p (v.getD i default)) 0 (v.length - 0)<0)=v.all p:=by
 rw [Bool.eq_iff_iff,decide_eq_true_iff,k0z,Nat.sub_zero]
 simp only [Bool.not_not]
 rw [g1s]
theorem b0f (v:List RQ)(hl:v.length<1000000000)(hs:∀ r∈v,r.sm):C3 E 64 [pVR v] (bZ (v.all RQ.is)):=by
 refine I2 (xs:=[bZ (v.all RQ.is)]) Tryz.func64 rfl Tryz.ntmps64 Tryz.results64 sM fun F hG hX0 hnt hdf P0=>?_
 obtain ⟨L,hX,hN⟩:=pro hnt hX0 hG
 have hcl:=fun i (h:0≤i) (hi:i<v.length)=>w0y v i hi hl hs
 refine exr (swb (W3 (k:=1) (n:=1) .sl rfl rfl (P0 _ rfl) L) t1 t0 ⟨rfl,rfl⟩ (aV L rfl (zn [(1,_)] [(1,_)] t1 t1 (exr (sw (Z1 ag40 rF rF L) t1 t1 ?_)))))
 refine sw (l3 un40 L) t1 t0 (sw (p0x (vs:=[]) (us:=[_]) rfl rfl L) t1 t0 (sw (i6 hG hX hN (O8 106 [.at_ 1 0 1] (bV v) sM (X7 rfl) cl106 _ 0 v.length oM hcl) rfl L (Y4 (ys:=[_,_,_]) cl52 rfl rfl) sM (X7 rfl) (fun q h=>by cases h)) t3 t1 ?_))
 refine sw (d4 L) t2 t0 (aV L rfl (zn [(2,_)] [] t1 trivial (X1 ?_)))
 refine Q0 (.tmp rfl) ?_
 rw [← b1y]
def f0j (m:List (List RQ)):List L2:=m.map pVR
@[simp] theorem N0c (m:List (List RQ)):(f0j m).length=m.length:=by simp [f0j]
@[reducible] def pMR (c:Int)(m:List (List RQ)):L2:=.agg [vZ c,.sl m.length (f0j m)]
theorem g0n {m:List (List RQ)}{i:Nat}(h:i<m.length):(f0j m)[i]? = some (pVR (m.getD i [])):=by
 simp [f0j,h,f0]
theorem gDL {α:Type}{v:List (List α)}{i:Nat}(h:i<v.length):v.getD i []∈v:=by simp [f0,h]
@[reducible] def bM (c:Int)(m:List (List RQ)):List (Nat×Blk):=[(1,⟨24,2,.mix [.p (vZ c),.p (.sl m.length (f0j m))]⟩)]
def b0c (c:Int)(r:List RQ):Bool:=decide ((r.length:Int)=c) && r.all RQ.is
def MSm (m:List (List RQ)):Prop:=m.length<1000000000∧∀ r∈m,r.length<1000000000∧∀ a∈r,a.sm
theorem v1r (c:Int)(m:List (List RQ))(i:Nat)(hi:i<m.length)(hm:MSm m):I4 E (fun _=>true) 85 [.p (vZ i),.at_ 1 0 2] (bM c m) (bM c m) (.p (bZ (!b0c c (m.getD i [])))):=by
 refine m4 (xs:=[bZ (!b0c c (m.getD i []))]) Tryz.func85 rfl Tryz.ntmps85 Tryz.results85 sM fun F G=>?_
 have L:=@lti _ _ G.nt
 have hG:=G.g
 have hX:=G.x
 have hN:=U5 hG
 have P0:=G.p0
 have hr:=hm.2 _ (gDL hi)
 have hl:=hm.1
 refine exr (aV L rfl (zn [(0,_),(1,_)] [(1,_)] t2 t1 ?_))
 refine P1g (sl:=[(3,vb (!b0c c (m.getD i [])))]) (sl0:=[]) (hb:=[]) (hb0:=[(1,_)]) rF t0 t1 ?_ ?_
 ·by_cases h:((m.getD i []).length:Int)=c
  ·refine sw (j2 un24 rfl sz22 dC rX L) t1 t1 ?_
   refine sw (Z1 ag22 rF rF L) t1 t1 ?_
   refine mV L rfl (sw (ixJ un22 sz40 (j:=i) rO oM sM L) t2 t0 ?_)
   refine sw (C4 ag40 (g0n hi) L) t1 t0 (sw (l3 un40 L) t1 t0 (sw (j2 un24 rfl sz3 dC rX L) t1 t1 ?_))
   refine sw (Z1 ag3 rF rF L) t1 t1 ?_
   refine sw (c_n L) t2 t0 (mV L rfl (swg (g:=13) rfl (by rw [h]; simp) (j2 un24 rfl sz22 dC rX L) rfl t1 t1 ?_))
   refine swg (g:=13) rfl (by rw [h]; simp) (Z1 ag22 rF rF L) rfl t1 t1 ?_
   refine gV (g:=13) rfl (by rw [h]; simp) L rfl rfl ?_
   refine swg (g:=13) rfl (by rw [h]; simp) (ixJ un22 sz40 (j:=i) rO oM sM L) rfl t2 t0 ?_
   refine swg (g:=13) rfl (by rw [h]; simp) (C4 ag40 (g0n hi) L) rfl t1 t0 ?_
   refine swg (g:=13) rfl (by rw [h]; simp) (c_c hG hX cl64 rfl hN (b0f (m.getD i []) hr.1 hr.2) L) rfl t1 t0 ?_
   refine swg (g:=13) rfl (by rw [h]; simp) (l4 L) rfl t1 t0 ?_
   refine sw (Y3 (by rw [h]; simp) L) t2 t0 ?_
   refine aV L rfl ?_
   exact R1 ⟨C5 [⟨[1],[1],[4],[]⟩,⟨[4],[1],[5],[]⟩,⟨[0],[],[6],[]⟩,⟨[5,6],[],[7],[]⟩,⟨[7],[],[8],[]⟩,⟨[8],[],[9],[]⟩,⟨[1],[1],[10],[]⟩,⟨[10],[1],[11],[]⟩,⟨[9,11],[],[12],[]⟩,⟨[12],[],[13],[]⟩,⟨[13,1],[1],[14],[]⟩,⟨[13,14],[1],[15],[]⟩,⟨[13,0],[],[16],[]⟩,⟨[13,15,16],[],[17],[]⟩,⟨[13,17],[],[18],[]⟩,⟨[13,18],[],[19],[]⟩,⟨[13,19],[],[20],[]⟩,⟨[13,20],[],[21],[]⟩,⟨[21],[],[3],[]⟩] rF rF dC,⟨ob rfl (by rw [b0c,h]; simp),trivial⟩,t1⟩
  ·refine sw (j2 un24 rfl sz22 dC rX L) t1 t1 ?_
   refine sw (Z1 ag22 rF rF L) t1 t1 ?_
   refine mV L rfl (sw (ixJ un22 sz40 (j:=i) rO oM sM L) t2 t0 ?_)
   refine sw (C4 ag40 (g0n hi) L) t1 t0 (sw (l3 un40 L) t1 t0 (sw (j2 un24 rfl sz3 dC rX L) t1 t1 ?_))
   refine sw (Z1 ag3 rF rF L) t1 t1 ?_
   refine sw (c_n L) t2 t0 (mV L rfl (swn (g:=13) rfl (by rw [decide_eq_false h]) L rfl ?_))
   refine swn (g:=13) rfl (by rw [decide_eq_false h]) L rfl ?_
   refine swn (g:=13) rfl (by rw [decide_eq_false h]) L rfl ?_
   refine swn (g:=13) rfl (by rw [decide_eq_false h]) L rfl ?_
   refine swn (g:=13) rfl (by rw [decide_eq_false h]) L rfl ?_
   refine swn (g:=13) rfl (by rw [decide_eq_false h]) L rfl ?_
   refine swn (g:=13) rfl (by rw [decide_eq_false h]) L rfl ?_
   refine sw (M4 (by rw [decide_eq_false h]; rfl) L) t2 t0 ?_
   refine aV L rfl ?_
   exact R1 ⟨C5 [⟨[1],[1],[4],[]⟩,⟨[4],[1],[5],[]⟩,⟨[0],[],[6],[]⟩,⟨[5,6],[],[7],[]⟩,⟨[7],[],[8],[]⟩,⟨[8],[],[9],[]⟩,⟨[1],[1],[10],[]⟩,⟨[10],[1],[11],[]⟩,⟨[9,11],[],[12],[]⟩,⟨[12],[],[13],[]⟩,⟨[13],[],[14],[]⟩,⟨[13],[],[15],[]⟩,⟨[13],[],[16],[]⟩,⟨[13],[],[17],[]⟩,⟨[13],[],[18],[]⟩,⟨[13],[],[19],[]⟩,⟨[13],[],[20],[]⟩,⟨[13],[],[21],[]⟩,⟨[21],[],[3],[]⟩] rF rF dC,⟨ob rfl (by rw [b0c,decide_eq_false h]; rfl),trivial⟩,t1⟩
 refine X1 ?_
 refine ⟨.inr rfl,T4.cast (.cons (.tmp rfl) .nil) ?_,t1⟩
 rfl
def isM (c:Int)(m:List (List RQ)):Bool:=decide (m.length≤400∧0≤c∧c≤60) && m.all (b0c c)
theorem b1m {p:List RQ→Bool}{v:List (List RQ)}:((List.range' 0 v.length).all fun i=>p (v.getD i []))=v.all p:=by
 rw [← List.range_eq_range']
 induction v with
 | nil=>rfl
 | cons a v ih =>
  rw [E1,List.range_succ_eq_map,List.all_cons,List.all_map,List.all_cons]
  simp only [List.getD_cons_zero,Function.comp_def,List.getD_cons_succ]
  rw [← ih]
theorem N0w {p:List RQ→Bool}{v:List (List RQ)}:decide (F4 (fun i=>!p (v.getD i [])) 0 (v.length - 0)<0)=v.all p:=by
 rw [Bool.eq_iff_iff,decide_eq_true_iff,k0z,Nat.sub_zero]
 simp only [Bool.not_not]
 rw [b1m]
theorem q1n (c:Int)(m:List (List RQ))(hm:MSm m):C3 E 40 [pMR c m] (bZ (isM c m)):=by
 refine I2 (xs:=[bZ (isM c m)]) Tryz.func40 rfl Tryz.ntmps40 Tryz.results40 sM fun F hG hX0 hnt hdf P0=>?_
 obtain ⟨L,hX,hN⟩:=pro hnt hX0 hG
 have hl:=hm.1
 have hcl:=fun i (h:0≤i) (hi:i<m.length)=>v1r c m i hi hm
 refine exr (swb (W3 (k:=1) (n:=2) pa2 rfl rfl (P0 _ rfl) L) t1 t0 ⟨rfl,rfl⟩ (aV L rfl (zn [(1,_)] [(1,_)] t1 t1 (U1 ?_))))
 refine exm (sl:=[(16,vb (!decide (m.length≤400∧0≤c∧c≤60)))]) (sl0:=[(1,_)]) (hb:=[]) (hb0:=[(1,_)]) t1 t1 ?_ ?_
 ·rcases (by omega:400<m.length∨m.length≤400∧c<0∨m.length≤400∧0≤c) with h | h | h
  ·refine sw (j2 un24 rfl sz22 dC rX L) t1 t1 ?_
   refine sw (Z1 ag22 rF rF L) t1 t1 ?_
   refine sw (l3 un22 L) t1 t0 (sw (K6 L) t2 t0 (mV L rfl (swn (g:=7) rfl sO L rfl (swn (g:=7) rfl sO L rfl (swn (g:=7) rfl sO L rfl (sw (M4 sO L) t2 t0 (mV L rfl (swn (g:=12) rfl rfl L rfl (swn (g:=12) rfl rfl L rfl (swn (g:=12) rfl rfl L rfl (sw (M4 rfl L) t2 t0 ?_)))))))))))
   exact R1 ⟨⟨ob rfl sO,rfl,trivial⟩,t1⟩
  ·refine sw (j2 un24 rfl sz22 dC rX L) t1 t1 ?_
   refine sw (Z1 ag22 rF rF L) t1 t1 ?_
   refine sw (l3 un22 L) t1 t0 (sw (K6 L) t2 t0 (mV L rfl (swg (g:=7) rfl sO (j2 un24 rfl sz3 dC rX L) rfl t1 t1 ?_)))
   refine swg (g:=7) rfl sO (Z1 ag3 rF rF L) rfl t1 t1 ?_
   refine swg (g:=7) rfl sO (d4 L) rfl t2 t0 (sw (Y3 sO L) t2 t0 (mV L rfl (swn (g:=12) rfl sO L rfl (swn (g:=12) rfl sO L rfl (swn (g:=12) rfl sO L rfl (sw (M4 sO L) t2 t0 ?_))))))
   exact R1 ⟨⟨ob rfl sO,rfl,trivial⟩,t1⟩
  ·refine sw (j2 un24 rfl sz22 dC rX L) t1 t1 ?_
   refine sw (Z1 ag22 rF rF L) t1 t1 ?_
   refine sw (l3 un22 L) t1 t0 (sw (K6 L) t2 t0 (mV L rfl (swg (g:=7) rfl sO (j2 un24 rfl sz3 dC rX L) rfl t1 t1 ?_)))
   refine swg (g:=7) rfl sO (Z1 ag3 rF rF L) rfl t1 t1 ?_
   refine swg (g:=7) rfl sO (d4 L) rfl t2 t0 (sw (Y3 sO L) t2 t0 (mV L rfl (swg (g:=12) rfl sO (j2 un24 rfl sz3 dC rX L) rfl t1 t1 ?_)))
   refine swg (g:=12) rfl sO (Z1 ag3 rF rF L) rfl t1 t1 ?_
   refine swg (g:=12) rfl sO (K6 L) rfl t2 t0 (sw (Y3 sO L) t2 t0 ?_)
   exact R1 ⟨⟨ob rfl (by rw [Bool.eq_iff_iff]; simp; omega),rfl,trivial⟩,t1⟩
 refine E2 rfl (fun hc=>?_) (fun hc=>?_)
 ·refine exr (aV L rfl (zn [(2,_)] [] t1 trivial (X1 ?_)))
  refine Q0 (.tmp rfl) ?_
  simp only [isM]; rw [show decide (m.length≤400∧0≤c∧c≤60)=false by simpa only [Bool.not_eq_true'] using hc]; rfl
 ·refine V1 (xq ?_)
  refine exr (sw (j2 un24 rfl sz22 dC rX L) t1 t1 ?_)
  refine sw (Z1 ag22 rF rF L) t1 t1 ?_
  refine sw (l3 un22 L) t1 t0 (sw (p0x (vs:=[]) (us:=[_]) rfl rfl L) t1 t0 (sw (i6 hG hX hN (O8 85 [.at_ 1 0 2] (bM c m) sM (X7 rfl) cl85 _ 0 m.length oM hcl) rfl L (Y4 (ys:=[_,_,_]) cl52 rfl rfl) sM (X7 rfl) (fun q h=>by cases h)) t3 t1 ?_))
  refine sw (d4 L) t2 t0 (aV L rfl (zn [(2,_)] [] t1 trivial (X1 ?_)))
  refine Q0 (.tmp rfl) ?_
  rw [isM,show decide (m.length≤400∧0≤c∧c≤60)=true by simpa only [Bool.not_eq_false'] using hc,Bool.true_and,← N0w]
@[reducible] def pMq (c:Int)(M:List (List Rat)):L2:=.agg [vZ c,.sl M.length (T5 M)]
theorem f0c (M:List (List Rat)):f0j (M.map (List.map RQ.of))=T5 M:=by
 simp only [f0j,T5,List.map_map,Function.comp_def,M0x]
theorem n1k (c:Int)(M:List (List Rat)):pMR c (M.map (List.map RQ.of))=pMq c M:=by rw [pMR,pMq,f0c,O0]
structure MOk (c:Nat) (M:List (List Rat)):Prop where
 rows:M.length≤400
 cols:c≤60
 len:∀ r∈M,r.length=c
def MB (B:Nat)(M:List (List Rat)):Prop:=∀ r∈M,∀ a∈r,qw a≤B
theorem MOk.get {c:Nat}{M:List (List Rat)}(h:MOk c M){i:Nat}(hi:i<M.length):(M.getD i []).length=c:=h.len _ (gDL hi)
theorem W0y (v:List Rat):(v.map RQ.of).all RQ.is=true:=by
 rw [s0]; intro r hr
 obtain ⟨a,_,rfl⟩:=G0.1 hr
 exact RQ.is_of a
theorem p1r {c:Nat}{M:List (List Rat)}(h:MOk c M):isM c (M.map (List.map RQ.of))=true:=by
 rw [isM,j0,decide_eq_true_iff,s0]
 have:=h.rows; have:=h.cols
 refine ⟨⟨by simp; omega,by omega,by omega⟩,fun r hr=>?_⟩
 obtain ⟨v,hv,rfl⟩:=G0.1 hr
 rw [b0c,W0y,O0,h.len v hv]; simp
theorem P1n:∀ {r:List RQ},(∀ a∈r,a.sm)→r.all RQ.is=true→∃ v:List Rat,r=v.map RQ.of
 | [],_,_=>⟨[],rfl⟩
 | a :: r,hs,h=>by
  simp only [List.all_cons,j0] at h
  obtain ⟨q,hq⟩:=RQ.of_is (hs a sM).1 h.1
  obtain ⟨v,hv⟩:=P1n (fun b hb=>hs b (by simp [hb])) h.2
  exact ⟨q :: v,by rw [hq,hv]; rfl⟩
theorem P1j:∀ {m:List (List RQ)},(∀ r∈m,∀ a∈r,a.sm)→(m.all fun r=>r.all RQ.is)=true→∃ M:List (List Rat),m=M.map (List.map RQ.of)
 | [],_,_=>⟨[],rfl⟩
 | r :: m,hs,h=>by
  simp only [List.all_cons,j0] at h
  obtain ⟨v,hv⟩:=P1n (hs r sM) h.1
  obtain ⟨M,hM⟩:=P1j (fun b hb=>hs b (by simp [hb])) h.2
  exact ⟨v :: M,by rw [hv,hM]; rfl⟩
theorem M1d {c:Int}{m:List (List RQ)}(hs:MSm m)(h:isM c m=true):∃ (k:Nat) (M:List (List Rat)),c=k∧m=M.map (List.map RQ.of)∧MOk k M:=by
 rw [isM,j0,decide_eq_true_iff,s0] at h
 obtain ⟨⟨h1,h2,h3⟩,h4⟩:=h
 obtain ⟨M,rfl⟩:=P1j (fun r hr=>(hs.2 r hr).2) (by
  rw [s0]; intro r hr
  have:=h4 r hr
  rw [b0c,j0] at this; exact this.2)
 refine ⟨c.toNat,M,by omega,rfl,by simpa using h1,by omega,fun r hr=>?_⟩
 have:=h4 _ (List.mem_map_of_mem hr)
 rw [b0c,j0,decide_eq_true_iff,O0] at this
 omega
theorem v1m {c B:Nat}{M:List (List Rat)}(h:MOk c M)(hB:MB B M)(hb:B<1000000000):MSm (M.map (List.map RQ.of)):=by
 have:=h.rows; have:=h.cols
 refine ⟨by simp; omega,fun r hr=>?_⟩
 obtain ⟨v,hv,rfl⟩:=G0.1 hr
 refine ⟨by rw [O0,h.len v hv]; omega,fun a ha=>?_⟩
 obtain ⟨q,hq,rfl⟩:=G0.1 ha
 have:=hB v hv q hq
 exact RQ.sm_of oM
theorem J9 {c B:Nat}{M:List (List Rat)}(h:MOk c M)(hB:MB B M)(hb:B<1000000000):C3 E 40 [pMq c M] (bZ true):=by
 have:=q1n c _ (v1m h hB hb)
 rwa [p1r h,n1k] at this
@[reducible] def K0z (k:Nat):List (List Rat)→PV
 | []=>.p (.a (.slice none 0 0))
 | a :: v=>.ref k 0 (a :: v).length (a :: v).length
@[reducible] def N0g (k:Nat):List (List Rat)→List (Nat×Blk)
 | []=>[]
 | a :: v=>[(k,⟨40,1,.pure (T5 (a :: v))⟩)]
theorem B0f (u v:List (List Rat)):T5 (u++v)=T5 u++T5 v:=by simp [T5]
theorem w1j (n:Nat)(T:List (List Rat))(v:List Rat)(h:v.length=n):(⟨40,1,.pure (T5 T++[.sl n (V5 v)])⟩:Blk)=⟨40,1,.pure (T5 (T++[v]))⟩:=by subst h; rw [B0f]; rfl
def M7 (M:List (List Rat))(j:Nat):List Rat:=M.map (·.getD j 0)
def trM (c:Nat)(M:List (List Rat)):List (List Rat):=(List.range c).map (M7 M)
theorem d0m {M:List (List Rat)}{j k:Nat}(h:k<M.length):M7 (M.take (k+1)) j=M7 (M.take k) j++[(M.getD k []).getD j 0]:=by
 rw [J1,show M[k]?.toList=[M.getD k []] by simp [f0,h],M7,List.map_append]; rfl
theorem V0g (j:Nat)(M:List (List Rat)):trM (j+1) M=trM j M++[M7 M j]:=by simp [trM,List.range_succ]
@[simp] theorem W0n (j:Nat)(M:List (List Rat)):(trM j M).length=j:=by simp [trM]
@[simp] theorem y7 (j:Nat)(M:List (List Rat)):(M7 M j).length=M.length:=by simp [M7]
def F9 (r:List Rat)(N:List (List Rat))(j:Nat):List Rat:=(List.range j).map fun k=>f0h r (M7 N k)
def g9 (d:Nat)(M N:List (List Rat)):List (List Rat):=M.map fun r=>F9 r N d
@[simp] theorem G6 (r:List Rat)(N:List (List Rat))(j:Nat):(F9 r N j).length=j:=by simp [F9]
theorem v0k {r:List Rat}{N:List (List Rat)}{j:Nat}:F9 r N j++[f0h r (M7 N j)]=F9 r N (j+1):=by simp [F9,List.range_succ]
@[simp] theorem d9 (d:Nat)(M N:List (List Rat)):(g9 d M N).length=M.length:=by simp [g9]
theorem k0g {d:Nat}{M N:List (List Rat)}{i:Nat}(h:i<M.length):g9 d (M.take (i+1)) N=g9 d (M.take i) N++[F9 (M.getD i []) N d]:=by
 rw [J1,show M[i]?.toList=[M.getD i []] by simp [f0,h],g9,List.map_append]; rfl
theorem h1p {B d j:Nat}{N:List (List Rat)}(h:MB B N)(hj:j<d)(hl:∀ r∈N,r.length=d):∀ a∈M7 N j,qw a≤B:=by
 intro a ha
 obtain ⟨r,hr,rfl⟩:=G0.1 ha
 have h1:j<r.length:=by rw [hl r hr]; exact hj
 exact h r hr _ (w5 h1)
theorem h1d (c d B:Nat)(M N:List (List Rat))(h:MOk c M)(h2:MOk d N)(hB:MB B M)(hB2:MB B N)(hb:B<1000000)(hcN:c=N.length):C3 E 41 [pMq c M,pMq d N] (.tup [pMq d (g9 d M N),vZ 0]):=by
 refine I2 (xs:=[pMq d (g9 d M N),vZ 0]) Tryz.func41 rfl Tryz.ntmps41 Tryz.results41 sM fun F hG hX0 hnt hdf P0=>?_
 obtain ⟨L,hX,hN⟩:=pro hnt hX0 hG
 have hc60:=h.cols
 have hd60:=h2.cols
 have hr4:=h.rows
 have hr5:=h2.rows
 refine exr (swb (W3 (k:=2) (n:=2) pa2 rfl rfl (P0 _ rfl) L) t1 t0 ⟨rfl,rfl⟩ (swb (W3 (k:=3) (n:=2) pa2 rfl rfl (P0 _ rfl) L) t1 t0 ⟨rfl,rfl⟩ (swb (T3 (k:=4) (n:=2) zv24 (.cons rfl (.cons rfl .nil)) rfl (P0 _ rfl) L) t0 t0 ⟨rfl,rfl⟩ (aV L rfl (zn [(2,_),(3,_),(4,_)] [(2,_),(3,_),(4,_)] t3 t3 (U1 (exr (lp2 ag24 sz24 L rfl rfl (cK hG hX cl40 hN (J9 h hB oM) L t1 (sw (l4 L) t1 t0 (mV L rfl ?_)))))))))))
 refine swg (g:=17) rfl rfl (M5 ag24 sz24 rF (by exact al2) rfl L) rfl t1 t1 ?_
 refine swg (g:=17) rfl rfl (c_c hG hX cl40 rfl hN (J9 h2 hB2 oM) L) rfl t1 t0 (swg (g:=17) rfl rfl (l4 L) rfl t1 t0 (sw (Y3 rfl L) t2 t0 (zn [(2,_),(3,_),(4,_),(21,_)] [(2,_),(3,_),(4,_)] t4 t3 (j4 rfl rfl ?_))))
 refine V1 (xq ?_)
 refine U1 (exr (sw (j2 un24 rfl sz3 dC rX L) t1 t1 ?_))
 refine sw (Z1 ag3 rF rF L) t1 t1 ?_
 refine sw (j2 un24 rfl sz22 dC rX L) t1 t1 ?_
 refine sw (Z1 ag22 rF rF L) t1 t1 ?_
 refine sw (l3 un22 L) t1 t0 (sw (c_n L) t2 t0 (zn [(2,_),(3,_),(4,_),(28,_)] [(2,_),(3,_),(4,_)] t4 t3 (j4 rfl sO ?_)))
 refine V1 (xq ?_)
 refine exr (sw (j2 un24 rfl sz3 dC rX L) t1 t1 ?_)
 refine sw (Z1 ag3 rF rF L) t1 t1 ?_
 refine sw (O7 (vs:=[_]) un24 zv24 (.cons rfl (.cons rfl .nil)) ((O2.cons sz3 (O2.cons sz22 O2.nil))).to rfl (.cons rfl (.atom rfl) rfl pu1 .nil) (.cons (.cons .nil)) L) t1 t0 (swb (T3 (k:=6) (n:=2) zv24 (.cons rfl (.cons rfl .nil)) rfl (P0 _ rfl) L) t0 t0 ⟨rfl,rfl⟩ (sb (Z2 sz24 rF pa2 rfl pu2) t2 t1 ?_))
 refine zn [(2,_),(3,_),(4,_),(6,_)] [(2,_),(3,_),(4,_),(6,_)] t4 t4 (U1 (exr (sw (j2 un24 rfl sz22 dC rX L) t1 t1 ?_)))
 refine sw (Z1 ag22 rF rF L) t1 t1 ?_
 refine sw (l3 un22 L) t1 t0 (mV L rfl (zn [(3,_),(4,_),(6,_),(34,_),(35,_),(36,_)] [(3,_),(4,_),(6,_)] t6 t3 (Y1 ?_)))
 refine exl (α:=(Nat×List (List Rat))) (fun x=>[(36,vi (x.1:Int))]) (fun x=>[(6,⟨24,2,.mix [.p (vZ d),K0z 78 x.2]⟩)]++N0g 78 x.2) (fun x=>x.1≤M.length∧g9 d (M.take x.1) N=x.2) (fun x=>M.length - x.1) ((0,[])) (sl:=[(3,_),(4,_),(6,_),(34,_),(35,_)]) (hb:=[(3,_),(4,_)]) ?_ ⟨oR,rfl,rfl,rfl,rfl,rfl,trivial⟩ (hbI (l':=[(6,_),(3,_),(4,_)]) rfl t3) ?_
 ·exact ⟨Nat.zero_le _,rfl⟩
 intro x hx
 obtain ⟨i,T⟩:=x
 obtain ⟨hi,hT⟩:=hx
 simp only at hi hT
 rcases T with _ | ⟨q,T⟩
 ·dsimp only [K0z,N0g,List.append_nil]
  refine exr (sw (d4 L) t2 t0 (zn [(3,_),(4,_),(6,_),(34,_),(35,_),(36,_),(37,_)] [(3,_),(4,_),(6,_)] t7 t3 (U1 ?_)))
  refine E2 rfl (fun hc=>?_) (fun hc=>?_)
  ·have hc:=dt hc
   have hia:i<M.length:=by omega
   have ht:=k0g (N:=N) (d:=d) hia
   rw [hT] at ht
   have hrl:=h.get hia
   refine V1 (xq ?_)
   refine U1 (Y1 (exr (sw (ixJ un22 sz40 (j:=i) rO oM sM L) t2 t0 ?_)))
   refine sw (C4 ag40 (R9 hia) L) t1 t0 (aV L rfl (zn [(3,_),(4,_),(6,_),(8,_),(34,_),(35,_),(36,_)] [(3,_),(4,_),(6,_)] t7 t3 (exr (sw (j2 un24 rfl sz3 dC rX L) t1 t1 ?_))))
   refine sw (Z1 ag3 rF rF L) t1 t1 ?_
   refine swb (e7 (sz:=4) (k:=42) un40 ti47 rfl rfl dC rfl rfl rfl rfl rfl (Nat.le_refl _) (by simp [Tryz.t47]; omega) oM (P0 _ rfl) L) t2 t0 ⟨rfl,rfl⟩ ?_
   refine aV L rfl ?_
   refine R1 ⟨[(3,_),(4,_),(6,_),(8,_),(9,_),(34,_),(35,_),(36,_)],[(3,_),(4,_),(6,_),(42,⟨47,4,.pure (V5 []++T8 (d - 0) zc0)⟩)],t8,t4,?_⟩
   refine U1 (exr (mV L rfl (sw (n0z un40 (by exact (Z8 _ _)) L) t1 t1 ?_)))
   refine mV L rfl (zn [(3,_),(4,_),(6,_),(8,_),(9,_),(34,_),(35,_),(36,_),(44,_),(45,_)] [(3,_),(4,_),(6,_),(42,_)] t10 t4 (Y1 ?_))
   refine exl (α:=Nat) (fun j=>[(45,vi (j:Int))]) (fun j=>[(42,⟨47,4,.pure (V5 (F9 (M.getD i []) N j)++T8 (d - j) zc0)⟩)]) (fun j=>j≤d) (fun j=>d - j) (0) (sl:=[(3,_),(4,_),(6,_),(8,_),(9,_),(34,_),(35,_),(36,_),(44,_)]) (hb:=[(3,_),(4,_),(6,_)]) ?_ ⟨oR,rfl,rfl,rfl,rfl,rfl,rfl,rfl,rfl,rfl,trivial⟩ t4 ?_
   ·exact Nat.zero_le _
   intro j hj
   refine exr (sw (d4 L) t2 t0 (zn [(3,_),(4,_),(6,_),(8,_),(9,_),(34,_),(35,_),(36,_),(44,_),(45,_),(46,_)] [(3,_),(4,_),(6,_),(42,_)] t11 t4 (U1 ?_)))
   refine E2 rfl (fun he=>?_) (fun he=>?_)
   ·have he:=dt he
    have hjd:j<d:=by omega
    refine V1 (xq ?_)
    refine U1 (Y1 (exr (mV L rfl (aV L rfl (zn [(3,_),(4,_),(6,_),(8,_),(9,_),(10,_),(34,_),(35,_),(36,_),(44,_),(45,_)] [(3,_),(4,_),(6,_),(42,_)] t11 t4 (exr (sw (j2 un24 rfl sz22 dC rX L) t1 t1 ?_)))))))
    refine sw (Z1 ag22 rF rF L) t1 t1 ?_
    refine sw (l3 un22 L) t1 t0 (swb (e7 (sz:=4) (k:=51) un40 ti47 rfl rfl dC rfl rfl rfl (show (0:Int)=((0:Nat):Int) from rfl) rfl (Nat.zero_le _) (by simp [Tryz.t47]; omega) oM (P0 _ rfl) L) t2 t0 ⟨rfl,rfl⟩ ?_)
    refine aV L rfl ?_
    refine R1 ⟨[(3,_),(4,_),(6,_),(8,_),(9,_),(10,_),(11,.ref 51 0 0 0),(34,_),(35,_),(36,_),(44,_),(45,_)],[(3,_),(4,_),(6,_),(42,_),(51,E4 [])],t12,t5,?_⟩
    refine U1 (exr (sw (j2 un24 rfl sz22 dC rX L) t1 t1 ?_))
    refine sw (Z1 ag22 rF rF L) t1 t1 ?_
    refine sw (l3 un22 L) t1 t0 (mV L rfl (zn [(3,_),(4,_),(6,_),(8,_),(9,_),(10,_),(11,_),(34,_),(35,_),(36,_),(44,_),(45,_),(53,_),(54,_),(55,_)] [(3,_),(4,_),(6,_),(42,_),(51,_)] t15 t5 (Y1 ?_)))
    refine exl (α:=Nat) (fun k=>[(55,vi (k:Int)),(11,.ref 51 0 k (k*4))]) (fun k=>[(51,E4 (M7 (N.take k) j))]) (fun k=>k≤N.length) (fun k=>N.length - k) (0) (sl:=[(3,_),(4,_),(6,_),(8,_),(9,_),(10,_),(34,_),(35,_),(36,_),(44,_),(45,_),(53,_),(54,_)]) (hb:=[(3,_),(4,_),(6,_),(42,_)]) ?_ ⟨oR,oR,rfl,rfl,rfl,rfl,rfl,rfl,rfl,rfl,rfl,rfl,rfl,rfl,rfl,trivial⟩ t5 ?_
    ·exact Nat.zero_le _
    intro k hk
    refine exr (sw (d4 L) t2 t0 (zn [(3,_),(4,_),(6,_),(8,_),(9,_),(10,_),(11,_),(34,_),(35,_),(36,_),(44,_),(45,_),(53,_),(54,_),(55,_),(56,_)] [(3,_),(4,_),(6,_),(42,_),(51,_)] t16 t5 (U1 ?_)))
    refine E2 rfl (fun hf=>?_) (fun hf=>?_)
    ·have hf:=dt hf
     have hk2:k<N.length:=by omega
     have hrl2:=h2.get hk2
     refine V1 (xq ?_)
     refine U1 (Y1 (exr (sw (ixJ un22 sz40 (j:=k) rO oM sM L) t2 t0 ?_)))
     refine sw (C4 ag40 (R9 hk2) L) t1 t0 (aV L rfl (zn [(3,_),(4,_),(6,_),(8,_),(9,_),(10,_),(11,_),(13,_),(34,_),(35,_),(36,_),(44,_),(45,_),(53,_),(54,_),(55,_)] [(3,_),(4,_),(6,_),(42,_),(51,_)] t16 t5 (J3 (mV L rfl (mV L rfl (mV L rfl (sw (K2 un40 sz47 oM oM sM dC L) t2 t0 ?_)))))))
     refine sw (d8 ag47 sz47 (b8 (show j<(N.getD k []).length by omega)) rfl L) t1 t0 ?_
     refine sw (K4 (vs:=[_]) un40 ti47 rfl rfl dC dC rfl (X2 (.cons rfl (.cons rfl (.cons rfl (.cons rfl .nil)))) rfl) rfl (.cons rfl pa4 rfl pu4 .nil) (.cons (.cons (.cons (.cons .nil)))) L) t1 t0 (swb (apP (sz:=4) un40 un40 ti47 rfl rfl rfl dC (by exact (by first | (simp; done) | (simp; omega))) oF sM rfl rfl rfl (by first | (simp [Tryz.t47]; done) | (simp [Tryz.t47]; omega)) oM (P0 _ rfl) L) t2 t1 t0 ?_)
     refine aV L rfl (R1 (J3 (sw (L3 L (w64 oM oM)) t2 t0 (mV L rfl (R1 ?_)))))
     exact ⟨k+1,oM,by omega,I3 ⟨oR,ov rfl sO,rfl,rfl,rfl,rfl,rfl,rfl,rfl,rfl,rfl,rfl,rfl,rfl,rfl,trivial⟩ ⟨obl rfl ((k0y _ _).trans (by rw [d0m hk2])),rfl,rfl,rfl,rfl,trivial⟩⟩
    ·have hf:=df hf
     have hkM:k=N.length:=by omega
     subst hkM
     rw [I0]
     refine U2 (xq ?_)
     refine j5 [51] (sl:=[(3,_),(4,_),(6,_),(8,_),(9,_),(10,_),(11,_),(34,_),(35,_),(36,_),(44,_),(45,_)]) (hb:=[(3,_),(4,_),(6,_),(42,_)]) (V3 hX0) ⟨⟨_,rfl,.same⟩,⟨_,rfl,.same⟩,⟨_,rfl,.same⟩,⟨_,rfl,.same⟩,⟨_,rfl,.same⟩,⟨_,rfl,.same⟩,⟨_,rfl,(.ref rfl rfl (by exact (by first | (simp; done) | (simp; omega))) (by first | rfl | omega))⟩,⟨_,rfl,.same⟩,⟨_,rfl,.same⟩,⟨_,rfl,.same⟩,⟨_,rfl,.same⟩,⟨_,rfl,.same⟩,trivial⟩ ⟨⟨rfl,_,rfl,.same⟩,⟨rfl,_,rfl,.same⟩,⟨rfl,_,rfl,.same⟩,⟨rfl,_,rfl,.same⟩,trivial⟩ ?_
     rw [show L2.sl N.length (V5 (M7 N j))=pV (M7 N j) by rw [pV,y7]]
     refine J3 (mV L rfl (mV L rfl (mV L rfl (mV L rfl (cK hG hX cl70 hN (F0c (M.getD i []) (M7 N j) B B (by rw [hrl,y7,hcN]) oM (fun a ha=>hB _ (gDL hia) a ha) (fun a ha=>h1p hB2 hjd h2.len a ha) oM oM (by rw [hrl]; have:=V0 (B+B+1) hc60; omega)) L t2 ?_)))))
     refine sw (p0q (sz:=4) un40 sz47 (by exact (F6 (G6 _ _ _) hj)) (j:=j) rO oM L) t2 t1 ?_
     refine sb (G0g (n:=4) sz47 (by exact (F6 (G6 _ _ _) hj)) rfl oM) t2 t1 ?_
     refine R1 (J3 (sw (L3 L (w64 oM oM)) t2 t0 (mV L rfl (R1 ?_))))
     exact ⟨j+1,oM,by omega,I3 ⟨oR,rfl,rfl,rfl,rfl,rfl,rfl,rfl,rfl,rfl,trivial⟩ ⟨obl rfl (congrArg (fun c=>(⟨47,4,.pure c⟩:Blk)) ((p0n (G6 _ _ _) hjd (f0h (M.getD i []) (M7 N j))).trans (by rw [v0k]))),rfl,rfl,rfl,trivial⟩⟩
   ·have he:=df he
    have hjd:j=d:=by omega
    subst hjd
    refine U2 (xq ?_)
    refine j5 [42] (sl:=[(3,_),(4,_),(6,_),(9,_),(34,_),(35,_),(36,_)]) (hb:=[(3,_),(4,_),(6,_)]) (V3 hX0) ⟨⟨_,rfl,.same⟩,⟨_,rfl,.same⟩,⟨_,rfl,.same⟩,⟨_,rfl,(.ref rfl rfl (by exact (F6 (G6 _ _ _) hj)) (by first | rfl | omega))⟩,⟨_,rfl,.same⟩,⟨_,rfl,.same⟩,⟨_,rfl,.same⟩,trivial⟩ ⟨⟨rfl,_,rfl,.same⟩,⟨rfl,_,rfl,.same⟩,⟨rfl,_,rfl,.same⟩,trivial⟩ ?_
    rw [show V5 (F9 (M.getD i []) N j)++T8 (j - j) zc0=V5 (F9 (M.getD i []) N j) by simp [T8]]
    refine J3 (sw (j2 un24 rfl sz22 dC rX L) t1 t1 ?_)
    refine sw (Z1 ag22 rF rF L) t1 t1 ?_
    refine mV L rfl (sw (K4 (vs:=[_]) un22 ti40 rfl rfl dC dC rfl (X2 (.cons rfl .nil) rfl) rfl (.cons rfl .sl rfl pu1 .nil) (.cons .nil) L) t1 t0 (swb (apN (k:=78) (sz:=1) un22 un22 ti40 rfl rfl rfl dC sM rfl (by first | (simp [Tryz.t40]; done) | (simp [Tryz.t40]; omega)) oM (P0 _ rfl) L) t2 t0 ⟨rfl,rfl⟩ ?_))
    refine sw (j2 un24 rfl sz22 dC rX L) t1 t1 ?_
    refine sb (Z2 sz22 rF .ref rfl (.skip pu1)) t2 t1 ?_
    refine R1 (J3 (sw (L3 L (w64 oM oM)) t2 t0 (mV L rfl (R1 ?_))))
    exact ⟨(i+1,[F9 (M.getD i []) N j]),⟨by simp only; omega,ht⟩,(by simp only; omega),I3 ⟨oR,rfl,rfl,rfl,rfl,rfl,trivial⟩ (hbI (l':=[(6,_),(78,_),(3,_),(4,_)]) rfl ⟨rfl,obl rfl (by simp [T5]),rfl,rfl,trivial⟩)⟩
  ·have hc:=df hc
   have hia:i=M.length:=by omega
   subst hia
   rw [I0] at hT
   refine U2 (xq ?_)
   refine exr (sw (b0d (M5 ag24 sz24 rF (by exact al2) rfl L) (.agg (.cons .same (.cons .nil .nil)))) t1 t1 ?_)
   refine sb (Z2 sz24 rF pa2 rfl pu2) t2 t1 ?_
   refine aV L rfl (zn [(4,_),(5,_)] [(4,_)] t2 t1 (X1 ?_))
   refine Y0 (.agg rfl rfl rfl ag24 sz24 (.cons (.cons .nil))) (.tmp rfl) ?_
   rw [hT]; rfl
 ·dsimp only [K0z,N0g]
  have hTl:(q :: T).length=i:=by rw [← hT,d9,J0]; omega
  have hTl2:T.length+1=i:=hTl
  refine exr (sw (d4 L) t2 t0 (zn [(3,_),(4,_),(6,_),(34,_),(35,_),(36,_),(37,_)] [(3,_),(4,_),(6,_),(78,_)] t7 t4 (U1 ?_)))
  refine E2 rfl (fun hc=>?_) (fun hc=>?_)
  ·have hc:=dt hc
   have hia:i<M.length:=by omega
   have ht:=k0g (N:=N) (d:=d) hia
   rw [hT] at ht
   have hrl:=h.get hia
   refine V1 (xq ?_)
   refine U1 (Y1 (exr (sw (ixJ un22 sz40 (j:=i) rO oM sM L) t2 t0 ?_)))
   refine sw (C4 ag40 (R9 hia) L) t1 t0 (aV L rfl (zn [(3,_),(4,_),(6,_),(8,_),(34,_),(35,_),(36,_)] [(3,_),(4,_),(6,_),(78,_)] t7 t4 (exr (sw (j2 un24 rfl sz3 dC rX L) t1 t1 ?_))))
   refine sw (Z1 ag3 rF rF L) t1 t1 ?_
   refine swb (e7 (sz:=4) (k:=42) un40 ti47 rfl rfl dC rfl rfl rfl rfl rfl (Nat.le_refl _) (by simp [Tryz.t47]; omega) oM (P0 _ rfl) L) t2 t0 ⟨rfl,rfl⟩ ?_
   refine aV L rfl ?_
   refine R1 ⟨[(3,_),(4,_),(6,_),(8,_),(9,_),(34,_),(35,_),(36,_)],[(3,_),(4,_),(6,_),(42,⟨47,4,.pure (V5 []++T8 (d - 0) zc0)⟩),(78,_)],t8,t5,?_⟩
   refine U1 (exr (mV L rfl (sw (n0z un40 (by exact (Z8 _ _)) L) t1 t1 ?_)))
   refine mV L rfl (zn [(3,_),(4,_),(6,_),(8,_),(9,_),(34,_),(35,_),(36,_),(44,_),(45,_)] [(3,_),(4,_),(6,_),(42,_),(78,_)] t10 t5 (Y1 ?_))
   refine exl (α:=Nat) (fun j=>[(45,vi (j:Int))]) (fun j=>[(42,⟨47,4,.pure (V5 (F9 (M.getD i []) N j)++T8 (d - j) zc0)⟩)]) (fun j=>j≤d) (fun j=>d - j) (0) (sl:=[(3,_),(4,_),(6,_),(8,_),(9,_),(34,_),(35,_),(36,_),(44,_)]) (hb:=[(3,_),(4,_),(6,_),(78,_)]) ?_ ⟨oR,rfl,rfl,rfl,rfl,rfl,rfl,rfl,rfl,rfl,trivial⟩ t5 ?_
   ·exact Nat.zero_le _
   intro j hj
   refine exr (sw (d4 L) t2 t0 (zn [(3,_),(4,_),(6,_),(8,_),(9,_),(34,_),(35,_),(36,_),(44,_),(45,_),(46,_)] [(3,_),(4,_),(6,_),(42,_),(78,_)] t11 t5 (U1 ?_)))
   refine E2 rfl (fun he=>?_) (fun he=>?_)
   ·have he:=dt he
    have hjd:j<d:=by omega
    refine V1 (xq ?_)
    refine U1 (Y1 (exr (mV L rfl (aV L rfl (zn [(3,_),(4,_),(6,_),(8,_),(9,_),(10,_),(34,_),(35,_),(36,_),(44,_),(45,_)] [(3,_),(4,_),(6,_),(42,_),(78,_)] t11 t5 (exr (sw (j2 un24 rfl sz22 dC rX L) t1 t1 ?_)))))))
    refine sw (Z1 ag22 rF rF L) t1 t1 ?_
    refine sw (l3 un22 L) t1 t0 (swb (e7 (sz:=4) (k:=51) un40 ti47 rfl rfl dC rfl rfl rfl (show (0:Int)=((0:Nat):Int) from rfl) rfl (Nat.zero_le _) (by simp [Tryz.t47]; omega) oM (P0 _ rfl) L) t2 t0 ⟨rfl,rfl⟩ ?_)
    refine aV L rfl ?_
    refine R1 ⟨[(3,_),(4,_),(6,_),(8,_),(9,_),(10,_),(11,.ref 51 0 0 0),(34,_),(35,_),(36,_),(44,_),(45,_)],[(3,_),(4,_),(6,_),(42,_),(51,E4 []),(78,_)],t12,t6,?_⟩
    refine U1 (exr (sw (j2 un24 rfl sz22 dC rX L) t1 t1 ?_))
    refine sw (Z1 ag22 rF rF L) t1 t1 ?_
    refine sw (l3 un22 L) t1 t0 (mV L rfl (zn [(3,_),(4,_),(6,_),(8,_),(9,_),(10,_),(11,_),(34,_),(35,_),(36,_),(44,_),(45,_),(53,_),(54,_),(55,_)] [(3,_),(4,_),(6,_),(42,_),(51,_),(78,_)] t15 t6 (Y1 ?_)))
    refine exl (α:=Nat) (fun k=>[(55,vi (k:Int)),(11,.ref 51 0 k (k*4))]) (fun k=>[(51,E4 (M7 (N.take k) j))]) (fun k=>k≤N.length) (fun k=>N.length - k) (0) (sl:=[(3,_),(4,_),(6,_),(8,_),(9,_),(10,_),(34,_),(35,_),(36,_),(44,_),(45,_),(53,_),(54,_)]) (hb:=[(3,_),(4,_),(6,_),(42,_),(78,_)]) ?_ ⟨oR,oR,rfl,rfl,rfl,rfl,rfl,rfl,rfl,rfl,rfl,rfl,rfl,rfl,rfl,trivial⟩ t6 ?_
    ·exact Nat.zero_le _
    intro k hk
    refine exr (sw (d4 L) t2 t0 (zn [(3,_),(4,_),(6,_),(8,_),(9,_),(10,_),(11,_),(34,_),(35,_),(36,_),(44,_),(45,_),(53,_),(54,_),(55,_),(56,_)] [(3,_),(4,_),(6,_),(42,_),(51,_),(78,_)] t16 t6 (U1 ?_)))
    refine E2 rfl (fun hf=>?_) (fun hf=>?_)
    ·have hf:=dt hf
     have hk2:k<N.length:=by omega
     have hrl2:=h2.get hk2
     refine V1 (xq ?_)
     refine U1 (Y1 (exr (sw (ixJ un22 sz40 (j:=k) rO oM sM L) t2 t0 ?_)))
     refine sw (C4 ag40 (R9 hk2) L) t1 t0 (aV L rfl (zn [(3,_),(4,_),(6,_),(8,_),(9,_),(10,_),(11,_),(13,_),(34,_),(35,_),(36,_),(44,_),(45,_),(53,_),(54,_),(55,_)] [(3,_),(4,_),(6,_),(42,_),(51,_),(78,_)] t16 t6 (J3 (mV L rfl (mV L rfl (mV L rfl (sw (K2 un40 sz47 oM oM sM dC L) t2 t0 ?_)))))))
     refine sw (d8 ag47 sz47 (b8 (show j<(N.getD k []).length by omega)) rfl L) t1 t0 ?_
     refine sw (K4 (vs:=[_]) un40 ti47 rfl rfl dC dC rfl (X2 (.cons rfl (.cons rfl (.cons rfl (.cons rfl .nil)))) rfl) rfl (.cons rfl pa4 rfl pu4 .nil) (.cons (.cons (.cons (.cons .nil)))) L) t1 t0 (swb (apP (sz:=4) un40 un40 ti47 rfl rfl rfl dC (by exact (by first | (simp; done) | (simp; omega))) oF sM rfl rfl rfl (by first | (simp [Tryz.t47]; done) | (simp [Tryz.t47]; omega)) oM (P0 _ rfl) L) t2 t1 t0 ?_)
     refine aV L rfl (R1 (J3 (sw (L3 L (w64 oM oM)) t2 t0 (mV L rfl (R1 ?_)))))
     exact ⟨k+1,oM,by omega,I3 ⟨oR,ov rfl sO,rfl,rfl,rfl,rfl,rfl,rfl,rfl,rfl,rfl,rfl,rfl,rfl,rfl,trivial⟩ ⟨obl rfl ((k0y _ _).trans (by rw [d0m hk2])),rfl,rfl,rfl,rfl,rfl,trivial⟩⟩
    ·have hf:=df hf
     have hkM:k=N.length:=by omega
     subst hkM
     rw [I0]
     refine U2 (xq ?_)
     refine j5 [51] (sl:=[(3,_),(4,_),(6,_),(8,_),(9,_),(10,_),(11,_),(34,_),(35,_),(36,_),(44,_),(45,_)]) (hb:=[(3,_),(4,_),(6,_),(42,_),(78,_)]) (V3 hX0) ⟨⟨_,rfl,.same⟩,⟨_,rfl,.same⟩,⟨_,rfl,.same⟩,⟨_,rfl,.same⟩,⟨_,rfl,.same⟩,⟨_,rfl,.same⟩,⟨_,rfl,(.ref rfl rfl (by exact (by first | (simp; done) | (simp; omega))) (by first | rfl | omega))⟩,⟨_,rfl,.same⟩,⟨_,rfl,.same⟩,⟨_,rfl,.same⟩,⟨_,rfl,.same⟩,⟨_,rfl,.same⟩,trivial⟩ ⟨⟨rfl,_,rfl,.same⟩,⟨rfl,_,rfl,.same⟩,⟨rfl,_,rfl,.same⟩,⟨rfl,_,rfl,.same⟩,⟨rfl,_,rfl,.same⟩,trivial⟩ ?_
     rw [show L2.sl N.length (V5 (M7 N j))=pV (M7 N j) by rw [pV,y7]]
     refine J3 (mV L rfl (mV L rfl (mV L rfl (mV L rfl (cK hG hX cl70 hN (F0c (M.getD i []) (M7 N j) B B (by rw [hrl,y7,hcN]) oM (fun a ha=>hB _ (gDL hia) a ha) (fun a ha=>h1p hB2 hjd h2.len a ha) oM oM (by rw [hrl]; have:=V0 (B+B+1) hc60; omega)) L t2 ?_)))))
     refine sw (p0q (sz:=4) un40 sz47 (by exact (F6 (G6 _ _ _) hj)) (j:=j) rO oM L) t2 t1 ?_
     refine sb (G0g (n:=4) sz47 (by exact (F6 (G6 _ _ _) hj)) rfl oM) t2 t1 ?_
     refine R1 (J3 (sw (L3 L (w64 oM oM)) t2 t0 (mV L rfl (R1 ?_))))
     exact ⟨j+1,oM,by omega,I3 ⟨oR,rfl,rfl,rfl,rfl,rfl,rfl,rfl,rfl,rfl,trivial⟩ ⟨obl rfl (congrArg (fun c=>(⟨47,4,.pure c⟩:Blk)) ((p0n (G6 _ _ _) hjd (f0h (M.getD i []) (M7 N j))).trans (by rw [v0k]))),rfl,rfl,rfl,rfl,trivial⟩⟩
   ·have he:=df he
    have hjd:j=d:=by omega
    subst hjd
    refine U2 (xq ?_)
    refine j5 [42] (sl:=[(3,_),(4,_),(6,_),(9,_),(34,_),(35,_),(36,_)]) (hb:=[(3,_),(4,_),(6,_),(78,_)]) (V3 hX0) ⟨⟨_,rfl,.same⟩,⟨_,rfl,.same⟩,⟨_,rfl,.same⟩,⟨_,rfl,(.ref rfl rfl (by exact (F6 (G6 _ _ _) hj)) (by first | rfl | omega))⟩,⟨_,rfl,.same⟩,⟨_,rfl,.same⟩,⟨_,rfl,.same⟩,trivial⟩ ⟨⟨rfl,_,rfl,.same⟩,⟨rfl,_,rfl,.same⟩,⟨rfl,_,rfl,.same⟩,⟨rfl,_,rfl,.same⟩,trivial⟩ ?_
    rw [show V5 (F9 (M.getD i []) N j)++T8 (j - j) zc0=V5 (F9 (M.getD i []) N j) by simp [T8]]
    refine J3 (sw (j2 un24 rfl sz22 dC rX L) t1 t1 ?_)
    refine sw (Z1 ag22 rF rF L) t1 t1 ?_
    refine mV L rfl (sw (K4 (vs:=[_]) un22 ti40 rfl rfl dC dC rfl (X2 (.cons rfl .nil) rfl) rfl (.cons rfl .sl rfl pu1 .nil) (.cons .nil) L) t1 t0 (swb (apP (sz:=1) un22 un22 ti40 rfl rfl rfl dC (by exact (w7 _)) oF sM rfl rfl rfl (by first | (simp [Tryz.t40]; done) | (simp [Tryz.t40]; omega)) oM (P0 _ rfl) L) t2 t1 t0 ?_))
    refine sw (j2 un24 rfl sz22 dC rX L) t1 t1 ?_
    refine sb (Z2 sz22 rF .ref rfl (.skip pu1)) t2 t1 ?_
    refine R1 (J3 (sw (L3 L (w64 oM oM)) t2 t0 (mV L rfl (R1 ?_))))
    exact ⟨(i+1,q :: T++[F9 (M.getD i []) N j]),⟨by simp only; omega,ht⟩,(by simp only; omega),I3 ⟨oR,rfl,rfl,rfl,rfl,rfl,trivial⟩ (hbI (l':=[(6,_),(78,_),(3,_),(4,_)]) rfl ⟨obl rfl sM,obl rfl (w1j _ _ _ (G6 _ _ _)),rfl,rfl,trivial⟩)⟩
  ·have hc:=df hc
   have hia:i=M.length:=by omega
   subst hia
   rw [I0] at hT
   refine U2 (xq ?_)
   refine exr (sw (N1j ag24 sz24 rF (by exact (.cons (.cons .nil))) rfl L) t1 t1 ?_)
   refine sb (Z2 sz24 rF .agg rfl pu2) t2 t1 ?_
   refine aV L rfl (zn [(4,_),(5,_)] [(4,_),(78,_)] t2 t2 (j5 [78] (sl:=[(4,_),(5,_)]) (hb:=[(4,_)]) (V3 hX0) ⟨⟨_,rfl,.same⟩,⟨_,rfl,.same⟩,trivial⟩ ⟨⟨rfl,_,rfl,(.mix (.cons .same (.cons (.ref rfl rfl (by exact (w7 _)) (by first | rfl | omega)) .nil)))⟩,trivial⟩ ?_))
   refine X1 ?_
   refine Y0 (.agg rfl rfl rfl ag24 sz24 (.cons (.cons .nil))) (.tmp rfl) ?_
   rw [hT]
theorem nt {p:Prop}[Decidable p](h:(!decide p)=true):¬ p:=by simpa using h
theorem nf {p:Prop}[Decidable p](h:(!decide p)=false):p:=by simpa using h
theorem J1x {v u:List Rat}{c:Rat}{j B C D:Nat}(hv:∀ a∈v,qw a≤B)(hu:∀ a∈u,qw a≤C)(hc:qw c≤D):∀ a∈tak v u c j,qw a≤B+(D+C)+1:=by
 intro a ha
 rcases List.mem_append.1 ha with h | h
 ·have h1:=List.mem_of_mem_take h
  rw [List.zipWith_eq_zipWith_take_min,List.mem_iff_getElem?] at h1
  obtain ⟨i,hi⟩:=h1
  rw [← List.zipWith_eq_zipWith_take_min,List.getElem?_zipWith] at hi
  split at hi
  ·rename_i x y h3 h4
   obtain rfl:=by simpa using hi
   have h5:=K1c x (c*y)
   have h6:=K9 c y
   have:=hv x (O1 h3)
   have:=hu y (O1 h4)
   omega
  ·cases hi
 ·have:=hv a (List.mem_of_mem_drop h); omega
theorem W0x (s:Nat)(m:List (List Rat))(i k:Nat)(c:Rat)(B C D:Nat)(h2:s<9)(hi:i<m.length)(hk:k<m.length)(hne:i≠k)(hlen:(m.getD k []).length=(m.getD i []).length)(hl:(m.getD i []).length<1000000000)(hB:∀ a∈m.getD i [],qw a≤B)(hC:∀ a∈m.getD k [],qw a≤C)(hD:qw c≤D)(hb:B+(D+C)+1<1000000000):I4 E (fun _=>true) 99 [.ref (s+1001) 0 m.length m.length,.p (vZ i),.p (vZ k),.p (pQ c)] (J2 s m) (J2 s (m.set i (List.zipWith (fun a b=>a - c*b) (m.getD i []) (m.getD k [])))) (.p (.tup [])):=by
 refine m4 (xs:=[]) Tryz.func99 rfl Tryz.ntmps99 Tryz.results99 sM fun F G=>?_
 have L:=@lti _ _ G.nt
 have hG:=G.g
 have hX:=G.x
 have hN:=U5 hG
 have P0:∀ k,Nat.blt k 1000=true→F.pin k=none:=fun k hk=>G.p0 k ((D2 h2 m).low k hk)
 refine exr (swb (W3 (k:=7) (n:=4) pa4 rfl rfl (P0 _ rfl) L) t1 t0 (frT [] (D2 h2 m) rfl rfl rfl) ?_)
 refine R1 ⟨[(0,_),(1,_),(2,_),(7,_)],(7,_) :: ((J2 s m)),t4,⟨rfl,(hbT [_] (D2 h2 m) rfl)⟩,?_⟩
 refine exr (mV L rfl (mV L rfl (sw (n6 un77 sz40 (by first | exact F2 _ _ _ | exact (F2 _ _ _).trans sM | simp [Cells.len]) (j:=k) rO oM L) t2 ⟨rdT [_] (D2 h2 m) rfl hdL,trivial⟩ ?_)))
 refine sw (Z1 ag40 (by first | exact F2 _ _ _ | exact (F2 _ _ _).trans sM) (J0m hk) L) t1 ⟨rdT [_] (D2 h2 m) rfl hdL,trivial⟩ ?_
 refine sw (n0z un40 (by first | exact E3 _ | exact (E3 _).trans oM) L) t1 ⟨rdT [_] (D2 h2 m) rfl (rwL h2 hk),trivial⟩ ?_
 refine mV L rfl ?_
 refine R1 ⟨[(0,_),(1,_),(7,_),(13,_),(14,_),(15,_)],(7,_) :: ((J2 s m)),t6,⟨rfl,(hbT [_] (D2 h2 m) rfl)⟩,?_⟩
 have hku:m.getD k []=(m.set i (m.getD i [])).getD k []:=by rw [F0n]
 obtain ⟨v,hv⟩:∃ v,v=m.getD i []:=⟨_,rfl⟩
 obtain ⟨u,hu⟩:∃ u,u=m.getD k []:=⟨_,rfl⟩
 have hru:=fun (r:List Rat)=>(show (J2 s (m.set i r)).lookup (F3 s k)=some (E4 u) from by rw [hu]; exact rwO h2 hk hne)
 rw [← hv,← hu] at hlen
 rw [← hv] at hl hB ⊢
 rw [← hu] at hC ⊢
 refine Y1 ?_
 refine G0k (α:=Nat) (fun j=>[(15,vi (j:Int))]) (fun j=>[]) (fun j=>(J2 s (m.set i (tak v u c j)))) (fun j=>j≤v.length) (fun j=>v.length - j) (0) (sl:=[(0,_),(1,_),(7,_),(13,_),(14,_)]) (hb:=[(7,_)]) ?_ ⟨oR,rfl,rfl,rfl,rfl,rfl,trivial⟩ ⟨rfl,(by rw [y1a,hv,F0n]; exact hbT [_] (D2 h2 m) rfl)⟩ ?_
 ·exact Nat.zero_le _
 intro j hj
 have htl:=m0a (v:=v) (u:=u) c j hlen
 have hq:=J1x (j:=j) hB hC hD
 refine exr (sw (d4 L) t2 t0 ?_)
 refine R1 ⟨[(0,_),(1,_),(7,_),(13,_),(14,_),(15,_),(16,_)],(7,_) :: ((J2 s (m.set i (tak v u c j)))),t7,⟨rfl,(hbT [_] (D2 h2 (m.set i (tak v u c j))) rfl)⟩,?_⟩
 refine U1 ?_
 refine E2 rfl (fun hc2=>?_) (fun hc2=>?_)
 ·have hc2:=dt hc2
  have hk2:j<v.length:=by omega
  have hk3:j<u.length:=by omega
  have hk5:j<(m.getD k []).length:=by rw [← hu]; omega
  have hk4:j<(tak v u c j).length:=by omega
  refine V1 (xq ?_)
  refine U1 (Y1 (exr (mV L rfl (sw (p0q un40 sz47 (by first | exact E3 _ | exact (E3 _).trans oM) (j:=j) rO oM L) t2 ⟨rdT [_] (D2 h2 (m.set i (tak v u c j))) rfl (hru _),trivial⟩ ?_))))
  refine sw (B1b ag47 sz47 (by first | exact E3 _ | exact (E3 _).trans oM) (b8 hk3) rfl L) t1 ⟨rdT [_] (D2 h2 (m.set i (tak v u c j))) rfl (hru _),trivial⟩ ?_
  refine swb (T3 (k:=9) (n:=4) zv47 (.cons rfl (.cons rfl (.cons rfl (.cons rfl .nil)))) rfl (P0 _ rfl) L) t0 t0 (frT [_] (D2 h2 (m.set i (tak v u c j))) rfl rfl rfl) (aV L rfl (sb (Z2 sz47 rF pa4 rfl pu4) t2 t1 ?_))
  refine R1 ⟨[(0,_),(1,_),(7,_),(8,_),(9,_),(13,_),(14,_),(15,_)],(7,_) :: (9,_) :: ((J2 s (m.set i (tak v u c j)))),t8,⟨rfl,rfl,(hbT [_,_,_] (D2 h2 (m.set i (tak v u c j))) rfl)⟩,?_⟩
  refine exr (lp4 ag47 sz47 L rfl rfl (cK hG hX cl65 hN (D6 (u.getD j 0) (by have:=hC _ (w5 hk3); omega)) L t1 ?_))
  refine sw (l4 L) t1 t0 ?_
  refine R1 ⟨[(0,_),(1,_),(7,_),(8,_),(9,_),(13,_),(14,_),(15,_),(22,_)],(7,_) :: (9,_) :: ((J2 s (m.set i (tak v u c j)))),t9,⟨rfl,rfl,(hbT [_,_] (D2 h2 (m.set i (tak v u c j))) rfl)⟩,?_⟩
  refine E2 rfl (fun h0=>?_) (fun h0=>?_)
  ·have h0:=nt h0
   refine h0b rF ?_
   refine mV L rfl (mV L rfl (sw (n6 un77 sz40 (by first | exact F2 _ _ _ | exact (F2 _ _ _).trans sM | simp [Cells.len]) (j:=i) rO oM L) t2 ⟨rdT [_,_] (D2 h2 (m.set i (tak v u c j))) rfl hdL,trivial⟩ ?_))
   refine sw (Z1 ag40 (by first | exact F2 _ _ _ | exact (F2 _ _ _).trans sM) (d1b hi htl) L) t1 ⟨rdT [_,_] (D2 h2 (m.set i (tak v u c j))) rfl hdL,trivial⟩ ?_
   refine mV L rfl (mV L rfl (mV L rfl (sw (n6 un77 sz40 (by first | exact F2 _ _ _ | exact (F2 _ _ _).trans sM | simp [Cells.len]) (j:=i) rO oM L) t2 ⟨rdT [_,_] (D2 h2 (m.set i (tak v u c j))) rfl hdL,trivial⟩ ?_)))
   refine sw (Z1 ag40 (by first | exact F2 _ _ _ | exact (F2 _ _ _).trans sM) (d1b hi htl) L) t1 ⟨rdT [_,_] (D2 h2 (m.set i (tak v u c j))) rfl hdL,trivial⟩ ?_
   refine mV L rfl (sw (p0q un40 sz47 (by first | exact E3 _ | exact (E3 _).trans oM) (j:=j) rO oM L) t2 ⟨rdT [_,_] (D2 h2 (m.set i (tak v u c j))) rfl (rwS h2 hi),trivial⟩ ?_)
   refine sw (B1b ag47 sz47 (by first | exact E3 _ | exact (E3 _).trans oM) (b8 hk4) rfl L) t1 ⟨rdT [_,_] (D2 h2 (m.set i (tak v u c j))) rfl (rwS h2 hi),trivial⟩ ?_
   refine lp4 ag47 sz47 L rfl rfl (lp4 ag47 sz47 L rfl rfl (cK hG hX cl67 hN (g8 c (u.getD j 0) oM (by have:=hC _ (w5 hk3); omega)) L t2 ?_))
   refine cK hG hX cl127 hN (j1w ((tak v u c j).getD j 0) (c*u.getD j 0) (by have:=hq _ (w5 hk4); omega) (by have:=K9 c (u.getD j 0); have:=hC _ (w5 hk3); omega)) L t2 ?_
   refine sw (p0q un40 sz47 (by first | exact E3 _ | exact (E3 _).trans oM) (j:=j) rO oM L) t2 ⟨rdT [_,_] (D2 h2 (m.set i (tak v u c j))) rfl (rwS h2 hi),trivial⟩ ?_
   refine sb (G0g (n:=4) sz47 (by first | exact E3 _ | exact (E3 _).trans oM) rfl oM) t2 ⟨rdT [_,_] (D2 h2 (m.set i (tak v u c j))) rfl (rwS h2 hi),trivial⟩ ?_
   refine R1 ⟨g0p [⟨[0],[],[23],[]⟩,⟨[1],[],[24],[]⟩,⟨[23,24],[1000],[25],[]⟩,⟨[25],[1000],[26],[]⟩,⟨[8],[],[27],[]⟩,⟨[0],[],[28],[]⟩,⟨[1],[],[29],[]⟩,⟨[28,29],[1000],[30],[]⟩,⟨[30],[1000],[31],[]⟩,⟨[8],[],[32],[]⟩,⟨[31,32],[1000],[33],[]⟩,⟨[33],[1000],[34],[]⟩,⟨[7],[7],[35],[]⟩,⟨[9],[9],[36],[]⟩,⟨[35,36],[],[37],[]⟩,⟨[34,37],[],[38],[]⟩,⟨[26,27],[1000],[39],[]⟩,⟨[39,38],[1000],[],[1000]⟩] (.cons (cf0 rfl) (.cons (cf0 rfl) (.cons (cfT rfl rfl (J8 (by first | exact o6 _ | exact D5 _ _)) rfl (fun _ h=>by cases h)) (.cons (cfT rfl rfl (J8 (by first | exact o6 _ | exact D5 _ _)) rfl (fun _ h=>by cases h)) (.cons (cf0 rfl) (.cons (cf0 rfl) (.cons (cf0 rfl) (.cons (cfT rfl rfl (J8 (by first | exact o6 _ | exact D5 _ _)) rfl (fun _ h=>by cases h)) (.cons (cfT rfl rfl (J8 (by first | exact o6 _ | exact D5 _ _)) rfl (fun _ h=>by cases h)) (.cons (cf0 rfl) (.cons (cfT rfl rfl (J8 (by first | exact o6 _ | exact D5 _ _)) rfl (fun _ h=>by cases h)) (.cons (cfT rfl rfl (J8 (by first | exact o6 _ | exact D5 _ _)) rfl (fun _ h=>by cases h)) (.cons (cf0 rfl) (.cons (cf0 rfl) (.cons (cf0 rfl) (.cons (cf0 rfl) (.cons (cfT rfl rfl (J8 (by first | exact o6 _ | exact D5 _ _)) rfl (fun _ h=>by cases h)) (.cons (cfT rfl rfl (J8 (by first | exact o6 _ | exact D5 _ _)) rfl (J8 (by first | exact o6 _ | exact D5 _ _)))  .nil)))))))))))))))))) rfl (frS [] [_,_] (D2 h2 (m.set i (tak v u c j))) rfl rfl) dC,(show i4 _ _ _ _ _ from exw (sl:=[(0,_),(1,_),(7,_),(13,_),(14,_),(15,_)]) (hb:=(7,_) :: ((J2 s (m.set i (tak v u c (j+1)))))) t6 ⟨rfl,(hbS [_,_] rfl h2 hi ((p0w _ hk4).trans (by rw [Q0a hk2 hlen])) (by simp only [m0a c _ hlen]))⟩ ?_)⟩
   refine J3 (sw (L3 L (w64 oM oM)) t2 t0 (mV L rfl (R1 ?_)))
   exact ⟨j+1,oM,by omega,I3 ⟨oR,rfl,rfl,rfl,rfl,rfl,trivial⟩ ⟨rfl,(hbT [_] (D2 h2 (m.set i (tak v u c (j+1)))) rfl)⟩⟩
  ·have h0:=nf h0
   refine V1 (xq ?_)
   refine J3 (sw (L3 L (w64 oM oM)) t2 t0 (mV L rfl (R1 ?_)))
   exact ⟨j+1,oM,by omega,I3 ⟨oR,rfl,rfl,rfl,rfl,rfl,trivial⟩ ⟨rfl,(by rw [← v1w hk2 hlen h0]; exact hbT [_,_] (D2 h2 _) rfl)⟩⟩
 ·have hc2:=df hc2
  refine U2 ?_
  refine ⟨.inl rfl,T4.cast .nil ?_,(by rw [← F1r hlen,show v.length=j by omega]; exact hbT [_] (D2 h2 _) rfl)⟩
  rfl
end Go.Proofs.YtjagfionflbjbaaGreat.N
namespace Go.Proofs.YtjagfionflbjbaaGreat.SH
open Go Go.RowKit
theorem j1v {E:Env}{st st':Nat→Bool}{f:FuncId}{args:List PV}{H H' H1:List (Nat×Blk)}{r r1:PV}(κ:Nat→Nat)(h:I4 E st f args H H1 r1)(hr:r1=r.ren κ)
  (hb:∀ j B,H'.lookup j=some B→H1.lookup (κ j)=some (B.ren κ)) (inj:∀ j j',H'.lookup j≠none→H'.lookup j'≠none→κ j=κ j'→j=j')
  (hnew:∀ j,H'.lookup j≠none→H.lookup j=none→H.lookup (κ j)=none) (hst:∀ j,H'.lookup j≠none→H.lookup j≠none→st' j=true→κ j=j∧st j=true):I4 E st' f args H H' r:=by
 intro ok ρ w vals hG hH hinj hrel
 refine Calls.mono (h ok ρ w vals hG hH hinj hrel) fun e w' ⟨v,ρ1,he,hp⟩=>⟨v,fun j=>ρ1 (κ j),he,?_⟩
 have hin:∀ j,H'.lookup j≠none→H1.lookup (κ j)≠none:=fun j hj=>by
  obtain ⟨B,hB⟩:=D3 hj
  rw [hb j B hB]; simp
 have hok:Carry (okG ok w H1 ρ1) (okG ok w H' fun j=>ρ1 (κ j)) (Go.Proofs.YtjagfionflbjbaaGreat.SH.hp w') (Go.Proofs.YtjagfionflbjbaaGreat.SH.hp w'):=fun b hb' _=>⟨⟨hb'.1,fun j hj=>hb'.2 _ (hin j hj)⟩,rfl⟩
 have hH1:∀ j B,lk H' j=some B→∃ B',lk H1 (κ j)=some B'∧B'.sz=B.sz∧B'.cs.len=B.cs.len:=fun j B hj=>⟨_,hb j B hj,rfl,Cells.ren_len _ _⟩
 have hrv:∀ x v,M2 (lk H1) ρ1 (okG ok w H1 ρ1) (Go.Proofs.YtjagfionflbjbaaGreat.SH.hp w') (x.ren κ) v→M2 (lk H') (fun j=>ρ1 (κ j)) (okG ok w H' fun j=>ρ1 (κ j)) (Go.Proofs.YtjagfionflbjbaaGreat.SH.hp w') x v:=fun x v hx =>
  M2.mono (K:=fun _=>True) hok (fun k _ B' hB'=>⟨B',hB',rfl,Nat.le_refl _,fun _=>⟨rfl,fun c T fr hc=>⟨c,T,fr,hc,rfl⟩⟩⟩) x v (fun _ _=>trivial) (M0z hH1 x v hx)
 exact {
  res:=hrv r v (hr ▸ hp.res)
  blk:=fun j B' hj=>by
   obtain ⟨c,h1,h2,h3⟩:=hp.blk (κ j) _ (hb j B' hj)
   refine ⟨c,h1,by rw [← Cells.ren_len κ]; exact h2,fun i x hx=>?_⟩
   obtain ⟨u,hu,h4,h5⟩:=h3 i (x.ren κ) (by show (B'.cs.ren κ).get i=_; rw [Cells.ren_get,hx]; rfl)
   exact ⟨u,hu,h4,hrv x u h5⟩
  inj:=fun j j' hj hj' e=>inj j j' hj hj' (hp.inj _ _ (hin j hj) (hin j' hj') e)
  old:=fun j hj hj'=>by
   by_cases hk:H.lookup (κ j)=none
   ·exact .inr (hp.new _ (hin j hj) hk)
   ·exact hp.old _ (hin j hj) hk
  new:=fun j hj hj'=>hp.new _ (hin j hj) (hnew j hj hj')
  stay:=fun j hj hj' hs=>by
   obtain ⟨e,hs'⟩:=hst j hj hj' hs
   have:=hp.stay j (by have:=hin j hj; rwa [e] at this) hj' hs'
   show ρ1 (κ j)=_∧_
   rw [e]; exact this
  os:=hp.os
  tape:=hp.tape
  output:=hp.output
  size:=hp.size
  frame:=hp.frame }
end Go.Proofs.YtjagfionflbjbaaGreat.SH
set_option maxRecDepth 100000
set_option maxHeartbeats 4000000
namespace Go.Proofs.YtjagfionflbjbaaGreat.N
open Go Go.Proofs.YtjagfionflbjbaaGreat.SH Go.Proofs.YtjagfionflbjbaaGreat.NumA
open Go.Proofs.Tryz renaming isAgg40→ag40,sizeOf40→sz40,underlying77→un77
theorem y0v:∀ {vs:List PV}{off:Nat}{u:PV},off<vs.length→p0p vs off [u] (vs.set off u)
 | [],_,_,h=>by simp at h
 | v :: vs,0,u,_=>.put .here
 | v :: vs,n+1,u,h=>.skip (y0v (by simpa using h))
theorem lkH {sl:List (Nat×PV)}{k:Nat}{B:Blk}{r:List (Nat×Blk)}:St.blk ⟨sl,(k,B) :: r⟩ k=some B:=by show List.lookup k _=_; simp
def k1h (s i n:Nat):PV:=.ref (F3 s i) 0 n (n*4)
def swH (s:Nat)(m:List (List Rat))(i k:Nat):List (Nat×Blk):=(s+1001,⟨40,1,.mix (((P4 s 0 m).set i (k1h s k (m.getD k []).length)).set k (k1h s i (m.getD i []).length))⟩) :: J6 s 0 m
theorem Q1x {sl:List (Nat×PV)}{s:Nat}{m:List (List Rat)}{i k:Nat}{B:Blk}(h2:s<9):O5 ⟨sl,(s+1001,⟨40,1,.mix (((P4 s 0 m).set i (k1h s k (m.getD k []).length)).set k (k1h s i (m.getD i []).length))⟩) :: (s+1001,B) :: ([]++J2 s m)⟩ (swH s m i k):=by
 have hnd:=(D2 h2 m).nd
 refine o5 (by simpa [swH,J2] using hnd) fun j C hj=>?_
 show List.lookup j _=some C
 rw [swH,i0] at hj
 rw [i0]
 by_cases e:j=s+1001
 ·subst e; simpa using hj
 ·rw [show (j == s+1001)=false by simpa using e] at hj ⊢
  simp only [List.nil_append,J2,i0]
  rw [show (j == s+1001)=false by simpa using e]; exact hj
theorem W0d (s:Nat)(m:List (List Rat))(i k:Nat)(h2:s<9)(hi:i<m.length)(hk:k<m.length):I4 E (fun k=>Nat.blt k 1100) 94 [.ref (s+1001) 0 m.length m.length,.p (vZ i),.p (vZ k)] (J2 s m) (swH s m i k) (.p (.tup [])):=by
 refine m4 (xs:=[]) Tryz.func94 rfl Tryz.ntmps94 Tryz.results94 sM fun F G=>?_
 have L:=@lti _ _ G.nt
 have hG:=G.g
 have hX:=G.x
 have hN:=U5 hG
 have P0:∀ k,Nat.blt k 1000=true→F.pin k=none:=fun k hk=>G.p0 k ((D2 h2 m).low k hk)
 refine h0b rF ?_
 refine mV L rfl (mV L rfl (mV L rfl (mV L rfl (mV L rfl (mV L rfl (sw (n6 un77 sz40 (by first | exact F2 _ _ _ | exact (F2 _ _ _).trans sM | simp [Cells.len]) (j:=k) rO oM L) t2 ⟨rdT [] (D2 h2 m) rfl hdL,trivial⟩ ?_))))))
 refine sw (Z1 ag40 (by first | exact F2 _ _ _ | exact (F2 _ _ _).trans sM) (J0m hk) L) t1 ⟨rdT [] (D2 h2 m) rfl hdL,trivial⟩ ?_
 refine mV L rfl (mV L rfl (sw (n6 un77 sz40 (by first | exact F2 _ _ _ | exact (F2 _ _ _).trans sM | simp [Cells.len]) (j:=i) rO oM L) t2 ⟨rdT [] (D2 h2 m) rfl hdL,trivial⟩ ?_))
 refine sw (Z1 ag40 (by first | exact F2 _ _ _ | exact (F2 _ _ _).trans sM) (J0m hi) L) t1 ⟨rdT [] (D2 h2 m) rfl hdL,trivial⟩ ?_
 refine sw (n6 un77 sz40 (by first | exact F2 _ _ _ | exact (F2 _ _ _).trans sM | simp [Cells.len]) (j:=i) rO oM L) t2 ⟨rdT [] (D2 h2 m) rfl hdL,trivial⟩ ?_
 refine sb (Z2 sz40 sM .ref rfl (y0v sO)) t2 ⟨rdT [] (D2 h2 m) rfl hdL,trivial⟩ ?_
 refine sw (n6 un77 sz40 (by first | exact F2 _ _ _ | exact (F2 _ _ _).trans sM | simp [Cells.len]) (j:=k) rO oM L) t2 ⟨lkH,trivial⟩ ?_
 refine sb (Z2 sz40 sM .ref rfl (y0v sO)) t2 ⟨lkH,trivial⟩ ?_
 refine R1 ⟨g0p [⟨[0],[],[6],[]⟩,⟨[1],[],[7],[]⟩,⟨[0],[],[8],[]⟩,⟨[2],[],[9],[]⟩,⟨[0],[],[10],[]⟩,⟨[2],[],[11],[]⟩,⟨[10,11],[1000],[12],[]⟩,⟨[12],[1000],[13],[]⟩,⟨[0],[],[14],[]⟩,⟨[1],[],[15],[]⟩,⟨[14,15],[1000],[16],[]⟩,⟨[16],[1000],[17],[]⟩,⟨[6,7],[1000],[18],[]⟩,⟨[18,13],[1000],[],[1000]⟩,⟨[8,9],[1000],[19],[]⟩,⟨[19,17],[1000],[],[1000]⟩] (.cons (cf0 rfl) (.cons (cf0 rfl) (.cons (cf0 rfl) (.cons (cf0 rfl) (.cons (cf0 rfl) (.cons (cf0 rfl) (.cons (cfT rfl rfl (J8 (by first | exact o6 _ | exact D5 _ _)) rfl (fun _ h=>by cases h)) (.cons (cfT rfl rfl (J8 (by first | exact o6 _ | exact D5 _ _)) rfl (fun _ h=>by cases h)) (.cons (cf0 rfl) (.cons (cf0 rfl) (.cons (cfT rfl rfl (J8 (by first | exact o6 _ | exact D5 _ _)) rfl (fun _ h=>by cases h)) (.cons (cfT rfl rfl (J8 (by first | exact o6 _ | exact D5 _ _)) rfl (fun _ h=>by cases h)) (.cons (cfT rfl rfl (J8 (by first | exact o6 _ | exact D5 _ _)) rfl (fun _ h=>by cases h)) (.cons (cfT rfl rfl (J8 (by first | exact o6 _ | exact D5 _ _)) rfl (J8 (by first | exact o6 _ | exact D5 _ _))) (.cons (cfT rfl rfl (J8 (by first | exact o6 _ | exact D5 _ _)) rfl (fun _ h=>by cases h)) (.cons (cfT rfl rfl (J8 (by first | exact o6 _ | exact D5 _ _)) rfl (J8 (by first | exact o6 _ | exact D5 _ _)))  .nil)))))))))))))))) rfl (frS [] [] (D2 h2 m) rfl rfl) dC,?_⟩
 refine ⟨.inl rfl,T4.cast .nil ?_,(Q1x h2)⟩
 rfl
@[simp] theorem g0c (m:List (List Rat))(i k:Nat):(J5 m i k).length=m.length:=by simp [J5]
theorem G0x {m:List (List Rat)}{i k j:Nat}(hi:i<m.length)(hk:k<m.length)(hne:i≠k):(J5 m i k)[j]? = if j=k then some (m.getD i []) else if j=i then some (m.getD k []) else m[j]?:=by
 simp only [J5,List.getElem?_set,List.length_set]
 by_cases h1:k=j
 ·subst h1; simp [hk]
 ·rw [if_neg h1,if_neg (Ne.symm h1)]
  by_cases h2:i=j
  ·subst h2; simp [hi]
  ·rw [if_neg h2,if_neg (Ne.symm h2)]
def kap (s i k j:Nat):Nat:=if j=F3 s i then F3 s k else if j=F3 s k then F3 s i else j
theorem b0n {s i k j:Nat}:kap s i k (F3 s j)=F3 s (if j=i then k else if j=k then i else j):=by
 unfold kap
 simp only [B0h]
 split
 ·rfl
 ·split <;> rfl
theorem y0k {s i k j:Nat}(h:j<1100):kap s i k j=j:=by
 unfold kap
 rw [if_neg (by unfold F3; omega),if_neg (by unfold F3; omega)]
theorem P0c {s j:Nat}{m:List (List Rat)}:(J6 s 0 m).lookup (F3 s j)=(m[j]?).map E4:=by
 have:=f0m (s:=s) (i:=0) (j:=j) (m:=m)
 rwa [G1] at this
theorem P5 {s j:Nat}{m:List (List Rat)}(h2:s<9)(h:(J2 s m).lookup j≠none):j=s+1001∨∃ q,q<m.length∧j=F3 s q:=by
 obtain ⟨B,hB⟩:=D1.1 h
 rw [J2,i0] at hB
 by_cases e:j=s+1001
 ·exact .inl e
 ·rw [show (j == s+1001)=false by simpa using e] at hB
  obtain ⟨q,hq,e2⟩:=n9 (G0.2 ⟨_,M3 hB,rfl⟩)
  exact .inr ⟨q,hq,by have e2:j=F3 s (0+q):=e2; rw [e2,G1]⟩
theorem V0c {s q:Nat}{m:List (List Rat)}(h2:s<9)(h:q<m.length):(J2 s m).lookup (F3 s q)≠none:=by rw [rwL h2 h]; simp
theorem k1q (s:Nat)(m:List (List Rat))(i k:Nat)(h2:s<9)(hi:i<m.length)(hk:k<m.length)(hne:i≠k):I4 E (fun k=>Nat.blt k 1100) 94 [.ref (s+1001) 0 m.length m.length,.p (vZ i),.p (vZ k)] (J2 s m) (J2 s (J5 m i k)) (.p (.tup [])):=by
 refine j1v (kap s i k) (W0d s m i k h2 hi hk) rfl (fun j B hj=>?_) (fun j j' hj hj' e=>?_) (fun j hj hj'=>?_) (fun j hj hj' hs=>?_)
 ·rcases P5 h2 (show (J2 s (J5 m i k)).lookup j≠none by rw [hj]; simp) with rfl | ⟨q,hq,rfl⟩
  ·rw [y0k oM,swH]
   rw [hdL] at hj
   obtain rfl:=by simpa using hj
   rw [i0,BEq.rfl]
   refine congrArg (fun l=>some (⟨40,1,.mix l⟩:Blk)) ?_
   apply List.ext_getElem?
   intro j
   rw [List.getElem?_map,h0m,G0x hi hk hne,G1,List.getElem?_set,List.getElem?_set]
   simp only [List.length_set,F2]
   by_cases h1:j=k
   ·subst h1
    simp only [if_true,hk,Option.map_some,PV.ren,b0n,k1h]
    rw [if_neg (Ne.symm hne)]
   ·rw [if_neg h1,if_neg (Ne.symm h1)]
    by_cases h3:j=i
    ·subst h3; simp [hi,PV.ren,b0n,k1h]
    ·rw [if_neg h3,if_neg (Ne.symm h3),h0m,G1]
     cases m[j]? with
     | none=>rfl
     | some v=>simp [PV.ren,b0n,h1,h3]
  ·rw [g0c] at hq
   rw [b0n,swH,i0,show ((F3 s (if q=i then k else if q=k then i else q)) == s+1001)=false by simp [F3]; omega,P0c]
   rw [rwL h2 (by rw [g0c]; exact hq)] at hj
   injection hj with hj
   subst hj
   show _=some (E4 _)
   have e:(J5 m i k).getD q []=m.getD (if q=i then k else if q=k then i else q) []:=by
    rw [f0,G0x hi hk hne]
    by_cases h1:q=k
    ·subst h1; rw [if_pos rfl,if_neg (Ne.symm hne),if_pos rfl]; rfl
    ·rw [if_neg h1]
     by_cases h3:q=i
     ·rw [if_pos h3,if_pos h3]; rfl
     ·rw [if_neg h3,if_neg h3,if_neg h1,f0]
   rw [e]
   show Option.map E4 _=_
   have hl:(if q=i then k else if q=k then i else q)<m.length:=by split; exact hk; split; exact hi; exact hq
   simp [f0,hl]
 ·rcases P5 h2 hj with rfl | ⟨q,hq,rfl⟩ <;> rcases P5 h2 hj' with rfl | ⟨q',hq',rfl⟩
  ·rfl
  ·rw [y0k oM,b0n] at e; simp [F3] at e; omega
  ·rw [b0n,y0k oM] at e; simp [F3] at e; omega
  ·rw [b0n,b0n,B0h] at e; rw [B0h]; split at e <;> split at e <;> (try split at e) <;> (try split at e) <;> omega
 ·rcases P5 h2 hj with rfl | ⟨q,hq,rfl⟩
  ·rw [hdL] at hj'; cases hj'
  ·exact absurd hj' (V0c h2 (by rwa [g0c] at hq))
 ·rw [Nat.blt_eq] at hs
  exact ⟨y0k hs,by simpa [Nat.blt_eq] using hs⟩
end Go.Proofs.YtjagfionflbjbaaGreat.N
namespace Go.Proofs.YtjagfionflbjbaaGreat.SH
open Go Go.RowKit
structure b0p (st:Nat→Bool) (F:Fr) (S:St) (H H':List (Nat×Blk)) (slR:List (Nat×PV)) (hb2:List (Nat×Blk)):Prop where
 h1:∀ j B,H.lookup j=some B→S.blk j=some B
 hs:R6 S slR
 h2:∀ k B,hb2.lookup k=some B→H'.lookup k=some B∨(S.blk k=some B∧H.lookup k=none∧H'.lookup k=none∧∀ i x,B.cs.get i=some x→∀ q,x.free q=false→st q=false→H'.lookup q=none)
 fix:∀ q B1,st q=true→H'.lookup q=some B1→∃ B0,H.lookup q=some B0∧B1.sz=B0.sz∧B1.cs.len=B0.cs.len
 slot:∀ t v,slR.lookup t=some v→∀ q,v.free q=false→st q=false→H'.lookup q=none
 lo:∀ j,H.lookup j≠none→st j=false→F.lo j=false
 pin:∀ j,F.pin j≠none→st j=true
 whole:Whole H'
theorem nsI {E:Env}{st:Nat→Bool}{F:Fr}(hG:E.G F.w0)(hX:∀ b,F.X b→E.ng≤b)(hng:E.ng≤F.w0.heap.size){ops:Array Oper}{d:Nat}{f:FuncId}{op:Op}{T:TypeId}{pos:String}{aft:Array Edge}{xs:List PV}{S:St}{H H':List (Nat×Blk)}{r:PV}{rs:List (Operand×PV)}{os:List Oper}{K:St→Prop}(slR:List (Nat×PV))(hb2:List (Nat×Blk))(hs:I4 E st f xs H H' r)(hlt:d<F.nt)
  (hargs:∀ ρ S a w,X4 F ρ S a w→(∀ p∈rs,S.opd p.1=some p.2)→∃ vals:List Value,(execOp a.eval ⟨some d,op,T,pos,aft,none⟩).run E.P w = .ok (.enter f vals.toArray) w∧B3 S.blk ρ (okI F S.blk ρ) (hp w) xs vals)
  (hr:m8 S rs) (C:b0p st F S H H' slR hb2) (hres:∀ q,r.free q=false→H'.lookup q≠none) (hd:slR.lookup d=none) (hn:f0v E.P F ops os ⟨(d,r) :: slR,hb2⟩ K):f0v E.P F ops (⟨some d,op,T,pos,aft,none⟩ :: os) S K:=by
 have hstay:∀ q,(st q=false→H'.lookup q=none)→B0q st S ⟨(d,r) :: slR,hb2⟩ (fun j=>j) H H' q:=fun q hq=>by
  cases e:hb2.lookup q with
  | none=>exact .inl e
  | some B =>
   rcases C.h2 q B e with h | ⟨h3,h4,h5,_⟩
   ·have hst : st q = true := by
     cases e2:st q with
     | true=>rfl
     | false=>rw [hq e2] at h; cases h
    obtain ⟨B0,h6,h7,h8⟩:=C.fix q B hst h
    exact .inr (.inr ⟨q,B0,B,rfl,hst,h6,h,h7,h8⟩)
   ·exact .inr (.inl ⟨by rw [h3]; exact e,fun j hj e2=>by subst e2; exact hj.elim (fun h=>h h4) (fun h=>h h5)⟩)
 refine .cons (G1a hG hX hng (fun j=>j) hs rfl rfl hlt (fun ρ a w hS=>?_) ⟨fun j B hj=>by rw [Blk.ren_id]; exact C.h1 j B hj,fun _ _ _ _ h=>h,fun i j _ h2 _ h4 _=>C.lo j h2 h4,fun k B' hk=>?_,fun t v ht=>?_,hres,C.whole,fun j hj hp=>?_⟩) hn
 ·rw [PV.renL_id]; exact hargs ρ S a w hS hr.all
 ·rcases C.h2 k B' hk with h | ⟨h3,h4,h5,h6⟩
  ·exact .inl ⟨k,B',rfl,h,(Blk.ren_id B').symm⟩
  ·exact .inr ⟨h3,fun j hj e2=>by subst e2; exact hj.elim (fun h=>h h4) (fun h=>h h5),fun i x hx q hq=>hstay q (h6 i x hx q hq)⟩
 ·simp only [St.slot,i0] at ht
  by_cases e:t=d
  ·subst e; simp only [BEq.rfl,U0] at ht; exact .inl ⟨rfl,by rw [PV.ren_id]; exact ht.symm⟩
  ·rw [show (t == d)=false by simpa using e] at ht
   exact .inr ⟨e,C.hs.all t v ht,fun q hq=>hstay q (C.slot t v ht q hq)⟩
 ·have h:=C.pin j hp
  obtain ⟨B1,hB1⟩:=D3 hj
  obtain ⟨B0,h0,_⟩:=C.fix j B1 h hB1
  exact ⟨by rw [h0]; simp,h⟩
end Go.Proofs.YtjagfionflbjbaaGreat.SH
namespace Go.Proofs.YtjagfionflbjbaaGreat.SH
open Go Go.RowKit
def n8 (k:Nat):Bool:=Nat.blt k 1100
def d6 (l:List (Nat×Blk)):Bool:=l.all fun p=>Nat.blt p.1 1000
theorem d0v {l:List (Nat×Blk)}(h:d6 l=true){k:Nat}{B:Blk}(hk:l.lookup k=some B):k<1000:=by
 unfold d6 at h
 rw [s0] at h
 simpa [Nat.blt_eq] using h _ (M3 hk)
theorem n5 {l:List (Nat×Blk)}(h:d6 l=true){k:Nat}(hk:1000≤k):l.lookup k=none:=by
 cases e:l.lookup k with
 | none=>rfl
 | some B=>have:=d0v h e; omega
theorem l8 {α:Type}:∀ {l:List (Nat×α)} {j:Nat} {B:α} (_:l.lookup j=some B),(j,B)∈l
 | [],_,_,h=>by simp at h
 | (k,C) :: l,j,B,h=>by
  rw [i0] at h
  split at h
  ·rename_i e; injection h with h; subst h; simp [beq_iff_eq.1 e]
  ·simp [l8 h]
theorem ncT {F:Fr}{sl slR:List (Nat×PV)}{bx pre pre' T T' U U':List (Nat×Blk)}(ks:List Nat)(hks:(ks.all fun k=>Nat.blt k 1100)=true)
  (hp:d6 pre=true) (hbp:∀ k B,bx.lookup k=some B→pre.lookup k=some B) (hpp:∀ k B,pre'.lookup k=some B→pre.lookup k=some B)
  (hT:∀ k B,T.lookup k=some B→U.lookup k=some B∧1000≤k) (hT':∀ k B,T'.lookup k=some B→1000≤k)
  (hU:∀ k B,U'.lookup k=some B→T'.lookup k=some B∨(1000≤k∧U.lookup k=some B∧T.lookup k=none∧T'.lookup k=none∧∀ i x,B.cs.get i=some x→∀ q,x.free q=false→1100≤q→T'.lookup q=none))
  (hfix:∀ q B1,q<1100→T'.lookup q=some B1→∃ B0,T.lookup q=some B0∧B1.sz=B0.sz∧B1.cs.len=B0.cs.len)
  (hpo:(pre'.all fun p=>p.2.cs.only ks)=true) (hso:(slR.all fun p=>p.2.only ks)=true) (hS:R6 ⟨sl,pre++U⟩ slR)
  (hlo:∀ j,1100≤j→T.lookup j≠none→F.lo j=false) (hpin:∀ j,n8 j=false→F.pin j=none) (hw:Whole (bx++T')) :
  b0p n8 F ⟨sl,pre++U⟩ (bx++T) (bx++T') slR (pre'++U'):=by
 have hbx:∀ k,1000≤k→bx.lookup k=none:=fun k hk=>by
  cases e:bx.lookup k with
  | none=>rfl
  | some B=>have:=d0v hp (hbp k B e); omega
 have hTl:∀ k,k<1000→T.lookup k=none:=fun k hk=>by
  cases e:T.lookup k with
  | none=>rfl
  | some B=>have:=(hT k B e).2; omega
 have hTl':∀ k,k<1000→T'.lookup k=none:=fun k hk=>by
  cases e:T'.lookup k with
  | none=>rfl
  | some B=>have:=hT' k B e; omega
 have hst:∀ {q},n8 q=false→1100≤q:=fun {q} h=>by
  have:¬ q<1100:=fun h2=>by rw [n8,show Nat.blt q 1100=true by rw [Nat.blt_eq]; exact h2] at h; cases h
  omega
 have hst':∀ {q},n8 q=true→q<1100:=fun {q} h=>by simpa [n8,Nat.blt_eq] using h
 have hkl:∀ q,q∈ks→q<1100:=fun q hq=>by rw [s0] at hks; simpa [Nat.blt_eq] using hks q hq
 refine ⟨fun j B hj=>?_,hS,fun k B hk=>?_,fun q B1 hq hq1=>?_,fun t v ht q hq hs=>?_,fun j hj hs=>?_,fun j hj=>?_,hw⟩
 ·show (pre++U).lookup j=some B
  rw [T1] at hj ⊢
  cases e:bx.lookup j with
  | some C=>rw [e,K0] at hj; rw [hbp j C e,K0,hj]
  | none =>
   rw [e,l0] at hj
   rw [n5 hp (hT j B hj).2,l0]; exact (hT j B hj).1
 ·rw [T1] at hk
  show _∨((pre++U).lookup k=some B∧_)
  rw [T1,T1,T1]
  cases e:pre'.lookup k with
  | some C =>
   rw [e,K0] at hk
   injection hk with hk
   subst hk
   have h3:=hpp k C e
   have h4:=d0v hp h3
   rw [h3,hTl k h4,hTl' k h4,K0,Option.or_none]
   cases e2:bx.lookup k with
   | some D =>
    have:=hbp k D e2
    rw [h3] at this
    exact .inl this.symm
   | none =>
    refine .inr ⟨rfl,rfl,rfl,fun i x hx q hq hs=>?_⟩
    rw [s0] at hpo
    have h5:=hkl q (PV.only_mem (Cells.only_get (hpo _ (M3 e)) hx) hq)
    have:=hst hs
    omega
  | none =>
   rw [e,l0] at hk
   rcases hU k B hk with h | ⟨h1,h3,h4,h5,h6⟩
   ·exact .inl (by rw [hbx k (hT' k B h),l0,h])
   ·refine .inr ⟨by rw [n5 hp h1,l0,h3],by rw [hbx k h1,h4]; rfl,by rw [hbx k h1,h5]; rfl,fun i x hx q hq hs=>?_⟩
    have:=hst hs
    rw [T1,hbx q (by omega),l0]; exact h6 i x hx q hq this
 ·rw [T1] at hq1 ⊢
  cases e:bx.lookup q with
  | some C=>rw [e,K0] at hq1; injection hq1 with hq1; subst hq1; exact ⟨C,rfl,rfl,rfl⟩
  | none =>
   rw [e,l0] at hq1
   obtain ⟨B0,h1,h3⟩:=hfix q B1 (hst' hq) hq1
   exact ⟨B0,by rw [l0]; exact h1,h3⟩
 ·rw [s0] at hso
  have h5:=hkl q (PV.only_mem (hso _ (l8 ht)) hq)
  have:=hst hs
  omega
 ·have h1:=hst hs
  rw [T1,hbx j (by omega),l0] at hj
  exact hlo j h1 hj
 ·cases e:n8 j with
  | true=>rfl
  | false=>exact absurd (hpin j e) hj
end Go.Proofs.YtjagfionflbjbaaGreat.SH
namespace Go.Proofs.YtjagfionflbjbaaGreat.SH
open Go
theorem y0w {E:Env}{st st':Nat→Bool}{f:FuncId}{args:List PV}{H H':List (Nat×Blk)}{r:PV}(h:I4 E st f args H H' r)(hst:∀ j,st' j=true→st j=true):I4 E st' f args H H' r:=by
 intro ok ρ w vals hG hH hinj hrel
 refine Calls.mono (h ok ρ w vals hG hH hinj hrel) fun e w' ⟨v,ρ1,he,hp⟩=>⟨v,ρ1,he,{ hp with stay:=fun j h1 h2 h3=>hp.stay j h1 h2 (hst j h3) }⟩
end Go.Proofs.YtjagfionflbjbaaGreat.SH
namespace Go.Proofs.YtjagfionflbjbaaGreat.SH
open Go
section
variable {P:Program} {F:Fr} {d:Nat} {T:TypeId} {pos:String} {aft:Array Edge} {g:Option (Nat×Bool)} {x y:Operand} {xT yT:TypeId}
theorem v0c {e:TypeId}(hu:P.underlying xT=some (.slice e))(hlt:d<F.nt):P2 P F ⟨some d,.binOp .neq xT x y yT,T,pos,aft,g⟩ { rs:=[(x,.p (.a (.slice none 0 0))),(y,.p (.a (.slice none 0 0)))],ws:=[(d,.p (.a (.bool false)))] } :=
 v4 hlt fun e' w h1 h2=>by simp [execOp,h1,h2,eqGuard,run_neq_slice_nil w xT e none 0 0 hu]
theorem p0v {e:TypeId}{k off n tot:Nat}{B:Blk}(hu:P.underlying xT=some (.slice e))(hl:B.cs.len=tot)(hlt:d<F.nt):P2 P F ⟨some d,.binOp .neq xT x y yT,T,pos,aft,g⟩ { rs:=[(x,.ref k off n tot),(y,.p (.a (.slice none 0 0)))],rb:=[(k,B)],ws:=[(d,.p (.a (.bool true)))] } :=
 s4 rfl hlt rfl rfl fun ρ S a w h hA=>by
  obtain ⟨cap,c,he,hc,_,_⟩:=l9 h (hA.rs (x,.ref k off n tot) (by simp)) (hA.rb (k,B) (by simp)) hl
  have hy:=G4 h (v:=.slice none 0 0) (hA.rs (y,_) (by simp))
  exact ⟨.bool true,by simp [execOp,he,hy,eqGuard,run_neq_slice_nil w xT e _ n cap hu],by simp [M2,Rel]⟩
end
end Go.Proofs.YtjagfionflbjbaaGreat.SH
namespace Go.Proofs.YtjagfionflbjbaaGreat.SH
open Go
theorem i3 {P:Program}{F:Fr}{d:Nat}{T:TypeId}{pos:String}{aft:Array Edge}{g:Option (Nat×Bool)}{x:Operand}{k off tot:Nat}{B:Blk}(hl:B.cs.len=tot)(hlt:d<F.nt):P2 P F ⟨some d,.nilCheck x,T,pos,aft,g⟩ { rs:=[(x,.at_ k off tot)],rb:=[(k,B)],ws:=[(d,.at_ k off tot)] } :=
 s4 rfl hlt rfl rfl fun ρ S a w h hA=>by
  have hx:=hA.rs (x,.at_ k off tot) (by simp)
  have he:=X8 h hx (hA.rb (k,B) (by simp)) hl
  exact ⟨.pointer (some ⟨ρ k,off,none⟩),by simp [execOp,he],by rw [← he]; exact U4 h hx⟩
end Go.Proofs.YtjagfionflbjbaaGreat.SH
namespace Go.Proofs.YtjagfionflbjbaaGreat.SH
open Go Go.RowKit
def stA (_:Nat):Bool:=true
theorem y1s {F:Fr}{sl slR:List (Nat×PV)}{bx pre pre' T T' U U':List (Nat×Blk)}
  (hp:d6 pre=true) (hbp:∀ k B,bx.lookup k=some B→pre.lookup k=some B) (hpp:∀ k B,pre'.lookup k=some B→pre.lookup k=some B)
  (hT:∀ k B,T.lookup k=some B→U.lookup k=some B∧1000≤k) (hT':∀ k B,T'.lookup k=some B→1000≤k)
  (hU:∀ k B,U'.lookup k=some B→T'.lookup k=some B∨(1000≤k∧U.lookup k=some B∧T.lookup k=none∧T'.lookup k=none))
  (hfix:∀ q B1,T'.lookup q=some B1→∃ B0,T.lookup q=some B0∧B1.sz=B0.sz∧B1.cs.len=B0.cs.len)
  (hS:R6 ⟨sl,pre++U⟩ slR) (hw:Whole (bx++T')) :
  b0p stA F ⟨sl,pre++U⟩ (bx++T) (bx++T') slR (pre'++U'):=by
 have hbx:∀ k,1000≤k→bx.lookup k=none:=fun k hk=>by
  cases e:bx.lookup k with
  | none=>rfl
  | some B=>have:=d0v hp (hbp k B e); omega
 have hTl:∀ k,k<1000→T.lookup k=none:=fun k hk=>by
  cases e:T.lookup k with
  | none=>rfl
  | some B=>have:=(hT k B e).2; omega
 have hTl':∀ k,k<1000→T'.lookup k=none:=fun k hk=>by
  cases e:T'.lookup k with
  | none=>rfl
  | some B=>have:=hT' k B e; omega
 refine ⟨fun j B hj=>?_,hS,fun k B hk=>?_,fun q B1 hq hq1=>?_,fun t v ht q hq hs=>(by cases hs),fun j hj hs=>(by cases hs),fun j hj=>rfl,hw⟩
 ·show (pre++U).lookup j=some B
  rw [T1] at hj ⊢
  cases e:bx.lookup j with
  | some C=>rw [e,K0] at hj; rw [hbp j C e,K0,hj]
  | none =>
   rw [e,l0] at hj
   rw [n5 hp (hT j B hj).2,l0]; exact (hT j B hj).1
 ·rw [T1] at hk
  show _∨((pre++U).lookup k=some B∧_)
  rw [T1,T1,T1]
  cases e:pre'.lookup k with
  | some C =>
   rw [e,K0] at hk
   injection hk with hk
   subst hk
   have h3:=hpp k C e
   have h4:=d0v hp h3
   rw [h3,hTl k h4,hTl' k h4,K0,Option.or_none]
   cases e2:bx.lookup k with
   | some D =>
    have:=hbp k D e2
    rw [h3] at this
    exact .inl this.symm
   | none=>exact .inr ⟨rfl,rfl,rfl,fun i x hx q hq hs=>(by cases hs)⟩
  | none =>
   rw [e,l0] at hk
   rcases hU k B hk with h | ⟨h1,h3,h4,h5⟩
   ·exact .inl (by rw [hbx k (hT' k B h),l0,h])
   ·exact .inr ⟨by rw [n5 hp h1,l0,h3],by rw [hbx k h1,h4]; rfl,by rw [hbx k h1,h5]; rfl,fun i x hx q hq hs=>(by cases hs)⟩
 ·rw [T1] at hq1 ⊢
  cases e:bx.lookup q with
  | some C=>rw [e,K0] at hq1; injection hq1 with hq1; subst hq1; exact ⟨C,rfl,rfl,rfl⟩
  | none =>
   rw [e,l0] at hq1
   obtain ⟨B0,h1,h3⟩:=hfix q B1 hq1
   exact ⟨B0,by rw [l0]; exact h1,h3⟩
end Go.Proofs.YtjagfionflbjbaaGreat.SH
namespace Go.Proofs.YtjagfionflbjbaaGreat.SH
open Go
theorem g0f {P:Program}{F:Fr}{d:Nat}{t T:TypeId}{pos:String}{aft:Array Edge}{g:Option (Nat×Bool)}{k:Nat}{x:Operand}{j off tot:Nat}{B:Blk}(hl:B.cs.len=tot)(hf:(j != k)=true)(hpk:F.pin k=none)(hlt:d<F.nt) :
  P2 P F ⟨some d,.box t x,T,pos,aft,g⟩ { rs:=[(x,.at_ j off tot)],rb:=[(j,B)],fresh:=some k,ws:=[(d,.at_ k 0 1)],wb:=[(k,⟨t,1,.mix [.at_ j off tot]⟩)] } :=
 g0x (n:=1) (vs:=[.at_ j off tot]) rfl hpk hlt rfl rfl rfl rfl fun ρ S a w h hA=>by
  have hx:=hA.rs (x,.at_ j off tot) (by simp)
  have he:=X8 h hx (hA.rb (j,B) (by simp)) hl
  have hr:=U4 h hx
  refine ⟨[a.eval x],?_,by simp only [B3]; exact ⟨_,_,rfl,hr,rfl⟩,fun c hc=>?_,by simp only [PV.freeL,PV.free,hf]; rfl⟩
  ·rw [he]; simp [execOp,he,Instr.box,newVar,newRow,Value.cells]
  ·obtain rfl:=List.mem_singleton.1 hc
   rw [he]; rfl
end Go.Proofs.YtjagfionflbjbaaGreat.SH
namespace Go.Proofs.YtjagfionflbjbaaGreat.SH
open Go
theorem p0T {pre T:List (Nat×Blk)}{k:Nat}(h:K5 T)(hk:(Nat.blt k 1000 && (pre.lookup k).isNone)=true):(pre++T).lookup k=none:=by
 rw [j0] at hk
 rw [T1,h.low k hk.1,Option.or_none]
 exact Option.isNone_iff_eq_none.1 hk.2
end Go.Proofs.YtjagfionflbjbaaGreat.SH
set_option maxRecDepth 100000
set_option maxHeartbeats 4000000
namespace Go.Proofs.YtjagfionflbjbaaGreat.N
open Go Go.Proofs.YtjagfionflbjbaaGreat.SH Go.Proofs.YtjagfionflbjbaaGreat.NumA
open Go.Proofs.Tryz renaming call65→cl65,call91→cl91,call93→cl93,call94→cl94,call95→cl95,call96→cl96,call98→cl98,call99→cl99,isAgg3→ag3,isAgg47→ag47,isAgg73→ag73,isAgg77→ag77,sizeOf47→sz47,sizeOf77→sz77,underlying77→un77,underlying79→un79
@[reducible] def bxI (k:Nat)(i:Nat):Nat×Blk:=(k,⟨3,1,.mix [.p (vZ i)]⟩)
theorem Z4 {s k:Nat}{B:Blk}{m:List (List Rat)}(h2:s<9)(h:(J2 s m).lookup k=some B):1000≤k:=by
 rcases P5 h2 (show (J2 s m).lookup k≠none by rw [h]; simp) with rfl | ⟨q,_,rfl⟩
 ·omega
 ·simp only [F3]; omega
theorem f0a {s:Nat}{m m':List (List Rat)}(h2:s<9)(hl:m'.length=m.length){q:Nat}{B1:Blk}(hq:q<1100)(h:(J2 s m').lookup q=some B1):∃ B0,(J2 s m).lookup q=some B0∧B1.sz=B0.sz∧B1.cs.len=B0.cs.len:=by
 rcases P5 h2 (show (J2 s m').lookup q≠none by rw [h]; simp) with rfl | ⟨q,_,rfl⟩
 ·rw [hdL] at h
  injection h with h
  subst h
  exact ⟨hdB s m,hdL,rfl,by simp [Cells.len,hl]⟩
 ·simp only [F3] at hq; omega
theorem g1r {bx T:List (Nat×Blk)}(hb:(bx.all fun p=>p.2.cs.only [])=true)(hT:Whole T)(hd:∀ k B,T.lookup k=some B→bx.lookup k=none):Whole (bx++T):=by
 intro j B hj i x hx q hq
 rw [T1] at hj ⊢
 cases e:bx.lookup j with
 | some C =>
  rw [e,K0] at hj
  injection hj with hj
  subst hj
  rw [s0] at hb
  have:=PV.only_mem (Cells.only_get (hb _ (M3 e)) hx) hq
  simp at this
 | none =>
  rw [e,l0] at hj
  have:=hT j B hj i x hx q hq
  intro hn
  cases e2:T.lookup q with
  | none=>exact this e2
  | some C=>rw [hd q C e2,l0,e2] at hn; cases hn
theorem ncM {F:Fr}{n:Nat}{sl:List (Nat×PV)}{bx:List (Nat×Blk)}{s:Nat}{m m':List (List Rat)}(h2:s<9)(hl:m'.length=m.length)(G:GFr E n8 (bx++J2 s m) n F)(hp:d6 bx=true)(hb:(bx.all fun p=>p.2.cs.only [])=true) :
  b0p n8 F ⟨sl,bx++J2 s m⟩ (J2 s m) (J2 s m') [] (bx++J2 s m') :=
 ncT (bx:=[]) (T:=J2 s m) (T':=J2 s m') (U:=J2 s m) (U':=J2 s m') [] rfl hp (fun k B h=>by cases h) (fun k B h=>h) (fun k B h=>⟨h,Z4 h2 h⟩) (fun k B h=>Z4 h2 h) (fun k B h=>.inl h) (fun q B1 hq h=>f0a h2 hl hq h) hb rfl trivial
  (fun j hj h=>by
   rw [G.lo,T1,n5 hp oM,l0]
   cases e:(J2 s m).lookup j with
   | none=>exact absurd e h
   | some B=>rfl) G.ps (D2 h2 m').whole
theorem v0m (s:Nat)(m:List (List Rat))(i p:Nat)(h2:s<9)(hi:i<m.length)(hp:p<m.length)(hne:i≠p):I4 E n8 93 [.ref (s+1001) 0 m.length m.length,.at_ 6 0 1,.at_ 5 0 1] ([bxI 5 p,bxI 6 i]++J2 s m) ([bxI 5 p,bxI 6 i]++J2 s (J5 m i p)) (.p (.tup [])):=by
 refine m4 (xs:=[]) Tryz.func93 rfl Tryz.ntmps93 Tryz.results93 sM fun F G=>?_
 have L:=@lti _ _ G.nt
 have hG:=G.g
 have hX:=G.x
 have hN:=U5 hG
 refine D0d (nsw (c_m L) t1 t0 (nsw (Z1 ag3 rF rF L) t1 t1 ?_))
 refine nsw (Z1 ag3 rF rF L) t1 t1 ?_
 refine nsI hG hX hN [] ([(5,_),(6,_)]++(J2 s (J5 m i p))) (k1q s m i p h2 hi hp hne) L (Y4 (ys:=[_,_,_]) cl94 rfl rfl) t3 (by exact ncM (bx:=[bxI 5 p,bxI 6 i]) h2 sM G rfl rfl) (fun q h=>by cases h) rfl ?_
 refine .nil ?_
 refine ⟨.inl rfl,T4.cast .nil ?_,⟨rfl,rfl,hbT [_,_] (D2 h2 _) rfl⟩⟩
 rfl
@[reducible] def bxQ (k:Nat)(c:Rat):Nat×Blk:=(k,bQ c)
theorem q0v (s:Nat)(m:List (List Rat))(p:Nat)(c:Rat)(h2:s<9)(hp:p<m.length)(hl:(m.getD p []).length<1000000000)(hs:∀ a∈m.getD p [],qw a<1000000000)(hc:qw c<1000000000):I4 E n8 95 [.ref (s+1001) 0 m.length m.length,.at_ 5 0 1,.at_ 8 0 4] ([bxI 5 p,bxQ 8 c]++J2 s m) ([bxI 5 p,bxQ 8 c]++J2 s (m.set p ((m.getD p []).map (· * c)))) (.p (.tup [])):=by
 refine m4 (xs:=[]) Tryz.func95 rfl Tryz.ntmps95 Tryz.results95 sM fun F G=>?_
 have L:=@lti _ _ G.nt
 have hG:=G.g
 have hX:=G.x
 have hN:=U5 hG
 refine D0d (nsw (c_m L) t1 t0 (nsw (Z1 ag3 rF rF L) t1 t1 ?_))
 refine nsw (M5 ag47 sz47 rF (by exact al4) rfl L) t1 t1 ?_
 refine nsI hG hX hN [] ([(5,_),(8,_)]++(J2 s (m.set p ((m.getD p []).map (· * c))))) (y0w (Y0r s m p c h2 hp hl hs hc) (fun _ _=>rfl)) L (Y4 (ys:=[_,_,_]) cl96 rfl rfl) t3 (by exact ncM (bx:=[bxI 5 p,bxQ 8 c]) h2 sM G rfl rfl) (fun q h=>by cases h) rfl ?_
 refine .nil ?_
 refine ⟨.inl rfl,T4.cast .nil ?_,⟨rfl,rfl,hbT [_,_] (D2 h2 _) rfl⟩⟩
 rfl
def v9 (m m':List (List Rat)):Prop:=m'.length=m.length∧∀ i,(m'.getD i []).length=(m.getD i []).length
theorem h1q {m:List (List Rat)}{i:Nat}{r:List Rat}(h:r.length=(m.getD i []).length):v9 m (m.set i r):=by
 refine ⟨by simp,fun j=>?_⟩
 rw [f0,List.getElem?_set]
 by_cases e:i=j
 ·subst e
  rw [if_pos rfl]
  by_cases hi:i<m.length
  ·rw [if_pos hi]; exact h
  ·rw [if_neg hi,f0,List.getElem?_eq_none oM]
 ·rw [if_neg e,f0]
theorem I9 {s:Nat}{m m':List (List Rat)}(h2:s<9)(hl:v9 m m'){q:Nat}{B1:Blk}(h:(J2 s m').lookup q=some B1):∃ B0,(J2 s m).lookup q=some B0∧B1.sz=B0.sz∧B1.cs.len=B0.cs.len:=by
 rcases P5 h2 (show (J2 s m').lookup q≠none by rw [h]; simp) with rfl | ⟨q,hq,rfl⟩
 ·rw [hdL] at h
  injection h with h
  subst h
  exact ⟨hdB s m,hdL,rfl,by simp [Cells.len,hl.1]⟩
 ·rw [rwL h2 hq] at h
  injection h with h
  subst h
  exact ⟨_,rwL h2 (by rw [← hl.1]; exact hq),rfl,by simp only [Cells.len,E3,hl.2 q]⟩
theorem Q1p {F:Fr}{n:Nat}{sl:List (Nat×PV)}{bx:List (Nat×Blk)}{s:Nat}{m m':List (List Rat)}(h2:s<9)(hl:v9 m m')(hp:d6 bx=true) :
  b0p stA F ⟨sl,bx++J2 s m⟩ (J2 s m) (J2 s m') [] (bx++J2 s m') :=
 y1s (bx:=[]) (T:=J2 s m) (T':=J2 s m') (U:=J2 s m) (U':=J2 s m') hp (fun k B h=>by cases h) (fun k B h=>h) (fun k B h=>⟨h,Z4 h2 h⟩) (fun k B h=>Z4 h2 h) (fun k B h=>.inl h) (fun q B1 h=>I9 h2 hl h) t0 (D2 h2 m').whole
theorem k0j {m:List (List Rat)}{i p:Nat}{c:Rat}(hlen:(m.getD p []).length=(m.getD i []).length):v9 m (C7 m i p c):=h1q (by simp; simp at hlen; omega)
theorem q0z (s:Nat)(m:List (List Rat))(i p:Nat)(c:Rat)(B C D:Nat)(h2:s<9)(hi:i<m.length)(hp:p<m.length)(hne:i≠p)(hlen:(m.getD p []).length=(m.getD i []).length)(hl:(m.getD i []).length<1000000000)(hB:∀ a∈m.getD i [],qw a≤B)(hC:∀ a∈m.getD p [],qw a≤C)(hD:qw c≤D)(hb:B+(D+C)+1<1000000000):I4 E stA 98 [.ref (s+1001) 0 m.length m.length,.at_ 10 0 1,.at_ 5 0 1,.at_ 11 0 4] ([bxI 5 p,bxI 10 i,bxQ 11 c]++J2 s m) ([bxI 5 p,bxI 10 i,bxQ 11 c]++J2 s (C7 m i p c)) (.p (.tup [])):=by
 refine m4 (xs:=[]) Tryz.func98 rfl Tryz.ntmps98 Tryz.results98 sM fun F G=>?_
 have L:=@lti _ _ G.nt
 have hG:=G.g
 have hX:=G.x
 have hN:=U5 hG
 refine D0d (nsw (c_m L) t1 t0 (nsw (Z1 ag3 rF rF L) t1 t1 ?_))
 refine nsw (Z1 ag3 rF rF L) t1 t1 ?_
 refine nsw (M5 ag47 sz47 rF (by exact al4) rfl L) t1 t1 ?_
 refine nsI hG hX hN [] ([(5,_),(10,_),(11,_)]++(J2 s (C7 m i p c))) (y0w (W0x s m i p c B C D h2 hi hp hne hlen hl hB hC hD hb) (fun _ _=>rfl)) L (Y4 (ys:=[_,_,_,_]) cl99 rfl rfl) t4 (by exact Q1p (n:=0) (bx:=[bxI 5 p,bxI 10 i,bxQ 11 c]) h2 (k0j hlen) rfl) (fun q h=>by cases h) rfl ?_
 refine .nil ?_
 refine ⟨.inl rfl,T4.cast .nil ?_,⟨rfl,rfl,rfl,hbT [_,_,_] (D2 h2 _) rfl⟩⟩
 rfl
@[reducible] def wB (c n:Nat):Option Nat→Blk
 | none=>⟨79,3,.mix [.ref 1001 0 n n,.p (vZ c),.p (.a (.slice none 0 0))]⟩
 | some k=>⟨79,3,.mix [.ref 1001 0 n n,.p (vZ c),.ref 1002 0 k k]⟩
theorem J0a {s k i q:Nat}{m:List (List Rat)}{B:Blk}{x:PV}(h2:s<9)(h:(J2 s m).lookup k=some B)(hx:B.cs.get i=some x)(hq:x.free q=false):∃ j,q=F3 s j:=by
 rcases P5 h2 (show (J2 s m).lookup k≠none by rw [h]; simp) with rfl | ⟨j,hj,rfl⟩
 ·rw [hdL] at h
  injection h with h
  subst h
  obtain ⟨v,_,e⟩:=y0x hx hq
  exact ⟨_,e⟩
 ·rw [rwL h2 hj] at h
  injection h with h
  subst h
  simp only [Cells.get,M0] at hx
  obtain ⟨y,_,rfl⟩:=hx
  simp [PV.free] at hq
theorem q8 {s s' k:Nat}{m b:List (List Rat)}(h2:s<2)(h2':s'<2)(hne:s≠s')(h:(J2 s m).lookup k≠none):(J2 s' b).lookup k=none:=by
 cases e:(J2 s' b).lookup k with
 | none=>rfl
 | some B =>
  rcases P5 oM h with rfl | ⟨q,_,rfl⟩ <;> rcases P5 oM (show (J2 s' b).lookup _≠none by rw [e]; simp) with h3 | ⟨q',_,h3⟩ <;> (try simp only [F3] at h3) <;> omega
theorem m1q {s k:Nat}{m m':List (List Rat)}(h2:s<9)(hl:m'.length=m.length)(h:(J2 s m).lookup k=none):(J2 s m').lookup k=none:=by
 cases e:(J2 s m').lookup k with
 | none=>rfl
 | some B =>
  rcases P5 h2 (show (J2 s m').lookup k≠none by rw [e]; simp) with rfl | ⟨q,hq,rfl⟩
  ·rw [hdL] at h; cases h
  ·exact absurd h (V0c h2 oM)
theorem D7 (m b:List (List Rat)):K5 (J2 0 m++J2 1 b):=by
 have h0:=D2 (s:=0) dC m
 have h1:=D2 (s:=1) dC b
 refine ⟨fun k hk=>by rw [T1,h0.low k hk,h1.low k hk]; rfl,?_,fun k hk=>by rw [J4,h0.free k hk,h1.free k hk]; rfl,fun j B hj i x hx q hq=>?_⟩
 ·rw [List.map_append,List.nodup_append]
  refine ⟨h0.nd,h1.nd,fun a ha b' hb e=>?_⟩
  subst e
  obtain ⟨⟨a,A⟩,hA,rfl⟩:=G0.1 ha
  obtain ⟨⟨a',A'⟩,hA',e⟩:=G0.1 hb
  simp only at e
  subst e
  have:=q8 (m:=m) (b:=b) (k:=a') (s:=0) (s':=1) dC dC dC (by rw [R5 h0.nd hA]; simp)
  rw [R5 h1.nd hA'] at this; cases this
 ·rw [T1] at hj ⊢
  cases e:(J2 0 m).lookup j with
  | some C =>
   rw [e,K0] at hj
   injection hj with hj
   subst hj
   have:=h0.whole j C e i x hx q hq
   obtain ⟨D,hD⟩:=D1.1 this
   rw [hD]; simp
  | none =>
   rw [e,l0] at hj
   have:=h1.whole j B hj i x hx q hq
   obtain ⟨D,hD⟩:=D1.1 this
   rw [hD]; simp
theorem K1s {m b:List (List Rat)}:(J2 0 m++J2 1 b).lookup 1002=some (hdB 1 b):=by
 rw [T1,q8 (m:=b) (b:=m) (k:=1002) (s:=1) (s':=0) dC dC dC (by rw [show 1002=1+1001 from rfl,hdL]; simp),l0]; exact hdL
@[reducible] def ks8:List Nat:=[1,3,4,5,6,7,8,10,11,999,1001,1002,1003]
theorem g1b {F:Fr}{n:Nat}{H0 pre T:List (Nat×Blk)}(G:GFr E n8 H0 n F)(h:∀ k,T.lookup k≠none→H0.lookup k≠none):∀ j,1100≤j→T.lookup j≠none→F.lo j=false:=fun j _ hj=>by
 rw [G.lo]
 cases e:H0.lookup j with
 | none=>exact absurd e (h j hj)
 | some B=>rfl
theorem B8 {pre T:List (Nat×Blk)}{k:Nat}(h:T.lookup k≠none):(pre++T).lookup k≠none:=by
 rw [T1]
 cases pre.lookup k with
 | none=>simpa using h
 | some B=>simp
theorem j0w {T U:List (Nat×Blk)}{k:Nat}(h:T.lookup k≠none):(T++U).lookup k≠none:=by
 rw [T1]
 cases e:T.lookup k with
 | none=>exact absurd e h
 | some B=>simp
theorem v0q {bx r:List (Nat×Blk)}:∀ k B,bx.lookup k=some B→(bx++r).lookup k=some B:=fun k B h=>by rw [T1,h]; rfl
theorem k1d {bx T:List (Nat×Blk)}(hp:d6 bx=true)(hT:∀ k B,T.lookup k=some B→1000≤k)(hb:(bx.all fun p=>p.2.cs.only [])=true)(hw:Whole T):Whole (bx++T) :=
 g1r hb hw fun k B h=>n5 hp (hT k B h)
theorem nc1 {F:Fr}{n:Nat}{sl slR:List (Nat×PV)}{bx r:List (Nat×Blk)}{m m':List (List Rat)}(hl:m'.length=m.length)(G:GFr E n8 ((bx++r)++J2 0 m) n F)(hp:d6 (bx++r)=true)(hp':d6 bx=true)(hb:(bx.all fun p=>p.2.cs.only [])=true)(hpo:((bx++r).all fun p=>p.2.cs.only ks8)=true)(hso:(slR.all fun p=>p.2.only ks8)=true)(hS:R6 ⟨sl,(bx++r)++J2 0 m⟩ slR) :
  b0p n8 F ⟨sl,(bx++r)++J2 0 m⟩ (bx++J2 0 m) (bx++J2 0 m') slR ((bx++r)++J2 0 m') :=
 ncT (pre:=bx++r) (pre':=bx++r) ks8 rfl hp v0q (fun k B h=>h) (fun k B h=>⟨h,Z4 dC h⟩) (fun k B h=>Z4 dC h) (fun k B h=>.inl h) (fun q B1 hq h=>f0a dC hl hq h) hpo hso hS
  (g1b (pre:=[]) G fun k h=>B8 h) G.ps (k1d hp' (fun k B h=>Z4 dC h) hb (D2 dC m').whole)
theorem M1h {F:Fr}{n:Nat}{sl slR:List (Nat×PV)}{bx r:List (Nat×Blk)}{m m' b:List (List Rat)}(hl:m'.length=m.length)(G:GFr E n8 ((bx++r)++(J2 0 m++J2 1 b)) n F)(hp:d6 (bx++r)=true)(hp':d6 bx=true)(hb:(bx.all fun p=>p.2.cs.only [])=true)(hpo:((bx++r).all fun p=>p.2.cs.only ks8)=true)(hso:(slR.all fun p=>p.2.only ks8)=true)(hS:R6 ⟨sl,(bx++r)++(J2 0 m++J2 1 b)⟩ slR) :
  b0p n8 F ⟨sl,(bx++r)++(J2 0 m++J2 1 b)⟩ (bx++J2 0 m) (bx++J2 0 m') slR ((bx++r)++(J2 0 m'++J2 1 b)) :=
 ncT (pre:=bx++r) (pre':=bx++r) ks8 rfl hp v0q (fun k B h=>h) (fun k B h=>⟨by rw [T1,h]; rfl,Z4 dC h⟩) (fun k B h=>Z4 dC h)
  (fun k B h=>by
   rw [T1] at h
   cases e:(J2 0 m').lookup k with
   | some C=>rw [e] at h; exact .inl h
   | none =>
    rw [e,l0] at h
    have h0:=q8 (m:=b) (b:=m) (k:=k) (s:=1) (s':=0) dC dC dC (by rw [h]; simp)
    refine .inr ⟨Z4 dC h,by rw [T1,h0,l0,h],h0,rfl,fun i x hx q hq _=>?_⟩
    obtain ⟨j,rfl⟩:=J0a dC h hx hq
    cases e2:(J2 0 m').lookup (F3 1 j) with
    | none=>rfl
    | some C=>rcases P5 dC (show (J2 0 m').lookup _≠none by rw [e2]; simp) with h3 | ⟨q',_,h3⟩ <;> simp only [F3] at h3 <;> omega)
  (fun q B1 hq h=>f0a dC hl hq h) hpo hso hS (g1b (pre:=[]) G fun k h=>B8 (j0w h)) G.ps (k1d hp' (fun k B h=>Z4 dC h) hb (D2 dC m').whole)
theorem P1v {F:Fr}{n:Nat}{sl slR:List (Nat×PV)}{bx r:List (Nat×Blk)}{m0 m b b':List (List Rat)}(hl:b'.length=b.length)(G:GFr E n8 ((bx++r)++(J2 0 m0++J2 1 b)) n F)(hp:d6 (bx++r)=true)(hp':d6 bx=true)(hb:(bx.all fun p=>p.2.cs.only [])=true)(hpo:((bx++r).all fun p=>p.2.cs.only ks8)=true)(hso:(slR.all fun p=>p.2.only ks8)=true)(hS:R6 ⟨sl,(bx++r)++(J2 0 m++J2 1 b)⟩ slR) :
  b0p n8 F ⟨sl,(bx++r)++(J2 0 m++J2 1 b)⟩ (bx++J2 1 b) (bx++J2 1 b') slR ((bx++r)++(J2 0 m++J2 1 b')):=by
 have hdd:∀ (b:List (List Rat)) k B,(J2 1 b).lookup k=some B→(J2 0 m).lookup k=none:=fun b k B h=>q8 (m:=b) (b:=m) (k:=k) (s:=1) (s':=0) dC dC dC (by rw [h]; simp)
 have hdd':∀ (b:List (List Rat)) k B,(J2 0 m).lookup k=some B→(J2 1 b).lookup k=none:=fun b k B h=>q8 (m:=m) (b:=b) (k:=k) (s:=0) (s':=1) dC dC dC (by rw [h]; simp)
 refine ncT (pre:=bx++r) (pre':=bx++r) ks8 rfl hp v0q (fun k B h=>h) (fun k B h=>⟨by rw [T1,hdd b k B h,l0,h],Z4 dC h⟩) (fun k B h=>Z4 dC h)
  (fun k B h=>?_)
  (fun q B1 hq h=>f0a dC hl hq h) hpo hso hS (g1b (pre:=[]) G fun k h=>B8 (B8 h)) G.ps (k1d hp' (fun k B h=>Z4 dC h) hb (D2 dC b').whole)
 rw [T1] at h
 cases e:(J2 0 m).lookup k with
 | none=>rw [e,l0] at h; exact .inl h
 | some C =>
  rw [e,K0] at h
  injection h with h
  subst h
  refine .inr ⟨Z4 dC e,by rw [T1,e]; rfl,hdd' b k C e,hdd' b' k C e,fun i x hx q hq _=>?_⟩
  obtain ⟨j,rfl⟩:=J0a dC e hx hq
  cases e2:(J2 1 b').lookup (F3 0 j) with
  | none=>rfl
  | some D=>rcases P5 dC (show (J2 1 b').lookup _≠none by rw [e2]; simp) with h3 | ⟨q',_,h3⟩ <;> simp only [F3] at h3 <;> omega
theorem Q1k {F:Fr}{sl slR:List (Nat×PV)}{bx r:List (Nat×Blk)}{m m':List (List Rat)}(hl:v9 m m')(hp:d6 (bx++r)=true)(hp':d6 bx=true)(hb:(bx.all fun p=>p.2.cs.only [])=true)(hS:R6 ⟨sl,(bx++r)++J2 0 m⟩ slR) :
  b0p stA F ⟨sl,(bx++r)++J2 0 m⟩ (bx++J2 0 m) (bx++J2 0 m') slR ((bx++r)++J2 0 m') :=
 y1s (pre:=bx++r) (pre':=bx++r) hp v0q (fun k B h=>h) (fun k B h=>⟨h,Z4 dC h⟩) (fun k B h=>Z4 dC h) (fun k B h=>.inl h) (fun q B1 h=>I9 dC hl h) hS (k1d hp' (fun k B h=>Z4 dC h) hb (D2 dC m').whole)
theorem Q1b {F:Fr}{sl slR:List (Nat×PV)}{bx r:List (Nat×Blk)}{m m' b:List (List Rat)}(hl:v9 m m')(hp:d6 (bx++r)=true)(hp':d6 bx=true)(hb:(bx.all fun p=>p.2.cs.only [])=true)(hS:R6 ⟨sl,(bx++r)++(J2 0 m++J2 1 b)⟩ slR) :
  b0p stA F ⟨sl,(bx++r)++(J2 0 m++J2 1 b)⟩ (bx++J2 0 m) (bx++J2 0 m') slR ((bx++r)++(J2 0 m'++J2 1 b)) :=
 y1s (pre:=bx++r) (pre':=bx++r) hp v0q (fun k B h=>h) (fun k B h=>⟨by rw [T1,h]; rfl,Z4 dC h⟩) (fun k B h=>Z4 dC h)
  (fun k B h=>by
   rw [T1] at h
   cases e:(J2 0 m').lookup k with
   | some C=>rw [e] at h; exact .inl h
   | none =>
    rw [e,l0] at h
    have h0:=q8 (m:=b) (b:=m) (k:=k) (s:=1) (s':=0) dC dC dC (by rw [h]; simp)
    exact .inr ⟨Z4 dC h,by rw [T1,h0,l0,h],h0,rfl⟩)
  (fun q B1 h=>I9 dC hl h) hS (k1d hp' (fun k B h=>Z4 dC h) hb (D2 dC m').whole)
theorem P1z {F:Fr}{sl slR:List (Nat×PV)}{bx r:List (Nat×Blk)}{m b b':List (List Rat)}(hl:v9 b b')(hp:d6 (bx++r)=true)(hp':d6 bx=true)(hb:(bx.all fun p=>p.2.cs.only [])=true)(hS:R6 ⟨sl,(bx++r)++(J2 0 m++J2 1 b)⟩ slR) :
  b0p stA F ⟨sl,(bx++r)++(J2 0 m++J2 1 b)⟩ (bx++J2 1 b) (bx++J2 1 b') slR ((bx++r)++(J2 0 m++J2 1 b')):=by
 have hdd:∀ (b:List (List Rat)) k B,(J2 1 b).lookup k=some B→(J2 0 m).lookup k=none:=fun b k B h=>q8 (m:=b) (b:=m) (k:=k) (s:=1) (s':=0) dC dC dC (by rw [h]; simp)
 have hdd':∀ (b:List (List Rat)) k B,(J2 0 m).lookup k=some B→(J2 1 b).lookup k=none:=fun b k B h=>q8 (m:=m) (b:=b) (k:=k) (s:=0) (s':=1) dC dC dC (by rw [h]; simp)
 refine y1s (pre:=bx++r) (pre':=bx++r) hp v0q (fun k B h=>h) (fun k B h=>⟨by rw [T1,hdd b k B h,l0,h],Z4 dC h⟩) (fun k B h=>Z4 dC h)
  (fun k B h=>?_) (fun q B1 h=>I9 dC hl h) hS (k1d hp' (fun k B h=>Z4 dC h) hb (D2 dC b').whole)
 rw [T1] at h
 cases e:(J2 0 m).lookup k with
 | none=>rw [e,l0] at h; exact .inl h
 | some C =>
  rw [e,K0] at h
  injection h with h
  subst h
  exact .inr ⟨Z4 dC e,by rw [T1,e]; rfl,hdd' b k C e,hdd' b' k C e⟩
theorem H1y (c:Nat)(m:List (List Rat))(i p:Nat)(hi:i<m.length)(hp:p<m.length)(hne:i≠p):I4 E n8 92 [.at_ 999 0 3,.clo (.func 93) [] [.at_ 6 0 1,.at_ 5 0 1]] ([bxI 5 p,bxI 6 i,(999,wB c m.length none)]++J2 0 m) ([bxI 5 p,bxI 6 i,(999,wB c m.length none)]++J2 0 (J5 m i p)) (.p (.tup [])):=by
 refine m4 (xs:=[]) Tryz.func92 rfl Tryz.ntmps92 Tryz.results92 sM fun F G=>?_
 have L:=@lti _ _ G.nt
 have hG:=G.g
 have hX:=G.x
 have hN:=U5 hG
 refine p0g (nsw (c_m L) t1 t0 (nsw (c_m L) t1 t0 (nsw (i3 rX L) t1 t1 ?_)))
 refine nsw (j2 un79 rfl sz77 dC rX L) t1 t1 ?_
 refine nsw (Z1 ag77 rF rF L) t1 t1 ?_
 refine nsI hG hX hN [(0,.at_ 999 0 3),(1,.clo (.func 93) .nil [.at_ 6 0 1,.at_ 5 0 1])] ([(5,_),(6,_),(999,_)]++(J2 0 (J5 m i p))) (v0m 0 m i p dC hi hp hne) L (Y6 (fst:=[]) (ys:=[_]) (cap:=[_,_]) cl93 rfl rfl) t2 (by exact nc1 (bx:=[bxI 5 p,bxI 6 i]) (r:=[_]) sM G rfl rfl rfl rfl rfl t2) (fun q h=>by cases h) rfl ?_
 refine .nil ⟨[(0,_),(1,_)],(5,_) :: (6,_) :: (999,_) :: J2 0 (J5 m i p),t2,⟨rfl,rfl,rfl,(hbT [_,_,_] (D2 dC (J5 m i p)) rfl)⟩,?_⟩
 refine exr (mV L rfl (sw (i3 rX L) t1 t1 ?_))
 refine sw (j2 un79 rfl sz77 dC rX L) t1 t1 ?_
 refine sw (Z1 ag77 rF rF L) t1 t1 ?_
 refine sw (v0c un77 L) t2 t0 ?_
 refine R1 ⟨[(0,_),(1,_),(14,_)],(5,_) :: (6,_) :: (999,_) :: (J2 0 (J5 m i p)),t3,⟨rfl,rfl,rfl,(hbT [_,_,_] (D2 dC (J5 m i p)) rfl)⟩,?_⟩
 refine j4 rfl rfl (V1 ?_)
 refine ⟨.inl rfl,T4.cast .nil ?_,⟨rfl,rfl,rfl,(hbT [_,_,_] (D2 dC (J5 m i p)) rfl)⟩⟩
 rfl
theorem K1z (c:Nat)(m b:List (List Rat))(i p:Nat)(hi:i<m.length)(hp:p<m.length)(hne:i≠p)(hib:i<b.length)(hpb:p<b.length):I4 E n8 92 [.at_ 999 0 3,.clo (.func 93) [] [.at_ 6 0 1,.at_ 5 0 1]] ([bxI 5 p,bxI 6 i,(999,wB c m.length (some b.length))]++(J2 0 m++J2 1 b)) ([bxI 5 p,bxI 6 i,(999,wB c m.length (some b.length))]++(J2 0 (J5 m i p)++J2 1 (J5 b i p))) (.p (.tup [])):=by
 refine m4 (xs:=[]) Tryz.func92 rfl Tryz.ntmps92 Tryz.results92 sM fun F G=>?_
 have L:=@lti _ _ G.nt
 have hG:=G.g
 have hX:=G.x
 have hN:=U5 hG
 refine p0g (nsw (c_m L) t1 t0 (nsw (c_m L) t1 t0 (nsw (i3 rX L) t1 t1 ?_)))
 refine nsw (j2 un79 rfl sz77 dC rX L) t1 t1 ?_
 refine nsw (Z1 ag77 rF rF L) t1 t1 ?_
 refine nsI hG hX hN [(0,.at_ 999 0 3),(1,.clo (.func 93) .nil [.at_ 6 0 1,.at_ 5 0 1])] ([(5,_),(6,_),(999,_)]++(J2 0 (J5 m i p)++J2 1 b)) (v0m 0 m i p dC hi hp hne) L (Y6 (fst:=[]) (ys:=[_]) (cap:=[_,_]) cl93 rfl rfl) t2 (by exact M1h (bx:=[bxI 5 p,bxI 6 i]) (r:=[_]) sM G rfl rfl rfl rfl rfl t2) (fun q h=>by cases h) rfl ?_
 refine .nil ⟨[(0,_),(1,_)],(5,_) :: (6,_) :: (999,_) :: J2 0 (J5 m i p)++J2 1 b,t2,⟨rfl,rfl,rfl,(hbT [_,_,_] (D7 (J5 m i p) b) rfl)⟩,?_⟩
 refine exr (mV L rfl (sw (i3 rX L) t1 t1 ?_))
 refine sw (j2 un79 rfl sz77 dC rX L) t1 t1 ?_
 refine sw (Z1 ag77 rF rF L) t1 t1 ?_
 refine sw (p0v un77 (by first | exact F2 _ _ _ | exact (F2 _ _ _).trans sM) L) t2 ⟨rdT [_,_,_] (D7 (J5 m i p) b) rfl K1s,trivial⟩ ?_
 refine R1 ⟨[(0,_),(1,_),(14,_)],(5,_) :: (6,_) :: (999,_) :: (J2 0 (J5 m i p)++J2 1 b),t3,⟨rfl,rfl,rfl,(hbT [_,_,_] (D7 (J5 m i p) b) rfl)⟩,?_⟩
 refine n0b rfl rfl (D0d (nsw (c_m L) t1 t0 (nsw (c_m L) t1 t0 (nsw (i3 rX L) t1 t1 ?_))))
 refine nsw (j2 un79 rfl sz77 dC rX L) t1 t1 ?_
 refine nsw (Z1 ag77 rF rF L) t1 t1 ?_
 refine nsI hG hX hN [] ([(5,_),(6,_),(999,_)]++(J2 0 (J5 m i p)++J2 1 (J5 b i p))) (v0m 1 b i p dC hib hpb hne) L (Y6 (fst:=[]) (ys:=[_]) (cap:=[_,_]) cl93 rfl rfl) t2 (by exact P1v (bx:=[bxI 5 p,bxI 6 i]) (r:=[_]) sM G rfl rfl rfl rfl rfl trivial) (fun q h=>by cases h) rfl ?_
 refine .nil ?_
 refine ⟨.inl rfl,T4.cast .nil ?_,⟨rfl,rfl,rfl,(hbT [_,_,_] (D7 (J5 m i p) (J5 b i p)) rfl)⟩⟩
 rfl
theorem K1j (c:Nat)(m:List (List Rat))(p:Nat)(q:Rat)(hp:p<m.length)(hl:(m.getD p []).length<1000000000)(hs:∀ a∈m.getD p [],qw a<1000000000)(hc:qw q<1000000000):I4 E n8 92 [.at_ 999 0 3,.clo (.func 95) [] [.at_ 5 0 1,.at_ 8 0 4]] ([bxI 5 p,bxQ 8 q,(999,wB c m.length none)]++J2 0 m) ([bxI 5 p,bxQ 8 q,(999,wB c m.length none)]++J2 0 (m.set p ((m.getD p []).map (· * q)))) (.p (.tup [])):=by
 refine m4 (xs:=[]) Tryz.func92 rfl Tryz.ntmps92 Tryz.results92 sM fun F G=>?_
 have L:=@lti _ _ G.nt
 have hG:=G.g
 have hX:=G.x
 have hN:=U5 hG
 refine p0g (nsw (c_m L) t1 t0 (nsw (c_m L) t1 t0 (nsw (i3 rX L) t1 t1 ?_)))
 refine nsw (j2 un79 rfl sz77 dC rX L) t1 t1 ?_
 refine nsw (Z1 ag77 rF rF L) t1 t1 ?_
 refine nsI hG hX hN [(0,.at_ 999 0 3),(1,.clo (.func 95) .nil [.at_ 5 0 1,.at_ 8 0 4])] ([(5,_),(8,_),(999,_)]++(J2 0 (m.set p ((m.getD p []).map (· * q))))) (q0v 0 m p q dC hp hl hs hc) L (Y6 (fst:=[]) (ys:=[_]) (cap:=[_,_]) cl95 rfl rfl) t2 (by exact nc1 (bx:=[bxI 5 p,bxQ 8 q]) (r:=[_]) sM G rfl rfl rfl rfl rfl t2) (fun q h=>by cases h) rfl ?_
 refine .nil ⟨[(0,_),(1,_)],(5,_) :: (8,_) :: (999,_) :: J2 0 (m.set p ((m.getD p []).map (· * q))),t2,⟨rfl,rfl,rfl,(hbT [_,_,_] (D2 dC (m.set p ((m.getD p []).map (· * q)))) rfl)⟩,?_⟩
 refine exr (mV L rfl (sw (i3 rX L) t1 t1 ?_))
 refine sw (j2 un79 rfl sz77 dC rX L) t1 t1 ?_
 refine sw (Z1 ag77 rF rF L) t1 t1 ?_
 refine sw (v0c un77 L) t2 t0 ?_
 refine R1 ⟨[(0,_),(1,_),(14,_)],(5,_) :: (8,_) :: (999,_) :: (J2 0 (m.set p ((m.getD p []).map (· * q)))),t3,⟨rfl,rfl,rfl,(hbT [_,_,_] (D2 dC (m.set p ((m.getD p []).map (· * q)))) rfl)⟩,?_⟩
 refine j4 rfl rfl (V1 ?_)
 refine ⟨.inl rfl,T4.cast .nil ?_,⟨rfl,rfl,rfl,(hbT [_,_,_] (D2 dC (m.set p ((m.getD p []).map (· * q)))) rfl)⟩⟩
 rfl
theorem K1k (c:Nat)(m b:List (List Rat))(p:Nat)(q:Rat)(hp:p<m.length)(hl:(m.getD p []).length<1000000000)(hs:∀ a∈m.getD p [],qw a<1000000000)(hc:qw q<1000000000)(hpb:p<b.length)(hlb:(b.getD p []).length<1000000000)(hsb:∀ a∈b.getD p [],qw a<1000000000):I4 E n8 92 [.at_ 999 0 3,.clo (.func 95) [] [.at_ 5 0 1,.at_ 8 0 4]] ([bxI 5 p,bxQ 8 q,(999,wB c m.length (some b.length))]++(J2 0 m++J2 1 b)) ([bxI 5 p,bxQ 8 q,(999,wB c m.length (some b.length))]++(J2 0 (m.set p ((m.getD p []).map (· * q)))++J2 1 (b.set p ((b.getD p []).map (· * q))))) (.p (.tup [])):=by
 refine m4 (xs:=[]) Tryz.func92 rfl Tryz.ntmps92 Tryz.results92 sM fun F G=>?_
 have L:=@lti _ _ G.nt
 have hG:=G.g
 have hX:=G.x
 have hN:=U5 hG
 refine p0g (nsw (c_m L) t1 t0 (nsw (c_m L) t1 t0 (nsw (i3 rX L) t1 t1 ?_)))
 refine nsw (j2 un79 rfl sz77 dC rX L) t1 t1 ?_
 refine nsw (Z1 ag77 rF rF L) t1 t1 ?_
 refine nsI hG hX hN [(0,.at_ 999 0 3),(1,.clo (.func 95) .nil [.at_ 5 0 1,.at_ 8 0 4])] ([(5,_),(8,_),(999,_)]++(J2 0 (m.set p ((m.getD p []).map (· * q)))++J2 1 b)) (q0v 0 m p q dC hp hl hs hc) L (Y6 (fst:=[]) (ys:=[_]) (cap:=[_,_]) cl95 rfl rfl) t2 (by exact M1h (bx:=[bxI 5 p,bxQ 8 q]) (r:=[_]) sM G rfl rfl rfl rfl rfl t2) (fun q h=>by cases h) rfl ?_
 refine .nil ⟨[(0,_),(1,_)],(5,_) :: (8,_) :: (999,_) :: J2 0 (m.set p ((m.getD p []).map (· * q)))++J2 1 b,t2,⟨rfl,rfl,rfl,(hbT [_,_,_] (D7 (m.set p ((m.getD p []).map (· * q))) b) rfl)⟩,?_⟩
 refine exr (mV L rfl (sw (i3 rX L) t1 t1 ?_))
 refine sw (j2 un79 rfl sz77 dC rX L) t1 t1 ?_
 refine sw (Z1 ag77 rF rF L) t1 t1 ?_
 refine sw (p0v un77 (by first | exact F2 _ _ _ | exact (F2 _ _ _).trans sM) L) t2 ⟨rdT [_,_,_] (D7 (m.set p ((m.getD p []).map (· * q))) b) rfl K1s,trivial⟩ ?_
 refine R1 ⟨[(0,_),(1,_),(14,_)],(5,_) :: (8,_) :: (999,_) :: (J2 0 (m.set p ((m.getD p []).map (· * q)))++J2 1 b),t3,⟨rfl,rfl,rfl,(hbT [_,_,_] (D7 (m.set p ((m.getD p []).map (· * q))) b) rfl)⟩,?_⟩
 refine n0b rfl rfl (D0d (nsw (c_m L) t1 t0 (nsw (c_m L) t1 t0 (nsw (i3 rX L) t1 t1 ?_))))
 refine nsw (j2 un79 rfl sz77 dC rX L) t1 t1 ?_
 refine nsw (Z1 ag77 rF rF L) t1 t1 ?_
 refine nsI hG hX hN [] ([(5,_),(8,_),(999,_)]++(J2 0 (m.set p ((m.getD p []).map (· * q)))++J2 1 (b.set p ((b.getD p []).map (· * q))))) (q0v 1 b p q dC hpb hlb hsb hc) L (Y6 (fst:=[]) (ys:=[_]) (cap:=[_,_]) cl95 rfl rfl) t2 (by exact P1v (bx:=[bxI 5 p,bxQ 8 q]) (r:=[_]) sM G rfl rfl rfl rfl rfl trivial) (fun q h=>by cases h) rfl ?_
 refine .nil ?_
 refine ⟨.inl rfl,T4.cast .nil ?_,⟨rfl,rfl,rfl,(hbT [_,_,_] (D7 (m.set p ((m.getD p []).map (· * q))) (b.set p ((b.getD p []).map (· * q)))) rfl)⟩⟩
 rfl
theorem J1j (c:Nat)(m:List (List Rat))(i p:Nat)(q:Rat)(B C D:Nat)(hi:i<m.length)(hp:p<m.length)(hne:i≠p)(hlen:(m.getD p []).length=(m.getD i []).length)(hl:(m.getD i []).length<1000000000)(hB:∀ a∈m.getD i [],qw a≤B)(hC:∀ a∈m.getD p [],qw a≤C)(hD:qw q≤D)(hb:B+(D+C)+1<1000000000):I4 E stA 92 [.at_ 999 0 3,.clo (.func 98) [] [.at_ 10 0 1,.at_ 5 0 1,.at_ 11 0 4]] ([bxI 5 p,bxI 10 i,bxQ 11 q,(999,wB c m.length none)]++J2 0 m) ([bxI 5 p,bxI 10 i,bxQ 11 q,(999,wB c m.length none)]++J2 0 (C7 m i p q)) (.p (.tup [])):=by
 refine m4 (xs:=[]) Tryz.func92 rfl Tryz.ntmps92 Tryz.results92 sM fun F G=>?_
 have L:=@lti _ _ G.nt
 have hG:=G.g
 have hX:=G.x
 have hN:=U5 hG
 refine p0g (nsw (c_m L) t1 t0 (nsw (c_m L) t1 t0 (nsw (i3 rX L) t1 t1 ?_)))
 refine nsw (j2 un79 rfl sz77 dC rX L) t1 t1 ?_
 refine nsw (Z1 ag77 rF rF L) t1 t1 ?_
 refine nsI hG hX hN [(0,.at_ 999 0 3),(1,.clo (.func 98) .nil [.at_ 10 0 1,.at_ 5 0 1,.at_ 11 0 4])] ([(5,_),(10,_),(11,_),(999,_)]++(J2 0 (C7 m i p q))) (q0z 0 m i p q B C D dC hi hp hne hlen hl hB hC hD hb) L (Y6 (fst:=[]) (ys:=[_]) (cap:=[_,_,_]) cl98 rfl rfl) t2 (by exact Q1k (bx:=[bxI 5 p,bxI 10 i,bxQ 11 q]) (r:=[_]) (k0j hlen) rfl rfl rfl t2) (fun q h=>by cases h) rfl ?_
 refine .nil ⟨[(0,_),(1,_)],(5,_) :: (10,_) :: (11,_) :: (999,_) :: J2 0 (C7 m i p q),t2,⟨rfl,rfl,rfl,rfl,(hbT [_,_,_,_] (D2 dC (C7 m i p q)) rfl)⟩,?_⟩
 refine exr (mV L rfl (sw (i3 rX L) t1 t1 ?_))
 refine sw (j2 un79 rfl sz77 dC rX L) t1 t1 ?_
 refine sw (Z1 ag77 rF rF L) t1 t1 ?_
 refine sw (v0c un77 L) t2 t0 ?_
 refine R1 ⟨[(0,_),(1,_),(14,_)],(5,_) :: (10,_) :: (11,_) :: (999,_) :: (J2 0 (C7 m i p q)),t3,⟨rfl,rfl,rfl,rfl,(hbT [_,_,_,_] (D2 dC (C7 m i p q)) rfl)⟩,?_⟩
 refine j4 rfl rfl (V1 ?_)
 refine ⟨.inl rfl,T4.cast .nil ?_,⟨rfl,rfl,rfl,rfl,(hbT [_,_,_,_] (D2 dC (C7 m i p q)) rfl)⟩⟩
 rfl
theorem M1b (c:Nat)(m b:List (List Rat))(i p:Nat)(q:Rat)(B C D:Nat)(hi:i<m.length)(hp:p<m.length)(hne:i≠p)(hlen:(m.getD p []).length=(m.getD i []).length)(hl:(m.getD i []).length<1000000000)(hB:∀ a∈m.getD i [],qw a≤B)(hC:∀ a∈m.getD p [],qw a≤C)(hD:qw q≤D)(hb:B+(D+C)+1<1000000000)(B' C':Nat)(hib:i<b.length)(hpb:p<b.length)(hlenb:(b.getD p []).length=(b.getD i []).length)(hlb:(b.getD i []).length<1000000000)(hBb:∀ a∈b.getD i [],qw a≤B')(hCb:∀ a∈b.getD p [],qw a≤C')(hbb:B'+(D+C')+1<1000000000):I4 E stA 92 [.at_ 999 0 3,.clo (.func 98) [] [.at_ 10 0 1,.at_ 5 0 1,.at_ 11 0 4]] ([bxI 5 p,bxI 10 i,bxQ 11 q,(999,wB c m.length (some b.length))]++(J2 0 m++J2 1 b)) ([bxI 5 p,bxI 10 i,bxQ 11 q,(999,wB c m.length (some b.length))]++(J2 0 (C7 m i p q)++J2 1 (C7 b i p q))) (.p (.tup [])):=by
 refine m4 (xs:=[]) Tryz.func92 rfl Tryz.ntmps92 Tryz.results92 sM fun F G=>?_
 have L:=@lti _ _ G.nt
 have hG:=G.g
 have hX:=G.x
 have hN:=U5 hG
 refine p0g (nsw (c_m L) t1 t0 (nsw (c_m L) t1 t0 (nsw (i3 rX L) t1 t1 ?_)))
 refine nsw (j2 un79 rfl sz77 dC rX L) t1 t1 ?_
 refine nsw (Z1 ag77 rF rF L) t1 t1 ?_
 refine nsI hG hX hN [(0,.at_ 999 0 3),(1,.clo (.func 98) .nil [.at_ 10 0 1,.at_ 5 0 1,.at_ 11 0 4])] ([(5,_),(10,_),(11,_),(999,_)]++(J2 0 (C7 m i p q)++J2 1 b)) (q0z 0 m i p q B C D dC hi hp hne hlen hl hB hC hD hb) L (Y6 (fst:=[]) (ys:=[_]) (cap:=[_,_,_]) cl98 rfl rfl) t2 (by exact Q1b (bx:=[bxI 5 p,bxI 10 i,bxQ 11 q]) (r:=[_]) (k0j hlen) rfl rfl rfl t2) (fun q h=>by cases h) rfl ?_
 refine .nil ⟨[(0,_),(1,_)],(5,_) :: (10,_) :: (11,_) :: (999,_) :: J2 0 (C7 m i p q)++J2 1 b,t2,⟨rfl,rfl,rfl,rfl,(hbT [_,_,_,_] (D7 (C7 m i p q) b) rfl)⟩,?_⟩
 refine exr (mV L rfl (sw (i3 rX L) t1 t1 ?_))
 refine sw (j2 un79 rfl sz77 dC rX L) t1 t1 ?_
 refine sw (Z1 ag77 rF rF L) t1 t1 ?_
 refine sw (p0v un77 (by first | exact F2 _ _ _ | exact (F2 _ _ _).trans sM) L) t2 ⟨rdT [_,_,_,_] (D7 (C7 m i p q) b) rfl K1s,trivial⟩ ?_
 refine R1 ⟨[(0,_),(1,_),(14,_)],(5,_) :: (10,_) :: (11,_) :: (999,_) :: (J2 0 (C7 m i p q)++J2 1 b),t3,⟨rfl,rfl,rfl,rfl,(hbT [_,_,_,_] (D7 (C7 m i p q) b) rfl)⟩,?_⟩
 refine n0b rfl rfl (D0d (nsw (c_m L) t1 t0 (nsw (c_m L) t1 t0 (nsw (i3 rX L) t1 t1 ?_))))
 refine nsw (j2 un79 rfl sz77 dC rX L) t1 t1 ?_
 refine nsw (Z1 ag77 rF rF L) t1 t1 ?_
 refine nsI hG hX hN [] ([(5,_),(10,_),(11,_),(999,_)]++(J2 0 (C7 m i p q)++J2 1 (C7 b i p q))) (q0z 1 b i p q B' C' D dC hib hpb hne hlenb hlb hBb hCb hD hbb) L (Y6 (fst:=[]) (ys:=[_]) (cap:=[_,_,_]) cl98 rfl rfl) t2 (by exact P1z (bx:=[bxI 5 p,bxI 10 i,bxQ 11 q]) (r:=[_]) (k0j hlenb) rfl rfl rfl trivial) (fun q h=>by cases h) rfl ?_
 refine .nil ?_
 refine ⟨.inl rfl,T4.cast .nil ?_,⟨rfl,rfl,rfl,rfl,(hbT [_,_,_,_] (D7 (C7 m i p q) (C7 b i p q)) rfl)⟩⟩
 rfl
@[reducible] def wV (c n:Nat)(v:PV):Nat×Blk:=(999,⟨79,3,.mix [.ref 1001 0 n n,.p (vZ c),v]⟩)
@[reducible] def bxW:Nat×Blk:=(1,⟨73,1,.mix [.at_ 999 0 3]⟩)
theorem h1r (m:List (List Rat))(cols c i:Nat)(v:PV)(T:List (Nat×Blk))(hT:K5 T)(hsub:∀ k B,(J2 0 m).lookup k=some B→T.lookup k=some B)(hi:i<m.length)(hc:c<(m.getD i []).length)(hq:qw ((m.getD i []).getD c 0)<1000000000):I4 E (fun _=>true) 90 [.p (vZ i),.at_ 1 0 1,.at_ 4 0 1] ([bxW,bxI 4 c,wV cols m.length v]++T) ([bxW,bxI 4 c,wV cols m.length v]++T) (.p (bZ (nzI m c i))):=by
 refine m4 (xs:=[bZ (nzI m c i)]) Tryz.func90 rfl Tryz.ntmps90 Tryz.results90 sM fun F G=>?_
 have L:=@lti _ _ G.nt
 have hG:=G.g
 have hX:=G.x
 have hN:=U5 hG
 refine exr (aV L rfl ?_)
 refine R1 ⟨[(0,_),(1,_),(2,_)],(1,_) :: (4,_) :: (999,_) :: T,t3,⟨rfl,rfl,rfl,(hbT [_,_,_] hT rfl)⟩,?_⟩
 refine exd rF ?_
 refine sw (Z1 ag73 rF rF L) t1 t1 ?_
 refine sw (i3 rX L) t1 t1 ?_
 refine sw (j2 un79 rfl sz77 dC rX L) t1 t1 ?_
 refine sw (Z1 ag77 rF rF L) t1 t1 ?_
 refine mV L rfl (sw (Z1 ag3 rF rF L) t1 t1 ?_)
 refine sw (i6 hG hX hN (d1h 0 m i c dC hi hc) rfl L (Y4 (ys:=[_,_,_]) cl91 rfl rfl) (D2 dC m).nd (D2 dC m).whole (fun q h=>by cases h)) t3 (E7 (o5 (D2 dC m).nd fun k B h=>rdT [_,_,_] hT rfl (hsub k B h))) ?_
 refine cK hG hX cl65 hN (D6 ((m.getD i []).getD c 0) hq) L t1 (sw (l4 L) t1 t0 (aV L rfl ?_))
 refine R1 ⟨g0p [⟨[1],[1],[5],[]⟩,⟨[5],[999],[6],[]⟩,⟨[6],[999],[7],[]⟩,⟨[7],[999],[8],[]⟩,⟨[0],[],[9],[]⟩,⟨[2],[4],[10],[]⟩,⟨[8,9,10],[1000],[11],[]⟩,⟨[11],[],[12],[]⟩,⟨[12],[],[13],[]⟩,⟨[13],[],[4],[]⟩] (.cons (cf0 rfl) (.cons (cf0 rfl) (.cons (cf0 rfl) (.cons (cf0 rfl) (.cons (cf0 rfl) (.cons (cf0 rfl) (.cons (cfT rfl rfl (fun p hp=>by rw [B0d (b0s (D2 dC m) p hp)]; exact List.mem_singleton.2 rfl) rfl (fun _ h=>by cases h)) (.cons (cf0 rfl) (.cons (cf0 rfl) (.cons (cf0 rfl)  .nil)))))))))) rfl (frS [] [_,_,_] hT rfl rfl) dC,[(4,_)],(1,_) :: (4,_) :: (999,_) :: T,t1,⟨rfl,rfl,rfl,(hbT [_,_,_] hT rfl)⟩,?_⟩
 refine X1 ?_
 refine ⟨.inr rfl,T4.cast (.cons (.tmp rfl) .nil) ?_,⟨rfl,rfl,rfl,(hbT [_,_,_] hT rfl)⟩⟩
 rfl
def stO (k:Nat):Bool:=!(k == 603 || k == 604 || k == 605)
theorem K0f (cols n p c:Nat)(T:List (Nat×Blk))(hT:K5 T):I4 E stO 97 [.at_ 999 0 3,.p (vZ p),.p (vZ c)] ([wV cols n (.p (.a (.slice none 0 0)))]++T) ([(603,⟨73,1,.mix [.at_ 999 0 3]⟩),bxI 604 p,bxI 605 c,wV cols n (.p (.a (.slice none 0 0)))]++T) (.clo (.func 126) [] [.at_ 603 0 1,.at_ 604 0 1,.at_ 605 0 1]):=by
 refine q0n Tryz.func97 rfl Tryz.ntmps97 Tryz.results97 sM fun F G=>?_
 have L:=@lti _ _ G.nt
 have hG:=G.g
 have hX:=G.x
 have hN:=U5 hG
 have P0:=fun k (hk:(Nat.blt k 1000 && (List.lookup k _).isNone)=true)=>G.p0 k (p0T hT hk)
 refine exr (swb (g0f (k:=603) rX rfl (P0 _ rfl) L) t1 t1 (frT [_] hT rfl rfl rfl) ?_)
 refine swb (W3 (k:=604) (n:=1) (.atom rfl) rfl rfl (P0 _ rfl) L) t1 t0 (frT [_,_] hT rfl rfl rfl) (swb (W3 (k:=605) (n:=1) (.atom rfl) rfl rfl (P0 _ rfl) L) t1 t0 (frT [_,_,_] hT rfl rfl rfl) (aV L rfl ?_))
 refine R1 ⟨[(3,_),(4,_),(5,_)],(603,_) :: (604,_) :: (605,_) :: (999,_) :: T,t3,⟨rfl,rfl,rfl,rfl,(hbT [_,_,_,_] hT rfl)⟩,?_⟩
 refine exr (sw (p0x (vs:=[]) (us:=[_,_,_]) rfl rfl L) t3 t0 (aV L rfl ?_))
 refine R1 ⟨[(6,_)],(603,_) :: (604,_) :: (605,_) :: (999,_) :: T,t1,⟨rfl,rfl,rfl,rfl,(hbT [_,_,_,_] hT rfl)⟩,?_⟩
 refine X1 ?_
 refine ⟨.inr rfl,rfl,⟨rfl,rfl,rfl,rfl,hbT [_,_,_,_] hT rfl⟩⟩
theorem M0y (cols n nb p c:Nat)(T:List (Nat×Blk))(hT:K5 T):I4 E stO 97 [.at_ 999 0 3,.p (vZ p),.p (vZ c)] ([wV cols n (.ref 1002 0 nb nb)]++T) ([(603,⟨73,1,.mix [.at_ 999 0 3]⟩),bxI 604 p,bxI 605 c,wV cols n (.ref 1002 0 nb nb)]++T) (.clo (.func 126) [] [.at_ 603 0 1,.at_ 604 0 1,.at_ 605 0 1]):=by
 refine q0n Tryz.func97 rfl Tryz.ntmps97 Tryz.results97 sM fun F G=>?_
 have L:=@lti _ _ G.nt
 have hG:=G.g
 have hX:=G.x
 have hN:=U5 hG
 have P0:=fun k (hk:(Nat.blt k 1000 && (List.lookup k _).isNone)=true)=>G.p0 k (p0T hT hk)
 refine exr (swb (g0f (k:=603) rX rfl (P0 _ rfl) L) t1 t1 (frT [_] hT rfl rfl rfl) ?_)
 refine swb (W3 (k:=604) (n:=1) (.atom rfl) rfl rfl (P0 _ rfl) L) t1 t0 (frT [_,_] hT rfl rfl rfl) (swb (W3 (k:=605) (n:=1) (.atom rfl) rfl rfl (P0 _ rfl) L) t1 t0 (frT [_,_,_] hT rfl rfl rfl) (aV L rfl ?_))
 refine R1 ⟨[(3,_),(4,_),(5,_)],(603,_) :: (604,_) :: (605,_) :: (999,_) :: T,t3,⟨rfl,rfl,rfl,rfl,(hbT [_,_,_,_] hT rfl)⟩,?_⟩
 refine exr (sw (p0x (vs:=[]) (us:=[_,_,_]) rfl rfl L) t3 t0 (aV L rfl ?_))
 refine R1 ⟨[(6,_)],(603,_) :: (604,_) :: (605,_) :: (999,_) :: T,t1,⟨rfl,rfl,rfl,rfl,(hbT [_,_,_,_] hT rfl)⟩,?_⟩
 refine X1 ?_
 refine ⟨.inr rfl,rfl,⟨rfl,rfl,rfl,rfl,hbT [_,_,_,_] hT rfl⟩⟩
end Go.Proofs.YtjagfionflbjbaaGreat.N
namespace Go.Proofs.YtjagfionflbjbaaGreat.SH
open Go Go.RowKit
theorem M1k {P:Program}{F:Fr}{ops:Array Oper}{d:Nat}{fo o1 o2:Operand}{ts:Array TypeId}{T:TypeId}{pos:String}{aft:Array Edge}{j g:Nat}{want b:Bool}{l n k:Nat}{encs:Nat→L2×L2}{H:Nat→List (Nat×Blk)}(hY:Yields P F l n encs H)(hk:k<n)(hj:((ops[j]?).bind (·.dst))=some g)(hb:b=want)(hlt:d<F.nt) :
  k1a P F ops ⟨some d,.call ⟨.value fo,#[o1,o2],ts⟩,T,pos,aft,some (j,want)⟩ ⟨[(.tmp g,.p (.a (.bool b))),(fo,.clo (.yield l) [] []),(o1,.p (encs k).1),(o2,.p (encs k).2)],H k,none,[(d,.p (.a (.bool true)))],H (k+1)⟩:=by
 intro S a w hS hh Q K hK
 have hr:=hh.rs (.tmp g,.p (.a (.bool b))) (by simp)
 obtain ⟨ρ,hS'⟩:=hS
 obtain ⟨u,hu,hru⟩:=hS'.slots g _ hr
 have:u = .bool b:=by simpa [M2,Rel] using hru
 subst this
 have hw:Region.wanted ⟨some d,.call ⟨.value fo,#[o1,o2],ts⟩,T,pos,aft,some (j,want)⟩ (yielded ops a.tmps)=true:=by simp [Region.wanted,yielded,hj,hu,hb]
 rw [if_pos hw]
 exact .inr fun m=>hY k hk d fo o1 o2 ts T pos aft (some (j,want)) hlt S a w ⟨ρ,hS'⟩ ⟨fun q hq=>hh.rs q (List.mem_cons_of_mem _ hq),hh.rb,fun _ h=>by cases h⟩ Q K (fun a' w' hs=>hK a' w' hs) m
theorem Q1f {P:Program}{F:Fr}{ops:Array Oper}{d:Nat}{fo o1 o2:Operand}{ts:Array TypeId}{T:TypeId}{pos:String}{aft:Array Edge}{j g:Nat}{want b:Bool}{l n k:Nat}{encs:Nat→L2×L2}{H:Nat→List (Nat×Blk)}{os:List Oper}{sl:List (Nat×PV)}{hb:List (Nat×Blk)}{K:List Ann→St→Prop}(hY:Yields P F l n encs H)(hk:k<n)(hj:((ops[j]?).bind (·.dst))=some g)(hbw:b=want)(hlt:d<F.nt)
  (hgs:St.opd ⟨sl,hb⟩ (.tmp g)=some (.p (.a (.bool b)))) (h1:m8 ⟨sl,hb⟩ [(fo,.clo (.yield l) [] []),(o1,.p (encs k).1),(o2,.p (encs k).2)]) (h2:B6 ⟨sl,hb⟩ (H k))
  (hn:b7 P F ops ⟨(d,.p (.a (.bool true))) :: sl,H (k+1)++hb⟩ os fun As S'=>K (⟨[(.tmp g,.p (.a (.bool b))),(fo,.clo (.yield l) [] []),(o1,.p (encs k).1),(o2,.p (encs k).2)],H k,none,[(d,.p (.a (.bool true)))],H (k+1)⟩ :: As) S') :
  b7 P F ops ⟨sl,hb⟩ (⟨some d,.call ⟨.value fo,#[o1,o2],ts⟩,T,pos,aft,some (j,want)⟩ :: os) K :=
 let ⟨As,S',h,hK⟩:=hn
 ⟨_,S',.cons (M1k hY hk hj hbw hlt) (X6 ⟨hgs,h1⟩ h2 trivial) h,hK⟩
theorem Q1h {S:St}{As:List Ann}(h:U6 As=[]):∀ k∈U6 As,S.free k=true:=fun k hk=>by rw [h] at hk; cases hk
theorem D0f:∀ {As done:List Ann},U6 As=[]→(∀ A∈done,A.fresh=none)→F0g As done=true
 | [],_,_,_=>rfl
 | B :: As,done,h,hd=>by
  simp only [U6,List.append_eq_nil_iff,Option.toList_eq_nil_iff] at h
  simp only [F0g,j0,s0]
  refine ⟨fun A hA=>by simp [q0k,hd A hA,h.1],D0f h.2 fun A hA=>?_⟩
  rcases List.mem_append.1 hA with hA | hA
  ·exact hd A hA
  ·obtain rfl:=List.mem_singleton.1 hA; exact h.1
theorem y1q (cf:Nat→Nat){os:List Oper}{As:List Ann}{S:St}(sks:List Sk)(h1:V9 cf As sks)(hn:U6 As=[])(h2:P7 os sks [] []=true):(K7 os As [] [] && X5 S As)=true:=G1m cf sks h1 (D0f hn fun _ h=>by cases h) (Q1h hn) h2
def cfI (ns:List Nat)(k:Nat):Nat:=if ns.contains k then k else 1000
structure j0c (ns:List Nat) (U:List (Nat×Blk)):Prop where
 no:∀ q,ns.contains q=true→U.lookup q=none
 nd:(U.map (·.1)).Nodup
theorem j0c.ne {ns:List Nat}{U:List (Nat×Blk)}(h:j0c ns U):∀ p∈U,cfI ns p.1=1000:=fun p hp=>by
 unfold cfI
 by_cases e:ns.contains p.1=true
 ·have:=h.no p.1 e
  rw [R5 h.nd hp] at this; cases this
 ·rw [if_neg e]
theorem q0d {ns:List Nat}{pre U:List (Nat×Blk)}(h:j0c ns U)(hp:(pre.all fun p=>ns.contains p.1)=true){k:Nat}{B:Blk}(hk:U.lookup k=some B):pre.lookup k=none:=by
 cases e:pre.lookup k with
 | none=>rfl
 | some C =>
  rw [s0] at hp
  have:=h.no k (hp _ (M3 e))
  rw [hk] at this; cases this
theorem F0s {ns:List Nat}{sl:List (Nat×PV)}{U:List (Nat×Blk)}(pre:List (Nat×Blk))(h:j0c ns U)(hp:(pre.all fun p=>ns.contains p.1)=true):O5 ⟨sl,pre++U⟩ U:=o5 h.nd fun k B hk=>by
 show (pre++U).lookup k=some B
 rw [T1,q0d h hp hk,l0,hk]
theorem N1w {ns:List Nat}{sl:List (Nat×PV)}{U r:List (Nat×Blk)}(pre:List (Nat×Blk))(h:j0c ns U)(hp:(pre.all fun p=>ns.contains p.1)=true):O5 ⟨sl,(pre++U)++r⟩ U:=o5 h.nd fun k B hk=>by
 show ((pre++U)++r).lookup k=some B
 rw [T1,T1,q0d h hp hk,l0,hk]; rfl
theorem F1d {ns:List Nat}{sl:List (Nat×PV)}{U:List (Nat×Blk)}{k:Nat}{B:Blk}(pre:List (Nat×Blk))(h:j0c ns U)(hp:(pre.all fun p=>ns.contains p.1)=true)(hk:U.lookup k=some B):St.blk ⟨sl,pre++U⟩ k=some B:=by
 show (pre++U).lookup k=some B
 rw [T1,q0d h hp hk,l0,hk]
theorem f1w {ns:List Nat}{l r:List (Nat×Blk)}{ks:List Nat}(h1:(l.all fun p=>ks.contains (cfI ns p.1))=true)(h2:j0c ns r)(h3:ks.contains 1000=true):∀ p∈l++r,cfI ns p.1∈ks:=by
 intro p hp
 rcases List.mem_append.1 hp with hp | hp
 ·rw [s0] at h1; simpa using h1 p hp
 ·rw [h2.ne p hp]; simpa using h3
theorem K0n {ns:List Nat}{l U:List (Nat×Blk)}(h2:j0c ns U)(hl:∀ k B,l.lookup k=some B→U.lookup k=some B)(hnd:(l.map (·.1)).Nodup):∀ p∈l,cfI ns p.1∈[1000]:=by
 intro p hp
 have h1:=hl p.1 p.2 (R5 hnd hp)
 rw [h2.ne (p.1,p.2) (M3 h1)]; exact List.mem_singleton.2 rfl
end Go.Proofs.YtjagfionflbjbaaGreat.SH
set_option maxRecDepth 100000
set_option maxHeartbeats 4000000
namespace Go.Proofs.YtjagfionflbjbaaGreat.N
open Go Go.Proofs.YtjagfionflbjbaaGreat.SH Go.Proofs.YtjagfionflbjbaaGreat.NumA
open Go.Proofs.Tryz renaming call65→cl65,call91→cl91,isAgg3→ag3,isAgg73→ag73,isAgg77→ag77,sizeOf77→sz77,underlying77→un77,underlying79→un79
@[reducible] def w1v:List Nat:=[603,604,605,999]
theorem d0k {m:List (List Rat)}{p c i:Nat}:B9 m p c (i+1)=B9 m p c i+(if g0r m p c i=true then 1 else 0):=by
 rw [B9,List.range_succ,List.filter_append,L1]
 congr 1
 by_cases h:g0r m p c i=true
 ·rw [if_pos h,List.filter_cons_of_pos h]; rfl
 ·rw [if_neg h,List.filter_cons_of_neg h]; rfl
theorem d1s {m:List (List Rat)}{p c:Nat}:∀ {i j:Nat},i≤j→B9 m p c i≤B9 m p c j
 | i,j,h=>by
  induction j with
  | zero =>
   obtain rfl:i=0:=by omega
   exact Nat.le_refl _
  | succ j ih =>
   by_cases e:i=j+1
   ·rw [e]; exact Nat.le_refl _
   ·rw [d0k]; have:=ih (by omega); omega
theorem lkY {ns:List Nat}{sl:List (Nat×PV)}{w:Nat×Blk}{U' r:List (Nat×Blk)}{k:Nat}{B:Blk}(h:j0c ns U')(hw:(k == w.1)=false)(hk:ns.contains k=true)(hr:r.lookup k=some B):St.blk ⟨sl,([w]++U')++r⟩ k=some B:=by
 show List.lookup k _=some B
 rw [T1,T1,h.no k hk,Option.or_none,i0,hw]
 exact hr
theorem atM {M m:List (List Rat)}{n i c:Nat}(hl:M.length=n)(hr:M.getD i []=m.getD i [])(hi:i<n)(hc:c<(m.getD i []).length):I4 E (fun _=>true) 91 [.ref 1001 0 n n,.p (vZ i),.p (vZ c)] (J2 0 M) (J2 0 M) (.p (pQ ((m.getD i []).getD c 0))):=by
 subst hl
 rw [← hr] at hc ⊢
 exact d1h 0 M i c dC hi hc
theorem V0h (cols p c n l:Nat)(m:List (List Rat))(v:PV)(M:Nat→List (List Rat))(U:Nat→List (Nat×Blk))(encs:Nat→L2×L2)(hU:∀ k,k≤n→j0c w1v (U k))(hsub:∀ k,k≤n→∀ q B,(J2 0 (M k)).lookup q=some B→(U k).lookup q=some B)(hlen:∀ k,k≤n→(M k).length=m.length)(hrow:∀ i,i<m.length→(M (B9 m p c i)).getD i []=m.getD i [])(hcl:∀ i,i<m.length→c<(m.getD i []).length)(hq:∀ i,i<m.length→qw ((m.getD i []).getD c 0)<1000000000)(hn:n=B9 m p c m.length)(henc:∀ i,i<m.length→g0r m p c i=true→encs (B9 m p c i)=(vZ i,pQ ((m.getD i []).getD c 0)))(hml:m.length<1000000000):∀ (F:Fr) (code:Code),Tryz.f126.body=some code→XFr E ([(603,⟨73,1,.mix [.at_ 999 0 3]⟩),bxI 604 p,bxI 605 c]++([wV cols m.length v]++U 0)) 42 F→Go.Proofs.YtjagfionflbjbaaGreat.SH.Yields E.P F l n encs (fun k=>[wV cols m.length v]++U k)→i4 E.P F code ⟨[(0,.clo (.yield l) [] []),(1,.at_ 603 0 1),(2,.at_ 604 0 1),(3,.at_ 605 0 1)],[(603,⟨73,1,.mix [.at_ 999 0 3]⟩),bxI 604 p,bxI 605 c,wV cols m.length v]++U 0⟩ (fun e S'=>(e = .normal∨e = .ret)∧O5 S' ([(603,⟨73,1,.mix [.at_ 999 0 3]⟩),bxI 604 p,bxI 605 c]++([wV cols m.length v]++U n))):=by
 intro F code hcode XF hY
 injection (show some _=some code from hcode) with hcode
 subst hcode
 have hG:=XF.g
 have hX:=XF.x
 have hN:=XF.ng
 have L:=@lti _ _ XF.nt
 have hs0:(U 0).lookup 1001=some (hdB 0 (M 0)):=hsub 0 (Nat.zero_le _) _ _ hdL
 have hl0:=hlen 0 (Nat.zero_le _)
 have cle:∀ i,i≤m.length→B9 m p c i≤n:=fun i hi=>by rw [hn]; exact d1s hi
 refine exr (sw (Z1 ag73 rF rF L) t1 t1 ?_)
 refine sw (i3 rX L) t1 t1 ?_
 refine sw (j2 un79 rfl sz77 dC rX L) t1 t1 ?_
 refine sw (Z1 ag77 rF rF L) t1 t1 ?_
 refine sw (n0z un77 (by first | exact F2 _ _ _ | exact (F2 _ _ _).trans sM | exact (F2 _ _ _).trans (by assumption)) L) t1 ⟨F1d [_,_,_,_] (hU 0 (Nat.zero_le _)) rfl (hs0),trivial⟩ ?_
 refine mV L rfl ?_
 refine R1 ⟨[(0,_),(1,_),(2,_),(3,_),(10,_),(11,_)],(603,_) :: (604,_) :: (605,_) :: (999,_) :: ((U 0)),t6,⟨rfl,rfl,rfl,rfl,(F0s [_,_,_,_] (hU 0 (Nat.zero_le _)) rfl)⟩,?_⟩
 refine Y1 ?_
 refine G0k (α:=Nat) (fun i=>[(11,vi (i:Int))]) (fun i=>[]) (fun i=>(U (B9 m p c i))) (fun i=>i≤m.length) (fun i=>m.length - i) (0) (sl:=[(0,_),(1,_),(2,_),(3,_),(10,_)]) (hb:=[(603,_),(604,_),(605,_),(999,_)]) ?_ ⟨oR,rfl,rfl,rfl,rfl,rfl,trivial⟩ ⟨rfl,rfl,rfl,rfl,(F0s [_,_,_,_] (hU 0 (Nat.zero_le _)) rfl)⟩ ?_
 ·exact Nat.zero_le _
 intro i hi
 refine exr (sw (d4 L) t2 t0 ?_)
 refine R1 ⟨[(0,_),(1,_),(2,_),(3,_),(10,_),(11,_),(12,_)],(603,_) :: (604,_) :: (605,_) :: (999,_) :: ((U (B9 m p c i))),t7,⟨rfl,rfl,rfl,rfl,(F0s [_,_,_,_] (hU _ (cle i hi)) rfl)⟩,?_⟩
 refine U1 ?_
 refine E2 rfl (fun hc=>?_) (fun hc=>?_)
 ·have hc:=dt hc
  have hil:i<m.length:=by omega
  refine V1 (xq ?_)
  refine U1 (Y1 (exr (mV L rfl (aV L rfl ?_))))
  refine R1 ⟨[(0,_),(1,_),(2,_),(3,_),(5,_),(10,_),(11,_)],(603,_) :: (604,_) :: (605,_) :: (999,_) :: ((U (B9 m p c i))),t7,⟨rfl,rfl,rfl,rfl,(F0s [_,_,_,_] (hU _ (cle i hi)) rfl)⟩,?_⟩
  have atI:=atM (c:=c) (hlen _ (cle i hi)) (hrow i hil) hil (hcl i hil)
  have zI:=D6 ((m.getD i []).getD c 0) (hq i hil)
  by_cases hip:i=p
  ·have ho:g0r m p c i=false:=by rw [g0r,decide_eq_false (by simpa using hip)]; rfl
   refine exd rF ?_
   refine mV L rfl (sw (Z1 ag3 rF rF L) t1 t1 ?_)
   refine sw (c_n L) t2 t0 (mV L rfl (swn (g:=17) rfl sO L rfl (swn (g:=17) rfl sO L rfl (swn (g:=17) rfl sO L rfl (swn (g:=17) rfl sO L rfl (swn (g:=17) rfl sO L rfl (swn (g:=17) rfl sO L rfl (swn (g:=17) rfl sO L rfl (swn (g:=17) rfl sO L rfl (swn (g:=17) rfl sO L rfl (sw (Y3 sO L) t2 t0 ?_)))))))))))
   refine mV L rfl (swn (g:=28) rfl rfl L rfl (swn (g:=28) rfl rfl L rfl (swn (g:=28) rfl rfl L rfl (swn (g:=28) rfl rfl L rfl (swn (g:=28) rfl rfl L rfl (swn (g:=28) rfl rfl L rfl (swn (g:=28) rfl rfl L rfl (swn (g:=28) rfl rfl L rfl (swn (g:=28) rfl rfl L rfl (swn (g:=28) rfl rfl L rfl (swn (g:=28) rfl rfl L rfl ?_)))))))))))
   refine sw (Y3 rfl L) t2 t0 ?_
   refine R1 ⟨y1q (cfI w1v) [⟨[5],[],[14],[]⟩,⟨[2],[604],[15],[]⟩,⟨[14,15],[],[16],[]⟩,⟨[16],[],[17],[]⟩,⟨[17],[],[18],[]⟩,⟨[17],[],[19],[]⟩,⟨[17],[],[20],[]⟩,⟨[17],[],[21],[]⟩,⟨[17],[],[22],[]⟩,⟨[17],[],[23],[]⟩,⟨[17],[],[24],[]⟩,⟨[17],[],[25],[]⟩,⟨[17],[],[26],[]⟩,⟨[17],[],[27],[]⟩,⟨[27],[],[28],[]⟩,⟨[28],[],[29],[]⟩,⟨[28],[],[30],[]⟩,⟨[28],[],[31],[]⟩,⟨[28],[],[32],[]⟩,⟨[28],[],[33],[]⟩,⟨[28],[],[34],[]⟩,⟨[28],[],[35],[]⟩,⟨[28],[],[36],[]⟩,⟨[28],[],[37],[]⟩,⟨[28],[],[38],[]⟩,⟨[28],[],[39],[]⟩,⟨[28],[],[40],[]⟩] (.cons (cf0 rfl) (.cons (cf0 rfl) (.cons (cf0 rfl) (.cons (cf0 rfl) (.cons (cf0 rfl) (.cons (cf0 rfl) (.cons (cf0 rfl) (.cons (cf0 rfl) (.cons (cf0 rfl) (.cons (cf0 rfl) (.cons (cf0 rfl) (.cons (cf0 rfl) (.cons (cf0 rfl) (.cons (cf0 rfl) (.cons (cf0 rfl) (.cons (cf0 rfl) (.cons (cf0 rfl) (.cons (cf0 rfl) (.cons (cf0 rfl) (.cons (cf0 rfl) (.cons (cf0 rfl) (.cons (cf0 rfl) (.cons (cf0 rfl) (.cons (cf0 rfl) (.cons (cf0 rfl) (.cons (cf0 rfl) (.cons (cf0 rfl)  .nil))))))))))))))))))))))))))) rfl dC,[(0,_),(1,_),(2,_),(3,_),(10,_),(11,_),(40,_)],(603,_) :: (604,_) :: (605,_) :: (999,_) :: ((U (B9 m p c i))),t7,⟨rfl,rfl,rfl,rfl,(F0s [_,_,_,_] (hU _ (cle i hi)) rfl)⟩,?_⟩
   refine j4 rfl rfl ?_
   refine V1 (xq ?_)
   refine J3 (sw (L3 L (w64 oM oM)) t2 t0 (mV L rfl (R1 ?_)))
   exact ⟨i+1,oM,by omega,I3 ⟨oR,rfl,rfl,rfl,rfl,rfl,trivial⟩ ⟨rfl,rfl,rfl,rfl,(by rw [d0k,ho,if_neg Bool.false_ne_true,Nat.add_zero]; exact F0s [_,_,_,_] (hU _ (cle i hi)) rfl)⟩⟩
  ·by_cases hz:(m.getD i []).getD c 0=0
   ·have ho:g0r m p c i=false:=by rw [g0r,nzI,decide_eq_true hz]; simp
    refine exd rF ?_
    refine mV L rfl (sw (Z1 ag3 rF rF L) t1 t1 ?_)
    refine sw (c_n L) t2 t0 (mV L rfl (swg (g:=17) rfl sO (Z1 ag73 rF rF L) rfl t1 t1 ?_))
    refine swg (g:=17) rfl sO (i3 rX L) rfl t1 t1 ?_
    refine swg (g:=17) rfl sO (j2 un79 rfl sz77 dC rX L) rfl t1 t1 ?_
    refine swg (g:=17) rfl sO (Z1 ag77 rF rF L) rfl t1 t1 ?_
    refine gV (g:=17) rfl sO L rfl rfl (swg (g:=17) rfl sO (Z1 ag3 rF rF L) rfl t1 t1 ?_)
    refine swg (g:=17) rfl sO (i6 hG hX hN atI rfl L (Y4 (ys:=[_,_,_]) cl91 rfl rfl) (D2 dC _).nd (D2 dC _).whole (fun q h=>by cases h)) rfl t3 (E7 (o5 (D2 dC _).nd fun k B h=>F1d [_,_,_,_] (hU _ (cle i hi)) rfl (hsub _ (cle i hi) k B h))) ?_
    refine swg (g:=17) rfl sO (c_c hG hX cl65 rfl hN zI L) rfl t1 t0 (swg (g:=17) rfl sO (l4 L) rfl t1 t0 (sw (M4 sO L) t2 t0 (mV L rfl (swn (g:=28) rfl (by rw [decide_eq_true hz]) L rfl ?_))))
    refine swn (g:=28) rfl (by rw [decide_eq_true hz]) L rfl ?_
    refine swn (g:=28) rfl (by rw [decide_eq_true hz]) L rfl ?_
    refine swn (g:=28) rfl (by rw [decide_eq_true hz]) L rfl ?_
    refine swn (g:=28) rfl (by rw [decide_eq_true hz]) L rfl ?_
    refine swn (g:=28) rfl (by rw [decide_eq_true hz]) L rfl ?_
    refine swn (g:=28) rfl (by rw [decide_eq_true hz]) L rfl ?_
    refine swn (g:=28) rfl (by rw [decide_eq_true hz]) L rfl ?_
    refine swn (g:=28) rfl (by rw [decide_eq_true hz]) L rfl ?_
    refine swn (g:=28) rfl (by rw [decide_eq_true hz]) L rfl ?_
    refine swn (g:=28) rfl (by rw [decide_eq_true hz]) L rfl ?_
    refine sw (Y3 (by rw [decide_eq_true hz]; rfl) L) t2 t0 ?_
    refine R1 ⟨y1q (cfI w1v) [⟨[5],[],[14],[]⟩,⟨[2],[604],[15],[]⟩,⟨[14,15],[],[16],[]⟩,⟨[16],[],[17],[]⟩,⟨[17,1],[603],[18],[]⟩,⟨[17,18],[999],[19],[]⟩,⟨[17,19],[999],[20],[]⟩,⟨[17,20],[999],[21],[]⟩,⟨[17,5],[],[22],[]⟩,⟨[17,3],[605],[23],[]⟩,⟨[17,21,22,23],[1000],[24],[]⟩,⟨[17,24],[],[25],[]⟩,⟨[17,25],[],[26],[]⟩,⟨[17,26],[],[27],[]⟩,⟨[27],[],[28],[]⟩,⟨[28],[],[29],[]⟩,⟨[28],[],[30],[]⟩,⟨[28],[],[31],[]⟩,⟨[28],[],[32],[]⟩,⟨[28],[],[33],[]⟩,⟨[28],[],[34],[]⟩,⟨[28],[],[35],[]⟩,⟨[28],[],[36],[]⟩,⟨[28],[],[37],[]⟩,⟨[28],[],[38],[]⟩,⟨[28],[],[39],[]⟩,⟨[28],[],[40],[]⟩] (.cons (cf0 rfl) (.cons (cf0 rfl) (.cons (cf0 rfl) (.cons (cf0 rfl) (.cons (cf0 rfl) (.cons (cf0 rfl) (.cons (cf0 rfl) (.cons (cf0 rfl) (.cons (cf0 rfl) (.cons (cf0 rfl) (.cons (cfT rfl rfl (K0n (hU _ (cle i hi)) (hsub _ (cle i hi)) (D2 dC _).nd) rfl (fun _ h=>by cases h)) (.cons (cf0 rfl) (.cons (cf0 rfl) (.cons (cf0 rfl) (.cons (cf0 rfl) (.cons (cf0 rfl) (.cons (cf0 rfl) (.cons (cf0 rfl) (.cons (cf0 rfl) (.cons (cf0 rfl) (.cons (cf0 rfl) (.cons (cf0 rfl) (.cons (cf0 rfl) (.cons (cf0 rfl) (.cons (cf0 rfl) (.cons (cf0 rfl) (.cons (cf0 rfl)  .nil))))))))))))))))))))))))))) rfl dC,[(0,_),(1,_),(2,_),(3,_),(10,_),(11,_),(40,_)],(603,_) :: (604,_) :: (605,_) :: (999,_) :: ((U (B9 m p c i))),t7,⟨rfl,rfl,rfl,rfl,(F0s [_,_,_,_] (hU _ (cle i hi)) rfl)⟩,?_⟩
    refine j4 rfl rfl ?_
    refine V1 (xq ?_)
    refine J3 (sw (L3 L (w64 oM oM)) t2 t0 (mV L rfl (R1 ?_)))
    exact ⟨i+1,oM,by omega,I3 ⟨oR,rfl,rfl,rfl,rfl,rfl,trivial⟩ ⟨rfl,rfl,rfl,rfl,(by rw [d0k,ho,if_neg Bool.false_ne_true,Nat.add_zero]; exact F0s [_,_,_,_] (hU _ (cle i hi)) rfl)⟩⟩
   ·have ho:g0r m p c i=true:=by rw [g0r,nzI,decide_eq_false hz,decide_eq_true hip]; rfl
    have hk1:B9 m p c i+1≤n:=by
     have:=cle (i+1) hil
     rw [d0k,if_pos ho] at this; exact this
    refine exd rF ?_
    refine mV L rfl (sw (Z1 ag3 rF rF L) t1 t1 ?_)
    refine sw (c_n L) t2 t0 (mV L rfl (swg (g:=17) rfl sO (Z1 ag73 rF rF L) rfl t1 t1 ?_))
    refine swg (g:=17) rfl sO (i3 rX L) rfl t1 t1 ?_
    refine swg (g:=17) rfl sO (j2 un79 rfl sz77 dC rX L) rfl t1 t1 ?_
    refine swg (g:=17) rfl sO (Z1 ag77 rF rF L) rfl t1 t1 ?_
    refine gV (g:=17) rfl sO L rfl rfl (swg (g:=17) rfl sO (Z1 ag3 rF rF L) rfl t1 t1 ?_)
    refine swg (g:=17) rfl sO (i6 hG hX hN atI rfl L (Y4 (ys:=[_,_,_]) cl91 rfl rfl) (D2 dC _).nd (D2 dC _).whole (fun q h=>by cases h)) rfl t3 (E7 (o5 (D2 dC _).nd fun k B h=>F1d [_,_,_,_] (hU _ (cle i hi)) rfl (hsub _ (cle i hi) k B h))) ?_
    refine swg (g:=17) rfl sO (c_c hG hX cl65 rfl hN zI L) rfl t1 t0 (swg (g:=17) rfl sO (l4 L) rfl t1 t0 (sw (M4 sO L) t2 t0 (mV L rfl (gV (g:=28) rfl (by rw [decide_eq_false hz] <;> rfl) L rfl rfl ?_))))
    refine gV (g:=28) rfl (by rw [decide_eq_false hz] <;> rfl) L rfl rfl ?_
    refine swg (g:=28) rfl (by rw [decide_eq_false hz] <;> rfl) (Z1 ag73 rF rF L) rfl t1 t1 ?_
    refine swg (g:=28) rfl (by rw [decide_eq_false hz] <;> rfl) (i3 rX L) rfl t1 t1 ?_
    refine swg (g:=28) rfl (by rw [decide_eq_false hz] <;> rfl) (j2 un79 rfl sz77 dC rX L) rfl t1 t1 ?_
    refine swg (g:=28) rfl (by rw [decide_eq_false hz] <;> rfl) (Z1 ag77 rF rF L) rfl t1 t1 ?_
    refine gV (g:=28) rfl (by rw [decide_eq_false hz] <;> rfl) L rfl rfl ?_
    refine swg (g:=28) rfl (by rw [decide_eq_false hz] <;> rfl) (Z1 ag3 rF rF L) rfl t1 t1 ?_
    refine swg (g:=28) rfl (by rw [decide_eq_false hz] <;> rfl) (i6 hG hX hN atI rfl L (Y4 (ys:=[_,_,_]) cl91 rfl rfl) (D2 dC _).nd (D2 dC _).whole (fun q h=>by cases h)) rfl t3 (E7 (o5 (D2 dC _).nd fun k B h=>F1d [_,_,_,_] (hU _ (cle i hi)) rfl (hsub _ (cle i hi) k B h))) ?_
    refine Q1f (k:=B9 m p c i) hY hk1 rfl (by rw [decide_eq_false hz] <;> rfl) L rfl ⟨rfl,(by rw [henc i hil ho]; rfl),(by rw [henc i hil ho]; rfl),trivial⟩ ⟨rfl,E7 (F0s [_,_,_,_] (hU _ (cle i hi)) rfl)⟩ ?_
    refine swg (g:=28) rfl (by rw [decide_eq_false hz] <;> rfl) (l4 L) rfl t1 t0 ?_
    refine sw (M4 (by rw [decide_eq_false hz]; rfl) L) t2 t0 ?_
    refine R1 ⟨y1q (cfI w1v) [⟨[5],[],[14],[]⟩,⟨[2],[604],[15],[]⟩,⟨[14,15],[],[16],[]⟩,⟨[16],[],[17],[]⟩,⟨[17,1],[603],[18],[]⟩,⟨[17,18],[999],[19],[]⟩,⟨[17,19],[999],[20],[]⟩,⟨[17,20],[999],[21],[]⟩,⟨[17,5],[],[22],[]⟩,⟨[17,3],[605],[23],[]⟩,⟨[17,21,22,23],[1000],[24],[]⟩,⟨[17,24],[],[25],[]⟩,⟨[17,25],[],[26],[]⟩,⟨[17,26],[],[27],[]⟩,⟨[27],[],[28],[]⟩,⟨[28,0],[],[29],[]⟩,⟨[28,5],[],[30],[]⟩,⟨[28,1],[603],[31],[]⟩,⟨[28,31],[999],[32],[]⟩,⟨[28,32],[999],[33],[]⟩,⟨[28,33],[999],[34],[]⟩,⟨[28,5],[],[35],[]⟩,⟨[28,3],[605],[36],[]⟩,⟨[28,34,35,36],[1000],[37],[]⟩,⟨[28,29,30,37],[999,1000],[38],[999,1000]⟩,⟨[28,38],[],[39],[]⟩,⟨[28,39],[],[40],[]⟩] (.cons (cf0 rfl) (.cons (cf0 rfl) (.cons (cf0 rfl) (.cons (cf0 rfl) (.cons (cf0 rfl) (.cons (cf0 rfl) (.cons (cf0 rfl) (.cons (cf0 rfl) (.cons (cf0 rfl) (.cons (cf0 rfl) (.cons (cfT rfl rfl (K0n (hU _ (cle i hi)) (hsub _ (cle i hi)) (D2 dC _).nd) rfl (fun _ h=>by cases h)) (.cons (cf0 rfl) (.cons (cf0 rfl) (.cons (cf0 rfl) (.cons (cf0 rfl) (.cons (cf0 rfl) (.cons (cf0 rfl) (.cons (cf0 rfl) (.cons (cf0 rfl) (.cons (cf0 rfl) (.cons (cf0 rfl) (.cons (cf0 rfl) (.cons (cf0 rfl) (.cons (cfT rfl rfl (K0n (hU _ (cle i hi)) (hsub _ (cle i hi)) (D2 dC _).nd) rfl (fun _ h=>by cases h)) (.cons (cfT rfl rfl (f1w rF (hU _ (cle i hi)) rfl) rfl (f1w rF (hU _ hk1) rfl)) (.cons (cf0 rfl) (.cons (cf0 rfl)  .nil))))))))))))))))))))))))))) rfl dC,[(0,_),(1,_),(2,_),(3,_),(10,_),(11,_),(40,_)],(603,_) :: (604,_) :: (605,_) :: (999,_) :: ((U (B9 m p c i+1))),t7,⟨(lkY (hU _ hk1) rfl rfl rfl),(lkY (hU _ hk1) rfl rfl rfl),(lkY (hU _ hk1) rfl rfl rfl),rfl,(N1w [_] (hU _ hk1) rfl)⟩,?_⟩
    refine j4 rfl rfl ?_
    refine V1 (xq ?_)
    refine J3 (sw (L3 L (w64 oM oM)) t2 t0 (mV L rfl (R1 ?_)))
    exact ⟨i+1,oM,by omega,I3 ⟨oR,rfl,rfl,rfl,rfl,rfl,trivial⟩ ⟨rfl,rfl,rfl,rfl,(by rw [d0k,if_pos ho]; exact F0s [_,_,_,_] (hU _ hk1) rfl)⟩⟩
 ·have hc:=df hc
  have e:i=m.length:=by omega
  subst e
  refine U2 ?_
  refine ⟨.inl rfl,rfl,rfl,rfl,rfl,(by rw [hn]; exact F0s [_,_,_,_] (hU _ (cle _ (Nat.le_refl _))) rfl)⟩
end Go.Proofs.YtjagfionflbjbaaGreat.N
namespace Go.Proofs.YtjagfionflbjbaaGreat.SH
open Go Go.RowKit
@[reducible] def pvV (k:Nat):List L2→PV
 | []=>.p (.a (.slice none 0 0))
 | a :: v=>.ref k 0 (v.length+1) (v.length+1)
@[reducible] def pvB (k:Nat)(e:TypeId):List L2→List (Nat×Blk)
 | []=>[]
 | a :: v=>[(k,⟨e,1,.pure (a :: v)⟩)]
@[reducible] def pvF (k:Nat):List L2→Option Nat
 | []=>some k
 | _ :: _=>none
theorem n0s {k:Nat}{e:TypeId}{xs:List L2}{q:Nat}{B:Blk}(h:(pvB k e xs).lookup q=some B):q=k∧B.cs.only []=true:=by
 cases xs with
 | nil=>cases h
 | cons a v =>
  simp only [pvB,i0] at h
  by_cases e:q=k
  ·subst e; simp at h; subst h; exact ⟨rfl,rfl⟩
  ·rw [show (q == k)=false by simpa using e] at h; cases h
section
variable {P:Program} {F:Fr} {d:Nat} {T:TypeId} {pos:String} {aft:Array Edge} {g:Option (Nat×Bool)} {t tx:TypeId}
theorem K0b {x:Operand}{k:Nat}{e:TypeId}{xs:List L2}(hu:P.underlying t=some (.slice e))(hlt:d<F.nt) :
  P2 P F ⟨some d,.call ⟨.builtin .len,#[x],#[t]⟩,T,pos,aft,g⟩ { rs:=[(x,pvV k xs)],rb:=pvB k e xs,ws:=[(d,.p (.a (.int .i64 xs.length)))] }:=by
 cases xs with
 | nil=>exact v0a hu hlt
 | cons a v=>exact n0z (n:=v.length+1) (B:=⟨e,1,.pure (a :: v)⟩) hu rfl hlt
theorem H0a {x y:Operand}{k:Nat}{e:TypeId}{ie:TypeInfo}{z:Value}{xs:List L2}{y0:L2}(hu:P.underlying t=some (.slice e))(hux:P.underlying tx=some (.slice e))(hi:∀ w,(typeInfo e).run P w = .ok ie w)(hz:ie.zero=some z)(hsz:ie.size=1)
  (hzl:z.cells.size=1) (hby:2*(xs.length+1)*ie.bytes≤281474976710656) (h63:xs.length+1≤9223372036854775807) (hpk:F.pin k=none) (hlt:d<F.nt) :
  P2 P F ⟨some d,.call ⟨.builtin .append,#[x,y],#[t,tx]⟩,T,pos,aft,g⟩ ⟨[(x,pvV k xs),(y,.p (.sl 1 [y0]))],pvB k e xs,pvF k xs,[(d,pvV k (xs++[y0]))],pvB k e (xs++[y0])⟩:=by
 cases xs with
 | nil=>exact apN (k:=k) (m:=1) (sz:=1) (r:=1) hu hux hi hz hsz hzl (by omega) rfl rfl (by simpa using hby) (by omega) hpk hlt
 | cons a v =>
  have:=apP (P:=P) (F:=F) (d:=d) (T:=T) (pos:=pos) (aft:=aft) (g:=g) (t:=t) (tx:=tx) (x:=x) (y:=y) (k:=k) (n:=v.length+1) (m:=1) (sz:=1) (q:=(v++[y0]).length+1) (r:=(v++[y0]).length+1) (xs:=a :: v) (ys:=[y0]) hu hux hi hz hsz hzl (by omega) rfl (by simp) rfl rfl (by simp) (by simp) (by simpa using hby) (by simpa using h63) hpk hlt
  exact this
end
section
variable {P:Program} {F:Fr} {ops:Array Oper} {sl:List (Nat×PV)} {hb:List (Nat×Blk)} {op:Op} {T:TypeId} {pos:String} {aft:Array Edge} {os:List Oper} {dst:Option Nat} {rs:List (Operand×PV)} {rb wb:List (Nat×Blk)} {fr:Option Nat}
theorem swA {K:List Ann→St→Prop}{d:Nat}{v:PV}(hc:P2 P F ⟨dst,op,T,pos,aft,none⟩ ⟨rs,rb,fr,[(d,v)],wb⟩)(h1:m8 ⟨sl,hb⟩ rs)(h2:B6 ⟨sl,hb⟩ rb)(h3:g0a ⟨sl,hb⟩ fr)(hn:b7 P F ops ⟨(d,v) :: sl,wb++hb⟩ os fun As S'=>K (⟨rs,rb,fr,[(d,v)],wb⟩ :: As) S') :
  b7 P F ops ⟨sl,hb⟩ (⟨dst,op,T,pos,aft,none⟩ :: os) K :=
 let ⟨As,S',h,hK⟩:=hn
 ⟨_,S',.cons (v7 rfl hc) (X6 h1 h2 h3) h,hK⟩
end
theorem n1g {A B:List (Nat×Blk)}(hA:K5 A)(hB:K5 B)(hd:∀ k,A.lookup k≠none→B.lookup k=none):K5 (A++B):=by
 refine ⟨fun k hk=>by rw [T1,hA.low k hk,hB.low k hk]; rfl,?_,fun k hk=>by rw [J4,hA.free k hk,hB.free k hk]; rfl,fun j C hj i x hx q hq=>?_⟩
 ·rw [List.map_append,List.nodup_append]
  refine ⟨hA.nd,hB.nd,fun a ha b hb e=>?_⟩
  subst e
  obtain ⟨⟨a,X⟩,hX,rfl⟩:=G0.1 ha
  obtain ⟨⟨a',Y⟩,hY,e⟩:=G0.1 hb
  simp only at e
  subst e
  have:=hd a' (by rw [R5 hA.nd hX]; simp)
  rw [R5 hB.nd hY] at this; cases this
 ·rw [T1] at hj ⊢
  cases e:A.lookup j with
  | some D =>
   rw [e,K0] at hj
   injection hj with hj
   subst hj
   obtain ⟨D',hD'⟩:=D1.1 (hA.whole j D e i x hx q hq)
   rw [hD']; simp
  | none =>
   rw [e,l0] at hj
   obtain ⟨D',hD'⟩:=D1.1 (hB.whole j C hj i x hx q hq)
   rw [hD']; simp
theorem p1j {k:Nat}(hk:1000≤k){e:TypeId}(xs:List L2):K5 (pvB k e xs):=by
 cases xs with
 | nil=>exact ⟨fun _ _=>rfl,List.nodup_nil,fun _ _=>rfl,fun j B hj=>by cases hj⟩
 | cons a v =>
  refine ⟨fun q hq=>?_,by simp,fun q hq=>by simp [Y2,Cells.free],fun j B hj i x hx q hq=>?_⟩
  ·have:q<1000:=by simpa [Nat.blt_eq] using hq
   simp only [pvB,i0]
   rw [show (q == k)=false by simp; omega]; rfl
  ·have:=PV.only_mem (Cells.only_get (n0s hj).2 hx) hq
   simp at this
end Go.Proofs.YtjagfionflbjbaaGreat.SH
namespace Go.Proofs.YtjagfionflbjbaaGreat.SH
open Go
theorem F1k {sl:List (Nat×PV)}{R:List (Nat×Blk)}{k:Nat}{e:TypeId}{xs:List L2}(pre:List (Nat×Blk))(hp:d6 pre=true)(hk:1000≤k):B6 ⟨sl,pre++(pvB k e xs++R)⟩ (pvB k e xs):=by
 cases xs with
 | nil=>trivial
 | cons a v =>
  refine ⟨?_,trivial⟩
  show (pre++_).lookup k=_
  rw [T1,n5 hp hk,l0]; simp [pvB]
theorem P1q {k:Nat}(hk:1000≤k){e:TypeId}{xs:List L2}:∀ p∈pvB k e xs,cls p.1∈[1000]:=by
 intro p hp
 cases xs with
 | nil=>cases hp
 | cons a v=>obtain rfl:=List.mem_singleton.1 hp; rw [B0d hk]; exact List.mem_singleton.2 rfl
end Go.Proofs.YtjagfionflbjbaaGreat.SH
namespace Go.Proofs.YtjagfionflbjbaaGreat.SH
open Go
theorem U3 {k d:Nat}{xs:List L2}(h:k≠d):(pvV k xs).free d=true:=by
 cases xs with
 | nil=>rfl
 | cons a v=>simp [PV.free,h]
end Go.Proofs.YtjagfionflbjbaaGreat.SH
namespace Go.Proofs.YtjagfionflbjbaaGreat.SH
open Go
theorem B1x {P:Program}{F:Fr}{Q:Exit→St→Prop}{S:St}{x y:Code}{sl sl0:List (Nat×PV)}{hb T:List (Nat×Blk)}(_:R6 S sl0)(h:i4 P F x S (F0z (fun S1=>R6 S1 (sl++sl0)∧O5 S1 (hb++T)) Q))(hn:i4 P F y ⟨sl++sl0,hb++T⟩ Q):i4 P F x S (F0z (fun S'=>i4 P F y S' Q) Q):=by
 refine ⟨fun n a w hS=>wpIn_mono (h.run n a w hS) fun e a' w' hq=>hq.elim (fun ⟨S',h1,h4⟩=>.inl ⟨S',?_,h4⟩) .inr⟩
 cases e with
 | normal=>exact hn.weak (I3 h1.1 h1.2)
 | _=>exact h1
end Go.Proofs.YtjagfionflbjbaaGreat.SH
set_option maxRecDepth 100000
set_option maxHeartbeats 4000000
namespace Go.Proofs.YtjagfionflbjbaaGreat.N
open Go Go.Proofs.YtjagfionflbjbaaGreat.SH Go.Proofs.YtjagfionflbjbaaGreat.NumA
open Go.Proofs.Tryz renaming call126→cl126,call52→cl52,call55→cl55,call56→cl56,call66→cl66,call67→cl67,call90→cl90,call91→cl91,call92→cl92,call97→cl97,isAgg3→ag3,isAgg47→ag47,isAgg73→ag73,isAgg77→ag77,sizeOf3→sz3,sizeOf47→sz47,sizeOf77→sz77,typeInfo3→ti3,underlying27→un27,underlying77→un77,underlying79→un79,zeroValue3→zv3,zeroValue47→zv47
theorem q1p {m:List (List Rat)}{p c i:Nat}(hi:i<m.length)(ho:g0r m p c i=true):(q5 m p c).getD (B9 m p c i) 0=i∧B9 m p c i<(q5 m p c).length:=by
 obtain ⟨d,hd⟩:∃ d,m.length=i+(1+d):=⟨m.length - i - 1,by omega⟩
 have e:q5 m p c=(List.range i).filter (g0r m p c)++(i :: ((List.range' (i+1) d).filter (g0r m p c))):=by
  rw [q5,hd,List.range_eq_range',← List.range'_append,List.filter_append,List.range_eq_range']
  congr 1
  rw [Nat.add_comm 1 d,List.range'_succ,G1,Nat.one_mul,List.filter_cons_of_pos ho]
 rw [e,B9]
 constructor
 ·rw [f0,D0 (Nat.le_refl _)]; simp
 ·simp
theorem b1p {m:List (List Rat)}{p c i:Nat}(hi:i≤m.length):(q5 m p c).take (B9 m p c i)=(List.range i).filter (g0r m p c):=by
 obtain ⟨d,hd⟩:∃ d,m.length=i+d:=⟨m.length - i,by omega⟩
 have e:q5 m p c=(List.range i).filter (g0r m p c)++(List.range' i d).filter (g0r m p c):=by
  rw [q5,hd,List.range_eq_range',← List.range'_append,List.filter_append,List.range_eq_range',G1,Nat.one_mul]
 rw [e,B9,List.take_left]
theorem q1q {m:List (List Rat)}{p c i n cc:Nat}(h:RC n cc m)(hp:p<n)(hi:i<m.length):(q6 m m p c (B9 m p c i)).getD i []=m.getD i []:=by
 rw [f0d h.1 h hp _ (d1s (Nat.le_of_lt hi)),if_neg]
 rw [b1p (Nat.le_of_lt hi)]
 intro hm
 have:=(List.mem_filter.1 hm).1
 simp at this
theorem k1w {m:List (List Rat)}{p c:Nat}:(q5 m p c).length=B9 m p c m.length:=rfl
def bv (s:Bool)(n:Nat):PV:=if s then .ref 1002 0 n n else .p (.a (.slice none 0 0))
def bsT (s:Bool)(b:List (List Rat)):List (Nat×Blk):=if s then J2 1 b else []
def R3 (s:Bool)(m b:List (List Rat)):List (Nat×Blk):=J2 0 m++bsT s b
theorem K0x {s:Bool}{n k:Nat}(h:1002≠k):(bv s n).free k=true:=by cases s <;> simp [bv,PV.free,h]
theorem F1j {s:Bool}{n:Nat}:(bv s n).only [999,1001,1002]=true:=by cases s <;> rfl
theorem m0d {m b:List (List Rat)}:R3 false m b=J2 0 m:=by simp [R3,bsT]
theorem H1j {m b:List (List Rat)}:R3 true m b=J2 0 m++J2 1 b:=rfl
theorem H7 (s:Bool)(m b:List (List Rat)):K5 (R3 s m b):=by
 cases s
 ·rw [m0d]; exact D2 dC m
 ·exact D7 m b
theorem h0g {s:Bool}{m b:List (List Rat)}:∀ k B,(J2 0 m).lookup k=some B→(R3 s m b).lookup k=some B:=fun k B h=>by rw [R3,T1,h]; rfl
theorem f1x {s:Bool}{m b:List (List Rat)}:(R3 s m b).lookup 1001=some (hdB 0 m):=h0g _ _ hdL
theorem U9 {s:Bool}{m b:List (List Rat)}{k:Nat}{B:Blk}(h:(R3 s m b).lookup k=some B):(J2 0 m).lookup k=some B∨(s=true∧(J2 1 b).lookup k=some B):=by
 rw [R3,T1] at h
 cases e:(J2 0 m).lookup k with
 | some C=>rw [e] at h; exact .inl h
 | none =>
  rw [e,l0] at h
  cases s
  ·cases h
  ·exact .inr ⟨rfl,h⟩
theorem j0n {s:Bool}{m b:List (List Rat)}{k:Nat}{B:Blk}(h:(R3 s m b).lookup k=some B):1000≤k:=by
 rcases U9 h with h | ⟨_,h⟩ <;> exact Z4 dC h
theorem k0f {m b:List (List Rat)}:∀ k B,(J2 1 b).lookup k=some B→(R3 true m b).lookup k=some B:=fun k B h=>by
 rw [H1j,T1,q8 (m:=b) (b:=m) (k:=k) (s:=1) (s':=0) dC dC dC (by rw [h]; simp),l0,h]
theorem y1f {s:Bool}{m m' b b':List (List Rat)}(hl:m'.length=m.length)(hl2:b'.length=b.length){q:Nat}{B1:Blk}(hq:q<1100)(h:(R3 s m' b').lookup q=some B1):∃ B0,(R3 s m b).lookup q=some B0∧B1.sz=B0.sz∧B1.cs.len=B0.cs.len:=by
 rcases U9 h with hx | ⟨rfl,hx⟩
 ·obtain ⟨B0,h0,h1⟩:=f0a (s:=0) dC hl hq hx
  exact ⟨B0,h0g _ _ h0,h1⟩
 ·obtain ⟨B0,h0,h1⟩:=f0a (s:=1) dC hl2 hq hx
  exact ⟨B0,k0f _ _ h0,h1⟩
theorem H0s {s:Bool}{m m' b b':List (List Rat)}(hl:v9 m m')(hl2:v9 b b'){q:Nat}{B1:Blk}(h:(R3 s m' b').lookup q=some B1):∃ B0,(R3 s m b).lookup q=some B0∧B1.sz=B0.sz∧B1.cs.len=B0.cs.len:=by
 rcases U9 h with hx | ⟨rfl,hx⟩
 ·obtain ⟨B0,h0,h1⟩:=I9 (s:=0) dC hl hx
  exact ⟨B0,h0g _ _ h0,h1⟩
 ·obtain ⟨B0,h0,h1⟩:=I9 (s:=1) dC hl2 hx
  exact ⟨B0,k0f _ _ h0,h1⟩
theorem H0k {s k:Nat}{m m':List (List Rat)}(h2:s<9)(hl:m'.length=m.length)(h:(J2 s m').lookup k≠none):(J2 s m).lookup k≠none:=fun e=>h (m1q h2 hl e)
theorem p1n {s:Bool}{m m' b b':List (List Rat)}(hl:m'.length=m.length)(hl2:b'.length=b.length){k:Nat}(h:(R3 s m' b').lookup k≠none):(R3 s m b).lookup k≠none:=by
 obtain ⟨B,hB⟩:=D1.1 h
 rcases U9 hB with hx | ⟨rfl,hx⟩
 ·have:=H0k (s:=0) (m:=m) (m':=m') (k:=k) dC hl (by rw [hx]; simp)
  obtain ⟨C,hC⟩:=D1.1 this
  rw [h0g _ _ hC]; simp
 ·have:=H0k (s:=1) (m:=b) (m':=b') (k:=k) dC hl2 (by rw [hx]; simp)
  obtain ⟨C,hC⟩:=D1.1 this
  rw [k0f _ _ hC]; simp
theorem M1z (s:Bool)(c:Nat)(m b:List (List Rat))(i p:Nat)(hi:i<m.length)(hp:p<m.length)(hne:i≠p)(hb:b.length=m.length):I4 E n8 92 [.at_ 999 0 3,.clo (.func 93) [] [.at_ 6 0 1,.at_ 5 0 1]] ([bxI 5 p,bxI 6 i,wV c m.length (bv s m.length)]++R3 s m b) ([bxI 5 p,bxI 6 i,wV c m.length (bv s m.length)]++R3 s (J5 m i p) (J5 b i p)) (.p (.tup [])):=by
 cases s
 ·rw [m0d,m0d]; exact H1y c m i p hi hp hne
 ·have:=K1z c m b i p hi hp hne oM oM
  rw [hb] at this; exact this
theorem P1r (s:Bool)(c:Nat)(m b:List (List Rat))(p:Nat)(q:Rat)(hp:p<m.length)(hb:b.length=m.length)(hl:(m.getD p []).length<1000000000)(hs:∀ a∈m.getD p [],qw a<1000000000)(hc:qw q<1000000000)(hlb:(b.getD p []).length<1000000000)(hsb:∀ a∈b.getD p [],qw a<1000000000):I4 E n8 92 [.at_ 999 0 3,.clo (.func 95) [] [.at_ 5 0 1,.at_ 8 0 4]] ([bxI 5 p,bxQ 8 q,wV c m.length (bv s m.length)]++R3 s m b) ([bxI 5 p,bxQ 8 q,wV c m.length (bv s m.length)]++R3 s (q9 m p q) (q9 b p q)) (.p (.tup [])):=by
 cases s
 ·rw [m0d,m0d]; exact K1j c m p q hp hl hs hc
 ·have:=K1k c m b p q hp hl hs hc oM hlb hsb
  rw [hb] at this; exact this
theorem M1p (s:Bool)(c:Nat)(m b:List (List Rat))(i p:Nat)(q:Rat)(B C D:Nat)(hi:i<m.length)(hp:p<m.length)(hne:i≠p)(hb:b.length=m.length)(hlen:(m.getD p []).length=(m.getD i []).length)(hl:(m.getD i []).length<1000000000)(hB:∀ a∈m.getD i [],qw a≤B)(hC:∀ a∈m.getD p [],qw a≤C)(hD:qw q≤D)(hlenb:(b.getD p []).length=(b.getD i []).length)(hlb:(b.getD i []).length<1000000000)(hBb:∀ a∈b.getD i [],qw a≤B)(hCb:∀ a∈b.getD p [],qw a≤C)(hbd:B+(D+C)+1<1000000000):I4 E stA 92 [.at_ 999 0 3,.clo (.func 98) [] [.at_ 10 0 1,.at_ 5 0 1,.at_ 11 0 4]] ([bxI 5 p,bxI 10 i,bxQ 11 q,wV c m.length (bv s m.length)]++R3 s m b) ([bxI 5 p,bxI 10 i,bxQ 11 q,wV c m.length (bv s m.length)]++R3 s (C7 m i p q) (C7 b i p q)) (.p (.tup [])):=by
 cases s
 ·rw [m0d,m0d]; exact J1j c m i p q B C D hi hp hne hlen hl hB hC hD hbd
 ·have:=M1b c m b i p q B C D hi hp hne hlen hl hB hC hD hbd B C oM oM hlenb hlb hBb hCb hbd
  rw [hb] at this; exact this
theorem N0p (s:Bool)(cols n p c:Nat)(T:List (Nat×Blk))(hT:K5 T):I4 E stO 97 [.at_ 999 0 3,.p (vZ p),.p (vZ c)] ([wV cols n (bv s n)]++T) ([(603,⟨73,1,.mix [.at_ 999 0 3]⟩),bxI 604 p,bxI 605 c,wV cols n (bv s n)]++T) (.clo (.func 126) [] [.at_ 603 0 1,.at_ 604 0 1,.at_ 605 0 1]):=by
 cases s
 ·exact K0f cols n p c T hT
 ·exact M0y cols n n p c T hT
def O6 (pv:List Nat):List L2:=pv.map fun k:Nat=>vZ (k:Int)
@[simp] theorem j8 (pv:List Nat):(O6 pv).length=pv.length:=by simp [O6]
@[reducible] def tlP (pv:List Nat)(R:List (Nat×Blk)):List (Nat×Blk):=pvB 1003 3 (O6 pv)++R
theorem y1j {s k:Nat}{m:List (List Rat)}(h2:s<2)(hk:k=1003):(J2 s m).lookup k=none:=by
 cases e:(J2 s m).lookup k with
 | none=>rfl
 | some B=>rcases P5 oM (show (J2 s m).lookup k≠none by rw [e]; simp) with h3 | ⟨q',_,h3⟩ <;> (try simp only [F3] at h3) <;> omega
theorem U7 {s:Bool}{k:Nat}{m b:List (List Rat)}(hk:k=1003):(R3 s m b).lookup k=none:=by
 cases e:(R3 s m b).lookup k with
 | none=>rfl
 | some B=>rcases U9 e with h | ⟨_,h⟩ <;> rw [y1j dC hk] at h <;> cases h
theorem H1w {pv:List Nat}{R:List (Nat×Blk)}(hR:K5 R)(h:R.lookup 1003=none):K5 (tlP pv R) :=
 n1g (p1j dC _) hR fun k hk=>by
  obtain ⟨B,hB⟩:=D1.1 hk
  rw [(n0s hB).1]; exact h
theorem v3 {pv:List Nat}{s:Bool}{m b:List (List Rat)}:K5 (tlP pv (R3 s m b)):=H1w (H7 s m b) (U7 rfl)
theorem o8 {pv:List Nat}{s:Bool}{m b:List (List Rat)}:∀ k B,(R3 s m b).lookup k=some B→(tlP pv (R3 s m b)).lookup k=some B:=fun k B h=>by
 rw [tlP,T1]
 cases e:(pvB 1003 3 (O6 pv)).lookup k with
 | none=>rw [l0,h]
 | some C =>
  have:=(n0s e).1
  rw [U7 this] at h; cases h
theorem y0d {pv:List Nat}{s:Bool}{m b:List (List Rat)}:∀ k B,(J2 0 m).lookup k=some B→(tlP pv (R3 s m b)).lookup k=some B:=fun k B h=>o8 _ _ (h0g _ _ h)
theorem v1v {pv:List Nat}{s:Bool}{m b:List (List Rat)}:(tlP pv (R3 s m b)).lookup 1001=some (hdB 0 m):=y0d _ _ hdL
@[reducible] def hC (cols n c:Nat)(v:PV)(T:List (Nat×Blk)):List (Nat×Blk):=[bxW,bxI 4 c,wV cols n v]++T
theorem H1d {cols n c:Nat}{v:PV}{T:List (Nat×Blk)}(hT:K5 T):((hC cols n c v T).map (·.1)).Nodup:=by
 have h:∀ k,k<1000→k ∉ T.map (·.1):=fun k hk hm=>by
  obtain ⟨⟨q,B⟩,hp,e⟩:=G0.1 hm
  simp only at e
  subst e
  have:=hT.low q (by simpa [Nat.blt_eq] using hk)
  rw [R5 hT.nd hp] at this; cases this
 simp only [hC,M1,List.nil_append,R0,List.nodup_cons,List.mem_cons,not_or]
 exact ⟨⟨by decide,by decide,h 1 dC⟩,⟨by decide,h 4 dC⟩,h 999 dC,hT.nd⟩
theorem K8 {bx T:List (Nat×Blk)}(ks:List Nat)(hb:(bx.all fun p=>p.2.cs.only ks)=true)(hk:∀ k∈ks,(bx++T).lookup k≠none)(hT:Whole T):Whole (bx++T):=by
 intro j B hj i x hx q hq
 rw [T1] at hj
 cases e:bx.lookup j with
 | some C =>
  rw [e,K0] at hj
  injection hj with hj
  subst hj
  rw [s0] at hb
  exact hk q (PV.only_mem (Cells.only_get (hb _ (M3 e)) hx) hq)
 | none =>
  rw [e,l0] at hj
  exact B8 (hT j B hj i x hx q hq)
def ksB (s:Bool):List Nat:=if s then [999,1001,1002] else [999,1001]
theorem D0v {s:Bool}{c n:Nat}:(wV c n (bv s n)).2.cs.only (ksB s)=true:=by cases s <;> rfl
theorem F0h {s:Bool}{m b:List (List Rat)}{T bx:List (Nat×Blk)}(h9:bx.lookup 999≠none)(hT:∀ k B,(R3 s m b).lookup k=some B→T.lookup k=some B):∀ k∈ksB s,(bx++T).lookup k≠none:=by
 intro k hk
 have h1:T.lookup 1001≠none:=by rw [hT _ _ f1x]; simp
 cases s
 ·simp only [ksB,Bool.false_eq_true,if_false,List.mem_cons,List.not_mem_nil,or_false] at hk
  rcases hk with rfl | rfl
  ·exact j0w h9
  ·exact B8 h1
 ·simp only [ksB,if_true,List.mem_cons,List.not_mem_nil,or_false] at hk
  rcases hk with rfl | rfl | rfl
  ·exact j0w h9
  ·exact B8 h1
  ·exact B8 (by rw [hT _ _ (k0f _ _ (show (J2 1 b).lookup 1002=some (hdB 1 b) from hdL))]; simp)
theorem M1r {s:Bool}{cols n c:Nat}{m b:List (List Rat)}{T:List (Nat×Blk)}(hT:K5 T)(hs:∀ k B,(R3 s m b).lookup k=some B→T.lookup k=some B):Whole (hC cols n c (bv s n) T) :=
 K8 (ksB s) (by simp only [List.all_cons,List.all_nil,Bool.and_true,j0]; exact ⟨by cases s <;> rfl,by cases s <;> rfl,D0v⟩) (F0h (by simp [i0]) hs) hT.whole
theorem D0h {xs:List L2}:(pvV 1003 xs).only ks8=true:=by cases xs <;> rfl
theorem ncE {F:Fr}{n:Nat}{s:Bool}{sl slR:List (Nat×PV)}{w0 bx pre pre':List (Nat×Blk)}{pv:List Nat}{m0 b0 m b m' b':List (List Rat)}(hl:m'.length=m.length)(hlb:b'.length=b.length)(hl0:m.length=m0.length)(hlb0:b.length=b0.length)(G:GFr E n8 (w0++R3 s m0 b0) n F)(hp:d6 pre=true)(hbp:O5 ⟨[],pre⟩ bx)(hpp:O5 ⟨[],pre⟩ pre')(hbx:(bx.all fun p=>p.2.cs.only (ksB s))=true)(h9:bx.lookup 999≠none)(hpo:(pre'.all fun p=>p.2.cs.only ks8)=true)(hso:(slR.all fun p=>p.2.only ks8)=true)(hS:R6 ⟨sl,pre++tlP pv (R3 s m b)⟩ slR) :
  b0p n8 F ⟨sl,pre++tlP pv (R3 s m b)⟩ (bx++R3 s m b) (bx++R3 s m' b') slR (pre'++tlP pv (R3 s m' b')):=by
 refine ncT (T:=R3 s m b) (T':=R3 s m' b') (U:=tlP pv (R3 s m b)) (U':=tlP pv (R3 s m' b')) ks8 rfl hp (fun k B h=>hbp.all k B h) (fun k B h=>hpp.all k B h) (fun k B h=>⟨o8 k B h,j0n h⟩) (fun k B h=>j0n h) (fun k B h=>?_) (fun q B1 hq h=>y1f hl hlb hq h) hpo hso hS
  (g1b (pre:=[]) G fun k h=>B8 (p1n hl0 hlb0 h)) G.ps (K8 (ksB s) hbx (F0h h9 fun _ _ h=>h) (H7 s m' b').whole)
 rw [tlP,T1] at h
 cases e:(pvB 1003 3 (O6 pv)).lookup k with
 | none=>rw [e,l0] at h; exact .inl h
 | some C =>
  rw [e,K0] at h
  injection h with h
  subst h
  obtain ⟨h1,h2⟩:=n0s e
  refine .inr ⟨by omega,by rw [tlP,T1,e]; rfl,U7 h1,U7 h1,fun i x hx q hq _=>?_⟩
  have:=PV.only_mem (Cells.only_get h2 hx) hq
  simp at this
@[simp] theorem M1j {s:Bool}{n k:Nat}(h:1002≠k):(bv s n).free k=true:=K0x h
theorem j1y {s:Bool}{m b:List (List Rat)}{k:Nat}(h:k<1100):Y2 k (R3 s m b)=true:=by
 have h1:∀ (q:Nat) (x:List (List Rat)),Y2 k (J2 q x)=true:=fun q x=>by
  simp only [J2,Y2,Cells.free,j0]; exact ⟨q0a h 0 x,d0p 0 x⟩
 rw [R3,J4,h1]
 cases s
 ·rfl
 ·exact h1 1 b
@[reducible] def bxs (s:Bool)(cols n c p:Nat)(q:Rat):List (Nat×Blk):=[wV cols n (bv s n),(1,⟨73,1,.mix [.at_ 999 0 3]⟩),(3,bQ q),bxI 4 c,bxI 5 p]
theorem f1g {s:Bool}{cols n c p:Nat}{q:Rat}{k:Nat}(h:(bxs s cols n c p q).lookup k≠none):k=999∨k=1∨k=3∨k=4∨k=5:=by
 simp only [bxs,i0,List.lookup_nil] at h
 by_cases e1:k=999; exact .inl e1
 by_cases e2:k=1; exact .inr (.inl e2)
 by_cases e3:k=3; exact .inr (.inr (.inl e3))
 by_cases e4:k=4; exact .inr (.inr (.inr (.inl e4)))
 by_cases e5:k=5; exact .inr (.inr (.inr (.inr e5)))
 rw [show (k == 999)=false by simpa using e1,show (k == 1)=false by simpa using e2,show (k == 3)=false by simpa using e3,show (k == 4)=false by simpa using e4,show (k == 5)=false by simpa using e5] at h
 exact absurd rfl h
@[reducible] def hR (s:Bool)(cols n c p:Nat)(q:Rat)(pv:List Nat)(m b:List (List Rat)):List (Nat×Blk):=bxs s cols n c p q++tlP pv (R3 s m b)
theorem f1m {s:Bool}{cols n c p:Nat}{q:Rat}{pv:List Nat}{m b:List (List Rat)}{k:Nat}(h:k<1000)(h1:k≠999)(h2:k≠1)(h3:k≠3)(h4:k≠4)(h5:k≠5):(hR s cols n c p q pv m b).lookup k=none:=by
 rw [hR,T1,v3.low k (by simpa [Nat.blt_eq] using h),Option.or_none]
 cases e:(bxs s cols n c p q).lookup k with
 | none=>rfl
 | some B=>rcases f1g (by rw [e]; simp) with h | h | h | h | h <;> contradiction
theorem V1b {s:Bool}{cols n c p:Nat}{q:Rat}{pv:List Nat}{m b:List (List Rat)}:Whole (hR s cols n c p q pv m b) :=
 K8 (ksB s) (by simp only [List.all_cons,List.all_nil,Bool.and_true,j0]; exact ⟨D0v,by cases s <;> rfl,by cases s <;> rfl,by cases s <;> rfl,by cases s <;> rfl⟩) (F0h (by simp [i0]) fun k B h=>o8 k B h) v3.whole
theorem v1b {s:Bool}{cols n c p:Nat}{q:Rat}{pv:List Nat}{m b:List (List Rat)}{k:Nat}{B:Blk}(h:(hR s cols n c p q pv m b).lookup k=some B):(bxs s cols n c p q).lookup k=some B∨((bxs s cols n c p q).lookup k=none∧((pvB 1003 3 (O6 pv)).lookup k=some B∨((pvB 1003 3 (O6 pv)).lookup k=none∧(R3 s m b).lookup k=some B))):=by
 rw [hR,T1] at h
 cases e:(bxs s cols n c p q).lookup k with
 | some C=>rw [e,K0] at h; exact .inl h
 | none =>
  rw [e,l0,tlP,T1] at h
  cases e2:(pvB 1003 3 (O6 pv)).lookup k with
  | some C=>rw [e2,K0] at h; exact .inr ⟨rfl,.inl h⟩
  | none=>rw [e2,l0] at h; exact .inr ⟨rfl,.inr ⟨rfl,h⟩⟩
theorem b1a {s:Bool}{cols n c p:Nat}{q:Rat}{pv:List Nat}{m b m' b':List (List Rat)}(hm:v9 m m')(hb:v9 b b'){k:Nat}{B1:Blk}(h:(hR s cols n c p q pv m' b').lookup k=some B1):∃ B0,(hR s cols n c p q pv m b).lookup k=some B0∧B1.sz=B0.sz∧B1.cs.len=B0.cs.len:=by
 rw [hR,T1]
 rcases v1b h with h | ⟨h0,h | ⟨h1,h⟩⟩
 ·exact ⟨B1,by rw [h]; rfl,rfl,rfl⟩
 ·exact ⟨B1,by rw [h0,l0,tlP,T1,h]; rfl,rfl,rfl⟩
 ·obtain ⟨B0,h2,h3⟩:=H0s hm hb h
  exact ⟨B0,by rw [h0,l0,tlP,T1,h1,l0,h2],h3⟩
theorem B0x {m m':List (List Rat)}(h:v9 m m'):v9 m' m:=⟨h.1.symm,fun i=>(h.2 i).symm⟩
theorem f0g {n c:Nat}{m m':List (List Rat)}(h:RC n c m)(h':RC n c m'):v9 m m':=by
 refine ⟨by rw [h.1,h'.1],fun i=>?_⟩
 by_cases e:i<n
 ·rw [h.get e,h'.get e]
 ·rw [f0,f0,List.getElem?_eq_none (by have:=h'.1; omega),List.getElem?_eq_none (by have:=h.1; omega)]
theorem Q1q {s:Bool}{c p:Nat}{q:Rat}{pv:List Nat}{m b:List (List Rat)}:j0c w1v ([(1,⟨73,1,.mix [.at_ 999 0 3]⟩),(3,bQ q),bxI 4 c,bxI 5 p]++tlP pv (R3 s m b)):=by
 refine ⟨fun k hk=>?_,?_⟩
 ·have hk:k=603∨k=604∨k=605∨k=999:=by simpa using hk
  rw [T1,v3.low k (by simp [Nat.blt_eq]; omega),Option.or_none]
  rcases hk with rfl | rfl | rfl | rfl <;> rfl
 ·have hno:∀ k,k<1000→k ∉ (tlP pv (R3 s m b)).map (·.1):=fun k hk hm=>by
   obtain ⟨⟨q,B⟩,hp,e⟩:=G0.1 hm
   simp only at e
   subst e
   have:=(v3 (pv:=pv) (s:=s) (m:=m) (b:=b)).low q (by simpa [Nat.blt_eq] using hk)
   rw [R5 v3.nd hp] at this; cases this
  simp only [M1,List.nil_append,R0,List.nodup_cons,List.mem_cons,not_or]
  exact ⟨⟨by decide,by decide,by decide,hno 1 dC⟩,⟨by decide,by decide,hno 3 dC⟩,⟨by decide,hno 4 dC⟩,hno 5 dC,v3.nd⟩
theorem V1d {F:Fr}{s:Bool}{sl slR:List (Nat×PV)}{bx pre pre':List (Nat×Blk)}{pv:List Nat}{m b m' b':List (List Rat)}(hl:v9 m m')(hlb:v9 b b')(hp:d6 pre=true)(hbp:O5 ⟨[],pre⟩ bx)(hpp:O5 ⟨[],pre⟩ pre')(hbx:(bx.all fun p=>p.2.cs.only (ksB s))=true)(h9:bx.lookup 999≠none)(hS:R6 ⟨sl,pre++tlP pv (R3 s m b)⟩ slR) :
  b0p stA F ⟨sl,pre++tlP pv (R3 s m b)⟩ (bx++R3 s m b) (bx++R3 s m' b') slR (pre'++tlP pv (R3 s m' b')):=by
 refine y1s (T:=R3 s m b) (T':=R3 s m' b') (U:=tlP pv (R3 s m b)) (U':=tlP pv (R3 s m' b')) hp (fun k B h=>hbp.all k B h) (fun k B h=>hpp.all k B h) (fun k B h=>⟨o8 k B h,j0n h⟩) (fun k B h=>j0n h) (fun k B h=>?_) (fun q B1 h=>H0s hl hlb h) hS (K8 (ksB s) hbx (F0h h9 fun _ _ h=>h) (H7 s m' b').whole)
 rw [tlP,T1] at h
 cases e:(pvB 1003 3 (O6 pv)).lookup k with
 | none=>rw [e,l0] at h; exact .inl h
 | some C =>
  rw [e,K0] at h
  injection h with h
  subst h
  obtain ⟨h1,h2⟩:=n0s e
  exact .inr ⟨by omega,by rw [tlP,T1,e]; rfl,U7 h1,U7 h1⟩
@[reducible] def bx3 (p c:Nat):List (Nat×Blk):=[(603,⟨73,1,.mix [.at_ 999 0 3]⟩),bxI 604 p,bxI 605 c]
theorem f1d {p c k:Nat}(h:(bx3 p c).lookup k≠none):k=603∨k=604∨k=605:=by
 simp only [bx3,i0,List.lookup_nil] at h
 by_cases e1:k=603; exact .inl e1
 by_cases e2:k=604; exact .inr (.inl e2)
 by_cases e3:k=605; exact .inr (.inr e3)
 rw [show (k == 603)=false by simpa using e1,show (k == 604)=false by simpa using e2,show (k == 605)=false by simpa using e3] at h
 exact absurd rfl h
theorem f1p {k:Nat}(h:stO k=false):k=603∨k=604∨k=605:=by
 simp only [stO,Bool.not_eq_false',Bool.or_eq_true,beq_iff_eq] at h
 omega
theorem m1n {f:Fn}{q:Nat}(h:(PV.clo f [] [.at_ 603 0 1,.at_ 604 0 1,.at_ 605 0 1]).free q=false):q=603∨q=604∨q=605:=by
 by_cases h1:q=603; exact .inl h1
 by_cases h2:q=604; exact .inr (.inl h2)
 by_cases h3:q=605; exact .inr (.inr h3)
 simp [PV.free,PV.freeL,Ne.symm h1,Ne.symm h2,Ne.symm h3] at h
theorem ncO {F:Fr}{s:Bool}{sl slR:List (Nat×PV)}{pre:List (Nat×Blk)}{cols n c p p' c':Nat}{q:Rat}{pv:List Nat}{m b:List (List Rat)}(hp:O5 ⟨[],pre⟩ (bxs s cols n c p q))(hb:d6 pre=true)(hpin:∀ k,k=603∨k=604∨k=605→F.pin k=none)(hso:(slR.all fun p=>p.2.only ks8)=true)(hS:R6 ⟨sl,pre++tlP pv (R3 s m b)⟩ slR) :
  b0p stO F ⟨sl,pre++tlP pv (R3 s m b)⟩ ([wV cols n (bv s n)]++tlP pv (R3 s m b)) (bx3 p' c'++([wV cols n (bv s n)]++tlP pv (R3 s m b))) slR (bx3 p' c'++(bxs s cols n c p q++tlP pv (R3 s m b))):=by
 have hpre:∀ k,1000≤k→pre.lookup k=none:=fun k hk=>n5 hb hk
 have htl:∀ k,k<1000→(tlP pv (R3 s m b)).lookup k=none:=fun k hk=>v3.low k (by simpa [Nat.blt_eq] using hk)
 have h999:∀ k B,([wV cols n (bv s n)]:List (Nat×Blk)).lookup k=some B→k=999∧B=(wV cols n (bv s n)).2:=fun k B h=>by
  simp only [i0,List.lookup_nil] at h
  by_cases e:k=999
  ·subst e; simp at h; exact ⟨rfl,h.symm⟩
  ·rw [show (k == 999)=false by simpa using e] at h; cases h
 have hbl:∀ k B,(bxs s cols n c p q).lookup k=some B→pre.lookup k=some B:=fun k B h=>hp.all k B h
 refine ⟨fun j B hj=>?_,hS,fun k B hk=>?_,fun k B1 hst h=>?_,fun t v ht k hk hst=>?_,fun j hj hst=>?_,fun j hj=>?_,?_⟩
 ·show (pre++_).lookup j=some B
  rw [T1] at hj ⊢
  cases e:([wV cols n (bv s n)]:List (Nat×Blk)).lookup j with
  | some C =>
   rw [e,K0] at hj
   injection hj with hj
   subst hj
   obtain ⟨rfl,rfl⟩:=h999 j C e
   rw [hbl 999 _ rF]; rfl
  | none =>
   rw [e,l0] at hj
   rw [hpre j (by apply Classical.byContradiction; intro h2; rw [htl j oM] at hj; cases hj),l0,hj]
 ·rw [T1] at hk
  cases e:(bx3 p' c').lookup k with
  | some C=>rw [e,K0] at hk; exact .inl (by rw [T1,e]; exact hk)
  | none =>
   rw [e,l0,T1] at hk
   cases e2:(bxs s cols n c p q).lookup k with
   | some C =>
    rw [e2,K0] at hk
    injection hk with hk
    subst hk
    rcases f1g (by rw [e2]; simp) with rfl | h5
    ·refine .inl ?_
     rw [T1,e,l0,T1]
     rw [show (bxs s cols n c p q).lookup 999=some (wV cols n (bv s n)).2 from rfl] at e2
     rw [← e2]; rfl
    ·refine .inr ⟨?_,?_,?_,fun i x hx k2 hk2 hst=>?_⟩
     ·show (pre++_).lookup k=_
      rw [T1,hbl k C e2]; rfl
     ·rw [T1,htl k oM,Option.or_none]
      rcases h5 with rfl | rfl | rfl | rfl <;> rfl
     ·rw [T1,e,l0,T1,htl k oM,Option.or_none]
      rcases h5 with rfl | rfl | rfl | rfl <;> rfl
     ·have ho:C.cs.only [999]=true:=by
       rcases h5 with rfl | rfl | rfl | rfl <;> (injection e2 with e2; subst e2; rfl)
      have:=PV.only_mem (Cells.only_get ho hx) hk2
      have:=f1p hst
      simp at *
      omega
   | none =>
    rw [e2,l0] at hk
    refine .inl ?_
    rw [T1,e,l0,T1,hk]
    cases e3:([wV cols n (bv s n)]:List (Nat×Blk)).lookup k with
    | none=>rfl
    | some C =>
     obtain ⟨rfl,_⟩:=h999 k C e3
     cases e2
 ·rw [T1] at h
  cases e:(bx3 p' c').lookup k with
  | some C =>
   rcases f1d (by rw [e]; simp) with rfl | rfl | rfl <;> cases hst
  | none=>rw [e,l0] at h; exact ⟨B1,h,rfl,rfl⟩
 ·rw [s0] at hso
  have h5:=PV.only_mem (hso _ (l8 ht)) hk
  have:=f1p hst
  simp only [ks8,List.mem_cons,List.not_mem_nil,or_false] at h5
  omega
 ·have h5:=f1p hst
  rw [T1,htl j oM,Option.or_none] at hj
  rcases h5 with rfl | rfl | rfl <;> exact absurd rfl hj
 ·cases e:stO j with
  | true=>rfl
  | false=>exact absurd (hpin j (f1p e)) hj
 ·refine K8 [999] rfl (fun k hk=>?_) (K8 (ksB s) (by simp only [List.all_cons,List.all_nil,Bool.and_true]; exact D0v) (F0h (by simp [i0]) fun k B h=>o8 k B h) v3.whole)
  simp only [List.mem_singleton] at hk
  subst hk
  exact B8 (j0w (by simp [i0]))
theorem Q0w (pv:List Nat)(c:Nat):O6 (pv++[c])=O6 pv++[vZ (c:Int)]:=by simp [O6]
theorem Q1g {s:Bool}{sl:List (Nat×PV)}{pre:List (Nat×Blk)}{pv:List Nat}{m b:List (List Rat)}(hp:d6 pre=true)(hf:pv=[]→(G3 1003 sl && Y2 1003 pre)=true):g0a ⟨sl,pre++tlP pv (R3 s m b)⟩ (pvF 1003 (O6 pv)):=by
 cases pv with
 | cons a l=>trivial
 | nil =>
  have h:=hf rfl
  simp only [j0] at h
  refine ⟨?_,?_⟩
  ·show (pre++_).lookup 1003=none
   rw [T1,n5 hp dC,l0]
   exact U7 rfl
  ·show (G3 1003 sl && Y2 1003 (pre++_))=true
   rw [J4,h.1,h.2]
   exact j1y dC
theorem D0s {xs:List L2}{y:L2}{k:Nat}{e:TypeId}:∃ B,pvB k e (xs++[y])=[(k,B)]:=by
 cases xs with
 | nil=>exact ⟨_,rfl⟩
 | cons a l=>exact ⟨_,rfl⟩
theorem Y0w {sl:List (Nat×PV)}{pre T:List (Nat×Blk)}{xs:List L2}{y:L2}{e:TypeId}{k:Nat}{B:Blk}(hk:k<1000)(h:pre.lookup k=some B):St.blk ⟨sl,pvB 1003 e (xs++[y])++(pre++T)⟩ k=some B:=by
 obtain ⟨C,hC⟩:=D0s (xs:=xs) (y:=y) (k:=1003) (e:=e)
 show (pvB 1003 e (xs++[y])++_).lookup k=_
 rw [hC,List.singleton_append,i0,show (k == 1003)=false by simp; omega,T1,h]; rfl
theorem Q1w {s:Bool}{sl:List (Nat×PV)}{pre:List (Nat×Blk)}{pv:List Nat}{c:Nat}{m b:List (List Rat)}(hp:d6 pre=true):O5 ⟨sl,pvB 1003 3 (O6 pv++[vZ (c:Int)])++(pre++tlP pv (R3 s m b))⟩ (tlP (pv++[c]) (R3 s m b)):=by
 obtain ⟨C,hC⟩:=D0s (xs:=O6 pv) (y:=vZ (c:Int)) (k:=1003) (e:=3)
 refine o5 v3.nd fun k B hk=>?_
 show (pvB 1003 3 (O6 pv++[vZ (c:Int)])++_).lookup k=_
 rw [tlP,Q0w,hC,List.singleton_append,i0] at hk
 rw [hC,List.singleton_append,i0]
 by_cases e:k=1003
 ·subst e; exact hk
 ·rw [show (k == 1003)=false by simpa using e] at hk ⊢
  show (pre++tlP pv (R3 s m b)).lookup k=some B
  rw [T1,n5 hp (j0n hk),l0]
  exact o8 _ _ hk
theorem Q1c {s:Bool}{sl:List (Nat×PV)}{pre:List (Nat×Blk)}{pv:List Nat}{m b:List (List Rat)}(hp:d6 pre=true):Cv (St.blk ⟨sl,pre++tlP pv (R3 s m b)⟩) [1003] (pvV 1003 (O6 pv)) (.p (.sl pv.length (O6 pv))):=by
 cases pv with
 | nil=>exact .p .nil
 | cons a l =>
  have hB:St.blk ⟨sl,pre++tlP (a :: l) (R3 s m b)⟩ 1003=some ⟨3,1,.pure (O6 (a :: l))⟩:=by
   show (pre++_).lookup 1003=_
   rw [T1,n5 hp dC]; rfl
  have:=Cv.ref (n:=(a :: l).length) (z:=[1003]) rfl hB (by rw [j8]) (Nat.mul_one _)
  simp only [O6,R0,E1,O0,Nat.mul_one] at this ⊢
  simp only [pvV,O0]
  exact this
theorem p0h {S:St}{z:List Nat}:∀ {l:List (Nat×Blk)},(∀ p∈l,z.contains p.1=false∧S.blk p.1=some p.2)→g0w S z l
 | [],_=>trivial
 | p :: l,h=>⟨⟨(h p sM).1,p.2,(h p sM).2,.same⟩,p0h fun q hq=>h q (by simp [hq])⟩
theorem n0a {l:List (Nat×Blk)}:∀ {l':List (Nat×Blk)},O5 ⟨[],l⟩ l'→∀ {p:Nat×Blk},p∈l'→l.lookup p.1=some p.2
 | (k,B) :: l',h,p,hp=>by
  rcases List.mem_cons.1 hp with rfl | hp
  ·exact h.1
  ·exact n0a h.2 hp
theorem M1g {s:Bool}{sl:List (Nat×PV)}{pre pre':List (Nat×Blk)}{pv:List Nat}{m b:List (List Rat)}(hp:d6 pre=true)(hb:O5 ⟨[],pre⟩ pre')(hp':d6 pre'=true):g0w ⟨sl,pre++tlP pv (R3 s m b)⟩ [1003] (pre'++R3 s m b):=by
 refine p0h fun p hp2=>?_
 rcases List.mem_append.1 hp2 with h | h
 ·have h1:p.1<1000:=by
   unfold d6 at hp'
   rw [s0] at hp'
   simpa [Nat.blt_eq] using hp' p h
  refine ⟨by simp; omega,?_⟩
  show (pre++_).lookup p.1=_
  have:pre.lookup p.1=some p.2:=n0a hb h
  rw [T1,this]; rfl
 ·have h1:=R5 (j:=p.1) (B:=p.2) (H7 s m b).nd h
  refine ⟨?_,?_⟩
  ·by_cases e:p.1=1003
   ·rw [U7 e] at h1; cases h1
   ·simpa using e
  ·show (pre++_).lookup p.1=_
   rw [T1,n5 hp (j0n h1),l0]
   exact o8 _ _ h1
theorem Q0z {m b:List (List Rat)}{c:Nat}(h:¬ (ech m b c).pv.length<(ech m b c).m.length):∀ d,ech m b (c+d)=ech m b c
 | 0=>rfl
 | d+1=>by rw [← Nat.add_assoc,C8,Q0z h d,Y8,if_neg h]
theorem P0v {m x:List (List Rat)}{p c n cc k:Nat}(hm:m.length=n)(h:RC n cc x)(hp:p<n)(hk:k<(q5 m p c).length):(q6 m x p c k).getD ((q5 m p c).getD k 0) []=x.getD ((q5 m p c).getD k 0) []∧(q6 m x p c k).getD p []=x.getD p []:=by
 constructor
 ·rw [f0d hm h hp k oM,if_neg]
  intro hh
  obtain ⟨i,hi,he⟩:=List.getElem_of_mem hh
  simp only [J0] at hi
  rw [List.getElem_take,f0,K1 hk,Option.getD_some] at he
  have:=(List.getElem_inj (k0x (m:=m) (p:=p) (c:=c))).1 he
  omega
 ·rw [f0d hm h hp k oM,if_neg (fun hh=>(y8.1 (List.mem_of_mem_take hh)).2.1 rfl)]
theorem g0h {B:Nat}{m:List (List Rat)}{i j:Nat}(h:MB B m)(h0:0<B):qw (ent m i j)≤B:=by
 rcases y0m (m:=m) (i:=i) (j:=j) with e | ⟨r,hr,e⟩
 ·rw [e,y0p]; exact h0
 ·exact h r hr _ e
theorem f0q {m:List (List Rat)}{i:Nat}{a:Rat}(h:a∈m.getD i []):∃ j,a=ent m i j:=by
 obtain ⟨j,hj,e⟩:=List.getElem_of_mem h
 refine ⟨j,?_⟩
 have:∀ (r:List Rat) (h:j<r.length),r[j]=r.getD j 0:=fun r h=>by simp [f0,h]
 rw [← e,this _ hj]; rfl
structure EB (n cols d B DB:Nat) (m b:List (List Rat)):Prop where
 rc:RC n cols m
 rb:RC n d b
 n0:0<n
 nl:n<1000
 cl:cols<1000
 dl:d<1000
 b0:0<B
 bl:B<100000000
 dbl:DB+B<1000000000
 me:∀ c,c≤cols→MB B (ech m b c).m
 be:∀ c,c≤cols→MB B (ech m b c).b
 de:∀ c,c≤cols→qw (ech m b c).det≤DB
theorem p1p (s:Bool)(n cols d B DB:Nat)(m b:List (List Rat))(H:EB n cols d B DB m b):I4 E n8 51 [.at_ 999 0 3] ([wV cols n (bv s n)]++R3 s m b) ([wV cols n (bv s n)]++R3 s (ech m b cols).m (ech m b cols).b) (.p (.tup [.sl (ech m b cols).pv.length (O6 (ech m b cols).pv),pQ (ech m b cols).det])):=by
 refine m4 (xs:=[.sl (ech m b cols).pv.length (O6 (ech m b cols).pv),pQ (ech m b cols).det]) Tryz.func51 rfl Tryz.ntmps51 Tryz.results51 sM fun F G=>?_
 have L:=@lti _ _ G.nt
 have hG:=G.g
 have hX:=G.x
 have hN:=U5 hG
 have P0:=fun k (hk:(Nat.blt k 1000 && (List.lookup k _).isNone)=true)=>G.p0 k (p0T (H7 s m b) hk)
 have H1:=H.nl
 have H2:=H.cl
 have H3:=H.bl
 have H4:=H.dbl
 have H5:=H.rc.1
 have H6:=H.rb.1
 subst H5
 have hlo:F.lo 1003=true:=by rw [G.lo,T1,U7 rfl,Option.or_none]; rfl
 have hpin3:F.pin 1003=none:=G.p0 _ (by rw [T1,U7 rfl,Option.or_none]; rfl)
 refine exr (swb (g0f (k:=1) rX rfl (P0 _ rfl) L) t1 t1 (frT [_] (H7 s m b) rfl rfl (by simp [G3,Y2,Cells.free,PV.freeL,PV.free,U3,j3])) ?_)
 refine aV L rfl (swb (T3 (k:=3) (n:=4) zv47 (.cons rfl (.cons rfl (.cons rfl (.cons rfl .nil)))) rfl (P0 _ rfl) L) t0 t0 (frT [_,_] (H7 s m b) rfl rfl (by simp [G3,Y2,Cells.free,PV.freeL,PV.free,U3,j3])) ?_)
 refine R1 ⟨[(1,_),(2,_),(3,_)],(1,_) :: (3,_) :: (999,_) :: ((R3 s m b)),t3,⟨rfl,rfl,rfl,(hbT [_,_,_] (H7 s m b) rfl)⟩,?_⟩
 refine exr (cK hG hX cl55 hN (T6 1 dC dC) L t1 (sb (Z2 sz47 rF pa4 rfl pu4) t2 t1 ?_))
 refine R1 ⟨[(1,_),(2,pvV 1003 (O6 [])),(3,_)],(1,_) :: (3,_) :: (999,_) :: ((tlP [] (R3 s m b))),t3,⟨rfl,rfl,rfl,(hbT [_,_,_,_] (H7 s m b) rfl)⟩,?_⟩
 refine U1 (exr (swb (T3 (k:=4) (n:=1) zv3 (.cons rfl .nil) rfl (P0 _ rfl) L) t0 t0 (frT [_,_,_] (v3 (pv:=[]) (s:=s) (m:=m) (b:=b)) rfl rfl (by simp [G3,Y2,Cells.free,PV.freeL,PV.free,U3,j3])) ?_))
 refine sb (Z2 sz3 rF (.atom rfl) rfl pu1) t2 t1 ?_
 refine R1 ⟨[(1,_),(2,_),(3,_),(4,_)],(1,_) :: (3,_) :: (4,_) :: (999,_) :: ((tlP [] (R3 s m b))),t4,⟨rfl,rfl,rfl,rfl,(hbT [_,_,_,_,_] (v3 (pv:=[]) (s:=s) (m:=m) (b:=b)) rfl)⟩,?_⟩
 refine Y1 ?_
 refine G0k (α:=(Nat×ESt)) (fun x=>[(2,pvV 1003 (O6 x.2.pv))]) (fun x=>[(3,bQ x.2.det),(4,⟨3,1,.mix [.p (vZ (x.1:Int))]⟩)]) (fun x=>(tlP x.2.pv (R3 s x.2.m x.2.b))) (fun x=>x.1≤cols∧x.2=ech m b x.1) (fun x=>cols - x.1) ((0,⟨m,b,[],1⟩)) (sl:=[(1,_),(3,_),(4,_)]) (hb:=[(1,_),(999,_)]) ?_ ⟨oR,rfl,rfl,rfl,trivial⟩ ⟨rfl,rfl,rfl,rfl,(hbT [_,_,_,_] (v3 (pv:=[]) (s:=s) (m:=m) (b:=b)) rfl)⟩ ?_
 ·exact ⟨Nat.zero_le _,rfl⟩
 intro x hx
 obtain ⟨c,t⟩:=x
 obtain ⟨hc,hs⟩:=hx
 simp only at hc hs
 dsimp only
 have hrc:=W6 H.rc H.rb c hc
 have hme:=H.me c hc
 have hbe:=H.be c hc
 have hde:=H.de c hc
 rw [← hs] at hrc hme hbe hde
 obtain ⟨r1,r2,r3,-⟩:=hrc
 have hn:t.m.length=m.length:=r1.1
 by_cases hcc:c<cols
 ·refine U1 (exd rF ?_)
  refine sw (Z1 ag3 rF rF L) t1 t1 ?_
  refine sw (Z1 ag73 rF rF L) t1 t1 ?_
  refine sw (i3 rX L) t1 t1 ?_
  refine sw (j2 un79 rfl sz3 dC rX L) t1 t1 ?_
  refine sw (Z1 ag3 rF rF L) t1 t1 ?_
  refine sw (d4 L) t2 t0 (mV L rfl (gV (g:=19) rfl sO L rfl rfl (swg (g:=19) rfl sO (K0b un27 L) rfl t1 (F1k [_,_,_,_] rfl dC) (swg (g:=19) rfl sO (Z1 ag73 rF rF L) rfl t1 t1 ?_))))
  refine swg (g:=19) rfl sO (i3 rX L) rfl t1 t1 ?_
  refine swg (g:=19) rfl sO (j2 un79 rfl sz77 dC rX L) rfl t1 t1 ?_
  refine swg (g:=19) rfl sO (Z1 ag77 rF rF L) rfl t1 t1 ?_
  refine swg (g:=19) rfl sO (n0z un77 (by first | exact F2 _ _ _ | exact (F2 _ _ _).trans sM | exact (F2 _ _ _).trans (by assumption)) L) rfl t1 ⟨rdT [_,_,_,_] (v3 (pv:=t.pv) (s:=s) (m:=t.m) (b:=t.b)) rfl v1v,trivial⟩ ?_
  refine swg (g:=19) rfl sO (d4 L) rfl t2 t0 (sw (M4 sO L) t2 t0 ?_)
  refine R1 ⟨g0p [⟨[4],[4],[13],[]⟩,⟨[1],[1],[14],[]⟩,⟨[14],[999],[15],[]⟩,⟨[15],[999],[16],[]⟩,⟨[16],[999],[17],[]⟩,⟨[13,17],[],[18],[]⟩,⟨[18],[],[19],[]⟩,⟨[19,2],[],[20],[]⟩,⟨[19,20],[1000],[21],[]⟩,⟨[19,1],[1],[22],[]⟩,⟨[19,22],[999],[23],[]⟩,⟨[19,23],[999],[24],[]⟩,⟨[19,24],[999],[25],[]⟩,⟨[19,25],[1000],[26],[]⟩,⟨[19,21,26],[],[27],[]⟩,⟨[19,27],[],[28],[]⟩] (.cons (cf0 rfl) (.cons (cf0 rfl) (.cons (cf0 rfl) (.cons (cf0 rfl) (.cons (cf0 rfl) (.cons (cf0 rfl) (.cons (cf0 rfl) (.cons (cf0 rfl) (.cons (cfT rfl rfl (P1q dC) rfl (fun _ h=>by cases h)) (.cons (cf0 rfl) (.cons (cf0 rfl) (.cons (cf0 rfl) (.cons (cf0 rfl) (.cons (cfT rfl rfl (J8 dC) rfl (fun _ h=>by cases h)) (.cons (cf0 rfl) (.cons (cf0 rfl)  .nil)))))))))))))))) rfl (frS [] [_,_,_,_] (v3 (pv:=t.pv) (s:=s) (m:=t.m) (b:=t.b)) rfl (by simp [G3,Y2,Cells.free,PV.freeL,PV.free,U3,j3])) dC,[(1,_),(2,_),(3,_),(4,_),(28,_)],(1,_) :: (3,_) :: (4,_) :: (999,_) :: ((tlP t.pv (R3 s t.m t.b))),t5,⟨rfl,rfl,rfl,rfl,(hbT [_,_,_,_] (v3 (pv:=t.pv) (s:=s) (m:=t.m) (b:=t.b)) rfl)⟩,?_⟩
  refine E2 rfl (fun hp=>?_) (fun hp=>?_)
  ·have hp:=dt hp
   rw [j8] at hp
   have hpn:t.pv.length<m.length:=by omega
   have f1:=O8 90 [.at_ 1 0 1,.at_ 4 0 1] (hC cols m.length c (bv s m.length) (tlP t.pv (R3 s t.m t.b))) (H1d v3) (M1r v3 fun k B h=>o8 k B h) cl90 (nzI t.m c) t.pv.length m.length oM (fun i _ hi=>by
    have h4:=r1.get hi
    have:=h1r t.m cols c i (bv s m.length) (tlP t.pv (R3 s t.m t.b)) v3 y0d oM oM (by have:=g0h (i:=i) (j:=c) hme H.b0; unfold ent at this; omega)
    rw [hn] at this; exact this)
   refine V1 (xq ?_)
   refine U1 (Y1 (exr (mV L rfl (sw (K0b un27 L) t1 (F1k [_,_,_,_] rfl dC) (swb (T3 (k:=5) (n:=1) zv3 (.cons rfl .nil) rfl (P0 _ rfl) L) t0 t0 (frT [_,_,_,_] (v3 (pv:=t.pv) (s:=s) (m:=t.m) (b:=t.b)) rfl rfl (by simp [G3,Y2,Cells.free,PV.freeL,PV.free,U3,j3])) ?_)))))
   refine sb (Z2 sz3 rF (.atom rfl) rfl pu1) t2 t1 ?_
   refine R1 ⟨[(1,_),(2,_),(3,_),(4,_),(5,_)],(1,_) :: (3,_) :: (4,_) :: (5,⟨3,1,.mix [.p (vZ (t.pv.length:Int))]⟩) :: (999,_) :: ((tlP t.pv (R3 s t.m t.b))),t5,⟨rfl,rfl,rfl,obl rfl (by rw [j8]),rfl,(hbT [_,_,_,_,_,_] (v3 (pv:=t.pv) (s:=s) (m:=t.m) (b:=t.b)) rfl)⟩,?_⟩
   refine exd rF ?_
   refine sw (Z1 ag3 rF rF L) t1 t1 ?_
   refine sw (Z1 ag73 rF rF L) t1 t1 ?_
   refine sw (i3 rX L) t1 t1 ?_
   refine sw (j2 un79 rfl sz77 dC rX L) t1 t1 ?_
   refine sw (Z1 ag77 rF rF L) t1 t1 ?_
   refine sw (n0z un77 (by first | exact F2 _ _ _ | exact (F2 _ _ _).trans sM | exact (F2 _ _ _).trans (by assumption)) L) t1 ⟨rdT [_,_,_,_,_] (v3 (pv:=t.pv) (s:=s) (m:=t.m) (b:=t.b)) rfl v1v,trivial⟩ ?_
   refine sw (p0x (vs:=[]) (us:=[_,_]) rfl rfl L) t2 t0 (sw (i6 hG hX hN f1 rfl L (Y4 (ys:=[_,_,_]) cl52 rfl rfl) (H1d v3) (M1r v3 fun k B h=>o8 k B h) (fun q h=>by cases h)) t3 ⟨rfl,rfl,rfl,E7 (hbT [_,_,_,_,_] v3 rfl)⟩ ?_)
   refine swb (T3 (k:=6) (n:=1) zv3 (.cons rfl .nil) rfl (P0 _ rfl) L) t0 t0 (frT [_,_,_,_,_] (v3 (pv:=t.pv) (s:=s) (m:=t.m) (b:=t.b)) rfl rfl (by simp [G3,Y2,Cells.free,PV.freeL,PV.free,U3,j3])) ?_
   refine sb (Z2 sz3 rF (.atom rfl) rfl pu1) t2 t1 ?_
   refine R1 ⟨g0p [⟨[5],[5],[33],[]⟩,⟨[1],[1],[34],[]⟩,⟨[34],[999],[35],[]⟩,⟨[35],[999],[36],[]⟩,⟨[36],[999],[37],[]⟩,⟨[37],[1000],[38],[]⟩,⟨[1,4],[],[39],[]⟩,⟨[33,38,39],[1,4,999,1000],[40],[]⟩,⟨[],[],[6],[6]⟩,⟨[6,40],[6],[],[6]⟩] (.cons (cf0 rfl) (.cons (cf0 rfl) (.cons (cf0 rfl) (.cons (cf0 rfl) (.cons (cf0 rfl) (.cons (cfT rfl rfl (J8 dC) rfl (fun _ h=>by cases h)) (.cons (cf0 rfl) (.cons (cfT rfl rfl (D1f (l:=[_,_,_]) rF (b0s v3) rfl) rfl (fun _ h=>by cases h)) (.cons (cf0 rfl) (.cons (cf0 rfl)  .nil)))))))))) rfl (frS [6] [_,_,_,_,_] (v3 (pv:=t.pv) (s:=s) (m:=t.m) (b:=t.b)) rfl (by simp [G3,Y2,Cells.free,PV.freeL,PV.free,U3,j3])) dC,[(1,_),(2,_),(3,_),(4,_),(5,_),(6,_)],(1,_) :: (3,_) :: (4,_) :: (5,_) :: (6,_) :: (999,_) :: ((tlP t.pv (R3 s t.m t.b))),t6,⟨rfl,rfl,rfl,rfl,rfl,rfl,(hbT [_,_,_,_,_,_,_] (v3 (pv:=t.pv) (s:=s) (m:=t.m) (b:=t.b)) rfl)⟩,?_⟩
   have hpe:F4 (nzI t.m c) t.pv.length (m.length - t.pv.length)=O9 t.m c t.pv.length:=by rw [O9,hn]
   rw [hpe]
   refine U1 (exr (sw (Z1 ag3 rF rF L) t1 t1 ?_))
   refine sw (d4 L) t2 t0 ?_
   refine R1 ⟨[(1,_),(2,_),(3,_),(4,_),(5,_),(6,_),(42,_)],(1,_) :: (3,_) :: (4,_) :: (5,_) :: (6,_) :: (999,_) :: ((tlP t.pv (R3 s t.m t.b))),t7,⟨rfl,rfl,rfl,rfl,rfl,rfl,(hbT [_,_,_,_,_,_] (v3 (pv:=t.pv) (s:=s) (m:=t.m) (b:=t.b)) rfl)⟩,?_⟩
   refine E2 rfl (fun hneg=>?_) (fun hneg=>?_)
   ·have hneg:=dt hneg
    have hst:ech m b (c+1)=t:=by rw [C8,← hs,Y8,if_pos oM,if_pos hneg]
    refine U2 (xq ?_)
    refine U1 (exr (sw (Z1 ag3 rF rF L) t1 t1 ?_))
    refine R1 ⟨[(1,_),(2,_),(3,_),(83,_)],(1,_) :: (3,_) :: (999,_) :: ((tlP t.pv (R3 s t.m t.b))),t4,⟨rfl,rfl,rfl,(hbT [_,_,_,_,_,_] (v3 (pv:=t.pv) (s:=s) (m:=t.m) (b:=t.b)) rfl)⟩,?_⟩
    refine J3 (swb (T3 (k:=4) (n:=1) zv3 (.cons rfl .nil) rfl (P0 _ rfl) L) t0 t0 (frT [_,_,_] (v3 (pv:=t.pv) (s:=s) (m:=t.m) (b:=t.b)) rfl rfl (by simp [G3,Y2,Cells.free,PV.freeL,PV.free,U3,j3])) ?_)
    refine sb (Z2 sz3 rF (.atom rfl) rfl pu1) t2 t1 ?_
    refine R1 (show i4 _ _ _ _ _ from exw (sl:=[(1,_),(2,_),(3,_),(4,_)]) (hb:=(1,_) :: (3,_) :: (4,_) :: (999,_) :: ((tlP t.pv (R3 s t.m t.b)))) t4 ⟨rfl,rfl,rfl,rfl,(hbT [_,_,_,_,_] (v3 (pv:=t.pv) (s:=s) (m:=t.m) (b:=t.b)) rfl)⟩ ?_)
    refine J3 (sw (Z1 ag3 rF rF L) t1 t1 ?_)
    refine sw (L3 L (w64 oM oM)) t2 t0 (sb (Z2 sz3 rF (.atom rfl) rfl pu1) t2 t1 ?_)
    refine R1 ?_
    exact ⟨(c+1,t),⟨by simp only; omega,hst.symm⟩,(by simp only; omega),I3 ⟨oR,rfl,rfl,rfl,trivial⟩ ⟨rfl,rfl,rfl,rfl,(hbT [_,_,_,_,_] (v3 (pv:=t.pv) (s:=s) (m:=t.m) (b:=t.b)) rfl)⟩⟩
   ·have hneg:=df hneg
    have hst:ech m b (c+1)=stp t.m t.b t.pv t.det (O9 t.m c t.pv.length).toNat c:=by rw [C8,← hs,Y8,if_pos oM,if_neg hneg]
    obtain ⟨hp1,hp2,hp3,hp4⟩:=h0n hneg (show t.pv.length<t.m.length by omega)
    obtain ⟨i,hi⟩:∃ i,i=(O9 t.m c t.pv.length).toNat:=⟨_,rfl⟩
    rw [← hi] at hp1 hp2 hp3 hp4 hst
    rw [← hp4]
    have hl0:ent t.m i c≠0:=by simpa [nzI,ent] using hp3
    have hin:i<m.length:=by omega
    have hnm:=H.me (c+1) hcc
    have hnb:=H.be (c+1) hcc
    rw [hst] at hnm hnb
    have hld:F5 (swapped t.m i t.pv.length) t.pv.length c=ent t.m i c:=by
     have:=V4 (k:=t.pv.length) (j:=c) r1.1 hin hpn
     rw [if_pos rfl] at this; exact this
    obtain ⟨p,hpp⟩:∃ p,p=t.pv.length:=⟨_,rfl⟩
    rw [← hpp] at hp1 hpn hld
    rw [← hpp]
    have hbl:t.b.length=m.length:=r2.1
    refine V1 (xq ?_)
    refine U1 (exr (sw (Z1 ag3 rF rF L) t1 t1 ?_))
    refine sw (Z1 ag3 rF rF L) t1 t1 ?_
    refine sw (c_n L) t2 t0 ?_
    refine R1 ⟨[(1,_),(2,_),(3,_),(4,_),(5,_),(6,_),(45,_)],(1,_) :: (3,_) :: (4,_) :: (5,_) :: (6,_) :: (999,_) :: ((tlP t.pv (R3 s t.m t.b))),t7,⟨rfl,rfl,rfl,rfl,rfl,rfl,(hbT [_,_,_,_,_,_] (v3 (pv:=t.pv) (s:=s) (m:=t.m) (b:=t.b)) rfl)⟩,?_⟩
    refine B1x (sl:=[]) (sl0:=[(1,_),(2,_),(3,_),(4,_),(5,_)]) (hb:=[(1,⟨73,1,.mix [.at_ 999 0 3]⟩),(3,bQ (if i=p then t.det else -t.det)),(4,⟨3,1,.mix [.p (vZ (c:Int))]⟩),(5,⟨3,1,.mix [.p (vZ (p:Int))]⟩),(999,(wV cols m.length (bv s m.length)).2)]) (T:=(tlP t.pv (R3 s (swapped t.m i p) (swapped t.b i p)))) t5 ?_ ?_
    ·refine E2 rfl (fun hne=>?_) (fun hne=>?_)
     ·have hne:=nt hne
      have hne':i≠p:=fun e=>hne (by rw [e])
      have hb2:=M1z s cols t.m t.b i p hp2 oM hne' oM
      rw [hn] at hb2
      refine p0g (nsw (Z1 ag73 rF rF L) t1 t1 ?_)
      refine nsw (p0x (vs:=[]) (us:=[_,_]) rfl rfl L) t2 t0 (nsI hG hX hN [(1,.at_ 1 0 1),(2,pvV 1003 (O6 t.pv)),(3,.at_ 3 0 4),(4,.at_ 4 0 1),(5,.at_ 5 0 1)] ([(1,_),(3,_),(4,_),(5,_),(999,_)]++(tlP t.pv (R3 s (J5 t.m i p) (J5 t.b i p)))) hb2 L (Y4 (ys:=[_,_]) cl92 rfl rfl) t2 (by exact ncE (pre:=[_,_,_,_,_,_]) (pre':=[_,_,_,_,_]) (bx:=[bxI 5 p,bxI 6 i,wV cols m.length (bv s m.length)]) sM sM hn (hbl.trans H6.symm) G rfl t3 t5 (by cases s <;> rfl) (by simp [i0]) (by cases s <;> rfl) (by simp [PV.only,D0h]) t5) (fun q h=>by cases h) rfl ?_)
      refine .nil ⟨[(1,_),(2,_),(3,_),(4,_),(5,_)],(1,_) :: (3,_) :: (4,_) :: (5,_) :: (999,_) :: tlP t.pv (R3 s (J5 t.m i p) (J5 t.b i p)),t5,⟨rfl,rfl,rfl,rfl,rfl,(hbT [_,_,_,_,_] (v3 (pv:=t.pv) (s:=s) (m:=J5 t.m i p) (b:=J5 t.b i p)) rfl)⟩,?_⟩
      refine J3 (lp4 ag47 sz47 L rfl rfl (cK hG hX cl56 hN (p0r t.det oM) L t1 (sb (Z2 sz47 rF pa4 rfl pu4) t2 t1 ?_)))
      refine R1 ?_
      exact ⟨⟨oR,oR,oR,oR,oR,trivial⟩,⟨rfl,obl rfl (by rw [if_neg hne']),rfl,rfl,rfl,(by rw [swapped,if_neg hne',swapped,if_neg hne']; exact hbT [_,_,_,_,_,_] v3 rfl)⟩⟩
     ·have hne:=nf hne
      have hne':i=p:=by omega
      refine V1 ?_
      exact ⟨⟨oR,oR,oR,oR,oR,trivial⟩,⟨rfl,obl rfl (by rw [if_pos hne']),rfl,rfl,rfl,(by rw [swapped,if_pos hne',swapped,if_pos hne']; exact hbT [_,_,_,_,_,_] v3 rfl)⟩⟩
    ·obtain ⟨m1,hm1⟩:∃ m1,m1=swapped t.m i p:=⟨_,rfl⟩
     obtain ⟨b1,hb1⟩:∃ b1,b1=swapped t.b i p:=⟨_,rfl⟩
     obtain ⟨d1,hd1⟩:∃ d1,d1=(if i=p then t.det else -t.det):=⟨_,rfl⟩
     rw [← hm1,← hb1,← hd1]
     have hrc1:RC m.length cols m1:=by rw [hm1]; exact r1.swapped hin hpn
     have hrb1:RC m.length d b1:=by rw [hb1]; exact r2.swapped hin hpn
     have hn1:=hrc1.1
     have hcp:c<(m1.getD p []).length:=by rw [hrc1.get hpn]; exact hcc
     rw [← hm1] at hld
     refine exd rF ?_
     refine sw (Z1 ag73 rF rF L) t1 t1 ?_
     refine sw (i3 rX L) t1 t1 ?_
     refine sw (j2 un79 rfl sz77 dC rX L) t1 t1 ?_
     refine sw (Z1 ag77 rF rF L) t1 t1 ?_
     refine sw (Z1 ag3 rF rF L) t1 t1 ?_
     refine sw (Z1 ag3 rF rF L) t1 t1 ?_
     refine sw (i6 hG hX hN (atM (M:=m1) (m:=m1) hn1 rfl hpn hcp) rfl L (Y4 (ys:=[_,_,_]) cl91 rfl rfl) (D2 dC m1).nd (D2 dC m1).whole (fun q h=>by cases h)) t3 (E7 (o5 (D2 dC m1).nd fun k B h=>rdT [_,_,_,_,_] v3 rfl (y0d k B h))) ?_
     refine swb (T3 (k:=7) (n:=4) zv47 (.cons rfl (.cons rfl (.cons rfl (.cons rfl .nil)))) rfl (P0 _ rfl) L) t0 t0 (frT [_,_,_,_,_] (v3 (pv:=t.pv) (s:=s) (m:=m1) (b:=b1)) rfl rfl (by simp [G3,Y2,Cells.free,PV.freeL,PV.free,U3,j3])) ?_
     refine sb (Z2 sz47 rF pa4 rfl pu4) t2 t1 ?_
     refine R1 ⟨g0p [⟨[1],[1],[51],[]⟩,⟨[51],[999],[52],[]⟩,⟨[52],[999],[53],[]⟩,⟨[53],[999],[54],[]⟩,⟨[5],[5],[55],[]⟩,⟨[4],[4],[56],[]⟩,⟨[54,55,56],[1000],[57],[]⟩,⟨[],[],[7],[7]⟩,⟨[7,57],[7],[],[7]⟩] (.cons (cf0 rfl) (.cons (cf0 rfl) (.cons (cf0 rfl) (.cons (cf0 rfl) (.cons (cf0 rfl) (.cons (cf0 rfl) (.cons (cfT rfl rfl (fun p hp=>by rw [B0d (b0s (D2 dC m1) p hp)]; exact List.mem_singleton.2 rfl) rfl (fun _ h=>by cases h)) (.cons (cf0 rfl) (.cons (cf0 rfl)  .nil))))))))) rfl (frS [7] [_,_,_,_,_] (v3 (pv:=t.pv) (s:=s) (m:=m1) (b:=b1)) rfl (by simp [G3,Y2,Cells.free,PV.freeL,PV.free,U3,j3])) dC,[(1,_),(2,_),(3,_),(4,_),(5,_),(7,_)],(1,_) :: (3,_) :: (4,_) :: (5,_) :: (7,_) :: (999,_) :: ((tlP t.pv (R3 s m1 b1))),t6,⟨rfl,rfl,rfl,rfl,rfl,rfl,(hbT [_,_,_,_,_,_,_] (v3 (pv:=t.pv) (s:=s) (m:=m1) (b:=b1)) rfl)⟩,?_⟩
     have hq1:qw (F5 m1 p c)≤B:=by rw [hld]; exact g0h hme H.b0
     have hq2:F5 m1 p c≠0:=by rw [hld]; exact hl0
     have hq3:qw d1≤DB:=by rw [hd1]; split; exact hde; rw [M0c]; exact hde
     have hq4:qw (1 / F5 m1 p c)≤B+1:=by have:=K1n (a:=1) hq2; rw [M0f] at this; omega
     refine exr (lp4 ag47 sz47 L rfl rfl (lp4 ag47 sz47 L rfl rfl (cK hG hX cl67 hN (g8 d1 (F5 m1 p c) oM oM) L t2 (sb (Z2 sz47 rF pa4 rfl pu4) t2 t1 ?_))))
     refine R1 ⟨[(1,_),(2,_),(3,_),(4,_),(5,_),(7,_)],(1,_) :: (3,_) :: (4,_) :: (5,_) :: (7,_) :: (999,_) :: ((tlP t.pv (R3 s m1 b1))),t6,⟨rfl,rfl,rfl,rfl,rfl,rfl,(hbT [_,_,_,_,_,_,_] (v3 (pv:=t.pv) (s:=s) (m:=m1) (b:=b1)) rfl)⟩,?_⟩
     refine exd rF ?_
     refine cK hG hX cl55 hN (T6 1 dC dC) L t1 (lp4 ag47 sz47 L rfl rfl (cK hG hX cl66 hN (q0f 1 (F5 m1 p c) (by rw [M0f]; decide) oM hq2) L t2 ?_))
     refine mV L rfl (sw (X3 rfl L) t1 t0 (sw (X3 rfl L) t1 t0 (swb (T3 (k:=8) (n:=4) zv47 (.cons rfl (.cons rfl (.cons rfl (.cons rfl .nil)))) rfl (P0 _ rfl) L) t0 t0 (frT [_,_,_,_,_,_] (v3 (pv:=t.pv) (s:=s) (m:=m1) (b:=b1)) rfl rfl (by simp [G3,Y2,Cells.free,PV.freeL,PV.free,U3,j3])) ?_)))
     refine sb (Z2 sz47 rF pa4 rfl pu4) t2 t1 ?_
     refine aV L rfl ?_
     refine R1 ⟨g0p [⟨[],[],[62],[]⟩,⟨[7],[7],[63],[]⟩,⟨[62,63],[],[64],[]⟩,⟨[64],[],[61],[]⟩,⟨[61],[],[65],[]⟩,⟨[61],[],[66],[]⟩,⟨[],[],[8],[8]⟩,⟨[8,65],[8],[],[8]⟩,⟨[66],[],[9],[]⟩] (.cons (cf0 rfl) (.cons (cf0 rfl) (.cons (cf0 rfl) (.cons (cf0 rfl) (.cons (cf0 rfl) (.cons (cf0 rfl) (.cons (cf0 rfl) (.cons (cf0 rfl) (.cons (cf0 rfl)  .nil))))))))) rfl (frS [8] [_,_,_,_,_,_] (v3 (pv:=t.pv) (s:=s) (m:=m1) (b:=b1)) rfl (by simp [G3,Y2,Cells.free,PV.freeL,PV.free,U3,j3])) dC,[(1,_),(2,_),(3,_),(4,_),(5,_),(8,_)],(1,_) :: (3,_) :: (4,_) :: (5,_) :: (8,_) :: (999,_) :: ((tlP t.pv (R3 s m1 b1))),t6,⟨rfl,rfl,rfl,rfl,rfl,rfl,(hbT [_,_,_,_,_,_,_,_] (v3 (pv:=t.pv) (s:=s) (m:=m1) (b:=b1)) rfl)⟩,?_⟩
     have hm1B:∀ i j,qw (ent m1 i j)≤B:=fun i' j=>by rw [hm1,V4 r1.1 hin hpn]; exact g0h hme H.b0
     have hb1B:∀ i j,qw (ent b1 i j)≤B:=fun i' j=>by rw [hb1,V4 r2.1 hin hpn]; exact g0h hbe H.b0
     have hb3:=P1r s cols m1 b1 p (1 / F5 m1 p c) oM (by rw [hrb1.1,hn1]) (by rw [hrc1.get hpn]; omega) (fun a ha=>by obtain ⟨j,rfl⟩:=f0q ha; have:=hm1B p j; omega) oM (by rw [hrb1.get hpn]; have:=H.dl; omega) (fun a ha=>by obtain ⟨j,rfl⟩:=f0q ha; have:=hb1B p j; omega)
     rw [hn1] at hb3
     refine p0g (nsw (Z1 ag73 rF rF L) t1 t1 ?_)
     refine nsw (p0x (vs:=[]) (us:=[_,_]) rfl rfl L) t2 t0 (nsI hG hX hN [(1,.at_ 1 0 1),(2,pvV 1003 (O6 t.pv)),(3,.at_ 3 0 4),(4,.at_ 4 0 1),(5,.at_ 5 0 1)] ([(1,_),(3,_),(4,_),(5,_),(999,_)]++(tlP t.pv (R3 s (q9 m1 p (1 / F5 m1 p c)) (q9 b1 p (1 / F5 m1 p c))))) hb3 L (Y4 (ys:=[_,_]) cl92 rfl rfl) t2 (by exact ncE (pre:=[_,_,_,_,_,_]) (pre':=[_,_,_,_,_]) (bx:=[bxI 5 p,bxQ 8 (1 / F5 m1 p c),wV cols m.length (bv s m.length)]) (by simp [q9]) (by simp [q9]) hn1 (hrb1.1.trans H6.symm) G rfl t3 t5 (by cases s <;> rfl) (by simp [i0]) (by cases s <;> rfl) (by simp [PV.only,D0h]) t5) (fun q h=>by cases h) rfl ?_)
     refine .nil ⟨[(1,_),(2,_),(3,_),(4,_),(5,_)],(1,_) :: (3,_) :: (4,_) :: (5,_) :: (999,_) :: tlP t.pv (R3 s (q9 m1 p (1 / F5 m1 p c)) (q9 b1 p (1 / F5 m1 p c))),t5,⟨rfl,rfl,rfl,rfl,rfl,(hbT [_,_,_,_,_] (v3 (pv:=t.pv) (s:=s) (m:=q9 m1 p (1 / F5 m1 p c)) (b:=q9 b1 p (1 / F5 m1 p c))) rfl)⟩,?_⟩
     have hrc2:=hrc1.scl (q:=1 / F5 m1 p c) hpn
     have hrb2:=hrb1.scl (q:=1 / F5 m1 p c) hpn
     have hm2B:∀ i j,qw (ent (q9 m1 p (1 / F5 m1 p c)) i j)≤B+(B+1):=fun i' j=>by
      rw [W8 hrc1 hpn]
      split
      ·have:=K9 (ent m1 p j) (1 / F5 m1 p c); have:=hm1B p j; omega
      ·have:=hm1B i' j; omega
     have hb2B:∀ i j,qw (ent (q9 b1 p (1 / F5 m1 p c)) i j)≤B+(B+1):=fun i' j=>by
      rw [W8 hrb1 hpn]
      split
      ·have:=K9 (ent b1 p j) (1 / F5 m1 p c); have:=hb1B p j; omega
      ·have:=hb1B i' j; omega
     have hst2:stp t.m t.b t.pv t.det i c=⟨k0w (q9 m1 p (1 / F5 m1 p c)) (q9 m1 p (1 / F5 m1 p c)) p c,k0w (q9 m1 p (1 / F5 m1 p c)) (q9 b1 p (1 / F5 m1 p c)) p c,t.pv++[c],d1*F5 m1 p c⟩:=by
      rw [stp,hm1,hb1,hd1,hpp]
     obtain ⟨m2,hm2⟩:∃ m2,m2=q9 m1 p (1 / F5 m1 p c):=⟨_,rfl⟩
     obtain ⟨b2,hb2⟩:∃ b2,b2=q9 b1 p (1 / F5 m1 p c):=⟨_,rfl⟩
     obtain ⟨q2,hq⟩:∃ q2,q2=d1*F5 m1 p c:=⟨_,rfl⟩
     rw [← hm2,← hb2,← hq] at hst2
     rw [← hm2] at hrc2 hm2B
     rw [← hb2] at hrb2 hb2B
     rw [← hm2,← hb2,← hq]
     obtain ⟨N,hN2⟩:∃ N,N=(q5 m2 p c).length:=⟨_,rfl⟩
     have hpin:∀ k,k<1000→k≠999→F.pin k=none:=fun k hk hk9=>G.p0 k (by rw [T1,(H7 s m b).low k (by simpa [Nat.blt_eq] using hk),Option.or_none,i0,show (k == 999)=false by simpa using hk9]; rfl)
     refine U1 (p0g (nsw (Z1 ag73 rF rF L) t1 t1 ?_))
     refine nsw (Z1 ag3 rF rF L) t1 t1 ?_
     refine nsw (Z1 ag3 rF rF L) t1 t1 ?_
     refine nsI hG hX hN [(1,.at_ 1 0 1),(2,pvV 1003 (O6 t.pv)),(3,.at_ 3 0 4),(4,.at_ 4 0 1),(5,.at_ 5 0 1)] ([(603,_),(604,_),(605,_),(999,_),(1,_),(3,_),(4,_),(5,_)]++(tlP t.pv (R3 s m2 b2))) (N0p s cols m.length p c (tlP t.pv (R3 s m2 b2)) v3) L (Y4 (ys:=[_,_,_]) cl97 rfl rfl) t3 (by exact ncO (q:=q2) (c:=c) (p:=p) (pre:=[_,_,_,_,_]) t5 rfl (fun k hk=>hpin k oM oM) (by simp [PV.only,D0h]) t5) (fun q h=>by rcases m1n h with rfl | rfl | rfl <;> exact j0w (by simp [i0])) rfl ?_
     refine .nil ⟨[(1,_),(2,_),(3,_),(4,_),(5,_),(73,_)],(1,_) :: (3,_) :: (4,_) :: (5,_) :: (603,_) :: (604,_) :: (605,_) :: (999,_) :: tlP t.pv (R3 s m2 b2),t6,⟨rfl,rfl,rfl,rfl,rfl,rfl,rfl,rfl,(hbT [_,_,_,_,_,_,_,_] (v3 (pv:=t.pv) (s:=s) (m:=m2) (b:=b2)) rfl)⟩,?_⟩
     refine Y1 ?_
     have hMr:∀ k,k≤N→RC m.length cols (q6 m2 m2 p c k):=fun k hk=>d0z hrc2.1 hrc2 hpn k oM
     have hBr:∀ k,k≤N→RC m.length d (q6 m2 b2 p c k):=fun k hk=>d0z hrc2.1 hrb2 hpn k oM
     refine v1g (fn:=Tryz.f126) (n:=N) (nI:=42) (Hc:=bx3 p c) (Hc':=bx3 p c) (fun k=>hR s cols m.length c p q2 t.pv (q6 m2 m2 p c k) (q6 m2 b2 p c k)) (fun k=>(vZ ((q5 m2 p c).getD k 0:Nat),pQ (ent m2 ((q5 m2 p c).getD k 0) c))) (sl:=[(1,.at_ 1 0 1),(2,pvV 1003 (O6 t.pv)),(3,.at_ 3 0 4),(4,.at_ 4 0 1),(5,.at_ 5 0 1)]) hG hX hN G.ro rfl ?_ cl126 Tryz.func126 rfl Tryz.ntmps126 Tryz.results126 dC ⟨L,L⟩ ?_ ?_ ?_ ?_ (fun q h=>h) ?_ ?_ ?_ ?_
     ·exact I3 t5 ⟨rfl,rfl,rfl,rfl,rfl,rfl,rfl,rfl,hbT [_,_,_,_,_,_,_,_] v3 rfl⟩
     ·intro k hk j hj
      rcases f1d hk with rfl | rfl | rfl <;> exact f1m dC dC dC dC dC dC
     ·intro k hk q'
      have h1:=f0g (hMr k oM) (hMr (k+1) oM)
      have h2:=f0g (hBr k oM) (hBr (k+1) oM)
      constructor
      ·intro h
       obtain ⟨B1,hB1⟩:=D1.1 h
       obtain ⟨B0,h0,_⟩:=b1a h1 h2 hB1
       rw [h0]; simp
      ·intro h
       obtain ⟨B1,hB1⟩:=D1.1 h
       obtain ⟨B0,h0,_⟩:=b1a (B0x h1) (B0x h2) hB1
       rw [h0]; simp
     ·intro k hk q' B0 B1 h0 h1
      obtain ⟨B2,h2,h3⟩:=b1a (f0g (hMr k oM) (hMr (k+1) oM)) (f0g (hBr k oM) (hBr (k+1) oM)) h1
      rw [h0] at h2
      injection h2 with h2
      subst h2; exact h3
     ·exact fun k hk=>V1b
     ·intro tt v hv q' hq'
      have hm:(tt,v)∈_:=l8 hv
      simp only [List.mem_cons,List.not_mem_nil,or_false,Prod.mk.injEq] at hm
      have hb:∀ k,(k=1∨k=3∨k=4∨k=5)→(hR s cols m.length c p q2 t.pv (q6 m2 m2 p c 0) (q6 m2 b2 p c 0)).lookup k≠none:=fun k hk=>j0w (by rcases hk with rfl | rfl | rfl | rfl <;> simp [i0])
      rcases hm with ⟨_,rfl⟩ | ⟨_,rfl⟩ | ⟨_,rfl⟩ | ⟨_,rfl⟩ | ⟨_,rfl⟩
      ·obtain rfl:1=q':=by simpa [PV.free] using hq'
       exact hb 1 sM
      ·cases hpv:t.pv with
       | nil=>rw [hpv] at hq'; cases hq'
       | cons a l =>
        rw [hpv] at hq'
        obtain rfl:1003=q':=by simpa [PV.free,O6] using hq'
        exact B8 (by simp [tlP,O6,pvB])
      ·obtain rfl:3=q':=by simpa [PV.free] using hq'
       exact hb 3 sM
      ·obtain rfl:4=q':=by simpa [PV.free] using hq'
       exact hb 4 sM
      ·obtain rfl:5=q':=by simpa [PV.free] using hq'
       exact hb 5 sM
     ·intro l F' XF hro' hY
      have hlen2:m2.length=m.length:=hrc2.1
      have hit:=V0h cols p c N l m2 (bv s m.length) (fun k=>q6 m2 m2 p c k) (fun k=>[(1,⟨73,1,.mix [.at_ 999 0 3]⟩),(3,bQ q2),bxI 4 c,bxI 5 p]++tlP t.pv (R3 s (q6 m2 m2 p c k) (q6 m2 b2 p c k))) (fun k=>(vZ ((q5 m2 p c).getD k 0:Nat),pQ (ent m2 ((q5 m2 p c).getD k 0) c))) (fun k hk=>Q1q) (fun k hk q' B' h=>by
        rw [T1,show ([(1,⟨73,1,.mix [.at_ 999 0 3]⟩),(3,bQ q2),bxI 4 c,bxI 5 p]:List (Nat×Blk)).lookup q'=none from n5 rF (Z4 dC h),l0]
        exact y0d q' B' h) (fun k hk=>(hMr k hk).1.trans hlen2.symm) (fun i' hi'=>q1q hrc2 hpn hi') (fun i' hi'=>by rw [hrc2.get oM]; exact hcc) (fun i' hi'=>by have:=hm2B i' c; unfold ent at this; omega) (by rw [hN2]; exact k1w) (fun i' hi' ho=>by rw [(q1p hi' ho).1]; rfl) oM
      rw [hlen2] at hit
      exact hit F' _ rfl XF hY
     ·intro k hk
      obtain ⟨ix,hix⟩:∃ ix,ix=(q5 m2 p c).getD k 0:=⟨_,rfl⟩
      have hmem:=y8.1 (G8 (show k<(q5 m2 p c).length by omega))
      have hat:=P0v (k:=k) hrc2.1 hrc2 hpn (by omega:k<(q5 m2 p c).length)
      have hatb:=P0v (m:=m2) (c:=c) (k:=k) hrc2.1 hrb2 hpn (by omega:k<(q5 m2 p c).length)
      have hMk:=hMr k oM
      have hBk:=hBr k oM
      have e1:q6 m2 m2 p c (k+1)=C7 (q6 m2 m2 p c k) ix p (ent m2 ix c):=by rw [W9 oM,hix]; rfl
      have e2:q6 m2 b2 p c (k+1)=C7 (q6 m2 b2 p c k) ix p (ent m2 ix c):=by rw [W9 oM,hix]; rfl
      rw [← hix] at hmem hat hatb
      simp only
      rw [e1,e2,← hix]
      obtain ⟨mk,hmk⟩:∃ mk,mk=q6 m2 m2 p c k:=⟨_,rfl⟩
      obtain ⟨bk,hbk⟩:∃ bk,bk=q6 m2 b2 p c k:=⟨_,rfl⟩
      rw [← hmk] at hat hMk ⊢
      rw [← hbk] at hatb hBk ⊢
      have hixn:ix<m.length:=by have:=hrc2.1; omega
      refine ⟨⟨[(10,.at_ 10 0 1),(11,.at_ 11 0 4),(1,.at_ 1 0 1),(2,pvV 1003 (O6 t.pv)),(3,.at_ 3 0 4),(4,.at_ 4 0 1),(5,.at_ 5 0 1)],[bxI 10 ix,bxQ 11 (ent m2 ix c),wV cols m.length (bv s m.length),(1,⟨73,1,.mix [.at_ 999 0 3]⟩),(3,bQ q2),bxI 4 c,bxI 5 p]++tlP t.pv (R3 s mk bk)⟩,fun F' XF=>?_,fun F' XF=>?_⟩
      ·have L:=@lti _ _ (XF.nt.trans G.nt)
       have P0:∀ k,(k == 10 || k == 11)=true→F'.pin k=none:=fun k hk=>XF.p0 k (by simp only [Bool.or_eq_true,beq_iff_eq] at hk; rcases hk with rfl | rfl <;> exact f1m dC dC dC dC dC dC)
       skip
       refine exr (swb (T3 (k:=10) (n:=1) zv3 (.cons rfl .nil) rfl (P0 _ rfl) L) t0 t0 (frT [_,_,_,_,_] (v3 (pv:=t.pv) (s:=s) (m:=mk) (b:=bk)) rfl rfl (by simp [G3,Y2,Cells.free,PV.freeL,PV.free,U3,j3])) ?_)
       refine sb (Z2 sz3 rF (.atom rfl) rfl pu1) t2 t1 ?_
       refine R1 ⟨[(1,_),(2,_),(3,_),(4,_),(5,_),(10,_),(74,_),(75,_)],(1,_) :: (3,_) :: (4,_) :: (5,_) :: (10,_) :: (999,_) :: ((tlP t.pv (R3 s mk bk))),t8,⟨rfl,rfl,rfl,rfl,rfl,rfl,(hbT [_,_,_,_,_,_,_] (v3 (pv:=t.pv) (s:=s) (m:=mk) (b:=bk)) rfl)⟩,?_⟩
       refine J3 (swb (T3 (k:=11) (n:=4) zv47 (.cons rfl (.cons rfl (.cons rfl (.cons rfl .nil)))) rfl (P0 _ rfl) L) t0 t0 (frT [_,_,_,_,_,_] (v3 (pv:=t.pv) (s:=s) (m:=mk) (b:=bk)) rfl rfl (by simp [G3,Y2,Cells.free,PV.freeL,PV.free,U3,j3])) ?_)
       refine sb (Z2 sz47 rF pa4 rfl pu4) t2 t1 ?_
       refine R1 ?_
       exact ⟨rfl,I3 t7 ⟨rfl,rfl,rfl,rfl,rfl,rfl,rfl,hbT [_,_,_,_,_,_,_,_] v3 rfl⟩⟩
      ·have L:=@lti _ _ (XF.nt.trans G.nt)
       have hG:=XF.g
       have hX:=XF.x
       have hN:=XF.ng
       have hb4:=M1p s cols mk bk ix p (ent m2 ix c) (B+(B+1)) (B+(B+1)) (B+(B+1)) (by rw [hMk.1]; exact hixn) (by rw [hMk.1]; exact hpn) hmem.2.1 (by rw [hBk.1,hMk.1]) (by rw [hMk.get hpn,hMk.get hixn]) (by rw [hMk.get hixn]; omega) (fun a ha=>by rw [hat.1] at ha; obtain ⟨j,rfl⟩:=f0q ha; exact hm2B ix j) (fun a ha=>by rw [hat.2] at ha; obtain ⟨j,rfl⟩:=f0q ha; exact hm2B p j) (hm2B ix c) (by rw [hBk.get hpn,hBk.get hixn]) (by rw [hBk.get hixn]; have:=H.dl; omega) (fun a ha=>by rw [hatb.1] at ha; obtain ⟨j,rfl⟩:=f0q ha; exact hb2B ix j) (fun a ha=>by rw [hatb.2] at ha; obtain ⟨j,rfl⟩:=f0q ha; exact hb2B p j) oM
       rw [hMk.1] at hb4
       have hs1:=f0g hMk (hMk.take (q:=ent m2 ix c) hixn hpn)
       have hs2:=f0g hBk (hBk.take (q:=ent m2 ix c) hixn hpn)
       skip
       refine Y1 (D0d (nsw (Z1 ag73 rF rF L) t1 t1 ?_))
       refine nsw (p0x (vs:=[]) (us:=[_,_,_]) rfl rfl L) t3 t0 (nsI hG hX hN [] ([(999,_),(1,_),(3,_),(4,_),(5,_)]++(tlP t.pv (R3 s (C7 mk ix p (ent m2 ix c)) (C7 bk ix p (ent m2 ix c))))) hb4 L (Y4 (ys:=[_,_]) cl92 rfl rfl) t2 (by exact V1d (pre:=[_,_,_,_,_,_,_]) (pre':=[_,_,_,_,_]) (bx:=[bxI 5 p,bxI 10 ix,bxQ 11 (ent m2 ix c),wV cols m.length (bv s m.length)]) hs1 hs2 rfl t4 t5 (by cases s <;> rfl) (by simp [i0]) trivial) (fun q h=>by cases h) rfl ?_)
       refine .nil ?_
       exact ⟨rfl,rfl,rfl,rfl,rfl,rfl,hbT [_,_,_,_,_] v3 rfl⟩
     ·show i4 _ _ _ ⟨_,bx3 p c++(bxs s cols m.length c p q2++tlP t.pv (R3 s (q6 m2 m2 p c N) (q6 m2 b2 p c N)))⟩ _
      obtain ⟨mN,hmN⟩:∃ mN,mN=q6 m2 m2 p c N:=⟨_,rfl⟩
      obtain ⟨bN,hbN⟩:∃ bN,bN=q6 m2 b2 p c N:=⟨_,rfl⟩
      have hst3:ech m b (c+1)=⟨mN,bN,t.pv++[c],q2⟩:=by rw [hst,hst2,k0w,k0w,← hN2,hmN,hbN]
      rw [← hmN,← hbN]
      skip
      refine J3 (mV L rfl (sw (Z1 ag3 rF rF L) t1 t1 ?_))
      refine sw (K4 (vs:=[_]) un27 ti3 rfl rfl dC dC rfl (X2 (.cons rfl .nil) rfl) rfl (.cons rfl (.atom rfl) rfl pu1 .nil) (.cons .nil) L) t1 t0 (swA (H0a (k:=1003) un27 un27 ti3 rfl rfl rfl (by first | (simp [Tryz.t3]; done) | (simp [Tryz.t3]; omega)) sO hpin3 L) t2 ((F1k [_,_,_,_,_,_,_,_] rfl dC)) (Q1g (pre:=[_,_,_,_,_,_,_,_]) rfl (fun e=>by rw [e]; simp [G3,Y2,Cells.free,PV.freeL,PV.free,O6])) ?_)
      refine aV L rfl ?_
      refine R1 (show i4 _ _ _ _ _ from exw (sl:=[(1,_),(2,pvV 1003 (O6 (t.pv++[c]))),(3,_),(4,_)]) (hb:=(1,_) :: (3,_) :: (4,_) :: (999,_) :: ((tlP (t.pv++[c]) (R3 s mN bN)))) ⟨rfl,(by rw [Q0w]; rfl),rfl,rfl,trivial⟩ ⟨(Y0w (pre:=[_,_,_,_,_,_,_,_]) dC rfl),(Y0w (pre:=[_,_,_,_,_,_,_,_]) dC rfl),(Y0w (pre:=[_,_,_,_,_,_,_,_]) dC rfl),(Y0w (pre:=[_,_,_,_,_,_,_,_]) dC rfl),(Q1w (pre:=[_,_,_,_,_,_,_,_]) rfl)⟩ ?_)
      refine U1 (exr (sw (Z1 ag3 rF rF L) t1 t1 ?_))
      refine R1 ⟨[(1,_),(2,_),(3,_),(83,_)],(1,_) :: (3,_) :: (999,_) :: ((tlP (t.pv++[c]) (R3 s mN bN))),t4,⟨rfl,rfl,rfl,(hbT [_,_,_,_] (v3 (pv:=t.pv++[c]) (s:=s) (m:=mN) (b:=bN)) rfl)⟩,?_⟩
      refine J3 (swb (T3 (k:=4) (n:=1) zv3 (.cons rfl .nil) rfl (P0 _ rfl) L) t0 t0 (frT [_,_,_] (v3 (pv:=t.pv++[c]) (s:=s) (m:=mN) (b:=bN)) rfl rfl (by simp [G3,Y2,Cells.free,PV.freeL,PV.free,U3,j3])) ?_)
      refine sb (Z2 sz3 rF (.atom rfl) rfl pu1) t2 t1 ?_
      refine R1 (show i4 _ _ _ _ _ from exw (sl:=[(1,_),(2,_),(3,_),(4,_)]) (hb:=(1,_) :: (3,_) :: (4,_) :: (999,_) :: ((tlP (t.pv++[c]) (R3 s mN bN)))) t4 ⟨rfl,rfl,rfl,rfl,(hbT [_,_,_,_,_] (v3 (pv:=t.pv++[c]) (s:=s) (m:=mN) (b:=bN)) rfl)⟩ ?_)
      refine J3 (sw (Z1 ag3 rF rF L) t1 t1 ?_)
      refine sw (L3 L (w64 oM oM)) t2 t0 (sb (Z2 sz3 rF (.atom rfl) rfl pu1) t2 t1 ?_)
      refine R1 ?_
      exact ⟨(c+1,⟨mN,bN,t.pv++[c],q2⟩),⟨by simp only; omega,hst3.symm⟩,(by simp only; omega),I3 ⟨oR,rfl,rfl,rfl,trivial⟩ ⟨rfl,rfl,rfl,rfl,(hbT [_,_,_,_,_] (v3 (pv:=t.pv++[c]) (s:=s) (m:=mN) (b:=bN)) rfl)⟩⟩
  ·have hp:=df hp
   rw [j8] at hp
   have hfin:ech m b cols=t:=by
    have:=Q0z (m:=m) (b:=b) (c:=c) (by rw [← hs]; omega) (cols - c)
    rw [show c+(cols - c)=cols by omega,← hs] at this; exact this
   rw [hfin]
   refine U2 (xq ?_)
   refine exd rF ?_
   refine mV L rfl (lp4 ag47 sz47 L rfl rfl (aV L rfl (sb (Z2 sz47 rF pa4 rfl pu4) t2 t1 ?_)))
   refine R1 ⟨g0p [⟨[2],[],[84],[]⟩,⟨[3],[3],[85],[]⟩,⟨[84],[],[2],[]⟩,⟨[3,85],[3],[],[3]⟩] (.cons (cf0 rfl) (.cons (cf0 rfl) (.cons (cf0 rfl) (.cons (cf0 rfl)  .nil)))) rfl (frS [] [_,_,_,_] (v3 (pv:=t.pv) (s:=s) (m:=t.m) (b:=t.b)) rfl (by simp [G3,Y2,Cells.free,PV.freeL,PV.free,U3,j3])) dC,[(2,_),(3,_)],(3,_) :: (999,_) :: ((tlP t.pv (R3 s t.m t.b))),t2,⟨rfl,rfl,(hbT [_,_,_,_,_] (v3 (pv:=t.pv) (s:=s) (m:=t.m) (b:=t.b)) rfl)⟩,?_⟩
   refine j5 [1003] (sl:=[(2,.p (.sl t.pv.length (O6 t.pv))),(3,.at_ 3 0 4)]) (hb:=[(3,bQ t.det),wV cols m.length (bv s m.length)]++R3 s t.m t.b) (f0w (by simp [hlo])) ⟨⟨_,rfl,Q1c (pre:=[_,_]) rfl⟩,⟨_,rfl,.same⟩,trivial⟩ (M1g (pre:=[_,_]) rfl t2 rfl) ?_
   refine X1 ?_
   exact ⟨.inr rfl,.cons (.tmp rfl) (.cons (.agg rfl rfl rfl ag47 sz47 (.cons (.cons (.cons (.cons .nil))))) .nil),rfl,hbT [_,_] (H7 s t.m t.b) rfl⟩
 ·refine U1 (exd rF ?_)
  refine sw (Z1 ag3 rF rF L) t1 t1 ?_
  refine sw (Z1 ag73 rF rF L) t1 t1 ?_
  refine sw (i3 rX L) t1 t1 ?_
  refine sw (j2 un79 rfl sz3 dC rX L) t1 t1 ?_
  refine sw (Z1 ag3 rF rF L) t1 t1 ?_
  refine sw (d4 L) t2 t0 (mV L rfl (swn (g:=19) rfl sO L rfl (swn (g:=19) rfl sO L rfl (swn (g:=19) rfl sO L rfl (swn (g:=19) rfl sO L rfl (swn (g:=19) rfl sO L rfl (swn (g:=19) rfl sO L rfl (swn (g:=19) rfl sO L rfl (swn (g:=19) rfl sO L rfl (sw (Y3 sO L) t2 t0 ?_))))))))))
  refine R1 ⟨g0p [⟨[4],[4],[13],[]⟩,⟨[1],[1],[14],[]⟩,⟨[14],[999],[15],[]⟩,⟨[15],[999],[16],[]⟩,⟨[16],[999],[17],[]⟩,⟨[13,17],[],[18],[]⟩,⟨[18],[],[19],[]⟩,⟨[19],[],[20],[]⟩,⟨[19],[],[21],[]⟩,⟨[19],[],[22],[]⟩,⟨[19],[],[23],[]⟩,⟨[19],[],[24],[]⟩,⟨[19],[],[25],[]⟩,⟨[19],[],[26],[]⟩,⟨[19],[],[27],[]⟩,⟨[19],[],[28],[]⟩] (.cons (cf0 rfl) (.cons (cf0 rfl) (.cons (cf0 rfl) (.cons (cf0 rfl) (.cons (cf0 rfl) (.cons (cf0 rfl) (.cons (cf0 rfl) (.cons (cf0 rfl) (.cons (cf0 rfl) (.cons (cf0 rfl) (.cons (cf0 rfl) (.cons (cf0 rfl) (.cons (cf0 rfl) (.cons (cf0 rfl) (.cons (cf0 rfl) (.cons (cf0 rfl)  .nil)))))))))))))))) rfl (frS [] [_,_,_,_] (v3 (pv:=t.pv) (s:=s) (m:=t.m) (b:=t.b)) rfl (by simp [G3,Y2,Cells.free,PV.freeL,PV.free,U3,j3])) dC,[(1,_),(2,_),(3,_),(4,_),(28,_)],(1,_) :: (3,_) :: (4,_) :: (999,_) :: ((tlP t.pv (R3 s t.m t.b))),t5,⟨rfl,rfl,rfl,rfl,(hbT [_,_,_,_] (v3 (pv:=t.pv) (s:=s) (m:=t.m) (b:=t.b)) rfl)⟩,?_⟩
  refine j4 rfl rfl ?_
  have hfin:ech m b cols=t:=by rw [hs,show c=cols by omega]
  rw [hfin]
  refine U2 (xq ?_)
  refine exd rF ?_
  refine mV L rfl (lp4 ag47 sz47 L rfl rfl (aV L rfl (sb (Z2 sz47 rF pa4 rfl pu4) t2 t1 ?_)))
  refine R1 ⟨g0p [⟨[2],[],[84],[]⟩,⟨[3],[3],[85],[]⟩,⟨[84],[],[2],[]⟩,⟨[3,85],[3],[],[3]⟩] (.cons (cf0 rfl) (.cons (cf0 rfl) (.cons (cf0 rfl) (.cons (cf0 rfl)  .nil)))) rfl (frS [] [_,_,_,_] (v3 (pv:=t.pv) (s:=s) (m:=t.m) (b:=t.b)) rfl (by simp [G3,Y2,Cells.free,PV.freeL,PV.free,U3,j3])) dC,[(2,_),(3,_)],(3,_) :: (999,_) :: ((tlP t.pv (R3 s t.m t.b))),t2,⟨rfl,rfl,(hbT [_,_,_,_,_] (v3 (pv:=t.pv) (s:=s) (m:=t.m) (b:=t.b)) rfl)⟩,?_⟩
  refine j5 [1003] (sl:=[(2,.p (.sl t.pv.length (O6 t.pv))),(3,.at_ 3 0 4)]) (hb:=[(3,bQ t.det),wV cols m.length (bv s m.length)]++R3 s t.m t.b) (f0w (by simp [hlo])) ⟨⟨_,rfl,Q1c (pre:=[_,_]) rfl⟩,⟨_,rfl,.same⟩,trivial⟩ (M1g (pre:=[_,_]) rfl t2 rfl) ?_
  refine X1 ?_
  exact ⟨.inr rfl,.cons (.tmp rfl) (.cons (.agg rfl rfl rfl ag47 sz47 (.cons (.cons (.cons (.cons .nil))))) .nil),rfl,hbT [_,_] (H7 s t.m t.b) rfl⟩
end Go.Proofs.YtjagfionflbjbaaGreat.N
set_option maxRecDepth 100000
set_option maxHeartbeats 4000000
namespace Go.Proofs.YtjagfionflbjbaaGreat.SH
open Go Go.RowKit
def rvV (k:Nat):List PV→PV
 | []=>.p (.a (.slice none 0 0))
 | _ :: v=>.ref k 0 (v.length+1) (v.length+1)
def rvB (k:Nat)(e:TypeId):List PV→List (Nat×Blk)
 | []=>[]
 | a :: v=>[(k,⟨e,1,.mix (a :: v)⟩)]
def rvF (k:Nat):List PV→Option Nat
 | []=>some k
 | _ :: _=>none
section
variable {P:Program} {F:Fr} {d:Nat} {T:TypeId} {pos:String} {aft:Array Edge} {g:Option (Nat×Bool)} {t tx:TypeId}
theorem k1n {x y:Operand}{k j:Nat}{e:TypeId}{ie:TypeInfo}{z:Value}{cs:List PV}{u:PV}(hu:P.underlying t=some (.slice e))(hux:P.underlying tx=some (.slice e))(hi:∀ w,(typeInfo e).run P w = .ok ie w)(hz:ie.zero=some z)(hsz:ie.size=1)
  (hzl:z.cells.size=1) (hf:u.free k=true) (hby:2*(cs.length+1)*ie.bytes≤281474976710656) (h63:cs.length+1≤9223372036854775807) (hpk:F.pin k=none) (hlt:d<F.nt) :
  P2 P F ⟨some d,.call ⟨.builtin .append,#[x,y],#[t,tx]⟩,T,pos,aft,g⟩ ⟨[(x,rvV k cs),(y,.ref j 0 1 1)],rvB k e cs++[(j,⟨e,1,.mix [u]⟩)],rvF k cs,[(d,rvV k (cs++[u]))],rvB k e (cs++[u])⟩:=by
 cases cs with
 | nil=>exact G0y (k:=k) (m:=1) (us:=[u]) hu hi hz hsz hzl oM (H1v hux rfl rfl rfl) rfl (.inr rfl) (by simp [PV.freeL,hf]) rfl (by simpa using hby) oM hpk hlt
 | cons a v =>
  have:=D0p (P:=P) (F:=F) (d:=d) (T:=T) (pos:=pos) (aft:=aft) (g:=g) (t:=t) (tx:=tx) (x:=x) (y:=y) (k:=k) (n:=v.length+1) (m:=1) (sz:=1) (cs:=.mix (a :: v)) (us:=[u]) hu hi hz hsz hzl oM rfl sM (H1v (B:=⟨e,1,.mix [u]⟩) (k:=j) (o:=0) hux rfl rfl rfl) rfl .mix rfl (by simpa using hby) (by simpa using h63) hpk hlt
  simpa [rvV,rvB,rvF] using this
theorem k1y {x y:Operand}{k j:Nat}{e:TypeId}{ie:TypeInfo}{z:Value}{cs:List PV}{u:PV}(hu:P.underlying t=some (.slice e))(hux:P.underlying tx=some (.slice e))(hi:∀ w,(typeInfo e).run P w = .ok ie w)(hz:ie.zero=some z)(hsz:ie.size=1)
  (hzl:z.cells.size=1) (hf:u.free k=true) (hby:2*(cs.length+1)*ie.bytes≤281474976710656) (h63:cs.length+1≤9223372036854775807) (hpk:F.pin k=none) (hlt:d<F.nt) :
  P2 P F ⟨some d,.call ⟨.builtin .append,#[x,y],#[t,tx]⟩,T,pos,aft,g⟩ ⟨[(x,rvV k cs),(y,.ref j 0 1 1)],rvB k e cs++[(j,⟨e,1,.mix [u]⟩)],rvF k cs,[(d,.ref k 0 (cs.length+1) (cs.length+1))],[(k,⟨e,1,.mix (cs++[u])⟩)]⟩:=by
 have:=k1n (P:=P) (F:=F) (d:=d) (T:=T) (pos:=pos) (aft:=aft) (g:=g) (x:=x) (y:=y) (j:=j) hu hux hi hz hsz hzl hf hby h63 hpk hlt
 cases cs <;> simpa [rvV,rvB] using this
end
theorem g0y {k q:Nat}{cs:List PV}(h:k≠q):(rvV k cs).free q=true:=by cases cs <;> simp [rvV,PV.free,h]
theorem n1w {k q:Nat}{e:TypeId}{cs:List PV}(h:PV.freeL q cs=true):Y2 q (rvB k e cs)=true:=by
 cases cs with
 | nil=>rfl
 | cons a v=>simp only [rvB,Y2,Cells.free,h]; rfl
theorem D1k {k:Nat}{e:TypeId}{cs:List PV}{u:PV}:rvB k e (cs++[u])=[(k,⟨e,1,.mix (cs++[u])⟩)]:=by cases cs <;> rfl
theorem B1w {k:Nat}{cs:List PV}{u:PV}:rvV k (cs++[u]) = .ref k 0 (cs.length+1) (cs.length+1):=by cases cs <;> simp [rvV]
end Go.Proofs.YtjagfionflbjbaaGreat.SH
namespace Go.Proofs.YtjagfionflbjbaaGreat.N
open Go Go.Proofs.YtjagfionflbjbaaGreat.SH Go.Proofs.YtjagfionflbjbaaGreat.NumA
theorem k0c {s:Nat}:∀ {i:Nat} {a:List (List Rat)} {v:List Rat},P4 s i (a++[v])=P4 s i a++[.ref (F3 s (i+a.length)) 0 v.length (v.length*4)]
 | i,[],v=>rfl
 | i,x :: a,v=>by simp only [M1,P4,k0c (i:=i+1) (a:=a),E1]; rw [show i+1+a.length=i+(a.length+1) by omega]
theorem q0g {s:Nat}:∀ {i:Nat} {a:List (List Rat)} {v:List Rat},J6 s i (a++[v])=J6 s i a++[(F3 s (i+a.length),E4 v)]
 | i,[],v=>rfl
 | i,x :: a,v=>by simp only [M1,J6,q0g (i:=i+1) (a:=a),E1]; rw [show i+1+a.length=i+(a.length+1) by omega]
def w0w (s:Nat)(m:List (List Rat)):List (Nat×Blk):=rvB (s+1001) 40 (P4 s 0 m)++J6 s 0 m
theorem q0b {s:Nat}{m:List (List Rat)}(h:0<m.length):w0w s m=J2 s m:=by
 cases m with
 | nil=>cases h
 | cons v m=>rfl
theorem K0a {s j:Nat}{m:List (List Rat)}(h2:s<9)(h:(w0w s m).lookup j≠none):j=s+1001∨∃ q,q<m.length∧j=F3 s q:=by
 cases m with
 | nil=>exact absurd rfl h
 | cons v m=>exact P5 h2 h
end Go.Proofs.YtjagfionflbjbaaGreat.N
namespace Go.Proofs.YtjagfionflbjbaaGreat.SH
open Go
end Go.Proofs.YtjagfionflbjbaaGreat.SH
namespace Go.Proofs.YtjagfionflbjbaaGreat.SH
open Go Go.RowKit
end Go.Proofs.YtjagfionflbjbaaGreat.SH
namespace Go.Proofs.YtjagfionflbjbaaGreat.SH
open Go Go.RowKit
end Go.Proofs.YtjagfionflbjbaaGreat.SH
namespace Go.Proofs.YtjagfionflbjbaaGreat.SH
open Go Go.RowKit
section
variable {P:Program} {F:Fr} {ops:Array Oper} {sl:List (Nat×PV)} {hb:List (Nat×Blk)} {op:Op} {T:TypeId} {pos:String} {aft:Array Edge} {os:List Oper} {dst:Option Nat} {rs:List (Operand×PV)} {rb:List (Nat×Blk)} {K:St→Prop}
end
end Go.Proofs.YtjagfionflbjbaaGreat.SH
namespace Go.Proofs.YtjagfionflbjbaaGreat.SH
open Go Go.RowKit
end Go.Proofs.YtjagfionflbjbaaGreat.SH
namespace Go.Proofs.YtjagfionflbjbaaGreat.SH
open Go Go.RowKit
end Go.Proofs.YtjagfionflbjbaaGreat.SH
namespace Go.Proofs.YtjagfionflbjbaaGreat.SH
open Go Go.RowKit
section
variable {P:Program} {F:Fr} {Q:Exit→St→Prop} {S:St}
end
section
variable {P:Program} {F:Fr} {d:Nat} {T:TypeId} {pos:String} {aft:Array Edge} {g:Option (Nat×Bool)} {x:Operand} {t xT yT:TypeId} {y:L2} {c:Value} {ms:Array (String×TypeId)} {fs:Array Field}
end
end Go.Proofs.YtjagfionflbjbaaGreat.SH
namespace Go.Proofs.YtjagfionflbjbaaGreat.SH
open Go Go.RowKit
end Go.Proofs.YtjagfionflbjbaaGreat.SH
namespace Go.Proofs.YtjagfionflbjbaaGreat.SH
open Go Go.RowKit
structure Mk (cf:Nat→Nat) (A:Ann) (f:List Nat×List Nat):Prop where
 fr:∀ k,A.fresh=some k→cf k∈f.1
 me:∀ k,A.free k=false→cf k∈f.2
inductive Mks (cf:Nat→Nat):List Ann→List (List Nat×List Nat)→Prop
 | nil:Mks cf [] []
 | cons {A:Ann} {f:List Nat×List Nat} {As:List Ann} {fs:List (List Nat×List Nat)}:Mk cf A f→Mks cf As fs→Mks cf (A :: As) (f :: fs)
theorem F1w {cf:Nat→Nat}{As:List Ann}{fs:List (List Nat×List Nat)}(h:Mks cf As fs):∀ (i:Nat) (A:Ann),As[i]? = some A→∃ f,fs[i]? = some f∧Mk cf A f:=by
 induction h with
 | nil=>intro i A h; simp at h
 | cons hc _ ih =>
  intro i A hA
  cases i with
  | zero =>
    obtain rfl := by simpa using hA
    exact ⟨_,rfl,hc⟩
  | succ i=>simpa using ih i A (by simpa using hA)
theorem D1q {cf:Nat→Nat}{As As':List Ann}{fs fs':List (List Nat×List Nat)}(h:Mks cf As fs)(h':Mks cf As' fs'):Mks cf (As++As') (fs++fs'):=by
 induction h with
 | nil=>exact h'
 | cons hc _ ih=>exact .cons hc ih
theorem k1g {cf:Nat→Nat}{A B:Ann}{a b:List Nat×List Nat}(hA:Mk cf A a)(hB:Mk cf B b)(h1:hit a.1 b.2=false)(h2:hit b.1 a.2=false):q0k A B=true:=by
 simp only [q0k,j0]
 constructor
 ·cases e:A.fresh with
  | none=>rfl
  | some k =>
   cases e2:B.free k with
   | true=>simp [e2]
   | false=>exact absurd (hB.me k e2) (f8.1 h1 _ (hA.fr k e))
 ·cases e:B.fresh with
  | none=>rfl
  | some k =>
   cases e2:A.free k with
   | true=>simp [e2]
   | false=>exact absurd (hA.me k e2) (f8.1 h2 _ (hB.fr k e))
def F1n:List Oper→List (List Nat×List Nat)→List Nat→List (List Nat×List Nat)→Bool
 | [],[],_,_=>true
 | o :: os,b :: fs,ms,done=>((List.range ms.length).all fun i=>(L8 ms o).testBit i || (done[i]?.all fun a=>!hit a.1 b.2 && !hit b.1 a.2)) && F1n os fs (ms++[L8 ms o]) (done++[b])
 | _,_,_,_=>false
theorem B0z {cf cg:Nat→Nat}:∀ (os:List Oper) (As:List Ann) (sks:List Sk) (fs:List (List Nat×List Nat)) (ms:List Nat) (done:List Ann) (dsk:List Sk) (dfs:List (List Nat×List Nat)),V9 cf As sks→V9 cf done dsk→Mks cg As fs→Mks cg done dfs→done.length=ms.length→F1n os fs ms dfs=true→P7 os sks ms dsk=true→K7 os As ms done=true
 | [],[],_,_,_,_,_,_,_,_,_,_,_,_,_=>rfl
 | [],_ :: _,_ :: _,_,_,_,_,_,_,_,_,_,_,_,hh=>by simp [P7] at hh
 | _ :: _,[],[],_,_,_,_,_,_,_,_,_,_,_,hh=>by simp [P7] at hh
 | _ :: _,_ :: _,[],_,_,_,_,_,h,_,_,_,_,_,_=>by cases h
 | _,[],_ :: _,_,_,_,_,_,h,_,_,_,_,_,_=>by cases h
 | [],_ :: _,[],_,_,_,_,_,h,_,_,_,_,_,_=>by cases h
 | _,_ :: _,_,[],_,_,_,_,_,_,h,_,_,_,_=>by cases h
 | o :: os,B :: As,b :: sks,f :: fs,ms,done,dsk,dfs,h,h',g,g',hl,hf,hh=>by
  cases h with
  | cons hB hAs =>
   cases g with
   | cons gB gAs =>
    simp only [P7,j0] at hh
    simp only [F1n,j0] at hf
    obtain ⟨⟨h1,h2⟩,h3⟩:=hh
    simp only [K7,j0]
    refine ⟨⟨h1,?_⟩,B0z os As sks fs _ _ _ _ hAs (J0x h' (.cons hB .nil)) gAs (D1q g' (.cons gB .nil)) (by simp [hl]) hf.2 h3⟩
    rw [s0] at h2 ⊢
    intro i hi
    have hi':i<done.length:=by simpa using hi
    have:=h2 i (by simpa [← hl] using hi')
    have h5:=s0.1 hf.1 i (by simpa [← hl] using hi')
    rw [Bool.or_eq_true] at this h5 ⊢
    rcases this with h | h
    ·exact .inl h
    rcases h5 with h5 | h5
    ·exact .inl h5
    ·refine .inr ?_
     obtain ⟨A,hA⟩:∃ A,done[i]? = some A:=⟨done[i],by simp [hi']⟩
     obtain ⟨sk,hs,hc⟩:=G0r h' i A hA
     obtain ⟨fk,hfs,hfc⟩:=F1w g' i A hA
     rw [hs] at h
     rw [hfs] at h5
     rw [hA]
     simp only [Option.all_some,j0,Bool.not_eq_true'] at h5
     exact B0s hc hB (k1g hfc gB h5.1 h5.2) h
theorem Q1v (cf cg:Nat→Nat){os:List Oper}{As:List Ann}{S:St}(sks:List Sk)(fs:List (List Nat×List Nat))(h1:V9 cf As sks)(g1:Mks cg As fs)(hS:∀ k∈U6 As,S.free k=true)(h2:P7 os sks [] []=true)(h3:F1n os fs [] []=true):(K7 os As [] [] && X5 S As)=true:=by
 rw [B0z os As sks fs [] [] [] [] h1 .nil g1 .nil rfl h3 h2,T9 hS]; rfl
theorem m0z {E:Env}{st:Nat→Bool}{f:FuncId}{xs:List L2}{r:L2}(h:I4 E st f (xs.map .p) [] [] (.p r)):C3 E f xs r:=by
 intro ok w vals hG hrel
 have hv:∀ (xs:List L2) (vals:List Value),I5 ok (hp w) xs vals→B3 (lk []) (fun j=>j) ok (hp w) (xs.map .p) vals:=by
  intro xs
  induction xs with
  | nil=>intro vals h; simpa [I5,B3] using h
  | cons x xs ih =>
   intro vals h
   simp only [I5] at h
   simp only [R0,B3]
   obtain ⟨v,r,h1,h2,h3⟩:=h
   exact ⟨v,r,h1,by simpa [M2] using h2,ih _ h3⟩
 refine Calls.mono (h ok (fun j=>j) w vals hG (fun j B hj=>by cases hj) (fun j j' hj=>absurd rfl hj) (hv xs vals hrel)) fun e w' ⟨v,ρ',he,hp⟩=>?_
 refine ⟨v,he,?_,⟨hp.os,hp.tape,hp.output,hp.size,fun b hb=>hp.frame b hb fun j hj=>absurd rfl hj⟩⟩
 have:=hp.res
 simp only [M2] at this
 exact Rel.mono (fun b hb _=>⟨hb.1,rfl⟩) _ _ this
end Go.Proofs.YtjagfionflbjbaaGreat.SH
set_option maxRecDepth 100000
set_option maxHeartbeats 4000000
namespace Go.Proofs.YtjagfionflbjbaaGreat.N
open Go Go.Proofs.YtjagfionflbjbaaGreat.SH Go.Proofs.YtjagfionflbjbaaGreat.NumA
open Go.Proofs.Tryz renaming call89→cl89,isAgg22→ag22,isAgg3→ag3,isAgg40→ag40,isAgg77→ag77,sizeOf22→sz22,sizeOf3→sz3,sizeOf40→sz40,sizeOf77→sz77,typeInfo40→ti40,underlying22→un22,underlying24→un24,underlying77→un77,underlying79→un79,zeroValue79→zv79
theorem B1q {s:Bool}{n:Nat}:E6 (bv s n) [bv s n]:=by
 cases s
 ·exact .atom rfl
 ·exact .ref
theorem s5 (s:Bool)(b:List (List Rat)):K5 (bsT s b):=by
 cases s
 ·exact ⟨fun _ _=>rfl,List.nodup_nil,fun _ _=>rfl,fun j B hj=>by cases hj⟩
 ·exact D2 dC b
@[reducible] def wU (c:Nat)(m:List (List Rat))(v:PV):Nat×Blk:=(999,⟨79,3,.mix [rvV 1001 (P4 0 0 m),.p (vZ c),v]⟩)
def m5 (s:Bool)(m b:List (List Rat)):List (Nat×Blk):=w0w 0 m++bsT s b
theorem K0d {s:Bool}{m b:List (List Rat)}(h:0<m.length):m5 s m b=R3 s m b:=by rw [m5,q0b h]; rfl
theorem N1c {c:Nat}{m:List (List Rat)}{v:PV}(h:0<m.length):wU c m v=wV c m.length v:=by
 cases m with
 | nil=>cases h
 | cons r m=>simp [wU,wV,rvV,P4]
theorem y6 (s:Bool)(m b:List (List Rat)):K5 (m5 s m b):=by
 cases m with
 | nil=>exact s5 s b
 | cons r m=>rw [K0d sM]; exact H7 s _ b
theorem v1p {s:Bool}{b:List (List Rat)}{k:Nat}(h:(bsT s b).lookup k≠none):k=1002∨∃ q,k=F3 1 q:=by
 cases s
 ·exact absurd rfl h
 ·rcases P5 dC h with h | ⟨q,_,h⟩
  ·exact .inl h
  ·exact .inr ⟨q,h⟩
theorem M0g {s:Bool}{b:List (List Rat)}{k:Nat}(h1:k≠1002)(h2:∀ q,k≠F3 1 q):(bsT s b).lookup k=none:=by
 cases e:(bsT s b).lookup k with
 | none=>rfl
 | some B =>
  rcases v1p (show (bsT s b).lookup k≠none by rw [e]; simp) with h | ⟨q,h⟩
  ·exact absurd h h1
  ·exact absurd h (h2 q)
theorem p1f {s:Bool}{b:List (List Rat)}{k:Nat}(h:∀ q,k≠F3 1 q):Y2 k (bsT s b)=true:=by
 cases s
 ·rfl
 ·have hr:∀ (i:Nat) (m:List (List Rat)),PV.freeL k (P4 1 i m)=true:=by
   intro i m
   induction m generalizing i with
   | nil=>rfl
   | cons v m ih=>simp only [P4,PV.freeL,PV.free,ih,Bool.and_true,bne_iff_ne]; exact fun e=>h i e.symm
  simp only [bsT,if_true,J2,Y2,Cells.free,hr,d0p,Bool.and_self]
theorem m0c {k:Nat}:∀ {i:Nat} {m:List (List Rat)},(∀ q,q<i+m.length→k≠F3 0 q)→PV.freeL k (P4 0 i m)=true
 | _,[],_=>rfl
 | i,v :: m,h=>by
  simp only [P4,PV.freeL,PV.free,j0,bne_iff_ne]
  exact ⟨fun e=>h i sM e.symm,m0c fun q hq=>h q sO⟩
theorem q0r {s:Bool}{m b:List (List Rat)}{k:Nat}(h1:∀ q,q<m.length→k≠F3 0 q)(h2:∀ q,k≠F3 1 q):Y2 k (m5 s m b)=true:=by
 rw [m5,w0w,J4,J4,p1f h2,d0p,n1w (m0c (by simpa using h1))]; rfl
theorem N0n {s:Bool}{m b:List (List Rat)}{k:Nat}(h1:∀ q,q<m.length→k≠F3 0 q)(h2:∀ q,k≠F3 1 q)(h3:k=1001→m=[])(h4:k≠1002):(m5 s m b).lookup k=none:=by
 rw [m5,T1,M0g h4 h2,Option.or_none]
 cases e:(w0w 0 m).lookup k with
 | none=>rfl
 | some B =>
  rcases K0a dC (show (w0w 0 m).lookup k≠none by rw [e]; simp) with h | ⟨q,hq,h⟩
  ·rw [h3 h] at e; cases e
  ·exact absurd h (h1 q hq)
theorem Y0a (i q:Nat):F3 0 i≠F3 1 q:=by unfold F3; omega
theorem y0f {i q:Nat}(h:q<i):F3 0 i≠F3 0 q:=by unfold F3; omega
theorem f1q {k:Nat}{e:TypeId}{cs:List PV}{p:Nat×Blk}(h:p∈rvB k e cs):p.1=k:=by
 cases cs with
 | nil=>cases h
 | cons a l=>obtain rfl:=List.mem_singleton.1 h; rfl
theorem W0c {k q:Nat}{cs:List PV}(h:rvF k cs=some q):q=k∧cs=[]:=by
 cases cs with
 | nil=>injection h with h; exact ⟨h.symm,rfl⟩
 | cons a l=>cases h
theorem B0a {S:St}:∀ {a b:List (Nat×Blk)},B6 S a→B6 S b→B6 S (a++b)
 | [],_,_,h=>h
 | _ :: _,_,h,h'=>⟨h.1,B0a h.2 h'⟩
theorem H0g {k q:Nat}{cs:List PV}(h:(rvV k cs).free q=false):q=k:=by
 cases cs with
 | nil=>cases h
 | cons a l =>
  have h:(k != q)=false:=h
  exact (bne_eq_false_iff_eq.1 h).symm
def cgB (i k:Nat):Nat:=if k=F3 0 i then 2000 else if k<1003 then k else 1003
theorem f1s {i:Nat}:cgB i (F3 0 i)=2000:=by rw [cgB,if_pos rfl]
theorem j0f {i k:Nat}(h:k<1003):cgB i k=k:=by
 have h1:¬ k=F3 0 i:=by unfold F3; omega
 rw [cgB,if_neg h1,if_pos h]
theorem G1r {i q:Nat}:∀ {a:Nat} {m:List (List Rat)},PV.freeL q (P4 0 a m)=false→a+m.length≤i→cgB i q=1003
 | _,[],h,_=>by cases h
 | a,v :: m,h,hl=>by
  simp only [P4,PV.freeL,PV.free,Bool.and_eq_false_iff,bne_eq_false_iff_eq] at h
  simp only [E1] at hl
  rcases h with h | h
  ·subst h
   have h1:¬ F3 0 a=F3 0 i:=by unfold F3; omega
   have h2:¬ F3 0 a<1003:=by unfold F3; omega
   rw [cgB,if_neg h1,if_neg h2]
  ·exact G1r h oM
theorem H8 {k j:Nat}{B:Blk}{l:List (Nat×Blk)}(h:k≠j):List.lookup k ((j,B) :: l)=List.lookup k l:=by rw [i0,show (k == j)=false by simpa using h]
theorem J1s {s:Bool}{sl:List (Nat×PV)}{i:Nat}{m b:List (List Rat)}{v:List Rat}{X Y Z:Blk}(hm:m.length=i) :
  O5 ⟨sl,(999,X) :: ([(1001,⟨40,1,.mix (P4 0 0 m++[.ref (F3 0 i) 0 v.length (v.length*4)])⟩)]++(27,Y) :: (F3 0 i,E4 v) :: ([(999,Z)]++m5 s m b))⟩ (m5 s (m++[v]) b):=by
 have hr:∀ q j,F3 q j≠999∧F3 q j≠1001∧F3 q j≠27:=fun q j=>by unfold F3; omega
 refine o5 (y6 s (m++[v]) b).nd fun k B hk=>?_
 show List.lookup k _=some B
 rw [m5,w0w,k0c,D1k,q0g,hm] at hk
 simp only [M1,List.nil_append,List.append_assoc,G1] at hk ⊢
 by_cases e1:k=1001
 ·subst e1
  rw [H8 dC]
  rw [i0] at hk ⊢
  exact hk
 ·rw [H8 e1,T1] at hk
  have h999:k≠999:=by
   rintro rfl
   have h1:(J6 0 0 m).lookup 999=none:=n0y fun j _=>by have:=(hr 0 (0+j)).1; omega
   rw [h1,l0,H8 (Ne.symm (hr 0 i).1),M0g dC (fun q=>Ne.symm (hr 1 q).1)] at hk; cases hk
  have h27:k≠27:=by
   rintro rfl
   have h1:(J6 0 0 m).lookup 27=none:=n0y fun j _=>by have:=(hr 0 (0+j)).2.2; omega
   rw [h1,l0,H8 (Ne.symm (hr 0 i).2.2),M0g dC (fun q=>Ne.symm (hr 1 q).2.2)] at hk; cases hk
  rw [H8 h999,H8 e1,H8 h27]
  by_cases e2:k=F3 0 i
  ·subst e2
   have h1:(J6 0 0 m).lookup (F3 0 i)=none:=n0y fun j hj=>by rw [G1]; exact y0f oM
   rw [h1,l0,List.lookup_cons_self] at hk
   rw [List.lookup_cons_self]; exact hk
  ·rw [H8 e2,H8 h999,m5,w0w,T1,T1]
   have h2:(rvB (0+1001) 40 (P4 0 0 m)).lookup k=none:=by
    cases e:(rvB (0+1001) 40 (P4 0 0 m)).lookup k with
    | none=>rfl
    | some C=>exact absurd (f1q (M3 e)) oM
   rw [h2,l0]
   rw [H8 e2] at hk
   exact hk
theorem j1n {i d k o t:Nat}{rs:List (Operand×PV)}{rb:List (Nat×Blk)}(hk:k<1003):Mk (cgB i) ⟨rs,rb,none,[(d,.at_ k o t)],[]⟩ ([],[k]):=by
 refine ⟨fun q hq=>(by cases hq),fun q hq=>?_⟩
 simp only [Ann.free,G3,Y2,PV.free,Bool.and_true,bne_eq_false_iff_eq] at hq
 subst hq
 rw [j0f hk]; simp
theorem Q1m {i d:Nat}{rs:List (Operand×PV)}{rb:List (Nat×Blk)}{cs:List PV}:Mk (cgB i) ⟨rs,rb,none,[(d,rvV 1001 cs)],[]⟩ ([],[1001]):=by
 refine ⟨fun q hq=>(by cases hq),fun q hq=>?_⟩
 simp only [Ann.free,G3,Y2,Bool.and_true] at hq
 rw [H0g hq,j0f dC]; simp
theorem mkP {i d:Nat}{rs:List (Operand×PV)}{rb:List (Nat×Blk)}{x:L2}:Mk (cgB i) ⟨rs,rb,none,[(d,.p x)],[]⟩ ([],[]):=by
 refine ⟨fun q hq=>(by cases hq),fun q hq=>?_⟩
 simp [Ann.free,G3,Y2,PV.free] at hq
theorem mkN {i d n t:Nat}{rs:List (Operand×PV)}{rb:List (Nat×Blk)}{T:TypeId}{sz:Nat}{xs:List L2}:Mk (cgB i) ⟨rs,rb,some (F3 0 i),[(d,.ref (F3 0 i) 0 n t)],[(F3 0 i,⟨T,sz,.pure xs⟩)]⟩ ([2000],[2000]):=by
 refine ⟨fun q hq=>(by injection hq with hq; subst hq; rw [f1s]; simp),fun q hq=>?_⟩
 simp only [Ann.free,G3,Y2,PV.free,Cells.free,Bool.and_true,bne_eq_false_iff_eq] at hq
 subst hq
 rw [f1s]; simp
theorem mkS {i d a n t a' n' t':Nat}{rs:List (Operand×PV)}{rb:List (Nat×Blk)}{T:TypeId}{sz:Nat}(ha:a<1000):Mk (cgB i) ⟨rs,rb,some a,[(d,.ref a 0 n t)],[(a,⟨T,sz,.mix [.ref (F3 0 i) a' n' t']⟩)]⟩ ([a],[a,2000]):=by
 refine ⟨fun q hq=>(by injection hq with hq; subst hq; rw [j0f oM]; simp),fun q hq=>?_⟩
 simp only [Ann.free,G3,Y2,PV.free,PV.freeL,Cells.free,Bool.and_true,Bool.and_eq_false_iff,bne_eq_false_iff_eq] at hq
 rcases hq with hq | hq <;> subst hq
 ·rw [j0f oM]; simp
 ·rw [f1s]; simp
theorem mkH {i d n t n' t':Nat}{rs:List (Operand×PV)}{rb:List (Nat×Blk)}{T:TypeId}{sz:Nat}{m:List (List Rat)}(hm:m.length=i):Mk (cgB i) ⟨rs,rb,rvF 1001 (P4 0 0 m),[(d,.ref 1001 0 n t)],[(1001,⟨T,sz,.mix (P4 0 0 m++[.ref (F3 0 i) 0 n' t'])⟩)]⟩ ([1001],[1001,1003,2000]):=by
 have hap:∀ (q:Nat) (l r:List PV),PV.freeL q (l++r)=(PV.freeL q l && PV.freeL q r):=fun q l r=>by
  induction l with
  | nil=>rfl
  | cons x l ih=>simp [PV.freeL,ih,Bool.and_assoc]
 refine ⟨fun q hq=>(by rw [(W0c hq).1,j0f dC]; simp),fun q hq=>?_⟩
 simp only [Ann.free,G3,Y2,PV.free,PV.freeL,Cells.free,hap,Bool.and_true,Bool.and_eq_false_iff,bne_eq_false_iff_eq] at hq
 rcases hq with hq | hq | hq
 ·subst hq; rw [j0f dC]; simp
 ·rw [G1r (i:=i) hq oM]; simp
 ·subst hq; rw [f1s]; simp
theorem mkW {i n t:Nat}{s:Bool}{c:L2}{rs:List (Operand×PV)}{rb:List (Nat×Blk)}{T:TypeId}{sz n':Nat}:Mk (cgB i) ⟨rs,rb,none,[],[(999,⟨T,sz,.mix [.ref 1001 0 n t,.p c,bv s n']⟩)]⟩ ([],[999,1001,1002]):=by
 refine ⟨fun q hq=>(by cases hq),fun q hq=>?_⟩
 simp only [Ann.free,G3,Y2,PV.free,PV.freeL,Cells.free,Bool.and_true,Bool.true_and,Bool.and_eq_false_iff,bne_eq_false_iff_eq] at hq
 rcases hq with hq | hq
 ·subst hq; rw [j0f dC]; simp
 ·have:=PV.only_mem (F1j (s:=s) (n:=n')) hq
  simp only [List.mem_cons,List.not_mem_nil,or_false] at this
  rcases this with rfl | rfl | rfl <;> (rw [j0f dC]; simp)
theorem Q1s {s:Bool}{sl:List (Nat×PV)}{pre:List (Nat×Blk)}{m b:List (List Rat)}(hp:∀ B,(1001,B) ∉ pre):B6 ⟨sl,pre++m5 s m b⟩ (rvB 1001 40 (P4 0 0 m)):=by
 cases m with
 | nil=>trivial
 | cons v m =>
  refine ⟨?_,trivial⟩
  show (pre++_).lookup 1001=_
  rw [T1]
  have:pre.lookup 1001=none:=by
   cases e:pre.lookup 1001 with
   | none=>rfl
   | some B=>exact absurd (M3 e) (hp B)
  rw [this,l0]; rfl
theorem D0x {M:List (List Rat)}{i:Nat}(h:i<M.length):M.take (i+1)=M.take i++[M.getD i []]:=by
 rw [J1]; congr 1; simp [f0,h]
theorem m0n (s:Bool)(n cols:Nat)(M b:List (List Rat))(hM:RC n cols M)(hn:n<1000)(hc:cols<1000):I4 E (fun _=>false) 50 [.p (.agg [vZ cols,.sl n (T5 M)]),bv s n] (bsT s b) ([wU cols M (bv s n)]++m5 s M b) (.at_ 999 0 3):=by
 refine q0n Tryz.func50 rfl Tryz.ntmps50 Tryz.results50 sM fun F G=>?_
 have L:=@lti _ _ G.nt
 have hG:=G.g
 have hX:=G.x
 have hN:=U5 hG
 have P0:∀ k,Nat.blt k 1000=true→F.pin k=none:=fun k hk=>G.p0 k ((s5 s b).low k hk)
 obtain ⟨rfl,hMc⟩:=hM
 refine exr (swb (W3 (k:=989) (n:=2) pa2 rfl rfl (P0 _ rfl) L) t1 t0 (frT [] (s5 s b) rfl rfl (by simp [G3,Y2,Cells.free,PV.freeL,PV.free,U3,j3])) ?_)
 refine aV L rfl ?_
 refine R1 ⟨[(1,_),(2,_)],(989,_) :: ((bsT s b)),t2,⟨rfl,(hbT [_] (s5 s b) rfl)⟩,?_⟩
 refine exr (sw (j2 un24 rfl sz3 dC rX L) t1 t1 ?_)
 refine sw (Z1 ag3 rF rF L) t1 t1 ?_
 refine mV L rfl (sw (h0k (vs:=[_,_]) un79 zv79 (.cons rfl (.cons rfl (.cons rfl .nil))) ((O2.cons sz77 (O2.cons sz3 (O2.cons sz77 O2.nil)))).to rfl (.cons rfl (.atom rfl) rfl (.skip pu1) (.cons rfl B1q rfl (.skip (.skip pu1)) .nil)) L) t2 t0 (swb (W3 (k:=999) (n:=3) .agg rfl (by simp [PV.freeL,PV.free]) (P0 _ rfl) L) t1 t0 (frT [_] (s5 s b) rfl rfl (by simp [G3,Y2,Cells.free,PV.freeL,PV.free,U3,j3])) ?_))
 refine aV L rfl ?_
 refine R1 ⟨[(2,_),(5,_)],(989,_) :: (999,_) :: ((bsT s b)),t2,⟨rfl,rfl,(hbT [_,_] (s5 s b) rfl)⟩,?_⟩
 refine U1 (exr (sw (j2 un24 rfl sz22 dC rX L) t1 t1 ?_))
 refine sw (Z1 ag22 rF rF L) t1 t1 ?_
 refine sw (l3 un22 L) t1 t0 (mV L rfl ?_)
 refine R1 ⟨[(5,_),(14,_),(15,_),(16,_)],(999,_) :: ((bsT s b)),t4,⟨rfl,(hbT [_,_] (s5 s b) rfl)⟩,?_⟩
 refine Y1 ?_
 refine G0k (α:=Nat) (fun i=>[(16,vi (i:Int))]) (fun i=>[(999,(wU cols (M.take i) (bv s M.length)).2)]) (fun i=>(m5 s (M.take i) b)) (fun i=>i≤M.length) (fun i=>M.length - i) (0) (sl:=[(5,_),(14,_),(15,_)]) (hb:=[]) ?_ ⟨oR,rfl,rfl,rfl,trivial⟩ ⟨rfl,(hbT [_] (s5 s b) rfl)⟩ ?_
 ·exact Nat.zero_le _
 intro i hi
 refine exr (sw (d4 L) t2 t0 ?_)
 refine R1 ⟨[(5,_),(14,_),(15,_),(16,_),(17,_)],(999,_) :: ((m5 s (M.take i) b)),t5,⟨rfl,(hbT [_] (y6 s (M.take i) b) rfl)⟩,?_⟩
 refine U1 ?_
 refine E2 rfl (fun hc=>?_) (fun hc=>?_)
 ·have hc2:=dt hc
  have hil:i<M.length:=by omega
  refine V1 (xq ?_)
  refine U1 (Y1 (exr (sw (ixJ un22 sz40 (j:=i) rO oM sM L) t2 t0 ?_)))
  refine sw (C4 ag40 (by rw [R9 hil]) L) t1 t0 ?_
  refine aV L rfl ?_
  refine R1 ⟨[(5,_),(7,_),(14,_),(15,_),(16,_)],(999,_) :: ((m5 s (M.take i) b)),t5,⟨rfl,(hbT [_] (y6 s (M.take i) b) rfl)⟩,?_⟩
  obtain ⟨v,hv⟩:∃ v,v=M.getD i []:=⟨_,rfl⟩
  obtain ⟨cs,hcs⟩:∃ cs,cs=P4 0 0 (M.take i):=⟨_,rfl⟩
  have hvl:v.length=cols:=by rw [hv]; exact hMc _ (j0z hil)
  have htl:(M.take i).length=i:=by rw [J0]; omega
  have hcl:cs.length=i:=by rw [hcs,F2,htl]
  have hts:=D0x hil
  rw [← hv] at hts ⊢
  have hcs2:P4 0 0 (M.take (i+1))=cs++[.ref (F3 0 i) 0 v.length (v.length*4)]:=by rw [hts,k0c,← hcs,htl,G1]
  have hp1:F.pin 1001=none:=G.ps _ rfl
  have hp2:F.pin (F3 0 i)=none:=G.ps _ rfl
  show i4 _ _ _ ⟨_,[(999,⟨79,3,.mix [rvV 1001 (P4 0 0 (M.take i)),.p (vZ cols),bv s M.length]⟩)]++m5 s (M.take i) b⟩ _
  rw [← hcs]
  have nf:∀ k,k<1001→Y2 k (m5 s (M.take i) b)=true:=fun k hk=>q0r (fun q _=>by simp only [F3]; omega) (fun q=>by simp only [F3]; omega)
  have nfi:Y2 (F3 0 i) (m5 s (M.take i) b)=true:=q0r (fun q hq=>y0f oM) (fun q=>Y0a i q)
  have nli:(m5 s (M.take i) b).lookup (F3 0 i)=none:=N0n (fun q hq=>y0f oM) (fun q=>Y0a i q) (fun h=>by simp only [F3] at h; omega) (by simp only [F3]; omega)
  have nf1:Y2 1001 (m5 s (M.take i) b)=true:=q0r (fun q _=>by unfold F3; omega) (fun q=>by unfold F3; omega)
  have nl:∀ k,k<1000→(m5 s (M.take i) b).lookup k=none:=fun k hk=>(y6 s (M.take i) b).low k (by simpa [Nat.blt_eq] using hk)
  have h27:F3 0 i≠27∧F3 0 i≠999∧F3 0 i≠1001∧F3 0 i≠1002:=by simp only [F3]; omega
  refine h0b rF ?_
  refine mV L rfl (mV L rfl (sw (i3 rX L) t1 t1 ?_))
  refine sw (j2 un79 rfl sz77 dC rX L) t1 t1 ?_
  refine sw (Z1 ag77 rF rF L) t1 t1 ?_
  refine mV L rfl ?_
  refine swb (b1b (k:=F3 0 i) hG hX cl89 rfl hN (P0x v oM) hp2 L) t1 t0 ⟨?_,?_⟩ ?_
  ·show ([(999,_)]++m5 s (M.take i) b).lookup (F3 0 i)=none
   rw [T1,i0,show (F3 0 i == 999)=false by simpa using h27.2.1]; exact nli
  ·show (G3 (F3 0 i) _ && Y2 (F3 0 i) ([(999,_)]++m5 s (M.take i) b))=true
   have hcf:PV.freeL (F3 0 i) cs=true:=by rw [hcs]; exact m0c fun q hq=>y0f oM
   rw [J4,nfi]
   simp [G3,Y2,Cells.free,PV.freeL,PV.free,g0y (cs:=cs) (Ne.symm h27.2.2.1),K0x (s:=s) (n:=M.length) (Ne.symm h27.2.2.2),Ne.symm h27.2.1]
  refine swb (P1x (k:=27) (vs:=[_]) un77 ti40 rfl rfl dC dC rfl (X2 (.cons rfl .nil) rfl) rfl (.cons rfl .ref rfl pu1 .nil) rfl (by simp [PV.freeL,PV.free,h27.1]; rfl) (P0 _ rfl) L) t1 t0 ⟨?_,?_⟩ ?_
  ·show (List.lookup 27 ((F3 0 i,_) :: ([(999,_)]++m5 s (M.take i) b)))=none
   rw [i0,show (27 == F3 0 i)=false by simpa using Ne.symm h27.1,T1,i0]; exact nl 27 dC
  ·show (G3 27 _ && Y2 27 ((F3 0 i,_) :: ([(999,_)]++m5 s (M.take i) b)))=true
   simp only [Y2,J4,nf 27 dC]
   simp [G3,Cells.free,PV.freeL,PV.free,g0y (k:=1001) (q:=27) (cs:=cs) dC,h27.1]
  refine swA (k1y (k:=1001) (j:=27) (cs:=cs) (u:=.ref (F3 0 i) 0 v.length (v.length*4)) un77 un77 ti40 rfl rfl rfl (by simp [PV.free,h27.2.2.1]) (by simp [Tryz.t40]; omega) oM hp1 L) t2 ?_ ?_ ?_
  ·refine B0a ?_ t1
   rw [hcs]
   exact Q1s (pre:=[_,_,_]) (fun B hB=>by simp [Ne.symm h27.2.2.1] at hB)
  ·cases hcs0:cs with
   | cons a l=>trivial
   | nil =>
    have hM0:M.take i=[]:=List.length_eq_zero_iff.1 (by rw [htl,← hcl,hcs0]; rfl)
    refine ⟨?_,?_⟩
    ·show (List.lookup 1001 ((27,_) :: (F3 0 i,_) :: ([(999,_)]++m5 s (M.take i) b)))=none
     rw [H8 dC,H8 (Ne.symm h27.2.2.1),T1,H8 dC]
     exact N0n (fun q _=>by unfold F3; omega) (fun q=>by unfold F3; omega) (fun _=>hM0) dC
    ·show (G3 1001 _ && Y2 1001 ((27,_) :: (F3 0 i,_) :: ([(999,_)]++m5 s (M.take i) b)))=true
     simp only [Y2,J4,nf1]
     simp [G3,Cells.free,PV.freeL,PV.free,rvV,h27.2.2.1,n1q]
  refine sw (i3 rX L) t1 t1 ?_
  refine sw (j2 un79 rfl sz77 dC rX L) t1 t1 ?_
  refine sb (Z2 sz77 rF .ref rfl pu1) t2 t1 ?_
  refine R1 ⟨Q1v cls (cgB i) [⟨[5],[],[20],[]⟩,⟨[5],[],[21],[]⟩,⟨[21],[999],[22],[]⟩,⟨[22],[999],[23],[]⟩,⟨[23],[999],[24],[]⟩,⟨[7],[],[25],[]⟩,⟨[25],[],[26],[1000]⟩,⟨[26],[],[27],[27]⟩,⟨[24,27],[1000,27],[28],[1000]⟩,⟨[20],[999],[29],[]⟩,⟨[29],[999],[30],[]⟩,⟨[30,28],[999],[],[999]⟩] [([],[999]),([],[999]),([],[999]),([],[999]),([],[1001]),([],[]),([2000],[2000]),([27],[27,2000]),([1001],[1001,1003,2000]),([],[999]),([],[999]),([],[999,1001,1002])] (.cons (cf0 rfl) (.cons (cf0 rfl) (.cons (cf0 rfl) (.cons (cf0 rfl) (.cons (cf0 rfl) (.cons (cf0 rfl) (.cons ?_ (.cons (cf0 rfl) (.cons ?_ (.cons (cf0 rfl) (.cons (cf0 rfl) (.cons (cf0 rfl) .nil)))))))))))) (.cons ?_ (.cons ?_ (.cons ?_ (.cons ?_ (.cons ?_ (.cons ?_ (.cons ?_ (.cons ?_ (.cons ?_ (.cons ?_ (.cons ?_ (.cons ?_ .nil)))))))))))) ?_ dC dC,(show i4 _ _ _ _ _ from exw (sl:=[(5,_),(14,_),(15,_),(16,_)]) (hb:=(wU cols (M.take (i+1)) (bv s M.length)) :: (m5 s (M.take (i+1)) b)) t4 ⟨?_,?_⟩ ?_)⟩
  ·exact ⟨fun k hk=>(by injection hk with hk; subst hk; simp),rfl,fun _ h=>(by cases h),rfl,J8 (D5 0 i)⟩
  ·refine ⟨fun k hk=>by rw [(W0c hk).1]; rfl,rfl,fun p hp=>?_,rfl,J8 dC⟩
   rcases List.mem_append.1 hp with hp | hp
   ·rw [f1q hp]; decide
   ·obtain rfl:=List.mem_singleton.1 hp
    show cls 27∈[1000,27]
    decide
  ·exact j1n dC
  ·exact j1n dC
  ·exact j1n dC
  ·exact j1n dC
  ·exact Q1m
  ·exact mkP
  ·exact mkN
  ·exact mkS dC
  ·rw [hcs]; exact mkH htl
  ·exact j1n dC
  ·exact j1n dC
  ·exact mkW
  ·intro k hk
   show (G3 k _ && Y2 k ([(999,_)]++m5 s (M.take i) b))=true
   simp only [U6,Option.toList_none,Option.toList_some,List.nil_append,List.append_nil,List.mem_append,List.mem_singleton,Option.mem_toList] at hk
   rw [J4]
   rcases hk with rfl | rfl | hk
   ·rw [nfi]; simp [G3,Y2,Cells.free,PV.freeL,PV.free,g0y (cs:=cs) (Ne.symm h27.2.2.1),K0x (s:=s) (n:=M.length) (Ne.symm h27.2.2.2),Ne.symm h27.2.1]
   ·rw [nf 27 dC]; simp [G3,Y2,Cells.free,PV.freeL,PV.free,g0y (k:=1001) (q:=27) (cs:=cs) dC]
   ·obtain ⟨rfl,h0⟩:=W0c hk
    rw [nf1,h0]; simp [G3,Y2,Cells.free,PV.freeL,PV.free,rvV]
  ·rw [hcs2,B1w]; rfl
  ·rw [hts,hcs]; exact J1s htl
  refine J3 (sw (L3 L (w64 oM oM)) t2 t0 (mV L rfl (R1 ?_)))
  exact ⟨i+1,oM,by omega,I3 ⟨oR,rfl,rfl,rfl,trivial⟩ ⟨rfl,(hbT [_] (y6 s (M.take (i+1)) b) rfl)⟩⟩
 ·have hc2:=df hc
  have e:i=M.length:=by omega
  subst e
  rw [I0]
  refine U2 (xq ?_)
  refine exr (mV L rfl (aV L rfl ?_))
  refine R1 ⟨[(4,_)],(999,_) :: ((m5 s M b)),t1,⟨rfl,(hbT [_] (y6 s M b) rfl)⟩,?_⟩
  refine X1 ?_
  refine ⟨.inr rfl,rfl,⟨rfl,hbT [_] (y6 s M b) rfl⟩⟩
end Go.Proofs.YtjagfionflbjbaaGreat.N
