/- Part E of the proof: lemmas for the walks of the given functions. No statement of its own. -/
import Derived.RecoverIn
import Derived.LaidEql
import Derived.Test.YtjagfionflbjbaaGreatPD
set_option linter.unusedVariables false
set_option linter.unusedSimpArgs false
set_option linter.deprecated false
namespace Go.Proofs.YtjagfionflbjbaaGreat.SH
open Go Go.RowKit
section
variable {P:Program} {F:Fr} {ops:Array Oper} {sl:List (Nat×PV)} {hb:List (Nat×Blk)} {op:Op} {T:TypeId} {pos:String} {aft:Array Edge} {os:List Oper} {dst:Option Nat} {rs:List (Operand×PV)} {rb:List (Nat×Blk)} {K:St→Prop}
end
end Go.Proofs.YtjagfionflbjbaaGreat.SH
namespace Go.Proofs.YtjagfionflbjbaaGreat.SH
open Go Go.RowKit
end Go.Proofs.YtjagfionflbjbaaGreat.SH
namespace Go.Proofs.YtjagfionflbjbaaGreat.SH
open Go Go.RowKit
end Go.Proofs.YtjagfionflbjbaaGreat.SH
namespace Go.Proofs.YtjagfionflbjbaaGreat.SH
open Go Go.RowKit
section
variable {P:Program} {F:Fr} {Q:Exit→St→Prop} {S:St}
end
section
variable {P:Program} {F:Fr} {d:Nat} {T:TypeId} {pos:String} {aft:Array Edge} {g:Option (Nat×Bool)} {x:Operand} {t xT yT:TypeId} {y:O2} {c:Value} {ms:Array (String×TypeId)} {fs:Array Field}
end
end Go.Proofs.YtjagfionflbjbaaGreat.SH
namespace Go.Proofs.YtjagfionflbjbaaGreat.SH
open Go Go.RowKit
end Go.Proofs.YtjagfionflbjbaaGreat.SH
namespace Go.Proofs.YtjagfionflbjbaaGreat.SH
open Go Go.RowKit
structure Mk (cf:Nat→Nat) (A:Ann) (f:List Nat×List Nat):Prop where
 fr:∀ k,A.fresh=some k→cf k∈f.1
 me:∀ k,A.free k=false→cf k∈f.2
inductive Mks (cf:Nat→Nat):List Ann→List (List Nat×List Nat)→Prop
 | nil:Mks cf [] []
 | cons {A:Ann} {f:List Nat×List Nat} {As:List Ann} {fs:List (List Nat×List Nat)}:Mk cf A f→Mks cf As fs→Mks cf (A :: As) (f :: fs)
theorem K1q {cf:Nat→Nat}{As:List Ann}{fs:List (List Nat×List Nat)}(h:Mks cf As fs):∀ (i:Nat) (A:Ann),As[i]? = some A→∃ f,fs[i]? = some f∧Mk cf A f:=by
 induction h with
 | nil=>intro i A h; simp at h
 | cons hc _ ih =>
  intro i A hA
  cases i with
  | zero =>
    obtain rfl := by simpa using hA
    exact ⟨_,rfl,hc⟩
  | succ i=>simpa using ih i A (by simpa using hA)
theorem K1h {cf:Nat→Nat}{As As':List Ann}{fs fs':List (List Nat×List Nat)}(h:Mks cf As fs)(h':Mks cf As' fs'):Mks cf (As++As') (fs++fs'):=by
 induction h with
 | nil=>exact h'
 | cons hc _ ih=>exact .cons hc ih
theorem n1k {cf:Nat→Nat}{A B:Ann}{a b:List Nat×List Nat}(hA:Mk cf A a)(hB:Mk cf B b)(h1:hit a.1 b.2=false)(h2:hit b.1 a.2=false):w0m A B=true:=by
 simp only [w0m,j0]
 constructor
 ·cases e:A.fresh with
  | none=>rfl
  | some k =>
   cases e2:B.free k with
   | true=>simp [e2]
   | false=>exact absurd (hB.me k e2) (K8.1 h1 _ (hA.fr k e))
 ·cases e:B.fresh with
  | none=>rfl
  | some k =>
   cases e2:A.free k with
   | true=>simp [e2]
   | false=>exact absurd (hA.me k e2) (K8.1 h2 _ (hB.fr k e))
def J1w:List Oper→List (List Nat×List Nat)→List Nat→List (List Nat×List Nat)→Bool
 | [],[],_,_=>true
 | o :: os,b :: fs,ms,done=>((List.range ms.length).all fun i=>(o9 ms o).testBit i || (done[i]?.all fun a=>!hit a.1 b.2 && !hit b.1 a.2)) && J1w os fs (ms++[o9 ms o]) (done++[b])
 | _,_,_,_=>false
theorem F0b {cf cg:Nat→Nat}:∀ (os:List Oper) (As:List Ann) (sks:List Sk) (fs:List (List Nat×List Nat)) (ms:List Nat) (done:List Ann) (dsk:List Sk) (dfs:List (List Nat×List Nat)),b0j cf As sks→b0j cf done dsk→Mks cg As fs→Mks cg done dfs→done.length=ms.length→J1w os fs ms dfs=true→g8 os sks ms dsk=true→d8 os As ms done=true
 | [],[],_,_,_,_,_,_,_,_,_,_,_,_,_=>rfl
 | [],_ :: _,_ :: _,_,_,_,_,_,_,_,_,_,_,_,hh=>by simp [g8] at hh
 | _ :: _,[],[],_,_,_,_,_,_,_,_,_,_,_,hh=>by simp [g8] at hh
 | _ :: _,_ :: _,[],_,_,_,_,_,h,_,_,_,_,_,_=>by cases h
 | _,[],_ :: _,_,_,_,_,_,h,_,_,_,_,_,_=>by cases h
 | [],_ :: _,[],_,_,_,_,_,h,_,_,_,_,_,_=>by cases h
 | _,_ :: _,_,[],_,_,_,_,_,_,h,_,_,_,_=>by cases h
 | o :: os,B :: As,b :: sks,f :: fs,ms,done,dsk,dfs,h,h',g,g',hl,hf,hh=>by
  cases h with
  | cons hB hAs =>
   cases g with
   | cons gB gAs =>
    simp only [g8,j0] at hh
    simp only [J1w,j0] at hf
    obtain ⟨⟨h1,h2⟩,h3⟩:=hh
    simp only [d8,j0]
    refine ⟨⟨h1,?_⟩,F0b os As sks fs _ _ _ _ hAs (K0q h' (.cons hB .nil)) gAs (K1h g' (.cons gB .nil)) (by simp [hl]) hf.2 h3⟩
    rw [s0] at h2 ⊢
    intro i hi
    have hi':i<done.length:=by simpa using hi
    have:=h2 i (by simpa [← hl] using hi')
    have h5:=s0.1 hf.1 i (by simpa [← hl] using hi')
    rw [Bool.or_eq_true] at this h5 ⊢
    rcases this with h | h
    ·exact .inl h
    rcases h5 with h5 | h5
    ·exact .inl h5
    ·refine .inr ?_
     obtain ⟨A,hA⟩:∃ A,done[i]? = some A:=⟨done[i],by simp [hi']⟩
     obtain ⟨sk,hs,hc⟩:=P0d h' i A hA
     obtain ⟨fk,hfs,hfc⟩:=K1q g' i A hA
     rw [hs] at h
     rw [hfs] at h5
     rw [hA]
     simp only [Option.all_some,j0,Bool.not_eq_true'] at h5
     exact H0f hc hB (n1k hfc gB h5.1 h5.2) h
theorem d2q (cf cg:Nat→Nat){os:List Oper}{As:List Ann}{S:St}(sks:List Sk)(fs:List (List Nat×List Nat))(h1:b0j cf As sks)(g1:Mks cg As fs)(hS:∀ k∈n7 As,S.free k=true)(h2:g8 os sks [] []=true)(h3:J1w os fs [] []=true):(d8 os As [] [] && d6 S As)=true:=by
 rw [F0b os As sks fs [] [] [] [] h1 .nil g1 .nil rfl h3 h2,b0n hS]; rfl
theorem q0w {E:Env}{st:Nat→Bool}{f:FuncId}{xs:List O2}{r:O2}(h:T4 E st f (xs.map .p) [] [] (.p r)):y3 E f xs r:=by
 intro ok w vals hG hrel
 have hv:∀ (xs:List O2) (vals:List Value),L5 ok (hp w) xs vals→G3 (lk []) (fun j=>j) ok (hp w) (xs.map .p) vals:=by
  intro xs
  induction xs with
  | nil=>intro vals h; simpa [L5,G3] using h
  | cons x xs ih =>
   intro vals h
   simp only [L5] at h
   simp only [R0,G3]
   obtain ⟨v,r,h1,h2,h3⟩:=h
   exact ⟨v,r,h1,by simpa [P2] using h2,ih _ h3⟩
 refine Calls.mono (h ok (fun j=>j) w vals hG (fun j B hj=>by cases hj) (fun j j' hj=>absurd rfl hj) (hv xs vals hrel)) fun e w' ⟨v,ρ',he,hp⟩=>?_
 refine ⟨v,he,?_,⟨hp.os,hp.tape,hp.output,hp.size,fun b hb=>hp.frame b hb fun j hj=>absurd rfl hj⟩⟩
 have:=hp.res
 simp only [P2] at this
 exact Rel.mono (fun b hb _=>⟨hb.1,rfl⟩) _ _ this
end Go.Proofs.YtjagfionflbjbaaGreat.SH
set_option maxRecDepth 100000
set_option maxHeartbeats 4000000
namespace Go.Proofs.YtjagfionflbjbaaGreat.N
open Go Go.Proofs.YtjagfionflbjbaaGreat.SH Go.Proofs.YtjagfionflbjbaaGreat.NumA
open Go.Proofs.Tryz renaming call55→cl55,call89→cl89,isAgg22→ag22,isAgg3→ag3,isAgg40→ag40,isAgg47→ag47,isAgg73→ag73,isAgg77→ag77,sizeOf22→sz22,sizeOf3→sz3,sizeOf40→sz40,sizeOf47→sz47,sizeOf77→sz77,typeInfo40→ti40,underlying22→un22,underlying24→un24,underlying27→un27,underlying77→un77,underlying79→un79,zeroValue3→zv3,zeroValue47→zv47,zeroValue79→zv79
theorem M1h {s:Bool}{n:Nat}:W6 (bv s n) [bv s n]:=by
 cases s
 ·exact .atom rfl
 ·exact .ref
theorem D5 (s:Bool)(b:List (List Rat)):R5 (bsT s b):=by
 cases s
 ·exact ⟨fun _ _=>rfl,List.nodup_nil,fun _ _=>rfl,fun j B hj=>by cases hj⟩
 ·exact E2 dC b
@[reducible] def wU (c:Nat)(m:List (List Rat))(v:PV):Nat×Blk:=(999,⟨79,3,.mix [rvV 1001 (Y4 0 0 m),.p (vZ c),v]⟩)
def v5 (s:Bool)(m b:List (List Rat)):List (Nat×Blk):=B0x 0 m++bsT s b
theorem V0h {s:Bool}{m b:List (List Rat)}(h:0<m.length):v5 s m b=i4 s m b:=by rw [v5,v0z h]; rfl
theorem b2y {c:Nat}{m:List (List Rat)}{v:PV}(h:0<m.length):wU c m v=wV c m.length v:=by
 cases m with
 | nil=>cases h
 | cons r m=>simp [wU,wV,rvV,Y4]
theorem M6 (s:Bool)(m b:List (List Rat)):R5 (v5 s m b):=by
 cases m with
 | nil=>exact D5 s b
 | cons r m=>rw [V0h sM]; exact Y7 s _ b
theorem B1w {s:Bool}{b:List (List Rat)}{k:Nat}(h:(bsT s b).lookup k≠none):k=1002∨∃ q,k=K3 1 q:=by
 cases s
 ·exact absurd rfl h
 ·rcases V5 dC h with h | ⟨q,_,h⟩
  ·exact .inl h
  ·exact .inr ⟨q,h⟩
theorem V0q {s:Bool}{b:List (List Rat)}{k:Nat}(h1:k≠1002)(h2:∀ q,k≠K3 1 q):(bsT s b).lookup k=none:=by
 cases e:(bsT s b).lookup k with
 | none=>rfl
 | some B =>
  rcases B1w (show (bsT s b).lookup k≠none by rw [e]; simp) with h | ⟨q,h⟩
  ·exact absurd h h1
  ·exact absurd h (h2 q)
theorem B1f {s:Bool}{b:List (List Rat)}{k:Nat}(h:∀ q,k≠K3 1 q):Y2 k (bsT s b)=true:=by
 cases s
 ·rfl
 ·have hr:∀ (i:Nat) (m:List (List Rat)),PV.freeL k (Y4 1 i m)=true:=by
   intro i m
   induction m generalizing i with
   | nil=>rfl
   | cons v m ih=>simp only [Y4,PV.freeL,PV.free,ih,Bool.and_true,bne_iff_ne]; exact fun e=>h i e.symm
  simp only [bsT,if_true,J2,Y2,Cells.free,hr,f0q,Bool.and_self]
theorem n0x {k:Nat}:∀ {i:Nat} {m:List (List Rat)},(∀ q,q<i+m.length→k≠K3 0 q)→PV.freeL k (Y4 0 i m)=true
 | _,[],_=>rfl
 | i,v :: m,h=>by
  simp only [Y4,PV.freeL,PV.free,j0,bne_iff_ne]
  exact ⟨fun e=>h i sM e.symm,n0x fun q hq=>h q sO⟩
theorem y0a {s:Bool}{m b:List (List Rat)}{k:Nat}(h1:∀ q,q<m.length→k≠K3 0 q)(h2:∀ q,k≠K3 1 q):Y2 k (v5 s m b)=true:=by
 rw [v5,B0x,U4,U4,B1f h2,f0q,y1c (n0x (by simpa using h1))]; rfl
theorem Y0x {s:Bool}{m b:List (List Rat)}{k:Nat}(h1:∀ q,q<m.length→k≠K3 0 q)(h2:∀ q,k≠K3 1 q)(h3:k=1001→m=[])(h4:k≠1002):(v5 s m b).lookup k=none:=by
 rw [v5,U1,V0q h4 h2,Option.or_none]
 cases e:(B0x 0 m).lookup k with
 | none=>rfl
 | some B =>
  rcases P0f dC (show (B0x 0 m).lookup k≠none by rw [e]; simp) with h | ⟨q,hq,h⟩
  ·rw [h3 h] at e; cases e
  ·exact absurd h (h1 q hq)
theorem f1s (i q:Nat):K3 0 i≠K3 1 q:=by unfold K3; omega
theorem D0w {i q:Nat}(h:q<i):K3 0 i≠K3 0 q:=by unfold K3; omega
theorem k1k {k:Nat}{e:TypeId}{cs:List PV}{p:Nat×Blk}(h:p∈rvB k e cs):p.1=k:=by
 cases cs with
 | nil=>cases h
 | cons a l=>obtain rfl:=List.mem_singleton.1 h; rfl
theorem g1w {k q:Nat}{cs:List PV}(h:rvF k cs=some q):q=k∧cs=[]:=by
 cases cs with
 | nil=>injection h with h; exact ⟨h.symm,rfl⟩
 | cons a l=>cases h
theorem G0k {S:St}:∀ {a b:List (Nat×Blk)},P6 S a→P6 S b→P6 S (a++b)
 | [],_,_,h=>h
 | _ :: _,_,h,h'=>⟨h.1,G0k h.2 h'⟩
theorem M0a {k q:Nat}{cs:List PV}(h:(rvV k cs).free q=false):q=k:=by
 cases cs with
 | nil=>cases h
 | cons a l =>
  have h:(k != q)=false:=h
  exact (bne_eq_false_iff_eq.1 h).symm
def cgB (i k:Nat):Nat:=if k=K3 0 i then 2000 else if k<1003 then k else 1003
theorem m1d {i:Nat}:cgB i (K3 0 i)=2000:=by rw [cgB,if_pos rfl]
theorem k0f {i k:Nat}(h:k<1003):cgB i k=k:=by
 have h1:¬ k=K3 0 i:=by unfold K3; omega
 rw [cgB,if_neg h1,if_pos h]
theorem N1w {i q:Nat}:∀ {a:Nat} {m:List (List Rat)},PV.freeL q (Y4 0 a m)=false→a+m.length≤i→cgB i q=1003
 | _,[],h,_=>by cases h
 | a,v :: m,h,hl=>by
  simp only [Y4,PV.freeL,PV.free,Bool.and_eq_false_iff,bne_eq_false_iff_eq] at h
  simp only [E1] at hl
  rcases h with h | h
  ·subst h
   have h1:¬ K3 0 a=K3 0 i:=by unfold K3; omega
   have h2:¬ K3 0 a<1003:=by unfold K3; omega
   rw [cgB,if_neg h1,if_neg h2]
  ·exact N1w h oM
theorem Y8 {k j:Nat}{B:Blk}{l:List (Nat×Blk)}(h:k≠j):List.lookup k ((j,B) :: l)=List.lookup k l:=by rw [i0,show (k == j)=false by simpa using h]
theorem W1b {s:Bool}{sl:List (Nat×PV)}{i:Nat}{m b:List (List Rat)}{v:List Rat}{X Y Z:Blk}(hm:m.length=i) :
  O5 ⟨sl,(999,X) :: ([(1001,⟨40,1,.mix (Y4 0 0 m++[.ref (K3 0 i) 0 v.length (v.length*4)])⟩)]++(27,Y) :: (K3 0 i,j4 v) :: ([(999,Z)]++v5 s m b))⟩ (v5 s (m++[v]) b):=by
 have hr:∀ q j,K3 q j≠999∧K3 q j≠1001∧K3 q j≠27:=fun q j=>by unfold K3; omega
 refine C5 (M6 s (m++[v]) b).nd fun k B hk=>?_
 show List.lookup k _=some B
 rw [v5,B0x,k0y,J1x,w0w,hm] at hk
 simp only [M1,List.nil_append,List.append_assoc,G1] at hk ⊢
 by_cases e1:k=1001
 ·subst e1
  rw [Y8 dC]
  rw [i0] at hk ⊢
  exact hk
 ·rw [Y8 e1,U1] at hk
  have h999:k≠999:=by
   rintro rfl
   have h1:(e7 0 0 m).lookup 999=none:=q0p fun j _=>by have:=(hr 0 (0+j)).1; omega
   rw [h1,l0,Y8 (Ne.symm (hr 0 i).1),V0q dC (fun q=>Ne.symm (hr 1 q).1)] at hk; cases hk
  have h27:k≠27:=by
   rintro rfl
   have h1:(e7 0 0 m).lookup 27=none:=q0p fun j _=>by have:=(hr 0 (0+j)).2.2; omega
   rw [h1,l0,Y8 (Ne.symm (hr 0 i).2.2),V0q dC (fun q=>Ne.symm (hr 1 q).2.2)] at hk; cases hk
  rw [Y8 h999,Y8 e1,Y8 h27]
  by_cases e2:k=K3 0 i
  ·subst e2
   have h1:(e7 0 0 m).lookup (K3 0 i)=none:=q0p fun j hj=>by rw [G1]; exact D0w oM
   rw [h1,l0,List.lookup_cons_self] at hk
   rw [List.lookup_cons_self]; exact hk
  ·rw [Y8 e2,Y8 h999,v5,B0x,U1,U1]
   have h2:(rvB (0+1001) 40 (Y4 0 0 m)).lookup k=none:=by
    cases e:(rvB (0+1001) 40 (Y4 0 0 m)).lookup k with
    | none=>rfl
    | some C=>exact absurd (k1k (R3 e)) oM
   rw [h2,l0]
   rw [Y8 e2] at hk
   exact hk
theorem p1d {i d k o t:Nat}{rs:List (Operand×PV)}{rb:List (Nat×Blk)}(hk:k<1003):Mk (cgB i) ⟨rs,rb,none,[(d,.at_ k o t)],[]⟩ ([],[k]):=by
 refine ⟨fun q hq=>(by cases hq),fun q hq=>?_⟩
 simp only [Ann.free,L3,Y2,PV.free,Bool.and_true,bne_eq_false_iff_eq] at hq
 subst hq
 rw [k0f hk]; simp
theorem f2g {i d:Nat}{rs:List (Operand×PV)}{rb:List (Nat×Blk)}{cs:List PV}:Mk (cgB i) ⟨rs,rb,none,[(d,rvV 1001 cs)],[]⟩ ([],[1001]):=by
 refine ⟨fun q hq=>(by cases hq),fun q hq=>?_⟩
 simp only [Ann.free,L3,Y2,Bool.and_true] at hq
 rw [M0a hq,k0f dC]; simp
theorem mkP {i d:Nat}{rs:List (Operand×PV)}{rb:List (Nat×Blk)}{x:O2}:Mk (cgB i) ⟨rs,rb,none,[(d,.p x)],[]⟩ ([],[]):=by
 refine ⟨fun q hq=>(by cases hq),fun q hq=>?_⟩
 simp [Ann.free,L3,Y2,PV.free] at hq
theorem mkN {i d n t:Nat}{rs:List (Operand×PV)}{rb:List (Nat×Blk)}{T:TypeId}{sz:Nat}{xs:List O2}:Mk (cgB i) ⟨rs,rb,some (K3 0 i),[(d,.ref (K3 0 i) 0 n t)],[(K3 0 i,⟨T,sz,.pure xs⟩)]⟩ ([2000],[2000]):=by
 refine ⟨fun q hq=>(by injection hq with hq; subst hq; rw [m1d]; simp),fun q hq=>?_⟩
 simp only [Ann.free,L3,Y2,PV.free,Cells.free,Bool.and_true,bne_eq_false_iff_eq] at hq
 subst hq
 rw [m1d]; simp
theorem mkS {i d a n t a' n' t':Nat}{rs:List (Operand×PV)}{rb:List (Nat×Blk)}{T:TypeId}{sz:Nat}(ha:a<1000):Mk (cgB i) ⟨rs,rb,some a,[(d,.ref a 0 n t)],[(a,⟨T,sz,.mix [.ref (K3 0 i) a' n' t']⟩)]⟩ ([a],[a,2000]):=by
 refine ⟨fun q hq=>(by injection hq with hq; subst hq; rw [k0f oM]; simp),fun q hq=>?_⟩
 simp only [Ann.free,L3,Y2,PV.free,PV.freeL,Cells.free,Bool.and_true,Bool.and_eq_false_iff,bne_eq_false_iff_eq] at hq
 rcases hq with hq | hq <;> subst hq
 ·rw [k0f oM]; simp
 ·rw [m1d]; simp
theorem mkH {i d n t n' t':Nat}{rs:List (Operand×PV)}{rb:List (Nat×Blk)}{T:TypeId}{sz:Nat}{m:List (List Rat)}(hm:m.length=i):Mk (cgB i) ⟨rs,rb,rvF 1001 (Y4 0 0 m),[(d,.ref 1001 0 n t)],[(1001,⟨T,sz,.mix (Y4 0 0 m++[.ref (K3 0 i) 0 n' t'])⟩)]⟩ ([1001],[1001,1003,2000]):=by
 have hap:∀ (q:Nat) (l r:List PV),PV.freeL q (l++r)=(PV.freeL q l && PV.freeL q r):=fun q l r=>by
  induction l with
  | nil=>rfl
  | cons x l ih=>simp [PV.freeL,ih,Bool.and_assoc]
 refine ⟨fun q hq=>(by rw [(g1w hq).1,k0f dC]; simp),fun q hq=>?_⟩
 simp only [Ann.free,L3,Y2,PV.free,PV.freeL,Cells.free,hap,Bool.and_true,Bool.and_eq_false_iff,bne_eq_false_iff_eq] at hq
 rcases hq with hq | hq | hq
 ·subst hq; rw [k0f dC]; simp
 ·rw [N1w (i:=i) hq oM]; simp
 ·subst hq; rw [m1d]; simp
theorem mkW {i n t:Nat}{s:Bool}{c:O2}{rs:List (Operand×PV)}{rb:List (Nat×Blk)}{T:TypeId}{sz n':Nat}:Mk (cgB i) ⟨rs,rb,none,[],[(999,⟨T,sz,.mix [.ref 1001 0 n t,.p c,bv s n']⟩)]⟩ ([],[999,1001,1002]):=by
 refine ⟨fun q hq=>(by cases hq),fun q hq=>?_⟩
 simp only [Ann.free,L3,Y2,PV.free,PV.freeL,Cells.free,Bool.and_true,Bool.true_and,Bool.and_eq_false_iff,bne_eq_false_iff_eq] at hq
 rcases hq with hq | hq
 ·subst hq; rw [k0f dC]; simp
 ·have:=PV.only_mem (M1q (s:=s) (n:=n')) hq
  simp only [List.mem_cons,List.not_mem_nil,or_false] at this
  rcases this with rfl | rfl | rfl <;> (rw [k0f dC]; simp)
theorem d2p {s:Bool}{sl:List (Nat×PV)}{pre:List (Nat×Blk)}{m b:List (List Rat)}(hp:∀ B,(1001,B) ∉ pre):P6 ⟨sl,pre++v5 s m b⟩ (rvB 1001 40 (Y4 0 0 m)):=by
 cases m with
 | nil=>trivial
 | cons v m =>
  refine ⟨?_,trivial⟩
  show (pre++_).lookup 1001=_
  rw [U1]
  have:pre.lookup 1001=none:=by
   cases e:pre.lookup 1001 with
   | none=>rfl
   | some B=>exact absurd (R3 e) (hp B)
  rw [this,l0]; rfl
theorem J0c {M:List (List Rat)}{i:Nat}(h:i<M.length):M.take (i+1)=M.take i++[M.getD i []]:=by
 rw [J1]; congr 1; simp [f0,h]
theorem n0y (s:Bool)(n cols:Nat)(M b:List (List Rat))(hM:RC n cols M)(hn:n<1000)(hc:cols<1000):T4 E (fun _=>false) 50 [.p (.agg [vZ cols,.sl n (U5 M)]),bv s n] (bsT s b) ([wU cols M (bv s n)]++v5 s M b) (.at_ 999 0 3):=by
 refine y0j Tryz.func50 rfl Tryz.ntmps50 Tryz.results50 sM fun F G=>?_
 have L:=@lti _ _ G.nt
 have hG:=G.g
 have hX:=G.x
 have hN:=i6 hG
 have P0:∀ k,Nat.blt k 1000=true→F.pin k=none:=fun k hk=>G.p0 k ((D5 s b).low k hk)
 obtain ⟨rfl,hMc⟩:=hM
 refine exr (swb (X3 (k:=989) (n:=2) pa2 rfl rfl (P0 _ rfl) L) t1 t0 (frT [] (D5 s b) rfl rfl (by simp [L3,Y2,Cells.free,PV.freeL,PV.free,l4,l3])) ?_)
 refine aV L rfl ?_
 refine R1 ⟨[(1,_),(2,_)],(989,_) :: ((bsT s b)),t2,⟨rfl,(hbT [_] (D5 s b) rfl)⟩,?_⟩
 refine exr (sw (j2 un24 rfl sz3 dC rX L) t1 t1 ?_)
 refine sw (Z1 ag3 rF rF L) t1 t1 ?_
 refine mV L rfl (sw (j0v (vs:=[_,_]) un79 zv79 (.cons rfl (.cons rfl (.cons rfl .nil))) ((L2.cons sz77 (L2.cons sz3 (L2.cons sz77 L2.nil)))).to rfl (.cons rfl (.atom rfl) rfl (.skip pu1) (.cons rfl M1h rfl (.skip (.skip pu1)) .nil)) L) t2 t0 (swb (X3 (k:=999) (n:=3) .agg rfl (by simp [PV.freeL,PV.free]) (P0 _ rfl) L) t1 t0 (frT [_] (D5 s b) rfl rfl (by simp [L3,Y2,Cells.free,PV.freeL,PV.free,l4,l3])) ?_))
 refine aV L rfl ?_
 refine R1 ⟨[(2,_),(5,_)],(989,_) :: (999,_) :: ((bsT s b)),t2,⟨rfl,rfl,(hbT [_,_] (D5 s b) rfl)⟩,?_⟩
 refine T1 (exr (sw (j2 un24 rfl sz22 dC rX L) t1 t1 ?_))
 refine sw (Z1 ag22 rF rF L) t1 t1 ?_
 refine sw (X2 un22 L) t1 t0 (mV L rfl ?_)
 refine R1 ⟨[(5,_),(14,_),(15,_),(16,_)],(999,_) :: ((bsT s b)),t4,⟨rfl,(hbT [_,_] (D5 s b) rfl)⟩,?_⟩
 refine X1 ?_
 refine K0m (α:=Nat) (fun i=>[(16,vi (i:Int))]) (fun i=>[(999,(wU cols (M.take i) (bv s M.length)).2)]) (fun i=>(v5 s (M.take i) b)) (fun i=>i≤M.length) (fun i=>M.length - i) (0) (sl:=[(5,_),(14,_),(15,_)]) (hb:=[]) ?_ ⟨oR,rfl,rfl,rfl,trivial⟩ ⟨rfl,(hbT [_] (D5 s b) rfl)⟩ ?_
 ·exact Nat.zero_le _
 intro i hi
 refine exr (sw (Z3 L) t2 t0 ?_)
 refine R1 ⟨[(5,_),(14,_),(15,_),(16,_),(17,_)],(999,_) :: ((v5 s (M.take i) b)),t5,⟨rfl,(hbT [_] (M6 s (M.take i) b) rfl)⟩,?_⟩
 refine T1 ?_
 refine D2 rfl (fun hc=>?_) (fun hc=>?_)
 ·have hc2:=dt hc
  have hil:i<M.length:=by omega
  refine V1 (xq ?_)
  refine T1 (X1 (exr (sw (ixJ un22 sz40 (j:=i) rO oM sM L) t2 t0 ?_)))
  refine sw (s4 ag40 (by rw [j7 hil]) L) t1 t0 ?_
  refine aV L rfl ?_
  refine R1 ⟨[(5,_),(7,_),(14,_),(15,_),(16,_)],(999,_) :: ((v5 s (M.take i) b)),t5,⟨rfl,(hbT [_] (M6 s (M.take i) b) rfl)⟩,?_⟩
  obtain ⟨v,hv⟩:∃ v,v=M.getD i []:=⟨_,rfl⟩
  obtain ⟨cs,hcs⟩:∃ cs,cs=Y4 0 0 (M.take i):=⟨_,rfl⟩
  have hvl:v.length=cols:=by rw [hv]; exact hMc _ (b0f hil)
  have htl:(M.take i).length=i:=by rw [J0]; omega
  have hcl:cs.length=i:=by rw [hcs,G2,htl]
  have hts:=J0c hil
  rw [← hv] at hts ⊢
  have hcs2:Y4 0 0 (M.take (i+1))=cs++[.ref (K3 0 i) 0 v.length (v.length*4)]:=by rw [hts,k0y,← hcs,htl,G1]
  have hp1:F.pin 1001=none:=G.ps _ rfl
  have hp2:F.pin (K3 0 i)=none:=G.ps _ rfl
  show y4 _ _ _ ⟨_,[(999,⟨79,3,.mix [rvV 1001 (Y4 0 0 (M.take i)),.p (vZ cols),bv s M.length]⟩)]++v5 s (M.take i) b⟩ _
  rw [← hcs]
  have nf:∀ k,k<1001→Y2 k (v5 s (M.take i) b)=true:=fun k hk=>y0a (fun q _=>by simp only [K3]; omega) (fun q=>by simp only [K3]; omega)
  have nfi:Y2 (K3 0 i) (v5 s (M.take i) b)=true:=y0a (fun q hq=>D0w oM) (fun q=>f1s i q)
  have nli:(v5 s (M.take i) b).lookup (K3 0 i)=none:=Y0x (fun q hq=>D0w oM) (fun q=>f1s i q) (fun h=>by simp only [K3] at h; omega) (by simp only [K3]; omega)
  have nf1:Y2 1001 (v5 s (M.take i) b)=true:=y0a (fun q _=>by unfold K3; omega) (fun q=>by unfold K3; omega)
  have nl:∀ k,k<1000→(v5 s (M.take i) b).lookup k=none:=fun k hk=>(M6 s (M.take i) b).low k (by simpa [Nat.blt_eq] using hk)
  have h27:K3 0 i≠27∧K3 0 i≠999∧K3 0 i≠1001∧K3 0 i≠1002:=by simp only [K3]; omega
  refine d0d rF ?_
  refine mV L rfl (mV L rfl (sw (j3 rX L) t1 t1 ?_))
  refine sw (j2 un79 rfl sz77 dC rX L) t1 t1 ?_
  refine sw (Z1 ag77 rF rF L) t1 t1 ?_
  refine mV L rfl ?_
  refine swb (f1n (k:=K3 0 i) hG hX cl89 rfl hN (b1q v oM) hp2 L) t1 t0 ⟨?_,?_⟩ ?_
  ·show ([(999,_)]++v5 s (M.take i) b).lookup (K3 0 i)=none
   rw [U1,i0,show (K3 0 i == 999)=false by simpa using h27.2.1]; exact nli
  ·show (L3 (K3 0 i) _ && Y2 (K3 0 i) ([(999,_)]++v5 s (M.take i) b))=true
   have hcf:PV.freeL (K3 0 i) cs=true:=by rw [hcs]; exact n0x fun q hq=>D0w oM
   rw [U4,nfi]
   simp [L3,Y2,Cells.free,PV.freeL,PV.free,k0g (cs:=cs) (Ne.symm h27.2.2.1),Q0g (s:=s) (n:=M.length) (Ne.symm h27.2.2.2),Ne.symm h27.2.1]
  refine swb (b2q (k:=27) (vs:=[_]) un77 ti40 rfl rfl dC dC rfl (M2 (.cons rfl .nil) rfl) rfl (.cons rfl .ref rfl pu1 .nil) rfl (by simp [PV.freeL,PV.free,h27.1]; rfl) (P0 _ rfl) L) t1 t0 ⟨?_,?_⟩ ?_
  ·show (List.lookup 27 ((K3 0 i,_) :: ([(999,_)]++v5 s (M.take i) b)))=none
   rw [i0,show (27 == K3 0 i)=false by simpa using Ne.symm h27.1,U1,i0]; exact nl 27 dC
  ·show (L3 27 _ && Y2 27 ((K3 0 i,_) :: ([(999,_)]++v5 s (M.take i) b)))=true
   simp only [Y2,U4,nf 27 dC]
   simp [L3,Cells.free,PV.freeL,PV.free,k0g (k:=1001) (q:=27) (cs:=cs) dC,h27.1]
  refine swA (p1j (k:=1001) (j:=27) (cs:=cs) (u:=.ref (K3 0 i) 0 v.length (v.length*4)) un77 un77 ti40 rfl rfl rfl (by simp [PV.free,h27.2.2.1]) (by simp [Tryz.t40]; omega) oM hp1 L) t2 ?_ ?_ ?_
  ·refine G0k ?_ t1
   rw [hcs]
   exact d2p (pre:=[_,_,_]) (fun B hB=>by simp [Ne.symm h27.2.2.1] at hB)
  ·cases hcs0:cs with
   | cons a l=>trivial
   | nil =>
    have hM0:M.take i=[]:=List.length_eq_zero_iff.1 (by rw [htl,← hcl,hcs0]; rfl)
    refine ⟨?_,?_⟩
    ·show (List.lookup 1001 ((27,_) :: (K3 0 i,_) :: ([(999,_)]++v5 s (M.take i) b)))=none
     rw [Y8 dC,Y8 (Ne.symm h27.2.2.1),U1,Y8 dC]
     exact Y0x (fun q _=>by unfold K3; omega) (fun q=>by unfold K3; omega) (fun _=>hM0) dC
    ·show (L3 1001 _ && Y2 1001 ((27,_) :: (K3 0 i,_) :: ([(999,_)]++v5 s (M.take i) b)))=true
     simp only [Y2,U4,nf1]
     simp [L3,Cells.free,PV.freeL,PV.free,rvV,h27.2.2.1,G1n]
  refine sw (j3 rX L) t1 t1 ?_
  refine sw (j2 un79 rfl sz77 dC rX L) t1 t1 ?_
  refine sb (Z2 sz77 rF .ref rfl pu1) t2 t1 ?_
  refine R1 ⟨d2q cls (cgB i) [⟨[5],[],[20],[]⟩,⟨[5],[],[21],[]⟩,⟨[21],[999],[22],[]⟩,⟨[22],[999],[23],[]⟩,⟨[23],[999],[24],[]⟩,⟨[7],[],[25],[]⟩,⟨[25],[],[26],[1000]⟩,⟨[26],[],[27],[27]⟩,⟨[24,27],[1000,27],[28],[1000]⟩,⟨[20],[999],[29],[]⟩,⟨[29],[999],[30],[]⟩,⟨[30,28],[999],[],[999]⟩] [([],[999]),([],[999]),([],[999]),([],[999]),([],[1001]),([],[]),([2000],[2000]),([27],[27,2000]),([1001],[1001,1003,2000]),([],[999]),([],[999]),([],[999,1001,1002])] (.cons (cf0 rfl) (.cons (cf0 rfl) (.cons (cf0 rfl) (.cons (cf0 rfl) (.cons (cf0 rfl) (.cons (cf0 rfl) (.cons ?_ (.cons (cf0 rfl) (.cons ?_ (.cons (cf0 rfl) (.cons (cf0 rfl) (.cons (cf0 rfl) .nil)))))))))))) (.cons ?_ (.cons ?_ (.cons ?_ (.cons ?_ (.cons ?_ (.cons ?_ (.cons ?_ (.cons ?_ (.cons ?_ (.cons ?_ (.cons ?_ (.cons ?_ .nil)))))))))))) ?_ dC dC,(show y4 _ _ _ _ _ from exw (sl:=[(5,_),(14,_),(15,_),(16,_)]) (hb:=(wU cols (M.take (i+1)) (bv s M.length)) :: (v5 s (M.take (i+1)) b)) t4 ⟨?_,?_⟩ ?_)⟩
  ·exact ⟨fun k hk=>(by injection hk with hk; subst hk; simp),rfl,fun _ h=>(by cases h),rfl,b9 (E5 0 i)⟩
  ·refine ⟨fun k hk=>by rw [(g1w hk).1]; rfl,rfl,fun p hp=>?_,rfl,b9 dC⟩
   rcases List.mem_append.1 hp with hp | hp
   ·rw [k1k hp]; decide
   ·obtain rfl:=List.mem_singleton.1 hp
    show cls 27∈[1000,27]
    decide
  ·exact p1d dC
  ·exact p1d dC
  ·exact p1d dC
  ·exact p1d dC
  ·exact f2g
  ·exact mkP
  ·exact mkN
  ·exact mkS dC
  ·rw [hcs]; exact mkH htl
  ·exact p1d dC
  ·exact p1d dC
  ·exact mkW
  ·intro k hk
   show (L3 k _ && Y2 k ([(999,_)]++v5 s (M.take i) b))=true
   simp only [n7,Option.toList_none,Option.toList_some,List.nil_append,List.append_nil,List.mem_append,List.mem_singleton,Option.mem_toList] at hk
   rw [U4]
   rcases hk with rfl | rfl | hk
   ·rw [nfi]; simp [L3,Y2,Cells.free,PV.freeL,PV.free,k0g (cs:=cs) (Ne.symm h27.2.2.1),Q0g (s:=s) (n:=M.length) (Ne.symm h27.2.2.2),Ne.symm h27.2.1]
   ·rw [nf 27 dC]; simp [L3,Y2,Cells.free,PV.freeL,PV.free,k0g (k:=1001) (q:=27) (cs:=cs) dC]
   ·obtain ⟨rfl,h0⟩:=g1w hk
    rw [nf1,h0]; simp [L3,Y2,Cells.free,PV.freeL,PV.free,rvV]
  ·rw [hcs2,M1k]; rfl
  ·rw [hts,hcs]; exact W1b htl
  refine C3 (sw (I3 L (w64 oM oM)) t2 t0 (mV L rfl (R1 ?_)))
  exact ⟨i+1,oM,by omega,B3 ⟨oR,rfl,rfl,rfl,trivial⟩ ⟨rfl,(hbT [_] (M6 s (M.take (i+1)) b) rfl)⟩⟩
 ·have hc2:=df hc
  have e:i=M.length:=by omega
  subst e
  rw [I0]
  refine K2 (xq ?_)
  refine exr (mV L rfl (aV L rfl ?_))
  refine R1 ⟨[(4,_)],(999,_) :: ((v5 s M b)),t1,⟨rfl,(hbT [_] (M6 s M b) rfl)⟩,?_⟩
  refine Y1 ?_
  refine ⟨.inr rfl,rfl,⟨rfl,hbT [_] (M6 s M b) rfl⟩⟩
@[simp] theorem W1q {k q:Nat}{cs:List PV}(h:k≠q):(rvV k cs).free q=true:=k0g h
theorem j1w {sl:List (Nat×PV)}{pre pre' T:List (Nat×Blk)}(hT:R5 T)(hp:q6 pre=true)(hb:O5 ⟨[],pre⟩ pre'):k0m ⟨sl,pre++T⟩ [] (pre'++T):=by
 refine p0x fun p hp2=>⟨rfl,?_⟩
 show (pre++T).lookup p.1=_
 rcases List.mem_append.1 hp2 with h | h
 ·rw [U1,q0v hb h]; rfl
 ·have h1:=W5 (j:=p.1) (B:=p.2) hT.nd h
  have h2:pre.lookup p.1=none:=by
   cases e:pre.lookup p.1 with
   | none=>rfl
   | some C =>
    have:=f0s hp e
    rw [hT.low _ (by simpa [Nat.blt_eq] using this)] at h1; cases h1
  rw [U1,h2,l0,h1]
theorem v1d (s:Bool)(n cols:Nat)(b:List (List Rat)):T4 E L8 51 [.at_ 999 0 3] ([wU cols [] (bv s n)]++bsT s b) ([wU cols [] (bv s n)]++bsT s b) (.p (.tup [.sl 0 [],pQ 1])):=by
 refine D4 (xs:=[.sl 0 [],pQ 1]) Tryz.func51 rfl Tryz.ntmps51 Tryz.results51 sM fun F G=>?_
 have L:=@lti _ _ G.nt
 have hG:=G.g
 have hX:=G.x
 have hN:=i6 hG
 have P0:=fun k (hk:(Nat.blt k 1000 && (List.lookup k _).isNone)=true)=>G.p0 k (p0T (D5 s b) hk)
 refine exr (swb (g0y (k:=1) rX rfl (P0 _ rfl) L) t1 t1 (frT [_] (D5 s b) rfl rfl (by simp [L3,Y2,Cells.free,PV.freeL,PV.free,l4,l3])) ?_)
 refine aV L rfl (swb (Y3 (k:=3) (n:=4) zv47 (.cons rfl (.cons rfl (.cons rfl (.cons rfl .nil)))) rfl (P0 _ rfl) L) t0 t0 (frT [_,_] (D5 s b) rfl rfl (by simp [L3,Y2,Cells.free,PV.freeL,PV.free,l4,l3])) ?_)
 refine R1 ⟨[(1,_),(2,_),(3,_)],(1,_) :: (3,_) :: (999,_) :: ((bsT s b)),t3,⟨rfl,rfl,rfl,(hbT [_,_,_] (D5 s b) rfl)⟩,?_⟩
 refine exr (cK hG hX cl55 hN (s7 1 dC dC) L t1 (sb (Z2 sz47 rF pa4 rfl pu4) t2 t1 ?_))
 refine R1 ⟨[(1,_),(2,_),(3,_)],(1,_) :: (3,_) :: (999,_) :: ((bsT s b)),t3,⟨rfl,rfl,rfl,(hbT [_,_,_,_] (D5 s b) rfl)⟩,?_⟩
 refine T1 (exr (swb (Y3 (k:=4) (n:=1) zv3 (.cons rfl .nil) rfl (P0 _ rfl) L) t0 t0 (frT [_,_,_] (D5 s b) rfl rfl (by simp [L3,Y2,Cells.free,PV.freeL,PV.free,l4,l3])) ?_))
 refine sb (Z2 sz3 rF (.atom rfl) rfl pu1) t2 t1 ?_
 refine R1 ⟨[(1,_),(2,_),(3,_),(4,_)],(1,_) :: (3,_) :: (4,_) :: (999,_) :: ((bsT s b)),t4,⟨rfl,rfl,rfl,rfl,(hbT [_,_,_,_,_] (D5 s b) rfl)⟩,?_⟩
 refine X1 ?_
 refine K0m (α:=Nat) (fun x=>[]) (fun x=>[(4,⟨3,1,.mix [.p (vZ (x:Int))]⟩)]) (fun x=>(bsT s b)) (fun x=>x=0) (fun x=>x) (0) (sl:=[(1,_),(2,_),(3,_),(4,_)]) (hb:=[(1,_),(3,_),(999,_)]) ?_ t4 ⟨rfl,rfl,rfl,rfl,(hbT [_,_,_,_] (D5 s b) rfl)⟩ ?_
 ·rfl
 intro x hx
 subst hx
 by_cases hcc:0<cols
 ·refine T1 (exd rF ?_)
  refine sw (Z1 ag3 rF rF L) t1 t1 ?_
  refine sw (Z1 ag73 rF rF L) t1 t1 ?_
  refine sw (j3 rX L) t1 t1 ?_
  refine sw (j2 un79 rfl sz3 dC rX L) t1 t1 ?_
  refine sw (Z1 ag3 rF rF L) t1 t1 ?_
  refine sw (Z3 L) t2 t0 (mV L rfl (gV (g:=19) rfl sO L rfl rfl (swg (g:=19) rfl sO (y0b un27 L) rfl t1 t0 (swg (g:=19) rfl sO (Z1 ag73 rF rF L) rfl t1 t1 ?_))))
  refine swg (g:=19) rfl sO (j3 rX L) rfl t1 t1 ?_
  refine swg (g:=19) rfl sO (j2 un79 rfl sz77 dC rX L) rfl t1 t1 ?_
  refine swg (g:=19) rfl sO (Z1 ag77 rF rF L) rfl t1 t1 ?_
  refine swg (g:=19) rfl sO (y0b un77 L) rfl t1 t0 (swg (g:=19) rfl sO (Z3 L) rfl t2 t0 (sw (m4 sO L) t2 t0 ?_))
  refine R1 ⟨j0c [⟨[4],[4],[13],[]⟩,⟨[1],[1],[14],[]⟩,⟨[14],[999],[15],[]⟩,⟨[15],[999],[16],[]⟩,⟨[16],[999],[17],[]⟩,⟨[13,17],[],[18],[]⟩,⟨[18],[],[19],[]⟩,⟨[19,2],[],[20],[]⟩,⟨[19,20],[],[21],[]⟩,⟨[19,1],[1],[22],[]⟩,⟨[19,22],[999],[23],[]⟩,⟨[19,23],[999],[24],[]⟩,⟨[19,24],[999],[25],[]⟩,⟨[19,25],[],[26],[]⟩,⟨[19,21,26],[],[27],[]⟩,⟨[19,27],[],[28],[]⟩] (.cons (cf0 rfl) (.cons (cf0 rfl) (.cons (cf0 rfl) (.cons (cf0 rfl) (.cons (cf0 rfl) (.cons (cf0 rfl) (.cons (cf0 rfl) (.cons (cf0 rfl) (.cons (cf0 rfl) (.cons (cf0 rfl) (.cons (cf0 rfl) (.cons (cf0 rfl) (.cons (cf0 rfl) (.cons (cf0 rfl) (.cons (cf0 rfl) (.cons (cf0 rfl)  .nil)))))))))))))))) rfl (frS [] [_,_,_,_] (D5 s b) rfl (by simp [L3,Y2,Cells.free,PV.freeL,PV.free,l4,l3])) dC,[(1,_),(2,_),(3,_),(4,_),(28,_)],(1,_) :: (3,_) :: (4,_) :: (999,_) :: ((bsT s b)),t5,⟨rfl,rfl,rfl,rfl,(hbT [_,_,_,_] (D5 s b) rfl)⟩,?_⟩
  refine T3 rfl rfl ?_
  refine K2 (xq ?_)
  refine exd rF ?_
  refine mV L rfl (lp4 ag47 sz47 L rfl rfl (aV L rfl (sb (Z2 sz47 rF pa4 rfl pu4) t2 t1 ?_)))
  refine R1 ⟨j0c [⟨[2],[],[84],[]⟩,⟨[3],[3],[85],[]⟩,⟨[84],[],[2],[]⟩,⟨[3,85],[3],[],[3]⟩] (.cons (cf0 rfl) (.cons (cf0 rfl) (.cons (cf0 rfl) (.cons (cf0 rfl)  .nil)))) rfl (frS [] [_,_,_,_] (D5 s b) rfl (by simp [L3,Y2,Cells.free,PV.freeL,PV.free,l4,l3])) dC,[(2,_),(3,_)],(3,_) :: (999,_) :: ((bsT s b)),t2,⟨rfl,rfl,(hbT [_,_,_,_,_] (D5 s b) rfl)⟩,?_⟩
  refine G4 [] (sl:=[(2,.p (.sl 0 [])),(3,.at_ 3 0 4)]) (hb:=[(3,bQ 1),wU cols [] (bv s n)]++bsT s b) (h0j rfl) ⟨⟨_,rfl,.p .nil⟩,⟨_,rfl,.same⟩,trivial⟩ (j1w (pre:=[_,_]) (D5 s b) rfl t2) (Y1 ?_)
  exact ⟨.inr rfl,.cons (.tmp rfl) (.cons (.agg rfl rfl rfl ag47 sz47 (.cons (.cons (.cons (.cons .nil))))) .nil),rfl,hbT [_,_] (D5 s b) rfl⟩
 ·refine T1 (exd rF ?_)
  refine sw (Z1 ag3 rF rF L) t1 t1 ?_
  refine sw (Z1 ag73 rF rF L) t1 t1 ?_
  refine sw (j3 rX L) t1 t1 ?_
  refine sw (j2 un79 rfl sz3 dC rX L) t1 t1 ?_
  refine sw (Z1 ag3 rF rF L) t1 t1 ?_
  refine sw (Z3 L) t2 t0 (mV L rfl (swn (g:=19) rfl sO L rfl (swn (g:=19) rfl sO L rfl (swn (g:=19) rfl sO L rfl (swn (g:=19) rfl sO L rfl (swn (g:=19) rfl sO L rfl (swn (g:=19) rfl sO L rfl (swn (g:=19) rfl sO L rfl (swn (g:=19) rfl sO L rfl (sw (U3 sO L) t2 t0 ?_))))))))))
  refine R1 ⟨j0c [⟨[4],[4],[13],[]⟩,⟨[1],[1],[14],[]⟩,⟨[14],[999],[15],[]⟩,⟨[15],[999],[16],[]⟩,⟨[16],[999],[17],[]⟩,⟨[13,17],[],[18],[]⟩,⟨[18],[],[19],[]⟩,⟨[19],[],[20],[]⟩,⟨[19],[],[21],[]⟩,⟨[19],[],[22],[]⟩,⟨[19],[],[23],[]⟩,⟨[19],[],[24],[]⟩,⟨[19],[],[25],[]⟩,⟨[19],[],[26],[]⟩,⟨[19],[],[27],[]⟩,⟨[19],[],[28],[]⟩] (.cons (cf0 rfl) (.cons (cf0 rfl) (.cons (cf0 rfl) (.cons (cf0 rfl) (.cons (cf0 rfl) (.cons (cf0 rfl) (.cons (cf0 rfl) (.cons (cf0 rfl) (.cons (cf0 rfl) (.cons (cf0 rfl) (.cons (cf0 rfl) (.cons (cf0 rfl) (.cons (cf0 rfl) (.cons (cf0 rfl) (.cons (cf0 rfl) (.cons (cf0 rfl)  .nil)))))))))))))))) rfl (frS [] [_,_,_,_] (D5 s b) rfl (by simp [L3,Y2,Cells.free,PV.freeL,PV.free,l4,l3])) dC,[(1,_),(2,_),(3,_),(4,_),(28,_)],(1,_) :: (3,_) :: (4,_) :: (999,_) :: ((bsT s b)),t5,⟨rfl,rfl,rfl,rfl,(hbT [_,_,_,_] (D5 s b) rfl)⟩,?_⟩
  refine T3 rfl rfl ?_
  refine K2 (xq ?_)
  refine exd rF ?_
  refine mV L rfl (lp4 ag47 sz47 L rfl rfl (aV L rfl (sb (Z2 sz47 rF pa4 rfl pu4) t2 t1 ?_)))
  refine R1 ⟨j0c [⟨[2],[],[84],[]⟩,⟨[3],[3],[85],[]⟩,⟨[84],[],[2],[]⟩,⟨[3,85],[3],[],[3]⟩] (.cons (cf0 rfl) (.cons (cf0 rfl) (.cons (cf0 rfl) (.cons (cf0 rfl)  .nil)))) rfl (frS [] [_,_,_,_] (D5 s b) rfl (by simp [L3,Y2,Cells.free,PV.freeL,PV.free,l4,l3])) dC,[(2,_),(3,_)],(3,_) :: (999,_) :: ((bsT s b)),t2,⟨rfl,rfl,(hbT [_,_,_,_,_] (D5 s b) rfl)⟩,?_⟩
  refine G4 [] (sl:=[(2,.p (.sl 0 [])),(3,.at_ 3 0 4)]) (hb:=[(3,bQ 1),wU cols [] (bv s n)]++bsT s b) (h0j rfl) ⟨⟨_,rfl,.p .nil⟩,⟨_,rfl,.same⟩,trivial⟩ (j1w (pre:=[_,_]) (D5 s b) rfl t2) (Y1 ?_)
  exact ⟨.inr rfl,.cons (.tmp rfl) (.cons (.agg rfl rfl rfl ag47 sz47 (.cons (.cons (.cons (.cons .nil))))) .nil),rfl,hbT [_,_] (D5 s b) rfl⟩
theorem j1x {b:List (List Rat)}:∀ c,ech [] b c=⟨[],b,[],1⟩
 | 0=>rfl
 | c+1=>by rw [M9,j1x c]; rfl
structure EU (n cols d B DB:Nat) (m b:List (List Rat)):Prop where
 rc:RC n cols m
 rb:RC n d b
 nl:n<1000
 cl:cols<1000
 dl:d<1000
 b0:0<B
 bl:B<100000000
 dbl:DB+B<1000000000
 me:∀ c,c≤cols→MB B (ech m b c).m
 be:∀ c,c≤cols→MB B (ech m b c).b
 de:∀ c,c≤cols→qw (ech m b c).det≤DB
theorem y0f (s:Bool)(n cols d B DB:Nat)(m b:List (List Rat))(H:EU n cols d B DB m b):T4 E L8 51 [.at_ 999 0 3] ([wU cols m (bv s n)]++v5 s m b) ([wU cols (ech m b cols).m (bv s n)]++v5 s (ech m b cols).m (ech m b cols).b) (.p (.tup [.sl (ech m b cols).pv.length (V6 (ech m b cols).pv),pQ (ech m b cols).det])):=by
 cases m with
 | nil =>
  rw [j1x]
  exact v1d s n cols b
 | cons r m =>
  have h0:0<n:=by have:=H.rc.1; simp at this; omega
  have hm:0<(r :: m).length:=by simp
  have hrc:=B6 H.rc H.rb cols (Nat.le_refl _)
  have hm':0<(ech (r :: m) b cols).m.length:=by rw [hrc.1.1]; exact h0
  have hn:=H.rc.1
  have:=G1y s n cols d B DB (r :: m) b ⟨H.rc,H.rb,h0,H.nl,H.cl,H.dl,H.b0,H.bl,H.dbl,H.me,H.be,H.de⟩
  rw [V0h hm,V0h hm',b2y hm,b2y hm',hrc.1.1,hn]; exact this
end Go.Proofs.YtjagfionflbjbaaGreat.N
namespace Go.Proofs.YtjagfionflbjbaaGreat.SH
open Go Go.RowKit
section
variable {P:Program} {F:Fr} {d:Nat} {T:TypeId} {pos:String} {aft:Array Edge} {g:Option (Nat×Bool)} {t:TypeId}
theorem f2c {x hi mx:Operand}{n h:Nat}{i:Int}{xs ys:List O2}{e:TypeId}{sz:Nat}{kh km:IntKind}(hu:P.underlying t=some (.slice e))(hsz:∀ w,(sizeOf e).run P w = .ok sz w)(hi':i=(h:Int))(h2:h≤n)(hy:xs.take (h*sz)=ys)(hlt:d<F.nt) :
  R2 P F ⟨some d,.slice t x none (some hi) (some mx),T,pos,aft,g⟩ { rs:=[(x,.p (.sl n xs)),(hi,.p (.a (.int kh i))),(mx,.p (.a (.int km i)))],ws:=[(d,.p (.sl h ys))] }:=by
 subst hi'
 exact J4 rfl hlt rfl rfl fun ρ S a w hS hA=>by
  have hx:=d5 hS (v:=.p (.sl n xs)) (hA.rs (x,_) (by simp))
  simp only [P2,Rel] at hx
  obtain ⟨ad,cap,he,hc,hr⟩:=hx
  have e1:a.eval hi = .int kh h:=R4 hS (hA.rs (hi,_) (by simp))
  have e2:a.eval mx = .int km h:=R4 hS (hA.rs (mx,_) (by simp))
  have b1:(h:Int)≤cap:=by omega
  have hb:(Instr.sliceBounds true n cap none (some (a.eval hi)) (some (a.eval mx))).run P w = .ok (0,h,h) w:=by
   simp_all [Instr.sliceBounds,Instr.sliceBound,asIntOf]
  refine ⟨.slice (if h=0 then ad else ad.map (·.add (0*sz))) h h,?_,?_⟩
  ·simp [execOp,Instr.sliceAt,Instr.slice,run_underlying hu,he,hb,hsz]
  ·simp only [P2,Rel]
   refine ⟨_,_,rfl,Nat.le_refl _,?_⟩
   by_cases hyn:ys=[]
   ·subst hyn; simp [O7]
   ·have hxn:xs≠[]:=fun e=>by subst e; simp at hy; exact hyn (by first | exact hy | exact hy.symm)
    obtain ⟨b,o,rfl,hok,hra⟩:=hr.at hxn
    have h0:0<h:=by
     rcases Nat.eq_zero_or_pos h with e | e
     ·subst e; simp at hy; exact absurd (by first | exact hy | exact hy.symm) hyn
     ·exact e
    rw [if_neg (by omega)]
    have e:(⟨b,o,none⟩:Addr).add (0*sz)=⟨b,o,none⟩:=by unfold Addr.add; split <;> simp_all
    simp only [Option.map_some,e]
    rw [← hy]
    exact O7.of hok (hra.take _)
end
theorem Y0j {P:Program}{F:Fr}{ops:Array Oper}{o:Oper}{S S1 S2:St}(h:J0j P F ops o S S1)(hs:∀ t,S2.slot t=S1.slot t)(hb:∀ k,S2.blk k=S1.blk k):J0j P F ops o S S2:=by
 intro a w hS Q K hK
 exact h a w hS Q K fun a' w' h'=>hK a' w' (h'.congr hs hb)
def V0c (l:List (Nat×Blk)):Bool:=l.all fun p=>Nat.blt p.1 900
theorem f0y {l:List (Nat×Blk)}(h:V0c l=true){k:Nat}(hk:900≤k):l.lookup k=none:=by
 cases e:l.lookup k with
 | none=>rfl
 | some B =>
  unfold V0c at h
  rw [s0] at h
  have:=h _ (R3 e)
  simp only [Nat.blt_eq] at this
  omega
theorem H0w {sl:List (Nat×PV)}{pre H:List (Nat×Blk)}:∀ {l:List (Nat×Blk)},O5 ⟨[],pre⟩ l→O5 ⟨sl,pre++H⟩ l
 | [],_=>trivial
 | (k, B) :: l, h => ⟨by
   show (pre++H).lookup k=some B
   rw [U1,show pre.lookup k=some B from h.1]; rfl,H0w h.2⟩
theorem G1f {P:Program}{F:Fr}{ops:Array Oper}{o:Oper}{S S1 S2:St}(h:J0j P F ops o S S1)(hl:St.le S2 S1):J0j P F ops o S S2:=by
 intro a w hS Q K hK
 exact h a w hS Q K fun a' w' ⟨ρ,h'⟩=>hK a' w' ⟨ρ,h'.weakR hl⟩
theorem nsU {E:Env}{st st0:Nat→Bool}{F:Fr}{nt:Nat}(G:GFr E st0 [] nt F)(hng:E.ng≤F.w0.heap.size){ops:Array Oper}{d:Nat}{f:FuncId}{op:Op}{T:TypeId}{pos:String}{aft:Array Edge}{xs:List PV}{sl:List (Nat×PV)}{pre H H':List (Nat×Blk)}{r:PV}{rs:List (Operand×PV)}{os:List Oper}{K:St→Prop}(ks:List Nat)(slR:List (Nat×PV))(hbR:List (Nat×Blk))(hs:T4 E st f xs H H' r)(hlt:d<F.nt)
  (hargs:∀ ρ S a w,j5 F ρ S a w→(∀ p∈rs,S.opd p.1=some p.2)→∃ vals:List Value,(execOp a.eval ⟨some d,op,T,pos,aft,none⟩).run E.P w = .ok (.enter f vals.toArray) w∧G3 S.blk ρ (okI F S.blk ρ) (hp w) xs vals)
  (hr:E8 ⟨sl,pre++H⟩ rs) (hh:∀ k B,H.lookup k=some B→900≤k) (hh':∀ k B,H'.lookup k=some B→900≤k) (nd:(H.map (·.1)).Nodup) (nd':(H'.map (·.1)).Nodup) (hw:Whole H') (hres:∀ q,r.free q=false→H'.lookup q≠none) (h9:ks.contains 999=true→∃ B0 B1,st 999=true∧H.lookup 999=some B0∧H'.lookup 999=some B1∧B1.sz=B0.sz∧B1.cs.len=B0.cs.len)
  (hp:V0c pre=true) (hR:O5 ⟨[],pre⟩ hbR) (hR9:V0c hbR=true) (hsl:m7 ⟨sl,pre++H⟩ slR) (hd:slR.lookup d=none) (ho:(slR.all fun p=>p.2.only ks)=true) (hbo:(hbR.all fun p=>p.2.cs.only ks)=true) (hks:(ks.all fun k=>(hbR.lookup k).isSome || k == 999)=true)
  (hn:g0n E.P F ops os ⟨(d,r) :: slR,hbR++H'⟩ K):g0n E.P F ops (⟨some d,op,T,pos,aft,none⟩ :: os) ⟨sl,pre++H⟩ K:=by
 have hHno:∀ k,k<900→H.lookup k=none:=fun k hk=>by
  cases e:H.lookup k with
  | none=>rfl
  | some B=>have:=hh k B e; omega
 have hHno':∀ k,k<900→H'.lookup k=none:=fun k hk=>by
  cases e:H'.lookup k with
  | none=>rfl
  | some B=>have:=hh' k B e; omega
 have hlt9:∀ k,hbR.lookup k≠none→k<900:=fun k hk=>by
  apply Classical.byContradiction
  intro h
  exact hk (f0y hR9 (by omega))
 refine .cons (Y0j (S2:=⟨(d,r) :: slR,hbR++H'⟩) (P1g (H:=H) (H':=H') G.g G.x hng ks slR hbR hs hlt hargs hr (C5 nd fun k B hk=>?_) hsl (H0w hR) hd nd nd' (fun k hk=>⟨hHno k (hlt9 k hk),hHno' k (hlt9 k hk)⟩) hw hres ho (fun k B hk=>by rw [s0] at hbo; exact hbo _ (R3 hk)) (fun k hk=>by
  rw [s0] at hks
  have:=hks k hk
  rw [Bool.or_eq_true,beq_iff_eq] at this
  rcases this with h | h
  ·exact .inl fun e=>by rw [e] at h; cases h
  ·subst h; exact .inr (h9 (by rw [List.contains_iff_mem]; exact hk))) (fun i j hi _ _ hlo=>by rw [G.lo] at hlo; cases hlo) (fun j _ hj=>absurd (G.p0 j rfl) hj)) (fun t=>rfl) (fun k=>?_)) hn
 ·show (pre++H).lookup k=some B
  rw [U1,f0y hp (hh k B hk),l0,hk]
 ·show (hbR++H').lookup k=(H'++hbR).lookup k
  rw [U1,U1]
  cases e:hbR.lookup k with
  | none=>simp
  | some B=>rw [hHno' k (hlt9 k (by rw [e]; simp))]; rfl
theorem d2r {E:Env}{st st0:Nat→Bool}{F:Fr}{nt:Nat}(G:GFr E st0 [] nt F)(hng:E.ng≤F.w0.heap.size){ops:Array Oper}{d:Nat}{f:FuncId}{op:Op}{T:TypeId}{pos:String}{aft:Array Edge}{xs:List PV}{sl:List (Nat×PV)}{pre H H':List (Nat×Blk)}{r:PV}{rs:List (Operand×PV)}{os:List Oper}{K:St→Prop}(ks:List Nat)(slR:List (Nat×PV))(hbR:List (Nat×Blk))(hs:T4 E st f xs H H' r)(hlt:d<F.nt)
  (hargs:∀ ρ S a w,j5 F ρ S a w→(∀ p∈rs,S.opd p.1=some p.2)→∃ vals:List Value,(execOp a.eval ⟨some d,op,T,pos,aft,none⟩).run E.P w = .ok (.enter f vals.toArray) w∧G3 S.blk ρ (okI F S.blk ρ) (hp w) xs vals)
  (hr:E8 ⟨sl,pre++H⟩ rs) (hh:∀ k B,H.lookup k=some B→900≤k) (hh':∀ k B,H'.lookup k=some B→900≤k) (nd:(H.map (·.1)).Nodup) (nd':(H'.map (·.1)).Nodup) (hw:Whole H') (hres:∀ q,r.free q=false→H'.lookup q≠none) (h9:ks.contains 999=true→∃ B0 B1,st 999=true∧H.lookup 999=some B0∧H'.lookup 999=some B1∧B1.sz=B0.sz∧B1.cs.len=B0.cs.len)
  (hp:V0c pre=true) (hR:O5 ⟨[],pre⟩ hbR) (hR9:V0c hbR=true) (hsl:m7 ⟨sl,pre++H⟩ slR) (hd:slR.lookup d=none) (ho:(slR.all fun p=>p.2.only ks)=true) (hbo:(hbR.all fun p=>p.2.cs.only ks)=true) (hks:(ks.all fun k=>(hbR.lookup k).isSome || k == 999)=true)
  (hn:g0n E.P F ops os ⟨(d,r) :: slR,hbR⟩ K):g0n E.P F ops (⟨some d,op,T,pos,aft,none⟩ :: os) ⟨sl,pre++H⟩ K:=by
 have hlt9:∀ k,hbR.lookup k≠none→k<900:=fun k hk=>by
  apply Classical.byContradiction
  intro h
  exact hk (f0y hR9 (by omega))
 have hHno:∀ k,k<900→H.lookup k=none:=fun k hk=>by
  cases e:H.lookup k with
  | none=>rfl
  | some B=>have:=hh k B e; omega
 have hHno':∀ k,k<900→H'.lookup k=none:=fun k hk=>by
  cases e:H'.lookup k with
  | none=>rfl
  | some B=>have:=hh' k B e; omega
 refine .cons (G1f (S1:=⟨(d,r) :: slR,H'++hbR⟩) (S2:=⟨(d,r) :: slR,hbR⟩) (P1g (H:=H) (H':=H') G.g G.x hng ks slR hbR hs hlt hargs hr (C5 nd fun k B hk=>?_) hsl (H0w hR) hd nd nd' (fun k hk=>⟨hHno k (hlt9 k hk),hHno' k (hlt9 k hk)⟩) hw hres ho (fun k B hk=>by rw [s0] at hbo; exact hbo _ (R3 hk)) (fun k hk=>by
  rw [s0] at hks
  have:=hks k hk
  rw [Bool.or_eq_true,beq_iff_eq] at this
  rcases this with h | h
  ·exact .inl fun e=>by rw [e] at h; cases h
  ·subst h; exact .inr (h9 (by rw [List.contains_iff_mem]; exact hk))) (fun i j hi _ _ hlo=>by rw [G.lo] at hlo; cases hlo) (fun j _ hj=>absurd (G.p0 j rfl) hj)) ⟨fun t v h=>h,fun k B h=>?_⟩) hn
 ·show (pre++H).lookup k=some B
  rw [U1,f0y hp (hh k B hk),l0,hk]
 ·show (H'++hbR).lookup k=some B
  rw [U1,hHno' k (hlt9 k (by rw [show hbR.lookup k=some B from h]; simp)),l0]; exact h
end Go.Proofs.YtjagfionflbjbaaGreat.SH
set_option maxRecDepth 100000
set_option maxHeartbeats 4000000
namespace Go.Proofs.YtjagfionflbjbaaGreat.N
open Go Go.Proofs.YtjagfionflbjbaaGreat.SH Go.Proofs.YtjagfionflbjbaaGreat.NumA
open Go.Proofs.Tryz renaming call13→cl13,call40→cl40,call50→cl50,call51→cl51,call52→cl52,call53→cl53,call54→cl54,call55→cl55,call56→cl56,isAgg22→ag22,isAgg24→ag24,isAgg27→ag27,isAgg3→ag3,isAgg40→ag40,isAgg47→ag47,isAgg77→ag77,sizeOf22→sz22,sizeOf24→sz24,sizeOf27→sz27,sizeOf3→sz3,sizeOf40→sz40,sizeOf45→sz45,sizeOf47→sz47,sizeOf77→sz77,typeInfo40→ti40,underlying22→un22,underlying24→un24,underlying27→un27,underlying40→un40,underlying47→un47,underlying77→un77,underlying79→un79,zeroValue24→zv24,zeroValue27→zv27,zeroValue3→zv3,zeroValue47→zv47
theorem K1s {s:Bool}{m b:List (List Rat)}:∀ k B,(v5 s m b).lookup k=some B→900≤k:=fun k B h=>by
 have:=d0j (M6 s m b) _ (R3 h)
 simp only at this; omega
theorem g1k {s:Bool}{b:List (List Rat)}:∀ k B,(bsT s b).lookup k=some B→900≤k:=fun k B h=>by
 have:=d0j (D5 s b) _ (R3 h)
 simp only at this; omega
theorem p0y {s:Bool}{c:Nat}{m b:List (List Rat)}{v:PV}:∀ k B,([wU c m v]++v5 s m b).lookup k=some B→900≤k:=fun k B h=>by
 rw [List.singleton_append,i0] at h
 by_cases e:k=999
 ·omega
 ·rw [show (k == 999)=false by simpa using e] at h; exact K1s k B h
theorem p0p {s:Bool}{c:Nat}{m b:List (List Rat)}{v:PV}:(([wU c m v]++v5 s m b).map (·.1)).Nodup:=by
 rw [List.singleton_append,R0,List.nodup_cons]
 refine ⟨fun hm=>?_,(M6 s m b).nd⟩
 obtain ⟨⟨q,B⟩,hp,e⟩:=G0.1 hm
 have:=d0j (M6 s m b) _ hp
 simp only at this e; omega
theorem G1m {b:List (List Rat)}:(bsT true b).lookup 1002=some (hdB 1 b):=hdL
theorem n1v {s:Bool}{c n:Nat}{m b:List (List Rat)}:Whole ([wU c m (bv s n)]++v5 s m b):=by
 intro j B hj i x hx q hq
 rw [U1] at hj
 cases e:([wU c m (bv s n)]:List (Nat×Blk)).lookup j with
 | none =>
  rw [e,l0] at hj
  exact U8 ((M6 s m b).whole j B hj i x hx q hq)
 | some C =>
  rw [e,K0] at hj
  injection hj with hj
  subst hj
  obtain rfl:C=(wU c m (bv s n)).2:=by
   simp only [i0,List.lookup_nil] at e
   split at e
   ·injection e with e; exact e.symm
   ·cases e
  have hx:[rvV 1001 (Y4 0 0 m),PV.p (vZ c),bv s n][i]? = some x:=hx
  have hm:=O1 hx
  simp only [List.mem_cons,List.not_mem_nil,or_false] at hm
  rcases hm with rfl | rfl | rfl
  ·cases m with
   | nil=>cases hq
   | cons r m =>
    rw [M0a hq]
    refine U8 ?_
    rw [V0h sM,k1h]; simp
  ·cases hq
  ·cases s
   ·cases hq
   ·obtain rfl:1002=q:=by simpa [bv,PV.free] using hq
    refine U8 ?_
    rw [v5,U1,G1m]
    cases (B0x 0 m).lookup 1002 <;> simp
theorem j1h {s:Bool}{c:Nat}{m b:List (List Rat)}{v:PV}:∀ q,(PV.at_ 999 0 3).free q=false→([wU c m v]++v5 s m b).lookup q≠none:=fun q h=>by
 obtain rfl:999=q:=by simpa [PV.free] using h
 simp [i0]
theorem W1v {s:Bool}{c:Nat}{m m' b b':List (List Rat)}{v v':PV}{p:Prop}:p→∃ B0 B1,L8 999=true∧([wU c m v]++v5 s m b).lookup 999=some B0∧([wU c m' v']++v5 s m' b').lookup 999=some B1∧B1.sz=B0.sz∧B1.cs.len=B0.cs.len:=fun _=>⟨_,_,rfl,rfl,rfl,rfl,rfl⟩
def nob (n:Nat):List (List Rat):=List.replicate n []
theorem V0k {n:Nat}:RC n 0 (nob n):=⟨by simp [nob],fun r hr=>by obtain ⟨_,rfl⟩:=List.mem_replicate.1 hr; rfl⟩
theorem w1v (n B DB:Nat)(M:List (List Rat))(h:MOk n M)(hB1:MB B M)(hn:M.length=n)(H:EU n n 0 B DB M (nob n)):T4 E (fun _=>true) 31 [.p (pMq n M)] ([]) ([]) (.p (.tup [pQ (v1k n M (nob n)),vZ 0])):=by
 refine D4 (xs:=[pQ (v1k n M (nob n)),vZ 0]) Tryz.func31 rfl Tryz.ntmps31 Tryz.results31 sM fun F G=>?_
 have L:=@lti _ _ G.nt
 have hG:=G.g
 have hX:=G.x
 have hN:=i6 hG
 have P0:=G.p0
 have hb:=H.bl
 subst hn
 refine exr (swb (X3 (k:=1) (n:=2) pa2 rfl rfl (P0 _ rfl) L) t1 t0 ⟨rfl,rfl⟩ (swb (Y3 (k:=2) (n:=4) zv47 (.cons rfl (.cons rfl (.cons rfl (.cons rfl .nil)))) rfl (P0 _ rfl) L) t0 t0 ⟨rfl,rfl⟩ (aV L rfl (zn [(1,_),(2,_)] [(1,_),(2,_)] t2 t2 (T1 (exr (lp2 ag24 sz24 L rfl rfl (cK hG hX cl40 hN (g9 h hB1 oM) L t1 (sw (P3 L) t1 t0 (zn [(1,_),(2,_),(8,_)] [(1,_),(2,_)] t3 t2 (T3 rfl rfl ?_)))))))))))
 refine V1 (xq ?_)
 refine T1 (exr (sw (j2 un24 rfl sz22 dC rX L) t1 t1 ?_))
 refine sw (Z1 ag22 rF rF L) t1 t1 ?_
 refine sw (X2 un22 L) t1 t0 (sw (j2 un24 rfl sz3 dC rX L) t1 t1 ?_)
 refine sw (Z1 ag3 rF rF L) t1 t1 ?_
 refine sw (c_n L) t2 t0 (zn [(1,_),(2,_),(15,_)] [(1,_),(2,_)] t3 t2 (T3 rfl sM ?_))
 refine V1 (xq ?_)
 refine q0h (nsw (R6 ag24 sz24 rF (by exact al2) rfl L) t1 t1 ?_)
 refine nsU (pre:=[_,_]) (H:=bsT false (nob M.length)) G hN [1,2] [(1,.at_ 1 0 2),(2,.at_ 2 0 4)] [(1,_),(2,_)] (n0y false M.length M.length M (nob M.length) H.rc H.nl H.cl) L (l5 (ys:=[_,_]) cl50 rfl rfl) t2 g1k p0y (D5 _ _).nd p0p n1v j1h (fun h=>by cases h) rfl t2 rfl t2 rfl rfl rfl rfl ?_
 refine d2r (pre:=[_,_]) (H:=[wU M.length M (bv false M.length)]++v5 false M (nob M.length)) G hN [1,2] [(1,.at_ 1 0 2),(2,.at_ 2 0 4)] [(1,_),(2,_)] (y0f false M.length M.length 0 B DB M (nob M.length) H) L (l5 (ys:=[_]) cl51 rfl rfl) t1 p0y p0y p0p p0p n1v (fun q h=>by cases h) (fun h=>by cases h) rfl t2 rfl t2 rfl rfl rfl rfl ?_
 refine nsw (c_m L) t1 t0 (nsw (W3 rfl L) t1 t0 (nsw (W3 rfl L) t1 t0 (Q1m (Y3 (k:=5) (n:=4) zv47 (.cons rfl (.cons rfl (.cons rfl (.cons rfl .nil)))) rfl (P0 _ rfl) L) t0 t0 ⟨rfl,rfl⟩ (nsw (c_a L) t1 t0 (nsb (Z2 sz47 rF pa4 rfl pu4) t2 t1 ?_)))))
 refine .nil ⟨[(1,_),(2,_),(4,_),(5,_)],(1,_) :: (2,_) :: (5,_) :: [],t4,t3,?_⟩
 refine T1 (exr (mV L rfl (sw (X2 un27 L) t1 t0 (sw (j2 un24 rfl sz3 dC rX L) t1 t1 ?_))))
 refine sw (Z1 ag3 rF rF L) t1 t1 ?_
 refine sw (Z3 L) t2 t0 (zn [(2,_),(5,_),(27,_)] [(2,_),(5,_)] t3 t2 ?_)
 refine D2 rfl (fun hc=>?_) (fun hc=>?_)
 ·have hc2:=dt hc
  refine exr (cK hG hX cl55 hN (s7 0 dC dC) L t1 (sb (Z2 sz47 rF pa4 rfl pu4) t2 t1 ?_))
  refine aV L rfl (zn [(2,_),(3,_)] [(2,_)] t2 t1 (Y1 ?_))
  refine ⟨.inr rfl,Z4.cast (.cons (.agg rfl rfl rfl ag47 sz47 (.cons (.cons (.cons (.cons .nil))))) (.cons (.tmp rfl) .nil)) ?_,trivial⟩
  rw [v1k,if_pos oM]; rfl
 ·have hc2:=df hc
  refine V1 (xq ?_)
  refine exr (lp4 ag47 sz47 L rfl rfl (sb (Z2 sz47 rF pa4 rfl pu4) t2 t1 ?_))
  refine aV L rfl (zn [(2,_),(3,_)] [(2,_)] t2 t1 (Y1 ?_))
  refine ⟨.inr rfl,Z4.cast (.cons (.agg rfl rfl rfl ag47 sz47 (.cons (.cons (.cons (.cons .nil))))) (.cons (.tmp rfl) .nil)) ?_,trivial⟩
  rw [v1k,if_neg oM]
theorem G1v (n B DB:Nat)(M:List (List Rat))(h:MOk n M)(hB1:MB B M)(hn:M.length=n)(H:EU n n 0 B DB M (nob n)):y3 E 31 [pMq n M] (.tup [pQ (v1k n M (nob n)),vZ 0]):=q0w (w1v n B DB M h hB1 hn H)
theorem F0g {β:Nat→Option Blk}{z:List Nat}{s:Nat}:∀ {i:Nat} {m:List (List Rat)},(∀ j,j<m.length→z.contains (K3 s (i+j))=true∧β (K3 s (i+j))=some (j4 (m.getD j [])))→CvP β z (Y4 s i m) (U5 m)
 | _,[],_=>.nil
 | i,v :: m,h=>by
  have h0:=h 0 sM
  refine .cons (.ref h0.1 h0.2 (i3 v) rfl) (F0g fun j hj=>?_)
  have:=h (j+1) (by simpa using hj)
  rw [show i+1+j=i+(j+1) by omega]
  exact this
def bw (s:Bool)(b:List (List Rat)):PV:=if s then .p (.sl b.length (U5 b)) else .p (.a (.slice none 0 0))
@[reducible] def wD (s:Bool)(c:Nat)(m b:List (List Rat)):Nat×Blk:=(999,⟨79,3,.mix [.p (.sl m.length (U5 m)),.p (vZ c),bw s b]⟩)
theorem m1w {sl:List (Nat×PV)}{pre T:List (Nat×Blk)}{k:Nat}(hp:V0c pre=true)(hk:900≤k):St.blk ⟨sl,pre++T⟩ k=T.lookup k:=by
 show (pre++T).lookup k=_
 rw [U1,f0y hp hk,l0]
theorem w1y {s:Bool}{m b:List (List Rat)}{j:Nat}(h:j<m.length):(v5 s m b).lookup (K3 0 j)=some (j4 (m.getD j [])):=by
 rw [v5,v0z oM,U1,rwL dC h]; rfl
theorem J1s {s:Bool}{m b:List (List Rat)}(h:0<m.length):(v5 s m b).lookup 1001=some (hdB 0 m):=by
 rw [v5,v0z h,U1,show (1001:Nat)=0+1001 from rfl,hdL]; rfl
theorem k1w {m:List (List Rat)}{k:Nat}(h1:k≠1001)(h2:∀ q,k≠K3 0 q):(B0x 0 m).lookup k=none:=by
 cases e:(B0x 0 m).lookup k with
 | none=>rfl
 | some B =>
  rcases P0f dC (show (B0x 0 m).lookup k≠none by rw [e]; simp) with h | ⟨q,_,h⟩
  ·exact absurd h h1
  ·exact absurd h (h2 q)
theorem G1a {m b:List (List Rat)}:(v5 true m b).lookup 1002=some (hdB 1 b):=by
 rw [v5,U1,k1w dC (fun q=>by unfold K3; omega),l0]; exact G1m
theorem q1x {m b:List (List Rat)}{j:Nat}(h:j<b.length):(v5 true m b).lookup (K3 1 j)=some (j4 (b.getD j [])):=by
 rw [v5,U1,k1w (by unfold K3; omega) (fun q=>Ne.symm (f1s q j)),l0]; exact rwL dC h
theorem m1k {T:List (Nat×Blk)}{k:Nat}{B:Blk}(h:T.lookup k=some B):(T.map (·.1)).contains k=true:=by
 rw [List.contains_iff_mem]; exact G0.2 ⟨_,R3 h,rfl⟩
theorem d2d {T:List (Nat×Blk)}{k:Nat}(h:R5 T)(hk:k<1000):(T.map (·.1)).contains k=false:=by
 cases e:(T.map (·.1)).contains k with
 | false=>rfl
 | true =>
  rw [List.contains_iff_mem] at e
  obtain ⟨p,hp,rfl⟩:=G0.1 e
  have:=d0j h p hp; omega
theorem H1h {P:Program}{F:Fr}{c:Code}{Q:Exit→St→Prop}{s:Bool}{cols n:Nat}{m b:List (List Rat)}{sl:List (Nat×PV)}{pre:List (Nat×Blk)}(hlo:∀ k,F.lo k=true)(hp:V0c pre=true)(hpn:(pre.map (·.1)).Nodup)(hb:s=true→b.length=n)
  (hsl:P0a ⟨sl,pre++([wU cols m (bv s n)]++v5 s m b)⟩ ((v5 s m b).map (·.1)) sl) (hn:y4 P F c ⟨sl,pre++[wD s cols m b]⟩ Q):y4 P F c ⟨sl,pre++([wU cols m (bv s n)]++v5 s m b)⟩ Q:=by
 have hT:=M6 s m b
 refine G4 ((v5 s m b).map (·.1)) (h0j (by rw [s0]; exact fun k _=>hlo k)) hsl ?_ hn
 have hbig:∀ k B,1000≤k→(v5 s m b).lookup k=some B→St.blk ⟨sl,pre++([wU cols m (bv s n)]++v5 s m b)⟩ k=some B:=fun k B hk h=>by
  rw [m1w hp oM,List.singleton_append,Y8 oM,h]
 have key:∀ (l:List (Nat×Blk)),(∀ p∈l,p.1<900∧pre.lookup p.1=some p.2)→∀ r,k0m ⟨sl,pre++([wU cols m (bv s n)]++v5 s m b)⟩ ((v5 s m b).map (·.1)) r→k0m ⟨sl,pre++([wU cols m (bv s n)]++v5 s m b)⟩ ((v5 s m b).map (·.1)) (l++r):=by
  intro l
  induction l with
  | nil=>intro _ r h; exact h
  | cons p l ih =>
   intro h r hr
   obtain ⟨h1,h2⟩:=h p sM
   refine ⟨⟨d2d hT oM,p.2,?_,.same⟩,ih (fun q hq=>h q (by simp [hq])) r hr⟩
   show (pre++_).lookup p.1=_
   rw [U1,h2]; rfl
 refine key pre (fun p hm=>⟨?_,W5 hpn hm⟩) _ ⟨⟨d2d hT dC,⟨79,3,.mix [rvV 1001 (Y4 0 0 m),.p (vZ cols),bv s n]⟩,?_,.mix (.cons ?_ (.cons .same (.cons ?_ .nil)))⟩,trivial⟩
 ·unfold V0c at hp
  rw [s0] at hp
  simpa [Nat.blt_eq] using hp p hm
 ·rw [m1w hp dC]; rfl
 ·cases m with
  | nil=>exact .p .nil
  | cons r m =>
   have h1:=J1s (s:=s) (m:=r :: m) (b:=b) sM
   have:=Cv.refm (n:=(r :: m).length) (m1k h1) (hbig _ _ dC h1) (G2 0 0 _) (Nat.mul_one _) (F0g fun j hj=>by
    rw [G1]
    have h2:=w1y (s:=s) (b:=b) hj
    exact ⟨m1k h2,hbig _ _ (by unfold K3; omega) h2⟩)
   simpa [rvV,Y4] using this
 ·cases s with
  | false=>exact .same
  | true =>
   have hb':=hb rfl
   subst hb'
   have h1:=G1a (m:=m) (b:=b)
   have:=Cv.refm (n:=b.length) (m1k h1) (hbig _ _ dC h1) (G2 1 0 _) (Nat.mul_one _) (F0g fun j hj=>by
    rw [G1]
    have h2:=q1x (m:=m) hj
    exact ⟨m1k h2,hbig _ _ (by unfold K3; omega) h2⟩)
   exact this
@[reducible] def pIs (l:List Nat):O2:=.sl l.length (V6 l)
theorem q1y {m:List (List Rat)}{k:Nat}:(U5 m).take k=U5 (m.take k):=by simp [U5,List.map_take]
theorem K0d (n c B DB:Nat)(M:List (List Rat))(h:MOk c M)(hB1:MB B M)(hn:M.length=n)(H:EU n c 0 B DB M (nob n)):T4 E (fun _=>true) 13 [.p (pMq c M)] ([]) ([]) (.p (.tup [pMq c ((ech M (nob n) c).m.take (ech M (nob n) c).pv.length),pIs (ech M (nob n) c).pv,vZ 0])):=by
 refine D4 (xs:=[pMq c ((ech M (nob n) c).m.take (ech M (nob n) c).pv.length),pIs (ech M (nob n) c).pv,vZ 0]) Tryz.func13 rfl Tryz.ntmps13 Tryz.results13 sM fun F G=>?_
 have L:=@lti _ _ G.nt
 have hG:=G.g
 have hX:=G.x
 have hN:=i6 hG
 have P0:=G.p0
 have hb:=H.bl
 subst hn
 have hsp:=B6 H.rc H.rb c (Nat.le_refl _)
 refine exr (swb (X3 (k:=1) (n:=2) pa2 rfl rfl (P0 _ rfl) L) t1 t0 ⟨rfl,rfl⟩ (swb (Y3 (k:=2) (n:=2) zv24 (.cons rfl (.cons rfl .nil)) rfl (P0 _ rfl) L) t0 t0 ⟨rfl,rfl⟩ (aV L rfl (aV L rfl (zn [(1,_),(2,_)] [(1,_),(2,_)] t2 t2 (T1 (exr (lp2 ag24 sz24 L rfl rfl (cK hG hX cl40 hN (g9 h hB1 oM) L t1 (sw (P3 L) t1 t0 (zn [(1,_),(2,_),(10,_)] [(1,_),(2,_)] t3 t2 ?_)))))))))))
 refine T3 rfl rfl ?_
 refine V1 (xq ?_)
 refine q0h (nsw (R6 ag24 sz24 rF (by exact al2) rfl L) t1 t1 ?_)
 refine nsU (pre:=[_,_]) (H:=bsT false (nob M.length)) G hN [1,2] [(1,.at_ 1 0 2),(2,.at_ 2 0 2)] [(1,_),(2,_)] (n0y false M.length c M (nob M.length) H.rc H.nl H.cl) L (l5 (ys:=[_,_]) cl50 rfl rfl) t2 g1k p0y (D5 _ _).nd p0p n1v j1h (fun h=>by cases h) rfl t2 rfl t2 rfl rfl rfl rfl ?_
 refine nsw (c_a L) t1 t0 ?_
 refine .nil ⟨[(1,_),(2,_),(5,_)],(1,_) :: (2,_) :: (999,_) :: (v5 false M (nob M.length)),t3,⟨rfl,rfl,rfl,(hbT [_,_,_] (M6 false M (nob M.length)) rfl)⟩,?_⟩
 refine q0h (nsw (c_m L) t1 t0 (nsU (pre:=[_,_]) (H:=[wU c M (bv false M.length)]++v5 false M (nob M.length)) G hN [1,2,999] [(1,.at_ 1 0 2),(2,.at_ 2 0 2),(5,.at_ 999 0 3)] [(1,_),(2,_)] (y0f false M.length c 0 B DB M (nob M.length) H) L (l5 (ys:=[_]) cl51 rfl rfl) t1 p0y p0y p0p p0p n1v (fun q h=>by cases h) W1v rfl t2 rfl t3 rfl rfl rfl rfl ?_))
 refine nsw (c_m L) t1 t0 (nsw (W3 rfl L) t1 t0 (nsw (W3 rfl L) t1 t0 (Q1m (Y3 (k:=7) (n:=4) zv47 (.cons rfl (.cons rfl (.cons rfl (.cons rfl .nil)))) rfl (P0 _ rfl) L) t0 t0 (frT [_,_,_] (M6 false (ech M (nob M.length) c).m (ech M (nob M.length) c).b) rfl rfl (by simp [L3,Y2,Cells.free,PV.freeL,PV.free,l4,l3])) ?_)))
 refine nsw (c_a L) t1 t0 (nsb (Z2 sz47 rF pa4 rfl pu4) t2 t1 ?_)
 refine .nil ⟨[(1,_),(2,_),(5,_),(6,_)],(1,_) :: (2,_) :: (999,_) :: (v5 false (ech M (nob M.length) c).m (ech M (nob M.length) c).b),t4,⟨rfl,rfl,rfl,(hbT [_,_,_,_,_] (M6 false (ech M (nob M.length) c).m (ech M (nob M.length) c).b) rfl)⟩,?_⟩
 refine H1h (pre:=[_,_]) (fun k=>by rw [G.lo]; rfl) rfl sM (fun h=>by cases h) ⟨⟨_,rfl,.same⟩,⟨_,rfl,.same⟩,⟨_,rfl,.same⟩,⟨_,rfl,.same⟩,trivial⟩ ?_
 have hle:=hsp.2.2.1.le
 have hml:=hsp.1.1
 refine exd rF ?_
 refine sw (j2 un24 rfl sz3 dC rX L) t1 t1 ?_
 refine sw (Z1 ag3 rF rF L) t1 t1 ?_
 refine mV L rfl (sw (j3 rX L) t1 t1 ?_)
 refine sw (j2 un79 rfl sz77 dC rX L) t1 t1 ?_
 refine sw (Z1 ag77 rF rF L) t1 t1 ?_
 refine mV L rfl (sw (X2 un27 L) t1 t0 (mV L rfl (sw (X2 un27 L) t1 t0 (sw (f2c un77 sz40 (h:=(ech M (nob M.length) c).pv.length) rO oM (by rw [Nat.mul_one,q1y]) L) t3 t0 ?_))))
 refine sw (L7 (vs:=[_,_]) un24 zv24 (.cons rfl (.cons rfl .nil)) ((L2.cons sz3 (L2.cons sz22 L2.nil))).to rfl (.cons rfl (.atom rfl) rfl pu1 (.cons rfl .sl rfl (.skip pu1) .nil)) (.cons (.cons .nil)) L) t2 t0 (mV L rfl (sb (Z2 sz24 rF pa2 rfl pu2) t2 t1 ?_))
 refine aV L rfl (aV L rfl ?_)
 refine R1 ⟨i5 [⟨[1],[1],[19],[]⟩,⟨[19],[1],[20],[]⟩,⟨[5],[],[21],[]⟩,⟨[21],[999],[22],[]⟩,⟨[22],[999],[23],[]⟩,⟨[23],[999],[24],[]⟩,⟨[6],[],[25],[]⟩,⟨[25],[],[26],[]⟩,⟨[6],[],[27],[]⟩,⟨[27],[],[28],[]⟩,⟨[24,26,28],[],[29],[]⟩,⟨[20,29],[],[30],[]⟩,⟨[6],[],[31],[]⟩,⟨[2,30],[2],[],[2]⟩,⟨[31],[],[3],[]⟩,⟨[],[],[4],[]⟩] rF rF dC,[(2,_),(3,_),(4,_)],[(2,_)],t3,t1,?_⟩
 refine Y1 ?_
 refine ⟨.inr rfl,Z4.cast (.cons (.agg rfl rfl rfl ag24 sz24 (.cons (.cons .nil))) (.cons (.tmp rfl) (.cons (.tmp rfl) .nil))) ?_,trivial⟩
 rw [pMq,J0,I1 oM]
theorem B1c {pv:List Nat}{i:Nat}(h:i<pv.length):(V6 pv)[i]? = some (vZ (pv.getD i 0:Nat)):=by
 simp [V6,h,f0]
@[reducible] def bK (pv:List Nat)(c:Nat):List (Nat×Blk):=[(5,⟨27,1,.mix [.p (pIs pv)]⟩),(8,⟨3,1,.mix [.p (vZ c)]⟩)]
theorem v1a (pv:List Nat)(c i:Nat)(hi:i<pv.length)(hl:pv.length<1000):T4 E (fun _=>true) 53 [.p (vZ i),.at_ 5 0 1,.at_ 8 0 1] (bK pv c) (bK pv c) (.p (bZ (decide (pv.getD i 0=c)))):=by
 refine D4 (xs:=[bZ (decide (pv.getD i 0=c))]) Tryz.func53 rfl Tryz.ntmps53 Tryz.results53 sM fun F G=>?_
 have L:=@lti _ _ G.nt
 have hG:=G.g
 have hX:=G.x
 have hN:=i6 hG
 have P0:=G.p0
 refine exr (aV L rfl (zn [(0,_),(1,_),(2,_)] [(5,_),(8,_)] t3 t2 (exd rF ?_)))
 refine sw (Z1 ag27 rF rF L) t1 t1 ?_
 refine mV L rfl (sw (ixJ un27 sz3 (j:=i) rO oM sM L) t2 t0 ?_)
 refine sw (s4 ag3 (B1c hi) L) t1 t0 (sw (Z1 ag3 rF rF L) t1 t1 ?_)
 refine sw (c_e L) t2 t0 (aV L rfl ?_)
 refine R1 ⟨i5 [⟨[1],[5],[5],[]⟩,⟨[0],[],[6],[]⟩,⟨[5,6],[],[7],[]⟩,⟨[7],[],[8],[]⟩,⟨[2],[8],[9],[]⟩,⟨[8,9],[],[10],[]⟩,⟨[10],[],[4],[]⟩] rF rF dC,[(4,_)],[(5,_),(8,_)],t1,t2,?_⟩
 refine Y1 ?_
 refine ⟨.inr rfl,Z4.cast (.cons (.tmp rfl) .nil) ?_,t2⟩
 rw [show decide ((pv.getD i 0:Int)=c)=decide (pv.getD i 0=c) from decide_eq_decide.2 oM]
theorem M0d {pv:List Nat}{c:Nat}:0≤C4 (fun i=>decide (pv.getD i 0=c)) 0 (pv.length - 0)↔c∈pv:=by
 constructor
 ·intro h
  obtain ⟨h1,h2,h3,h4⟩:=j9 (show ¬ C4 (fun i=>decide (pv.getD i 0=c)) 0 (pv.length - 0)<0 by omega)
  have h3:pv.getD (C4 (fun i=>decide (pv.getD i 0=c)) 0 (pv.length - 0)).toNat 0=c:=by simpa using h3
  rw [← h3]; exact f6 oM
 ·intro h
  apply Classical.byContradiction
  intro hn
  obtain ⟨i,hi,e⟩:=Q0m h
  have:=B9 (show C4 (fun i=>decide (pv.getD i 0=c)) 0 (pv.length - 0)<0 by omega) i (Nat.zero_le _) oM
  simp only [decide_eq_false_iff_not] at this
  exact this e
theorem b2f {sl:List (Nat×PV)}{pre:List (Nat×Blk)}{xs:List O2}{e:TypeId}(hp:q6 pre=true)(hf:xs=[]→(L3 1003 sl && Y2 1003 pre)=true):h0d ⟨sl,pre++pvB 1003 e xs⟩ (pvF 1003 xs):=by
 cases xs with
 | cons a l=>trivial
 | nil =>
  have h:=hf rfl
  simp only [j0] at h
  refine ⟨?_,?_⟩
  ·show (pre++_).lookup 1003=none
   rw [U1,y5 hp dC,l0]; rfl
  ·show (L3 1003 sl && Y2 1003 (pre++_))=true
   rw [U4,h.1,h.2]; rfl
theorem Y1j {sl:List (Nat×PV)}{r:List (Nat×Blk)}{xs:List O2}{y:O2}{e:TypeId}:O5 ⟨sl,pvB 1003 e (xs++[y])++r⟩ (pvB 1003 e (xs++[y])):=by
 obtain ⟨C,hC⟩:=H0r (xs:=xs) (y:=y) (k:=1003) (e:=e)
 rw [hC]
 exact ⟨by show List.lookup 1003 _=_; simp,trivial⟩
theorem Y1p {sl:List (Nat×PV)}{pre:List (Nat×Blk)}{xs:List O2}{e:TypeId}(hp:q6 pre=true):Cv (St.blk ⟨sl,pre++pvB 1003 e xs⟩) [1003] (pvV 1003 xs) (.p (.sl xs.length xs)):=by
 cases xs with
 | nil=>exact .p .nil
 | cons a l =>
  have hB:St.blk ⟨sl,pre++pvB 1003 e (a :: l)⟩ 1003=some ⟨e,1,.pure (a :: l)⟩:=by
   show (pre++_).lookup 1003=_
   rw [U1,y5 hp dC]; rfl
  exact Cv.ref (n:=(a :: l).length) (z:=[1003]) rfl hB rfl (Nat.mul_one _)
theorem I6:R5 []:=⟨fun _ _=>rfl,List.nodup_nil,fun _ _=>rfl,fun j B hj=>by cases hj⟩
theorem p1f {f:Nat}{pv:List Nat}{c:Nat}{m:List (List Rat)}:(d9 (f+1) pv).map (f0f c pv m)=(d9 f pv).map (f0f c pv m)++if f∈pv then [] else [f0f c pv m f]:=by
 rw [d9,List.range_succ,List.filter_append,List.map_append,← d9]
 congr 1
 by_cases h:f∈pv
 ·rw [if_pos h,List.filter_cons_of_neg (by simpa using h)]; rfl
 ·rw [if_neg h,List.filter_cons_of_pos (by simpa using h)]; rfl
theorem q0r (n c B DB:Nat)(M:List (List Rat))(h:MOk c M)(hB1:MB B M)(hn:M.length=n)(H:EU n c 0 B DB M (nob n)):y3 E 13 [pMq c M] (.tup [pMq c ((ech M (nob n) c).m.take (ech M (nob n) c).pv.length),pIs (ech M (nob n) c).pv,vZ 0]):=q0w (K0d n c B DB M h hB1 hn H)
theorem y1h {c f:Nat}{pv:List Nat}{m:List (List Rat)}:(f0f c pv m f).length=c:=by simp [f0f]
theorem H1s {c f:Nat}{pv:List Nat}{m:List (List Rat)}(hf:f<1000):((d9 f pv).map (f0f c pv m)).length<1000:=by
 rw [O0,d9]
 have:=List.length_filter_le (fun g=>!pv.contains g) (List.range f)
 rw [List.length_range] at this; omega
theorem W1k {β:Nat→Option Blk}{z:List Nat}{k n:Nat}{v:List Rat}(hz:z.contains k=true)(hb:β k=some (j4 v))(hv:v.length=n):Cv β z (.ref k 0 n (n*4)) (.p (pV v)):=by
 subst hv
 exact .ref hz hb (i3 v) rfl
theorem J1y {sl:List (Nat×PV)}{pre pre' T:List (Nat×Blk)}{z:List Nat}(hT:R5 T)(hp:q6 pre=true)(hb:O5 ⟨[],pre⟩ pre')(hz:(z.all fun k=>Nat.blt k 1000)=true)(hz':(pre'.all fun p=>!z.contains p.1)=true):k0m ⟨sl,pre++T⟩ z (pre'++T):=by
 refine p0x fun p hp2=>?_
 rcases List.mem_append.1 hp2 with h | h
 ·rw [s0] at hz'
  refine ⟨by simpa using hz' p h,?_⟩
  show (pre++T).lookup p.1=_
  rw [U1,q0v hb h]; rfl
 ·have h1:=W5 (j:=p.1) (B:=p.2) hT.nd h
  have h3:=d0j hT p h
  refine ⟨?_,?_⟩
  ·cases e:z.contains p.1 with
   | false=>rfl
   | true =>
    rw [List.contains_iff_mem] at e
    rw [s0] at hz
    have:=hz _ e
    simp only [Nat.blt_eq] at this; omega
  ·show (pre++T).lookup p.1=_
   rw [U1,y5 hp h3,l0,h1]
theorem tPv {L:List (List Rat)}:R5 (pvB 1003 40 (U5 L)):=B1s dC _
theorem W1x {sl:List (Nat×PV)}{pre:List (Nat×Blk)}{e:TypeId}{xs:List O2}(hp:q6 pre=true):P6 ⟨sl,pre++pvB 1003 e xs⟩ (pvB 1003 e xs):=by
 have:=K1z (sl:=sl) (R:=[]) (k:=1003) (e:=e) (xs:=xs) pre hp dC
 rwa [List.append_nil] at this
theorem n1q {c f k:Nat}{pv:List Nat}{g:Nat→Rat}(hk:k<pv.length):(n0z pv g ((zsQ c).set f 1) k).set (pv.getD k 0) (g k)=n0z pv g ((zsQ c).set f 1) (k+1):=C8.symm
theorem V0w (n c B DB:Nat)(M:List (List Rat))(h:MOk c M)(hB1:MB B M)(hn:M.length=n)(H:EU n c 0 B DB M (nob n)):T4 E (fun _=>true) 14 [.p (pMq c M)] ([]) ([]) (.p (.tup [.sl (g1n c (ech M (nob n) c).pv ((ech M (nob n) c).m.take (ech M (nob n) c).pv.length)).length (U5 (g1n c (ech M (nob n) c).pv ((ech M (nob n) c).m.take (ech M (nob n) c).pv.length))),vZ 0])):=by
 refine D4 (xs:=[.sl (g1n c (ech M (nob n) c).pv ((ech M (nob n) c).m.take (ech M (nob n) c).pv.length)).length (U5 (g1n c (ech M (nob n) c).pv ((ech M (nob n) c).m.take (ech M (nob n) c).pv.length))),vZ 0]) Tryz.func14 rfl Tryz.ntmps14 Tryz.results14 sM fun F G=>?_
 have L:=@lti _ _ G.nt
 have hG:=G.g
 have hX:=G.x
 have hN:=i6 hG
 have P0:∀ k,Nat.blt k 1000=true→F.pin k=none:=fun k hk=>G.p0 k (I6.low k hk)
 have hb:=H.bl
 have hcl:=H.cl
 have hsp:=B6 H.rc H.rb c (Nat.le_refl _)
 have hme:=H.me c (Nat.le_refl _)
 have hecho:=q0r n c B DB M h hB1 hn H
 obtain ⟨E',hE⟩:∃ E',E'=(ech M (nob n) c).m.take (ech M (nob n) c).pv.length:=⟨_,rfl⟩
 obtain ⟨pv,hpv⟩:∃ pv,pv=(ech M (nob n) c).pv:=⟨_,rfl⟩
 have hrc:=hsp.1
 have hR:=hsp.2.2.1
 have hEl:E'.length=pv.length:=by rw [hE,hpv,J0,hrc.1]; exact I1 hR.le
 have hEr:∀ i,i<pv.length→(E'.getD i []).length=c:=fun i hi=>by
  have hm:E'.getD i []∈E':=b0f oM
  rw [hE] at hm
  exact hrc.2 _ (by rw [hE]; exact List.mem_of_mem_take hm)
 have hEB:MB B E':=fun r hr a ha=>hme r (List.mem_of_mem_take (by rw [hE] at hr; exact hr)) a ha
 have hpl:pv.length<1000:=by have:=hR.le; have:=H.nl; rw [← hpv] at *; omega
 have hplt:∀ p∈pv,p<c:=by rw [hpv]; exact hR.lt
 rw [← hE,← hpv] at hecho ⊢
 have hlo:F.lo 1003=true:=by rw [G.lo]; rfl
 have hpin3:F.pin 1003=none:=G.p0 _ rfl
 refine exr (swb (X3 (k:=1) (n:=2) pa2 rfl rfl (P0 _ rfl) L) t1 t0 (frT [] I6 rfl rfl rfl) (aV L rfl (aV L rfl ?_)))
 refine R1 ⟨[(1,_)],(1,_) :: (([]:List (Nat×Blk))),t1,⟨rfl,(hbT [_] I6 rfl)⟩,?_⟩
 refine exr (lp2 ag24 sz24 L rfl rfl (cK hG hX cl13 hN hecho L t1 (mV L rfl (sw (W3 rfl L) t1 t0 (sw (W3 rfl L) t1 t0 (sw (W3 rfl L) t1 t0 (swb (Y3 (k:=4) (n:=2) zv24 (.cons rfl (.cons rfl .nil)) rfl (P0 _ rfl) L) t0 t0 (frT [_] I6 rfl rfl rfl) (swb (Y3 (k:=5) (n:=1) zv27 (.cons rfl .nil) rfl (P0 _ rfl) L) t0 t0 (frT [_,_] I6 rfl rfl rfl) (sb (Z2 sz24 rF pa2 rfl pu2) t2 t1 ?_)))))))))
 refine sb (Z2 sz27 rF .sl rfl pu1) t2 t1 ?_
 refine aV L rfl ?_
 refine R1 ⟨[(1,_),(4,_),(5,_),(6,_)],(1,_) :: (4,_) :: (5,_) :: (([]:List (Nat×Blk))),t4,⟨rfl,rfl,rfl,(hbT [_,_,_,_,_] I6 rfl)⟩,?_⟩
 refine T1 (exr (mV L rfl (sw (c_n L) t2 t0 ?_)))
 refine R1 ⟨[(1,_),(4,_),(5,_),(6,_),(19,_)],(1,_) :: (4,_) :: (5,_) :: (([]:List (Nat×Blk))),t5,⟨rfl,rfl,rfl,(hbT [_,_,_] I6 rfl)⟩,?_⟩
 refine T3 rfl rfl ?_
 refine V1 (xq ?_)
 refine exr (aV L rfl ?_)
 refine R1 ⟨[(1,_),(4,_),(5,_),(7,pvV 1003 (U5 []))],(1,_) :: (4,_) :: (5,_) :: ((pvB 1003 40 (U5 []))),t4,⟨rfl,rfl,rfl,(hbT [_,_,_] I6 rfl)⟩,?_⟩
 refine T1 (exr (sw (j2 un24 rfl sz3 dC rX L) t1 t1 ?_))
 refine sw (Z1 ag3 rF rF L) t1 t1 ?_
 refine mV L rfl ?_
 refine R1 ⟨[(1,_),(4,_),(5,_),(7,_),(22,_),(23,_)],(1,_) :: (4,_) :: (5,_) :: ((pvB 1003 40 (U5 []))),t6,⟨rfl,rfl,rfl,(hbT [_,_,_] (tPv (L:=[])) rfl)⟩,?_⟩
 refine X1 ?_
 refine K0m (α:=Nat) (fun f=>[(23,vi (f:Int)),(7,pvV 1003 (U5 ((d9 f pv).map (f0f c pv E'))))]) (fun f=>[]) (fun f=>(pvB 1003 40 (U5 ((d9 f pv).map (f0f c pv E'))))) (fun f=>f≤c) (fun f=>c - f) (0) (sl:=[(1,_),(4,_),(5,_),(22,_)]) (hb:=[(1,_),(4,_),(5,_)]) ?_ ⟨oR,oR,rfl,rfl,rfl,rfl,trivial⟩ ⟨rfl,rfl,rfl,(hbT [_,_,_] (tPv (L:=[])) rfl)⟩ ?_
 ·exact Nat.zero_le _
 intro f hf
 refine exr (sw (Z3 L) t2 t0 ?_)
 refine R1 ⟨[(1,_),(4,_),(5,_),(7,_),(22,_),(23,_),(24,_)],(1,_) :: (4,_) :: (5,_) :: ((pvB 1003 40 (U5 ((d9 f pv).map (f0f c pv E'))))),t7,⟨rfl,rfl,rfl,(hbT [_,_,_] (tPv (L:=(d9 f pv).map (f0f c pv E'))) rfl)⟩,?_⟩
 refine T1 ?_
 refine D2 rfl (fun hc=>?_) (fun hc=>?_)
 ·have hc:=dt hc
  have hfc:f<c:=by omega
  have hstep:=p1f (f:=f) (pv:=pv) (c:=c) (m:=E')
  have hlen:=H1s (c:=c) (f:=f) (pv:=pv) (m:=E') oM
  refine V1 (xq ?_)
  refine T1 (X1 (exr (mV L rfl (swb (Y3 (k:=8) (n:=1) zv3 (.cons rfl .nil) rfl (P0 _ rfl) L) t0 t0 (frT [_,_,_] (tPv (L:=(d9 f pv).map (f0f c pv E'))) rfl rfl (by simp [L3,Y2,Cells.free,PV.freeL,PV.free,l4,l3])) ?_))))
  refine sb (Z2 sz3 rF (.atom rfl) rfl pu1) t2 t1 ?_
  refine R1 ⟨[(1,_),(4,_),(5,_),(7,_),(8,_),(22,_),(23,_)],(1,_) :: (4,_) :: (5,_) :: (8,_) :: ((pvB 1003 40 (U5 ((d9 f pv).map (f0f c pv E'))))),t7,⟨rfl,rfl,rfl,rfl,(hbT [_,_,_,_,_] (tPv (L:=(d9 f pv).map (f0f c pv E'))) rfl)⟩,?_⟩
  have f1:=l9 53 [.at_ 5 0 1,.at_ 8 0 1] (bK pv f) sM (l8 rfl) cl53 (fun i=>decide (pv.getD i 0=f)) 0 pv.length oM (fun i _ hi=>v1a pv f i hi hpl)
  refine T1 (exr (sw (Z1 ag27 rF rF L) t1 t1 ?_))
  refine sw (X2 un27 L) t1 t0 (sw (w0v (vs:=[]) (us:=[_,_]) rfl rfl L) t2 t0 (sw (v6 hG hX hN f1 rfl L (l5 (ys:=[_,_,_]) cl52 rfl rfl) sM (l8 rfl) (fun q h=>by cases h)) t3 t2 ?_))
  refine sw (h0z L) t2 t0 ?_
  refine R1 ⟨[(1,_),(4,_),(5,_),(7,_),(8,_),(22,_),(23,_),(30,_)],(1,_) :: (4,_) :: (5,_) :: (8,_) :: ((pvB 1003 40 (U5 ((d9 f pv).map (f0f c pv E'))))),t8,⟨rfl,rfl,rfl,rfl,(hbT [_,_,_,_] (tPv (L:=(d9 f pv).map (f0f c pv E'))) rfl)⟩,?_⟩
  refine D2 rfl (fun hg=>?_) (fun hg=>?_)
  ·have hg:f∈pv:=M0d.1 (dt hg)
   rw [if_pos hg,List.append_nil] at hstep
   refine K2 (xq ?_)
   refine C3 (sw (I3 L (w64 oM oM)) t2 t0 (mV L rfl (R1 ?_)))
   exact ⟨f+1,oM,by omega,B3 ⟨oR,(by rw [hstep]; rfl),rfl,rfl,rfl,rfl,trivial⟩ ⟨rfl,rfl,rfl,(by rw [hstep]; exact hbT [_,_,_,_] tPv rfl)⟩⟩
  ·have hg:f ∉ pv:=fun h=>(df hg) (M0d.2 h)
   rw [if_neg hg] at hstep
   obtain ⟨L0,hL0⟩:∃ L0,L0=(d9 f pv).map (f0f c pv E'):=⟨_,rfl⟩
   rw [← hL0] at hstep hlen ⊢
   refine V1 (xq ?_)
   refine exr (sw (j2 un24 rfl sz3 dC rX L) t1 t1 ?_)
   refine sw (Z1 ag3 rF rF L) t1 t1 ?_
   refine swb (f1n (k:=33) hG hX cl54 rfl hN (n0k c oM) (P0 _ rfl) L) t1 t0 (frT [_,_,_,_] (tPv (L:=L0)) rfl rfl (by simp [L3,Y2,Cells.free,PV.freeL,PV.free,l4,l3])) ?_
   refine aV L rfl ?_
   refine R1 ⟨[(1,_),(4,_),(5,_),(7,_),(8,_),(9,_),(22,_),(23,_)],(1,_) :: (4,_) :: (5,_) :: (8,_) :: (33,_) :: ((pvB 1003 40 (U5 L0))),t8,⟨rfl,rfl,rfl,rfl,rfl,(hbT [_,_,_,_,_] (tPv (L:=L0)) rfl)⟩,?_⟩
   refine exd rF ?_
   refine mV L rfl (sw (Z1 ag3 rF rF L) t1 t1 ?_)
   refine cK hG hX cl55 hN (s7 1 dC dC) L t1 (sw (n0g (sz:=4) un40 sz47 (by exact sM) (j:=f) rO oM L) t2 t1 ?_)
   refine sb (D0c (n:=4) sz47 (by exact sM) rfl oM) t2 t1 ?_
   refine R1 ⟨j0c [⟨[9],[],[34],[]⟩,⟨[8],[8],[35],[]⟩,⟨[],[],[36],[]⟩,⟨[34,35],[33],[37],[]⟩,⟨[37,36],[33],[],[33]⟩] (.cons (cf0 rfl) (.cons (cf0 rfl) (.cons (cf0 rfl) (.cons (cf0 rfl) (.cons (cf0 rfl)  .nil))))) rfl (frS [] [_,_,_,_,_] (tPv (L:=L0)) rfl (by simp [L3,Y2,Cells.free,PV.freeL,PV.free,l4,l3])) dC,[(1,_),(4,_),(5,_),(7,_),(8,_),(9,_),(22,_),(23,_)],(1,_) :: (4,_) :: (5,_) :: (8,_) :: (33,_) :: ((pvB 1003 40 (U5 L0))),t8,⟨rfl,rfl,rfl,rfl,rfl,(hbT [_,_,_,_,_,_] (tPv (L:=L0)) rfl)⟩,?_⟩
   refine T1 (exr (sw (Z1 ag27 rF rF L) t1 t1 ?_))
   refine sw (X2 un27 L) t1 t0 (mV L rfl ?_)
   refine R1 ⟨[(1,_),(4,_),(5,_),(7,_),(8,_),(9,_),(22,_),(23,_),(38,_),(39,_),(40,_)],(1,_) :: (4,_) :: (5,_) :: (8,_) :: (33,_) :: ((pvB 1003 40 (U5 L0))),t11,⟨rfl,rfl,rfl,rfl,rfl,(hbT [_,_,_,_,_] (tPv (L:=L0)) rfl)⟩,?_⟩
   refine X1 ?_
   refine K0m (α:=Nat) (fun k=>[(40,vi (k:Int))]) (fun k=>[(33,j4 (n0z pv (fun i=>-(ent E' i f)) ((zsQ c).set f 1) k))]) (fun k=>(pvB 1003 40 (U5 L0))) (fun k=>k≤pv.length) (fun k=>pv.length - k) (0) (sl:=[(1,_),(4,_),(5,_),(7,_),(8,_),(9,_),(22,_),(23,_),(38,_),(39,_)]) (hb:=[(1,_),(4,_),(5,_),(8,_)]) ?_ ⟨oR,rfl,rfl,rfl,rfl,rfl,rfl,rfl,rfl,rfl,rfl,trivial⟩ ⟨obl rfl (j0w 1 sO),rfl,rfl,rfl,rfl,(hbT [_,_,_,_,_] (tPv (L:=L0)) rfl)⟩ ?_
   ·exact Nat.zero_le _
   intro k hk
   refine exr (sw (Z3 L) t2 t0 ?_)
   refine R1 ⟨[(1,_),(4,_),(5,_),(7,_),(8,_),(9,_),(22,_),(23,_),(38,_),(39,_),(40,_),(41,_)],(1,_) :: (4,_) :: (5,_) :: (8,_) :: (33,_) :: ((pvB 1003 40 (U5 L0))),t12,⟨rfl,rfl,rfl,rfl,rfl,(hbT [_,_,_,_,_] (tPv (L:=L0)) rfl)⟩,?_⟩
   refine T1 ?_
   refine D2 rfl (fun he=>?_) (fun he=>?_)
   ·have he:=dt he
    have hk2:k<pv.length:=by omega
    have hpk:=hplt _ (f6 hk2)
    have hq:=h0c (i:=k) (j:=f) hEB H.b0
    refine V1 (xq ?_)
    refine T1 (X1 (exr (mV L rfl (sw (ixJ un27 sz3 (j:=k) rO oM sM L) t2 t0 ?_))))
    refine sw (s4 ag3 (B1c hk2) L) t1 t0 (aV L rfl (aV L rfl ?_))
    refine R1 ⟨[(1,_),(4,_),(5,_),(7,_),(8,_),(9,_),(10,_),(11,_),(22,_),(23,_),(38,_),(39,_),(40,_)],(1,_) :: (4,_) :: (5,_) :: (8,_) :: (33,_) :: ((pvB 1003 40 (U5 L0))),t13,⟨rfl,rfl,rfl,rfl,rfl,(hbT [_,_,_,_,_] (tPv (L:=L0)) rfl)⟩,?_⟩
    refine d0d rF ?_
    refine mV L rfl (mV L rfl (sw (j2 un24 rfl sz22 dC rX L) t1 t1 ?_))
    refine sw (Z1 ag22 rF rF L) t1 t1 ?_
    refine mV L rfl (sw (ixJ un22 sz40 (j:=k) rO oM sM L) t2 t0 ?_)
    refine sw (s4 ag40 (j7 oM) L) t1 t0 (sw (Z1 ag3 rF rF L) t1 t1 ?_)
    refine sw (y2 un40 sz47 oM (by rw [hEr k hk2]; omega) sM dC L) t2 t0 ?_
    refine sw (Y6 ag47 sz47 (X6 (by rw [hEr k hk2]; exact hfc)) rfl L) t1 t0 ?_
    refine cK hG hX cl56 hN (v0x (ent E' k f) oM) L t1 (sw (n0g (sz:=4) un40 sz47 (by exact sM) (j:=pv.getD k 0) rO (by simpa using hpk) L) t2 t1 ?_)
    refine sb (D0c (n:=4) sz47 (by exact sM) rfl oM) t2 t1 ?_
    refine R1 ⟨j0c [⟨[9],[],[45],[]⟩,⟨[11],[],[46],[]⟩,⟨[4],[4],[47],[]⟩,⟨[47],[4],[48],[]⟩,⟨[10],[],[49],[]⟩,⟨[48,49],[],[50],[]⟩,⟨[50],[],[51],[]⟩,⟨[8],[8],[52],[]⟩,⟨[51,52],[],[53],[]⟩,⟨[53],[],[54],[]⟩,⟨[54],[],[55],[]⟩,⟨[45,46],[33],[56],[]⟩,⟨[56,55],[33],[],[33]⟩] (.cons (cf0 rfl) (.cons (cf0 rfl) (.cons (cf0 rfl) (.cons (cf0 rfl) (.cons (cf0 rfl) (.cons (cf0 rfl) (.cons (cf0 rfl) (.cons (cf0 rfl) (.cons (cf0 rfl) (.cons (cf0 rfl) (.cons (cf0 rfl) (.cons (cf0 rfl) (.cons (cf0 rfl)  .nil))))))))))))) rfl (frS [] [_,_,_,_,_] (tPv (L:=L0)) rfl (by simp [L3,Y2,Cells.free,PV.freeL,PV.free,l4,l3])) dC,(show y4 _ _ _ _ _ from exw (sl:=[(1,_),(4,_),(5,_),(7,_),(8,_),(9,_),(22,_),(23,_),(38,_),(39,_),(40,_)]) (hb:=(1,_) :: (4,_) :: (5,_) :: (8,_) :: (33,_) :: ((pvB 1003 40 (U5 L0)))) t11 ⟨rfl,rfl,rfl,rfl,rfl,(hbT [_,_,_,_,_,_] (tPv (L:=L0)) rfl)⟩ ?_)⟩
    refine C3 (sw (I3 L (w64 oM oM)) t2 t0 (mV L rfl (R1 ?_)))
    exact ⟨k+1,oM,by omega,B3 ⟨oR,rfl,rfl,rfl,rfl,rfl,rfl,rfl,rfl,rfl,rfl,trivial⟩ ⟨obl rfl ((j0w _ (by simpa using hpk)).trans (by rw [n1q hk2])),rfl,rfl,rfl,rfl,(hbT [_,_,_,_,_] (tPv (L:=L0)) rfl)⟩⟩
   ·have he:=df he
    have hkp:k=pv.length:=by omega
    subst hkp
    refine K2 (xq ?_)
    refine G4 [33] (sl:=[(1,_),(4,_),(5,_),(7,_),(9,.p (pV (f0f c pv E' f))),(22,_),(23,_)]) (hb:=[(1,_),(4,_),(5,_)]++pvB 1003 40 (U5 L0)) (h0j (by simp [G.lo])) ⟨⟨_,rfl,.same⟩,⟨_,rfl,.same⟩,⟨_,rfl,.same⟩,⟨_,rfl,.same⟩,⟨_,rfl,?_⟩,⟨_,rfl,.same⟩,⟨_,rfl,.same⟩,trivial⟩ (J1y (pre:=[_,_,_,_,_]) tPv rfl t3 rfl rfl) ?_
    ·exact (W1k rF rF y1h)
    refine C3 (mV L rfl (mV L rfl (sw (E4 (vs:=[_]) un22 ti40 rfl rfl dC dC rfl (M2 (.cons rfl .nil) rfl) rfl (.cons rfl .sl rfl pu1 .nil) (.cons .nil) L) t1 t0 (swA (M0x (k:=1003) un22 un22 ti40 rfl rfl rfl (by first | (simp [Tryz.t40]; done) | (simp [Tryz.t40]; omega)) sO hpin3 L) t2 ((W1x (pre:=[_,_,_]) rfl)) (b2f (pre:=[_,_,_]) rfl (fun e=>by rw [e]; rfl)) ?_))))
    refine aV L rfl ?_
    refine R1 (show y4 _ _ _ _ _ from exw (sl:=[(1,_),(4,_),(5,_),(7,pvV 1003 (U5 (L0++[f0f c pv E' f]))),(22,_),(23,_)]) (hb:=(1,_) :: (4,_) :: (5,_) :: ((pvB 1003 40 (U5 (L0++[f0f c pv E' f]))))) ⟨rfl,rfl,rfl,(by rw [g0b]; rfl),rfl,rfl,trivial⟩ ⟨(g1b (pre:=[_,_,_]) dC rfl),(g1b (pre:=[_,_,_]) dC rfl),(g1b (pre:=[_,_,_]) dC rfl),(by rw [g0b]; exact Y1j)⟩ ?_)
    refine C3 (sw (I3 L (w64 oM oM)) t2 t0 (mV L rfl (R1 ?_)))
    exact ⟨f+1,oM,by omega,B3 ⟨oR,(by rw [hstep]; rfl),rfl,rfl,rfl,rfl,trivial⟩ ⟨rfl,rfl,rfl,(by rw [hstep]; exact hbT [_,_,_] tPv rfl)⟩⟩
 ·have hc:=df hc
  have hfc:f=c:=by omega
  subst hfc
  obtain ⟨L0,hL0⟩:∃ L0,L0=(d9 f pv).map (f0f f pv E'):=⟨_,rfl⟩
  have hk:g1n f pv E'=L0:=by rw [hL0]; rfl
  rw [← hL0,hk]
  refine K2 (xq ?_)
  refine exr (mV L rfl (aV L rfl (aV L rfl ?_)))
  refine R1 ⟨[(2,_),(3,_)],((pvB 1003 40 (U5 L0))),t2,(hbT [_,_,_] (tPv (L:=L0)) rfl),?_⟩
  refine G4 [1003] (sl:=[(2,.p (.sl (U5 L0).length (U5 L0))),(3,_)]) (hb:=[]) (h0j (by simp [G.lo])) ⟨⟨_,rfl,Y1p (pre:=[]) rfl⟩,⟨_,rfl,.same⟩,trivial⟩ t0 ?_
  refine Y1 ?_
  exact ⟨.inr rfl,.cons (.tmp (by rw [← m6 L0]; rfl)) (.cons (.tmp rfl) .nil),trivial⟩
end Go.Proofs.YtjagfionflbjbaaGreat.N
namespace Go.Proofs.YtjagfionflbjbaaGreat.SH
open Go Go.RowKit
def swN (a b k:Nat):Nat:=if k=a then b else if k=b then a else k
theorem D0y (a b k:Nat):swN a b (swN a b k)=k:=by
 unfold swN
 by_cases h1:k=a
 ·rw [if_pos h1]
  by_cases h2:b=a
  ·rw [if_pos h2,h1,h2]
  ·rw [if_neg h2,if_pos rfl,h1]
 ·rw [if_neg h1]
  by_cases h2:k=b
  ·rw [if_pos h2,if_pos rfl,h2]
  ·rw [if_neg h2,if_neg h1,if_neg h2]
theorem D1p {P:Program}{F:Fr}{c:Code}{Q:Exit→St→Prop}{S S':St}(a b:Nat)(hpa:F.pin a=none)(hpb:F.pin b=none)(hlo:F.lo a=F.lo b)
  (hs:∀ t v',S'.slot t=some v'→∃ v,S.slot t=some v∧v'=v.ren (swN a b)) (hb:∀ k B',S'.blk k=some B'→∃ B,S.blk (swN a b k)=some B∧B'=B.ren (swN a b)) (hn:y4 P F c S' Q):y4 P F c S Q:=by
 refine ⟨fun n a' w hS=>hn.run n a' w ?_⟩
 obtain ⟨ρ,h⟩:=hS
 have hne:∀ k,S'.blk k≠none→S.blk (swN a b k)≠none:=fun k hk=>by
  obtain ⟨B',hB'⟩:=D1.1 hk
  obtain ⟨B,h1,_⟩:=hb k B' hB'
  rw [h1]; simp
 have hcar:Carry (okI F S.blk ρ) (okI F S'.blk fun k=>ρ (swN a b k)) (hp w) (hp w):=fun x hx _=>⟨⟨hx.1,fun k hk e=>hx.2 _ (hne k hk) e⟩,rfl⟩
 have hre:∀ (v:PV) (u:Value),P2 S.blk ρ (okI F S.blk ρ) (hp w) v u→P2 S'.blk (fun k=>ρ (swN a b k)) (okI F S'.blk fun k=>ρ (swN a b k)) (hp w) (v.ren (swN a b)) u:=fun v u hr=>by
  have h1:=F0c (β:=S'.blk) (β0:=S.blk) (ρ:=fun k=>ρ (swN a b k)) (ρ0:=ρ) (ok:=okI F S.blk ρ) (Hp:=hp w) (κ:=swN a b) (K:=fun _=>True) (fun j _ B' hB'=>by
   obtain ⟨B,h2,h3⟩:=hb _ B' hB'
   rw [D0y] at h2
   refine ⟨B,h2,by rw [h3]; rfl,by rw [h3]; exact Cells.ren_len _ _,by simp only [D0y]⟩) v u (fun _ _=>trivial) hr
  exact P2.mono (K:=fun _=>True) hcar (fun k _ B hB=>⟨B,hB,rfl,Nat.le_refl _,fun _=>⟨rfl,fun c T fr hc=>⟨c,T,fr,hc,rfl⟩⟩⟩) _ u (fun _ _=>trivial) h1
 refine ⟨fun k=>ρ (swN a b k),fun t v' ht=>?_,fun k B' hk=>?_,fun k k' h1 h2 e=>?_,h.frame,h.nt,h.df,fun j x n hj hS=>?_⟩
 ·obtain ⟨v,hv,rfl⟩:=hs t v' ht
  obtain ⟨u,hu,hr⟩:=h.slots t v hv
  exact ⟨u,hu,hre v u hr⟩
 ·obtain ⟨B,h1,rfl⟩:=hb k B' hk
  obtain ⟨c,g1,g2,g3,g4⟩:=h.blks _ B h1
  refine ⟨c,g1,?_,by rw [show (B.ren (swN a b)).cs.len=B.cs.len from Cells.ren_len _ _]; exact g3,fun i x hx=>?_⟩
  ·rcases g2 with ⟨e1,e2⟩ | e1
   ·refine .inl ⟨e1,?_⟩
    unfold swN at e2
    split at e2
    ·rename_i e; rw [e,hlo]; exact e2
    ·split at e2
     ·rename_i e; rw [e,← hlo]; exact e2
     ·exact e2
   ·exact .inr e1
  ·have hx:(B.cs.ren (swN a b)).get i=some x:=hx
   rw [Cells.ren_get,M0] at hx
   obtain ⟨y,hy,rfl⟩:=hx
   obtain ⟨u,hu,ho,hr⟩:=g4 i y hy
   exact ⟨u,hu,ho,hre y u hr⟩
 ·have:=h.inj _ _ (hne k h1) (hne k' h2) e
  rw [← D0y a b k,this,D0y]
 ·have hja:j≠a:=fun e=>by rw [e,hpa] at hj; cases hj
  have hjb:j≠b:=fun e=>by rw [e,hpb] at hj; cases hj
  have e:swN a b j=j:=by rw [swN,if_neg hja,if_neg hjb]
  have:=h.pin j x n hj (by have:=hne j hS; rwa [e] at this)
  simp only [e]; exact this
end Go.Proofs.YtjagfionflbjbaaGreat.SH
set_option maxRecDepth 100000
set_option maxHeartbeats 4000000
namespace Go.Proofs.YtjagfionflbjbaaGreat.SH
open Go Go.RowKit
mutual
theorem PV.ren_only {κ:Nat→Nat}{ks:List Nat}(hk:∀ k∈ks,κ k=k):∀ x:PV,x.only ks=true→x.ren κ=x
 | .p _,_=>rfl
 | .at_ j _ _,h=>by
  have h:ks.contains j=true:=h
  rw [PV.ren,hk j (by simpa using h)]
 | .im _ _,_=>rfl
 | .ref j _ _ _,h=>by
  have h:ks.contains j=true:=h
  rw [PV.ren,hk j (by simpa using h)]
 | .agg xs,h=>by
  simp only [PV.only] at h
  rw [PV.ren,PV.renL_only hk xs h]
 | .tup xs,h=>by
  simp only [PV.only] at h
  rw [PV.ren,PV.renL_only hk xs h]
 | .clo f a b,h=>by
  simp only [PV.only,j0] at h
  rw [PV.ren,PV.renL_only hk a h.1,PV.renL_only hk b h.2]
 | .ifc t x,h=>by
  simp only [PV.only] at h
  rw [PV.ren,PV.ren_only hk x h]
 | .dead,_=>rfl
theorem PV.renL_only {κ:Nat→Nat}{ks:List Nat}(hk:∀ k∈ks,κ k=k):∀ xs:List PV,PV.onlyL ks xs=true→PV.renL κ xs=xs
 | [],_=>rfl
 | x :: xs,h=>by
  simp only [PV.onlyL,j0] at h
  rw [PV.renL,PV.ren_only hk x h.1,PV.renL_only hk xs h.2]
end
theorem Blk.ren_only {κ:Nat→Nat}{ks:List Nat}(hk:∀ k∈ks,κ k=k)(B:Blk)(h:B.cs.only ks=true):B.ren κ=B:=by
 obtain ⟨T,sz,cs⟩:=B
 cases cs with
 | pure xs=>rfl
 | mix vs =>
  have h:PV.onlyL ks vs=true:=h
  have:vs.map (PV.ren κ)=vs:=by rw [← g0a]; exact PV.renL_only hk vs h
  simp only [Blk.ren,Cells.ren,this]
end Go.Proofs.YtjagfionflbjbaaGreat.SH
namespace Go.Proofs.YtjagfionflbjbaaGreat.N
open Go Go.Proofs.YtjagfionflbjbaaGreat.SH Go.Proofs.YtjagfionflbjbaaGreat.NumA
theorem B1n {s:Nat}{m:List (List Rat)}{v:List Rat}:J2 s (m++[v])=(s+1001,⟨40,1,.mix (Y4 s 0 m++[.ref (K3 s m.length) 0 v.length (v.length*4)])⟩) :: (e7 s 0 m++[(K3 s m.length,j4 v)]):=by
 rw [J2,hdB,k0y,w0w,G1]
theorem Q1x {P:Program}{F:Fr}{c:Code}{Q:Exit→St→Prop}{S:St}{sl:List (Nat×PV)}{pre:List (Nat×Blk)}{m:List (List Rat)}{s a:Nat}{v:List Rat}(ks:List Nat)(hs2:s<9)(ha:a<1000)(hpa:F.pin a=none)(hpb:F.pin (K3 s m.length)=none)(hlo:F.lo a=F.lo (K3 s m.length))(hks:(ks.all fun k=>Nat.blt k 1100 && k != a)=true)
  (hS:m7 S sl) (hSo:(sl.all fun p=>p.2.only ks)=true) (hB:O5 S pre) (hBo:(pre.all fun p=>p.2.cs.only ks)=true) (hBk:(pre.all fun p=>Nat.blt p.1 1000 && p.1 != a)=true)
  (h1:S.blk (s+1001)=some ⟨40,1,.mix (Y4 s 0 m++[.ref a 0 v.length (v.length*4)])⟩) (h2:S.blk a=some (j4 v)) (h3:∀ k B,(e7 s 0 m).lookup k=some B→S.blk k=some B)
  (hn:y4 P F c ⟨sl,pre++J2 s (m++[v])⟩ Q):y4 P F c S Q:=by
 have hfix:∀ k∈ks,swN a (K3 s m.length) k=k:=fun k hk=>by
  rw [s0] at hks
  have:=hks k hk
  simp only [j0,Nat.blt_eq,bne_iff_ne] at this
  rw [swN,if_neg this.2,if_neg (by unfold K3; omega)]
 rw [s0] at hSo hBo hBk
 refine D1p a (K3 s m.length) hpa hpb hlo (fun t v' ht=>?_) (fun k B' hk=>?_) hn
 ·have h4:=H8 (show sl.lookup t=some v' from ht)
  exact ⟨v',hS.all t v' ht,(PV.ren_only hfix v' (hSo _ h4)).symm⟩
 ·have hk:(pre++J2 s (m++[v])).lookup k=some B':=hk
  rw [U1] at hk
  cases e:pre.lookup k with
  | some C =>
   rw [e,K0] at hk
   injection hk with hk
   subst hk
   have h5:=hBk _ (R3 e)
   simp only [j0,Nat.blt_eq,bne_iff_ne] at h5
   refine ⟨C,?_,(Blk.ren_only hfix C (hBo _ (R3 e))).symm⟩
   rw [swN,if_neg h5.2,if_neg (by unfold K3; omega)]
   exact hB.all k C e
  | none =>
   rw [e,l0,B1n,i0] at hk
   have hrow:∀ j,j<m.length→swN a (K3 s m.length) (K3 s j)=K3 s j:=fun j hj=>by rw [swN,if_neg (by unfold K3; omega),if_neg (by unfold K3; omega)]
   by_cases e1:k=s+1001
   ·subst e1
    simp only [BEq.rfl,U0] at hk
    subst hk
    refine ⟨⟨40,1,.mix (Y4 s 0 m++[.ref a 0 v.length (v.length*4)])⟩,by rw [swN,if_neg oM,if_neg (by unfold K3; omega)]; exact h1,?_⟩
    have hr:∀ (i:Nat) (q:List (List Rat)),i+q.length≤m.length→(Y4 s i q).map (PV.ren (swN a (K3 s m.length)))=Y4 s i q:=by
     intro i q
     induction q generalizing i with
     | nil=>intro _; rfl
     | cons w q ih =>
      intro hq
      simp only [E1] at hq
      simp only [Y4,R0,PV.ren,hrow i oM,ih (i+1) oM]
    simp only [Blk.ren,Cells.ren,List.map_append,hr 0 m oM,R0,List.map_nil,PV.ren,swN,if_true]
   ·rw [show (k == s+1001)=false by simpa using e1,U1] at hk
    cases e2:(e7 s 0 m).lookup k with
    | some C =>
     rw [e2,K0] at hk
     injection hk with hk
     subst hk
     obtain ⟨j,hj,h6⟩:=L9 (G0.2 ⟨_,R3 e2,rfl⟩)
     simp only [G1] at h6
     refine ⟨C,by rw [h6,hrow j hj,← h6]; exact h3 k C e2,?_⟩
     rw [h6] at e2
     rw [b1w,M0] at e2
     obtain ⟨w,_,rfl⟩:=e2
     rfl
    | none =>
     rw [e2,l0,i0] at hk
     by_cases e3:k=K3 s m.length
     ·subst e3
      simp only [BEq.rfl,U0] at hk
      subst hk
      refine ⟨j4 v,by rw [swN,if_neg (by unfold K3; omega),if_pos rfl]; exact h2,rfl⟩
     ·rw [show (k == K3 s m.length)=false by simpa using e3] at hk; cases hk
end Go.Proofs.YtjagfionflbjbaaGreat.N
namespace Go.Proofs.YtjagfionflbjbaaGreat.SH
open Go Go.RowKit
theorem D1m {P:Program}{F:Fr}{c:Code}{Q:Exit→St→Prop}{S S':St}(hs:∀ t v,S'.slot t=some v→S.slot t=some v)(hb:∀ k B',S'.blk k=some B'→∃ B,S.blk k=some B∧B'.T=B.T∧B'.sz=B.sz∧B'.cs.len=B.cs.len∧∀ i,B'.cs.get i=B.cs.get i)(hn:y4 P F c S' Q):y4 P F c S Q:=by
 refine ⟨fun n a w ⟨ρ,h⟩=>hn.run n a w ⟨ρ,?_⟩⟩
 have hn':∀ j,S'.blk j≠none→S.blk j≠none:=fun j hj=>by
  obtain ⟨B,hB⟩:=D1.1 hj
  obtain ⟨B0,h0,_⟩:=hb j B hB
  rw [h0]; simp
 have hcar:Carry (okI F S.blk ρ) (okI F S'.blk ρ) (hp w) (hp w):=fun b hb _=>⟨⟨hb.1,fun j hj=>hb.2 j (hn' j hj)⟩,rfl⟩
 have hkp:∀ K:Nat→Prop,d0h K S.blk S'.blk ρ ρ (hp w) (hp w):=fun K j _ B hB=>by
  obtain ⟨B0,h0,h1,h2,h3,_⟩:=hb j B hB
  exact ⟨B0,h0,h2,by omega,fun _=>⟨rfl,fun c T fr hc=>⟨c,T,fr,hc,rfl⟩⟩⟩
 refine ⟨fun t v ht=>?_,fun j B hB=>?_,fun j j' h1 h2 e=>h.inj j j' (hn' j h1) (hn' j' h2) e,h.frame,h.nt,h.df,fun j b n hj hS=>h.pin j b n hj (hn' j hS)⟩
 ·obtain ⟨u,hu,hr⟩:=h.slots t v (hs t v ht)
  exact ⟨u,hu,P2.mono (K:=fun _=>True) hcar (hkp _) v u (fun _ _=>trivial) hr⟩
 ·obtain ⟨B0,h0,h1,h2,h3,h4⟩:=hb j B hB
  obtain ⟨c,c1,c2,c3,c4⟩:=h.blks j B0 h0
  refine ⟨c,by rw [h1]; exact c1,c2,by omega,fun i x hx=>?_⟩
  obtain ⟨u,hu,ho,hr⟩:=c4 i x (by rw [← h4]; exact hx)
  exact ⟨u,hu,ho,P2.mono (K:=fun _=>True) hcar (hkp _) x u (fun _ _=>trivial) hr⟩
section
variable {P:Program} {F:Fr} {d:Nat} {T:TypeId} {pos:String} {aft:Array Edge} {g:Option (Nat×Bool)} {t tx:TypeId}
theorem p1g {x y:Operand}{k j n:Nat}{e:TypeId}{ie:TypeInfo}{z:Value}{cs:List PV}{u:PV}(hu:P.underlying t=some (.slice e))(hux:P.underlying tx=some (.slice e))(hi:∀ w,(typeInfo e).run P w = .ok ie w)(hz:ie.zero=some z)(hsz:ie.size=1)
  (hzl:z.cells.size=1) (hn:cs.length=n) (hby:2*(n+1)*ie.bytes≤281474976710656) (h63:n+1≤9223372036854775807) (hpk:F.pin k=none) (hlt:d<F.nt) :
  R2 P F ⟨some d,.call ⟨.builtin .append,#[x,y],#[t,tx]⟩,T,pos,aft,g⟩ ⟨[(x,.ref k 0 n n),(y,.ref j 0 1 1)],[(k,⟨e,1,.mix cs⟩),(j,⟨e,1,.mix [u]⟩)],none,[(d,.ref k 0 (n+1) (n+1))],[(k,⟨e,1,.mix (cs++[u])⟩)]⟩ :=
 G0a (m:=1) (sz:=1) (cs:=.mix cs) (us:=[u]) hu hi hz hsz hzl (by omega) hn (by simp) (V1j (B:=⟨e,1,.mix [u]⟩) (k:=j) (o:=0) hux rfl rfl rfl) rfl .mix rfl hby h63 hpk hlt
end
end Go.Proofs.YtjagfionflbjbaaGreat.SH
set_option maxRecDepth 100000
set_option maxHeartbeats 4000000
namespace Go.Proofs.YtjagfionflbjbaaGreat.N
open Go Go.Proofs.YtjagfionflbjbaaGreat.SH Go.Proofs.YtjagfionflbjbaaGreat.NumA
open Go.Proofs.Tryz renaming call103→cl103,call104→cl104,call132→cl132,call133→cl133,call15→cl15,call16→cl16,call19→cl19,call22→cl22,call24→cl24,call27→cl27,call29→cl29,call33→cl33,call34→cl34,call36→cl36,call37→cl37,call40→cl40,call50→cl50,call51→cl51,call52→cl52,call54→cl54,call55→cl55,call57→cl57,call58→cl58,call59→cl59,call60→cl60,call61→cl61,call62→cl62,call63→cl63,call64→cl64,call65→cl65,call66→cl66,call67→cl67,call68→cl68,call69→cl69,call70→cl70,call71→cl71,call72→cl72,call73→cl73,call74→cl74,call75→cl75,call76→cl76,call84→cl84,isAgg119→ag119,isAgg22→ag22,isAgg24→ag24,isAgg3→ag3,isAgg40→ag40,isAgg43→ag43,isAgg45→ag45,isAgg47→ag47,isAgg4→ag4,isAgg77→ag77,sizeOf119→sz119,sizeOf22→sz22,sizeOf24→sz24,sizeOf3→sz3,sizeOf40→sz40,sizeOf43→sz43,sizeOf45→sz45,sizeOf47→sz47,sizeOf4→sz4,sizeOf77→sz77,typeInfo3→ti3,typeInfo40→ti40,typeInfo47→ti47,underlying22→un22,underlying24→un24,underlying27→un27,underlying40→un40,underlying43→un43,underlying45→un45,underlying47→un47,underlying4→un4,underlying77→un77,underlying79→un79,zeroValue24→zv24,zeroValue47→zv47
theorem M1j {P:Program}{F:Fr}{c:Code}{Q:Exit→St→Prop}{S:St}{sl:List (Nat×PV)}{pre:List (Nat×Blk)}{s a t:Nat}(ks:List Nat)(hs2:s<9)(ha:a<1000)(hpa:F.pin a=none)(hpb:F.pin (s+1001)=none)(hlo:F.lo a=F.lo (s+1001))(hks:(ks.all fun k=>Nat.blt k 1000 && k != a)=true)
  (hS:m7 S sl) (hSo:(sl.all fun p=>p.2.only ks && p.1 != t)=true) (ht:S.slot t=some (.ref a 0 0 0)) (hB:O5 S pre) (hBo:(pre.all fun p=>p.2.cs.only ks)=true) (hBk:(pre.all fun p=>Nat.blt p.1 1000 && p.1 != a)=true)
  (h1:S.blk a=some ⟨40,1,.pure []⟩) (hn:y4 P F c ⟨(t,.ref (s+1001) 0 0 0) :: sl,pre++J2 s []⟩ Q):y4 P F c S Q:=by
 have hfix:∀ k∈ks,swN a (s+1001) k=k:=fun k hk=>by
  rw [s0] at hks
  have:=hks k hk
  simp only [j0,Nat.blt_eq,bne_iff_ne] at this
  rw [swN,if_neg this.2,if_neg oM]
 rw [s0] at hSo hBo hBk
 refine D1p (S':=⟨(t,.ref (s+1001) 0 0 0) :: sl,pre++[(s+1001,⟨40,1,.pure []⟩)]⟩) a (s+1001) hpa hpb hlo (fun t' v' ht'=>?_) (fun k B' hk=>?_) (D1m (S':=⟨(t,.ref (s+1001) 0 0 0) :: sl,pre++J2 s []⟩) (fun t v h=>h) (fun k B' hk=>?_) hn)
 ·have h2:List.lookup t' ((t,.ref (s+1001) 0 0 0) :: sl)=some v':=ht'
  rw [i0] at h2
  by_cases e:t'=t
  ·subst e
   simp only [BEq.rfl,U0] at h2
   subst h2
   exact ⟨_,ht,(by simp [PV.ren,swN])⟩
  ·rw [show (t' == t)=false by simpa using e] at h2
   have h4:=hSo _ (H8 h2)
   simp only [j0] at h4
   exact ⟨v',hS.all t' v' h2,(PV.ren_only hfix v' h4.1).symm⟩
 ·have hk:(pre++([(s+1001,⟨40,1,.pure []⟩)]:List (Nat×Blk))).lookup k=some B':=hk
  rw [U1] at hk
  cases e:pre.lookup k with
  | some C =>
   rw [e,K0] at hk
   injection hk with hk
   subst hk
   have h5:=hBk _ (R3 e)
   simp only [j0,Nat.blt_eq,bne_iff_ne] at h5
   refine ⟨C,?_,(Blk.ren_only hfix C (hBo _ (R3 e))).symm⟩
   rw [swN,if_neg h5.2,if_neg oM]
   exact hB.all k C e
  | none =>
   rw [e,l0,i0] at hk
   by_cases e1:k=s+1001
   ·subst e1
    simp only [BEq.rfl,U0] at hk
    subst hk
    exact ⟨_,(by rw [swN,if_neg oM,if_pos rfl]; exact h1),rfl⟩
   ·rw [show (k == s+1001)=false by simpa using e1] at hk; cases hk
 ·have hk:(pre++J2 s []).lookup k=some B':=hk
  show ∃ B,(pre++([(s+1001,⟨40,1,.pure []⟩)]:List (Nat×Blk))).lookup k=some B∧_
  rw [U1] at hk ⊢
  cases e:pre.lookup k with
  | some C =>
   rw [e,K0] at hk
   injection hk with hk
   subst hk
   exact ⟨C,rfl,rfl,rfl,rfl,fun _=>rfl⟩
  | none =>
   rw [e,l0,J2,i0] at hk
   by_cases e1:k=s+1001
   ·subst e1
    simp only [BEq.rfl,U0] at hk
    subst hk
    exact ⟨⟨40,1,.pure []⟩,(by rw [l0,List.lookup_cons_self]),rfl,rfl,rfl,fun _=>rfl⟩
   ·rw [show (k == s+1001)=false by simpa using e1] at hk; cases hk
theorem v1j {b:List Rat}{i:Nat}(h:i<b.length):(n4 b).take (i+1)=(n4 b).take i++[((zsQ (b.length+1)).set 0 (b.getD i 0)).set (i+1) 1]:=by
 rw [J0c (by simpa [n4] using h),b1k h]
theorem C9 {B:Nat}{b:List Rat}(hB:∀ a∈b,qw a≤B)(hb:B<1000000000)(hl:b.length<1000000000):y3 E 64 [pV b] (bZ true):=by
 have:=n5 (b.map RQ.of) (by simpa using hl) (fun r hr=>by
  obtain ⟨a,ha,rfl⟩:=G0.1 hr
  have:=hB a ha
  exact RQ.sm_of oM)
 rwa [Q0n,g0p] at this
theorem N1d {v:List Rat}{a c:Rat}{j:Nat}(h0:0<v.length)(hj:j<v.length):(⟨47,4,.pure ((((X5 v).take (0*4)++cQ a++(X5 v).drop (0*4+4)).take (j*4))++cQ c++(((X5 v).take (0*4)++cQ a++(X5 v).drop (0*4+4)).drop (j*4+4)))⟩:Blk)=j4 ((v.set 0 a).set j c):=by rw [Q1r a h0,j0w c (by simpa using hj)]
theorem w1f {m:List (List Rat)}{k:Nat}:(U5 m).drop k=U5 (m.drop k):=by simp [U5,List.map_drop]
theorem G1s {p:Nat→Prop}{i:Nat}(h:∀ k,k<i→p k)(hi:p i):∀ k,k<i+1→p k:=fun k hk=>by
 by_cases e:k=i
 ·rw [e]; exact hi
 ·exact h k oM
theorem N0p:∀ {v:List Rat}{k:Nat},(X5 v).drop (k*4)=X5 (v.drop k)
 | v,0=>by simp
 | [],k+1=>by simp [X5]
 | a :: v,k+1=>by
  rw [show (k+1)*4=k*4+1+1+1+1 by omega]
  simp only [X5,cQ,M1,List.nil_append,List.drop_succ_cons]
  exact N0p
theorem J1g {u:List Rat}{a:Rat}{k:Nat}(h:k<u.length):(u.take (k+1)).map (· / a)=(u.take k).map (· / a)++[u.getD k 0 / a]:=by
 rw [J1,List.map_append]; congr 1; simp [f0,h]
def D0f (r:List Rat):List Rat:=(r.drop 1).map (· / r.getD 0 0)
theorem M0z {p:Nat→Bool}:∀ {n a i:Nat},(∀ k,k<i→p (a+k)=false)→p (a+i)=true→i<n→C4 p a n=((a+i:Nat):Int)
 | 0,_,_,_,_,h=>by omega
 | n+1,a,0,_,h1,_=>by rw [C4,if_pos (by simpa using h1)]; simp
 | n+1,a,i+1,h0,h1,h=>by
  have h2:=h0 0 oM
  rw [Nat.add_zero] at h2
  rw [C4,if_neg (by rw [h2]; simp),M0z (a:=a+1) (i:=i) (fun k hk=>by rw [Nat.add_assoc,Nat.add_comm 1 k]; exact h0 (k+1) oM) (by rw [Nat.add_assoc,Nat.add_comm 1 i]; exact h1) oM]
  rw [Nat.add_assoc,Nat.add_comm 1 i]
theorem N0v {p:Nat→Bool}:∀ {n a:Nat},(∀ k,k<n→p (a+k)=false)→C4 p a n = -1
 | 0,_,_=>rfl
 | n+1,a,h=>by
  have h2:=h 0 oM
  rw [Nat.add_zero] at h2
  rw [C4,if_neg (by rw [h2]; simp)]
  exact N0v fun k hk=>by rw [Nat.add_assoc,Nat.add_comm 1 k]; exact h (k+1) oM
def D0b (t:ESt)(n:Nat):Int:=C4 (nzI t.b 0) t.pv.length (n - t.pv.length)
def G0w (c:Nat)(t:ESt)(n:Nat):List Rat:=if D0b t n<0 then d0f c t.pv (fun i=>ent t.b i 0) else []
def p0h (t:ESt)(n:Nat):List Rat:=if D0b t n<0 then [] else D0f (t.b.getD (D0b t n).toNat [])
def y0v (t:ESt)(n:Nat):Int:=if D0b t n<0 then 0 else 4
theorem d1k (n c B DB:Nat)(M:List (List Rat))(b:List Rat)(h:MOk c M)(hB1:MB B M)(hbB:∀ a∈b,qw a≤B)(hn:M.length=n)(hbn:b.length=n)(H:EU n c (n+1) B DB M (n4 b)):T4 E (fun _=>true) 24 [.p (pMq c M),.p (pV b)] ([]) ([]) (.p (.tup [pV (G0w c (ech M (n4 b) c) n),pV (p0h (ech M (n4 b) c) n),vZ (y0v (ech M (n4 b) c) n)])):=by
 refine D4 (xs:=[pV (G0w c (ech M (n4 b) c) n),pV (p0h (ech M (n4 b) c) n),vZ (y0v (ech M (n4 b) c) n)]) Tryz.func24 rfl Tryz.ntmps24 Tryz.results24 sM fun F G=>?_
 have L:=@lti _ _ G.nt
 have hG:=G.g
 have hX:=G.x
 have hN:=i6 hG
 have P0:∀ k,Nat.blt k 1000=true→F.pin k=none:=fun k hk=>G.p0 k (I6.low k hk)
 have hb:=H.bl
 have hcl:=H.cl
 have hnl:=H.nl
 have hsp:=B6 H.rc H.rb c (Nat.le_refl _)
 subst hbn
 have hpin:∀ k,F.pin k=none:=fun k=>G.p0 k rfl
 have hlo:∀ k,F.lo k=true:=fun k=>by rw [G.lo]; rfl
 refine exr (swb (X3 (k:=2) (n:=2) pa2 rfl rfl (P0 _ rfl) L) t1 t0 (frT [] I6 rfl rfl rfl) (aV L rfl (aV L rfl (aV L rfl ?_))))
 refine R1 ⟨[(1,_),(2,_),(5,_)],(2,_) :: (([]:List (Nat×Blk))),t3,⟨rfl,(hbT [_] I6 rfl)⟩,?_⟩
 refine T1 (exr (lp2 ag24 sz24 L rfl rfl (cK hG hX cl40 hN (g9 h hB1 oM) L t1 (sw (P3 L) t1 t0 (mV L rfl (gV (g:=25) rfl rfl L rfl rfl (swg (g:=25) rfl rfl (c_c hG hX cl64 rfl hN (C9 hbB oM oM) L) rfl t1 t0 (swg (g:=25) rfl rfl (P3 L) rfl t1 t0 (sw (U3 rfl L) t2 t0 ?_)))))))))
 refine R1 ⟨[(1,_),(2,_),(5,_),(29,_)],(2,_) :: (([]:List (Nat×Blk))),t4,⟨rfl,(hbT [_] I6 rfl)⟩,?_⟩
 refine T3 rfl rfl ?_
 refine V1 (xq ?_)
 refine T1 (exr (mV L rfl (sw (X2 un40 L) t1 t0 (sw (j2 un24 rfl sz22 dC rX L) t1 t1 ?_))))
 refine sw (Z1 ag22 rF rF L) t1 t1 ?_
 refine sw (X2 un22 L) t1 t0 (sw (c_n L) t2 t0 ?_)
 refine R1 ⟨[(1,_),(2,_),(5,_),(35,_)],(2,_) :: (([]:List (Nat×Blk))),t4,⟨rfl,(hbT [_] I6 rfl)⟩,?_⟩
 refine T3 rfl sO ?_
 refine V1 (xq ?_)
 refine exr (mV L rfl (sw (X2 un40 L) t1 t0 (swb (q0y (k:=38) un77 ti40 rfl rfl rfl rfl (show (0:Int)=((0:Nat):Int) from rfl) rfl (Nat.zero_le _) (by simp [Tryz.t40]; omega) oM (P0 _ rfl) L) t2 t0 (frT [_] I6 rfl rfl rfl) ?_)))
 refine aV L rfl ?_
 refine R1 ⟨[(1,_),(2,_),(5,_),(7,_)],(2,_) :: (38,_) :: (([]:List (Nat×Blk))),t4,⟨rfl,rfl,(hbT [_,_] I6 rfl)⟩,?_⟩
 refine M1j (s:=1) (a:=38) (t:=7) [2] (sl:=[(1,_),(2,_),(5,_)]) (pre:=[(2,_)]) dC dC (hpin _) (hpin _) (by rw [hlo,hlo]) rfl t3 rfl rfl t1 rfl rfl rfl ?_
 refine T1 (exr (mV L rfl (sw (X2 un40 L) t1 t0 (mV L rfl ?_))))
 refine R1 ⟨[(1,_),(2,_),(5,_),(7,_),(39,_),(40,_),(41,_)],(2,_) :: ((J2 1 [])),t7,⟨rfl,(hbT [_] (E2 (s:=1) dC []) rfl)⟩,?_⟩
 refine X1 ?_
 refine K0m (α:=Nat) (fun i=>[(41,vi (i:Int)),(7,.ref 1002 0 i i)]) (fun i=>[]) (fun i=>(J2 1 ((n4 b).take i))) (fun i=>i≤b.length) (fun i=>b.length - i) (0) (sl:=[(1,_),(2,_),(5,_),(39,_),(40,_)]) (hb:=[(2,_)]) ?_ ⟨oR,oR,rfl,rfl,rfl,rfl,rfl,trivial⟩ ⟨rfl,(hbT [_] (E2 (s:=1) dC []) rfl)⟩ ?_
 ·exact Nat.zero_le _
 intro i hi
 have hbsl:(n4 b).length=b.length:=by simp [n4]
 have htl:((n4 b).take i).length=i:=by rw [J0]; omega
 refine exr (sw (Z3 L) t2 t0 ?_)
 refine R1 ⟨[(1,_),(2,_),(5,_),(7,_),(39,_),(40,_),(41,_),(42,_)],(2,_) :: ((J2 1 ((n4 b).take i))),t8,⟨rfl,(hbT [_] (E2 (s:=1) dC ((n4 b).take i)) rfl)⟩,?_⟩
 refine T1 ?_
 refine D2 rfl (fun hc=>?_) (fun hc=>?_)
 ·have hc:=dt hc
  have hib:i<b.length:=by omega
  have hst:=v1j hib
  have hqb:=hbB _ (v4 hib)
  refine V1 (xq ?_)
  refine T1 (X1 (exr (mV L rfl (sw (y2 un40 sz47 oM oM sM dC L) t2 t0 ?_))))
  refine sw (Y6 ag47 sz47 (X6 hib) rfl L) t1 t0 (swb (Y3 (k:=9) (n:=4) zv47 (.cons rfl (.cons rfl (.cons rfl (.cons rfl .nil)))) rfl (P0 _ rfl) L) t0 t0 (frT [_] (E2 (s:=1) dC ((n4 b).take i)) rfl rfl (by simp [L3,Y2,Cells.free,PV.freeL,PV.free,l4,l3])) ?_)
  refine aV L rfl (sb (Z2 sz47 rF pa4 rfl pu4) t2 t1 ?_)
  refine R1 ⟨[(1,_),(2,_),(5,_),(7,_),(8,_),(9,_),(39,_),(40,_),(41,_)],(2,_) :: (9,_) :: ((J2 1 ((n4 b).take i))),t9,⟨rfl,rfl,(hbT [_,_,_] (E2 (s:=1) dC ((n4 b).take i)) rfl)⟩,?_⟩
  refine exr (mV L rfl (sw (X2 un40 L) t1 t0 (sw (I3 L (w64 oM oM)) t2 t0 (swb (f1n (k:=49) hG hX cl54 rfl hN (n0k (b.length+1) oM) (P0 _ rfl) L) t1 t0 (frT [_,_] (E2 (s:=1) dC ((n4 b).take i)) rfl rfl (by simp [L3,Y2,Cells.free,PV.freeL,PV.free,l4,l3])) ?_))))
  refine aV L rfl ?_
  refine R1 ⟨[(1,_),(2,_),(5,_),(7,_),(8,_),(9,_),(10,_),(39,_),(40,_),(41,_)],(2,_) :: (9,_) :: (49,_) :: ((J2 1 ((n4 b).take i))),t10,⟨rfl,rfl,rfl,(hbT [_,_,_] (E2 (s:=1) dC ((n4 b).take i)) rfl)⟩,?_⟩
  refine exd rF ?_
  refine mV L rfl (mV L rfl (mV L rfl (sw (I3 L (w64 oM oM)) t2 t0 (lp4 ag47 sz47 L rfl rfl (cK hG hX cl55 hN (s7 1 dC dC) L t1 (sw (b0r un40 sz47 (by exact sM) dC oM L) t2 t1 ?_))))))
  refine sb (D0c (n:=4) sz47 (by exact sM) rfl sO) t2 t1 ?_
  refine sw (n0g (sz:=4) un40 sz47 (by exact (by first | (simp; done) | (simp; omega))) (j:=i+1) rO oM L) t2 t1 ?_
  refine sb (D0c (n:=4) sz47 (by exact (by first | (simp; done) | (simp; omega))) rfl oM) t2 t1 ?_
  refine R1 ⟨j0c [⟨[10],[],[50],[]⟩,⟨[10],[],[51],[]⟩,⟨[8],[],[52],[]⟩,⟨[52],[],[53],[]⟩,⟨[9],[9],[54],[]⟩,⟨[],[],[55],[]⟩,⟨[50],[49],[56],[]⟩,⟨[56,54],[49],[],[49]⟩,⟨[51,53],[49],[57],[]⟩,⟨[57,55],[49],[],[49]⟩] (.cons (cf0 rfl) (.cons (cf0 rfl) (.cons (cf0 rfl) (.cons (cf0 rfl) (.cons (cf0 rfl) (.cons (cf0 rfl) (.cons (cf0 rfl) (.cons (cf0 rfl) (.cons (cf0 rfl) (.cons (cf0 rfl)  .nil)))))))))) rfl (frS [] [_,_,_] (E2 (s:=1) dC ((n4 b).take i)) rfl (by simp [L3,Y2,Cells.free,PV.freeL,PV.free,l4,l3])) dC,[(1,_),(2,_),(5,_),(7,_),(10,_),(39,_),(40,_),(41,_)],(2,_) :: (49,j4 (((zsQ (b.length+1)).set 0 (b.getD i 0)).set (i+1) 1)) :: ((J2 1 ((n4 b).take i))),t8,⟨rfl,obl rfl (N1d (v:=zq (b.length+1)) sM sO),(hbT [_,_,_,_,_] (E2 (s:=1) dC ((n4 b).take i)) rfl)⟩,?_⟩
  obtain ⟨ln,hln⟩:∃ ln,ln=((zsQ (b.length+1)).set 0 (b.getD i 0)).set (i+1) 1:=⟨_,rfl⟩
  have hlnl:ln.length=b.length+1:=by rw [hln]; simp
  rw [← hln] at hst ⊢
  rw [← hlnl]
  refine C3 (mV L rfl (mV L rfl (swb (b2q (k:=60) (vs:=[_]) un77 ti40 rfl rfl dC dC rfl (M2 (.cons rfl .nil) rfl) rfl (.cons rfl .ref rfl pu1 .nil) rfl rfl (P0 _ rfl) L) t1 t0 (frT [_,_] (E2 (s:=1) dC ((n4 b).take i)) rfl rfl rfl) ?_)))
  refine swb (p1g (k:=1002) (j:=60) (cs:=Y4 1 0 ((n4 b).take i)) un77 un77 ti40 rfl rfl rfl (by rw [G2,htl]) (by simp [Tryz.t40]; omega) oM (hpin _) L) t2 ⟨?_,rfl,trivial⟩ t0 ?_
  ·exact rdT [_,_,_] (E2 (s:=1) dC _) rfl hdL
  refine aV L rfl ?_
  refine R1 (xq ?_)
  refine Q1x (s:=1) (a:=49) (m:=(n4 b).take i) (v:=ln) [2,1002] (sl:=[(1,_),(2,_),(5,_),(7,.ref 1002 0 (i+1) (i+1)),(39,_),(40,_),(41,_)]) (pre:=[(2,_)]) dC dC (hpin _) (hpin _) (by rw [hlo,hlo]) rfl t7 rfl t1 rfl rfl rfl rfl (fun k B hk=>?_) ?_
  ·obtain ⟨j,_,hj⟩:=L9 (G0.2 ⟨_,R3 hk,rfl⟩)
   have hj:k=K3 1 (0+j):=hj
   have hk9:k≠1002∧k≠60∧k≠2∧k≠49:=by rw [hj]; unfold K3; omega
   show List.lookup k ((1002,_) :: (60,_) :: (2,_) :: (49,_) :: J2 1 ((n4 b).take i))=some B
   rw [Y8 hk9.1,Y8 hk9.2.1,Y8 hk9.2.2.1,Y8 hk9.2.2.2,J2,Y8 hk9.1]; exact hk
  rw [← hst]
  refine C3 (sw (I3 L (w64 oM oM)) t2 t0 (mV L rfl (R1 ?_)))
  exact ⟨i+1,oM,by omega,B3 ⟨oR,oR,rfl,rfl,rfl,rfl,rfl,trivial⟩ ⟨rfl,(hbT [_] (E2 (s:=1) dC ((n4 b).take (i+1))) rfl)⟩⟩
 ·have hc:=df hc
  have hib:i=b.length:=by omega
  subst hib
  rw [show (n4 b).take b.length=n4 b from C0 oM]
  obtain ⟨t,ht⟩:∃ t,t=ech M (n4 b) c:=⟨_,rfl⟩
  have hech:=y0f true b.length c (b.length+1) B DB M (n4 b) H
  rw [← ht] at hech hsp
  obtain ⟨r1,r2,r3,-⟩:=hsp
  have hbe:=H.be c (Nat.le_refl _)
  rw [← ht] at hbe
  have hbeg:T4 E (fun _=>false) 50 [.p (.agg [vZ c,.sl M.length (U5 M)]),bv true b.length] (bsT true (n4 b)) ([wU c M (bv true b.length)]++v5 true M (n4 b)) (.at_ 999 0 3):=by rw [hn]; exact n0y true b.length c M (n4 b) H.rc H.nl H.cl
  refine K2 (xq ?_)
  refine q0h (nsw (R6 ag24 sz24 rF (by exact al2) rfl L) t1 t1 ?_)
  refine nsw (c_m L) t1 t0 (nsU (pre:=[_]) (H:=bsT true (n4 b)) G hN [2] [(1,_),(2,_),(5,_)] [(2,_)] hbeg L (l5 (ys:=[_,_]) cl50 rfl rfl) t2 g1k p0y (D5 _ _).nd p0p n1v j1h (fun h=>by cases h) rfl t1 rfl t3 rfl rfl rfl rfl ?_)
  refine nsw (c_a L) t1 t0 ?_
  refine .nil ⟨[(2,_),(5,_),(11,_)],(2,_) :: (999,_) :: (v5 true M (n4 b)),t3,⟨rfl,rfl,(hbT [_,_] (M6 true M (n4 b)) rfl)⟩,?_⟩
  refine q0h (nsw (c_m L) t1 t0 (nsU (pre:=[_]) (H:=[wU c M (bv true b.length)]++v5 true M (n4 b)) G hN [2,999] [(2,_),(5,_),(11,.at_ 999 0 3)] [(2,_)] hech L (l5 (ys:=[_]) cl51 rfl rfl) t1 p0y p0y p0p p0p n1v (fun q h=>by cases h) W1v rfl t1 rfl t3 rfl rfl rfl rfl ?_))
  refine nsw (c_m L) t1 t0 (nsw (W3 rfl L) t1 t0 (nsw (W3 rfl L) t1 t0 (Q1m (Y3 (k:=13) (n:=4) zv47 (.cons rfl (.cons rfl (.cons rfl (.cons rfl .nil)))) rfl (P0 _ rfl) L) t0 t0 (frT [_,_] (M6 true t.m t.b) rfl rfl (by simp [L3,Y2,Cells.free,PV.freeL,PV.free,l4,l3])) ?_)))
  refine nsw (c_a L) t1 t0 (nsb (Z2 sz47 rF pa4 rfl pu4) t2 t1 ?_)
  refine .nil ⟨[(2,_),(5,_),(11,_),(12,_)],(2,_) :: (999,_) :: (v5 true t.m t.b),t4,⟨rfl,rfl,(hbT [_,_,_,_] (M6 true t.m t.b) rfl)⟩,?_⟩
  refine H1h (pre:=[_]) hlo rfl sM (fun _=>r2.1) ⟨⟨_,rfl,.same⟩,⟨_,rfl,.same⟩,⟨_,rfl,.same⟩,⟨_,rfl,.same⟩,trivial⟩ ?_
  have hle:=r3.le
  obtain ⟨q,hq⟩:∃ q,q=t.pv.length:=⟨_,rfl⟩
  have hdl:(t.b.drop q).length=b.length - q:=by rw [List.length_drop,r2.1]
  show y4 _ _ _ ⟨_,[_]++[(999,⟨79,3,.mix [.p (.sl t.m.length (U5 t.m)),.p (vZ c),.p (.sl t.b.length (U5 t.b))]⟩)]⟩ _
  refine T1 (exr (mV L rfl (sw (j3 rX L) t1 t1 ?_)))
  refine sw (j2 un79 rfl sz77 dC rX L) t1 t1 ?_
  refine sw (Z1 ag77 rF rF L) t1 t1 ?_
  refine mV L rfl (sw (X2 un27 L) t1 t0 (sw (G1d un77 sz40 (l:=q) rO (by have:=r2.1; omega) (show t.b.length - q=(t.b.drop q).length by simp) sM (by rw [Nat.mul_one,w1f]) L) t2 t0 ?_))
  refine sw (X2 un77 L) t1 t0 (mV L rfl (zn [(2,_),(5,_),(11,_),(12,_),(77,_),(78,_),(79,_)] [(2,_),(999,_)] t7 t2 ?_))
  obtain ⟨D',hD⟩:∃ D',D'=t.b.drop q:=⟨_,rfl⟩
  rw [← hD] at hdl ⊢
  have hDg:∀ j,D'.getD j []=t.b.getD (q+j) []:=fun j=>by rw [hD,f0,f0,List.getElem?_drop]
  have hDl:∀ j,j<D'.length→(D'.getD j []).length=b.length+1:=fun j hj=>by rw [hDg]; exact r2.get oM
  have hDB:∀ j,∀ a∈D'.getD j [],qw a≤B:=fun j a ha=>by
   rw [hDg] at ha
   obtain ⟨k,rfl⟩:=g0q ha
   exact h0c hbe H.b0
  refine X1 ?_
  refine exl (α:=Nat) (fun i=>[(79,vi (i:Int))]) (fun i=>[]) (fun i=>i≤D'.length∧∀ k,k<i→(D'.getD k []).getD 0 0=0) (fun i=>D'.length - i) (0) (sl:=[(2,_),(5,_),(11,_),(12,_),(77,_),(78,_)]) (hb:=[(2,_),(999,_)]) ?_ ⟨oR,rfl,rfl,rfl,rfl,rfl,rfl,trivial⟩ t2 ?_
  ·exact ⟨Nat.zero_le _,fun k hk=>by omega⟩
  intro i hi
  obtain ⟨hi,hz⟩:=hi
  refine exr (sw (Z3 L) t2 t0 (zn [(2,_),(5,_),(11,_),(12,_),(77,_),(78,_),(79,_),(80,_)] [(2,_),(999,_)] t8 t2 (T1 ?_)))
  refine D2 rfl (fun hc2=>?_) (fun hc2=>?_)
  ·have hc2:=dt hc2
   have hid:i<D'.length:=by omega
   have hl:=hDl i hid
   have hlB:=hDB i
   obtain ⟨r,hr⟩:∃ r,r=D'.getD i []:=⟨_,rfl⟩
   rw [← hr] at hl hlB
   have h0l:0<r.length:=by omega
   have hqa:=hlB _ (v4 h0l)
   refine V1 (xq ?_)
   refine T1 (X1 (exr (sw (ixJ un77 sz40 (j:=i) rO oM sM L) t2 t0 ?_)))
   refine sw (s4 ag40 (by rw [j7 hid,← hr]) L) t1 t0 ?_
   refine aV L rfl (zn [(2,_),(5,_),(11,_),(12,_),(15,_),(77,_),(78,_),(79,_)] [(2,_),(999,_)] t8 t2 (T1 (exr (mV L rfl (sw (y2 un40 sz47 dC oM sM dC L) t2 t0 ?_)))))
   refine sw (Y6 ag47 sz47 (X6 (v:=r) (i:=0) h0l) rfl L) t1 t0 (cK hG hX cl65 hN (T6 (r.getD 0 0) oM) L t1 (zn [(2,_),(5,_),(11,_),(12,_),(15,_),(77,_),(78,_),(79,_),(86,_)] [(2,_),(999,_)] t9 t2 ?_))
   refine D2 rfl (fun hz0=>?_) (fun hz0=>?_)
   ·have hz0:=dt hz0
    refine K2 (xq ?_)
    refine C3 (sw (I3 L (w64 oM oM)) t2 t0 (mV L rfl (R1 ?_)))
    exact ⟨i+1,⟨by omega,G1s hz (by rw [← hr]; exact hz0)⟩,by omega,B3 ⟨oR,rfl,rfl,rfl,rfl,rfl,rfl,trivial⟩ t2⟩
   ·have hz0:=df hz0
    obtain ⟨r',hr'⟩:∃ r',r'=r.drop 1:=⟨_,rfl⟩
    have hl1:r'.length=b.length:=by rw [hr',List.length_drop,hl]; omega
    have hnb:0<b.length:=by omega
    have hB1':∀ a∈r',qw a≤B:=fun a ha=>hlB a (List.mem_of_mem_drop (by rw [hr'] at ha; exact ha))
    have hsy:∀ k,k<r'.length→(r'.take (k+1)).map (· / r.getD 0 0)=(r'.take k).map (· / r.getD 0 0)++[r'.getD k 0 / r.getD 0 0]:=fun k hk=>J1g hk
    refine V1 (xq ?_)
    refine T1 (exr (mV L rfl (sw (G1d un40 sz47 (l:=1) rfl oM (show r.length - 1=r'.length by rw [hl1,hl]; omega) sM (show (X5 r).drop (1*4)=X5 r' by rw [hr']; exact N0p) L) t2 t0 ?_)))
    refine sw (X2 un40 L) t1 t0 (mV L rfl (zn [(5,_),(15,_),(88,_),(89,_),(90,_)] [] t5 trivial (X1 ?_)))
    refine J1j (α:=Nat) (fun k=>[(90,vi (k:Int)),(5,.ref 105 0 k (k*4))]) (fun k=>[(105,j4 ((r'.take k).map (· / r.getD 0 0)))]) (fun k=>0<k∧k≤r'.length) (fun k=>r'.length - k) (r'.length+1) (sl:=[(15,_),(88,_),(89,_)]) (hb:=[]) t3 t0 ?_ ?_
    ·refine exr (sw (Z3 L) t2 t0 (zn [(5,_),(15,_),(88,_),(89,_),(90,_),(91,_)] [] t6 trivial (T1 (v8 rfl sO ?_))))
     have hk0:0<r'.length:=by omega
     have hqk:=hB1' _ (v4 hk0)
     refine V1 (xq ?_)
     refine T1 (X1 (exr (sw (y2 un40 sz47 dC oM sM dC L) t2 t0 ?_)))
     refine sw (Y6 ag47 sz47 (X6 (v:=r') (i:=0) hk0) rfl L) t1 t0 (swb (Y3 (k:=17) (n:=4) zv47 (.cons rfl (.cons rfl (.cons rfl (.cons rfl .nil)))) rfl (P0 _ rfl) L) t0 t0 ⟨rfl,rfl⟩ (sb (Z2 sz47 rF pa4 rfl pu4) t2 t1 ?_))
     refine zn [(5,_),(15,_),(17,_),(88,_),(89,_),(90,_)] [(17,_)] t6 t1 (exd rF ?_)
     refine lp4 ag47 sz47 L rfl rfl (mV L rfl (sw (y2 un40 sz47 dC oM sM dC L) t2 t0 ?_))
     refine sw (Y6 ag47 sz47 (X6 (v:=r) (i:=0) h0l) rfl L) t1 t0 (cK hG hX cl66 hN (w0q (r'.getD 0 0) (r.getD 0 0) oM oM hz0) L t2 (mV L rfl (sw (W3 rfl L) t1 t0 (sw (W3 rfl L) t1 t0 (swb (Y3 (k:=18) (n:=4) zv47 (.cons rfl (.cons rfl (.cons rfl (.cons rfl .nil)))) rfl (P0 _ rfl) L) t0 t0 ⟨rfl,rfl⟩ (sb (Z2 sz47 rF pa4 rfl pu4) t2 t1 ?_))))))
     refine aV L rfl ?_
     refine R1 ⟨aok rfl rfl,[(5,_),(15,_),(18,_),(88,_),(89,_),(90,_)],[(18,_)],t6,t1,?_⟩
     refine C3 (mV L rfl (lp4 ag47 sz47 L rfl rfl (sw (E4 (vs:=[_]) un40 ti47 rfl rfl dC dC rfl (M2 (.cons rfl (.cons rfl (.cons rfl (.cons rfl .nil)))) rfl) rfl (.cons rfl pa4 rfl pu4 .nil) (.cons (.cons (.cons (.cons .nil)))) L) t1 t0 (swb (apN (k:=105) (sz:=4) un40 un40 ti47 rfl rfl rfl dC sM rfl (by first | (simp [Tryz.t47]; done) | (simp [Tryz.t47]; omega)) oM (P0 _ rfl) L) t2 t0 ⟨rfl,rfl⟩ ?_))))
     refine aV L rfl (R1 (C3 (sw (I3 L (w64 oM oM)) t2 t0 (mV L rfl (R1 ?_)))))
     exact ⟨1,⟨by omega,by omega⟩,oM,B3 ⟨oR,oR,rfl,rfl,rfl,trivial⟩ ⟨obl rfl (by rw [hsy 0 hk0]; rfl),trivial⟩⟩
    ·intro k hk
     obtain ⟨hk0,hk1⟩:=hk
     refine exr (sw (Z3 L) t2 t0 (zn [(5,_),(15,_),(88,_),(89,_),(90,_),(91,_)] [(105,_)] t6 t1 (T1 ?_)))
     refine D2 rfl (fun hk2=>?_) (fun hk2=>?_)
     ·have hk2:=dt hk2
      have hkl:k<r'.length:=by omega
      have hqk:=hB1' _ (v4 hkl)
      refine V1 (xq ?_)
      refine T1 (X1 (exr (sw (y2 un40 sz47 oM oM sM dC L) t2 t0 ?_)))
      refine sw (Y6 ag47 sz47 (X6 hkl) rfl L) t1 t0 (swb (Y3 (k:=17) (n:=4) zv47 (.cons rfl (.cons rfl (.cons rfl (.cons rfl .nil)))) rfl (P0 _ rfl) L) t0 t0 ⟨rfl,rfl⟩ (sb (Z2 sz47 rF pa4 rfl pu4) t2 t1 ?_))
      refine zn [(5,_),(15,_),(17,_),(88,_),(89,_),(90,_)] [(17,_),(105,_)] t6 t2 (exd rF ?_)
      refine lp4 ag47 sz47 L rfl rfl (mV L rfl (sw (y2 un40 sz47 dC oM sM dC L) t2 t0 ?_))
      refine sw (Y6 ag47 sz47 (X6 (v:=r) (i:=0) h0l) rfl L) t1 t0 (cK hG hX cl66 hN (w0q (r'.getD k 0) (r.getD 0 0) oM oM hz0) L t2 (mV L rfl (sw (W3 rfl L) t1 t0 (sw (W3 rfl L) t1 t0 (swb (Y3 (k:=18) (n:=4) zv47 (.cons rfl (.cons rfl (.cons rfl (.cons rfl .nil)))) rfl (P0 _ rfl) L) t0 t0 ⟨rfl,rfl⟩ (sb (Z2 sz47 rF pa4 rfl pu4) t2 t1 ?_))))))
      refine aV L rfl ?_
      refine R1 ⟨aok rfl rfl,[(5,_),(15,_),(18,_),(88,_),(89,_),(90,_)],[(18,_),(105,_)],t6,t2,?_⟩
      refine C3 (mV L rfl (lp4 ag47 sz47 L rfl rfl (sw (E4 (vs:=[_]) un40 ti47 rfl rfl dC dC rfl (M2 (.cons rfl (.cons rfl (.cons rfl (.cons rfl .nil)))) rfl) rfl (.cons rfl pa4 rfl pu4 .nil) (.cons (.cons (.cons (.cons .nil)))) L) t1 t0 (swb (apP (sz:=4) un40 un40 ti47 rfl rfl rfl dC (by exact (by first | (simp; done) | (simp; omega))) oF sM rfl rfl rfl (by first | (simp [Tryz.t47]; done) | (simp [Tryz.t47]; omega)) oM (P0 _ rfl) L) t2 t1 t0 ?_))))
      refine aV L rfl (R1 (C3 (sw (I3 L (w64 oM oM)) t2 t0 (mV L rfl (R1 ?_)))))
      exact ⟨k+1,⟨by omega,by omega⟩,by omega,B3 ⟨oR,(ov rfl sO),rfl,rfl,rfl,trivial⟩ ⟨obl rfl ((b0q _ _).trans (by rw [hsy k hkl])),trivial⟩⟩
     ·have hk2:=df hk2
      have hkl:k=r'.length:=by omega
      subst hkl
      rw [I0]
      refine K2 (xq ?_)
      refine exr (mV L rfl (aV L rfl (aV L rfl (aV L rfl (zn [(4,_),(5,_),(6,_)] [(105,_)] t3 t1 ?_)))))
      have hF:D0b t b.length=((q+i:Nat):Int):=by
       rw [D0b,← hq]
       refine M0z (fun k hk=>?_) ?_ oM
       ·have:=hz k hk
        rw [hDg] at this
        rw [nzI,this]; rfl
       ·have h1:=hDg i
        rw [← hr] at h1
        simp only [nzI,← h1,Bool.not_eq_true',decide_eq_false_iff_not]
        exact hz0
      have hneg:¬ (((q+i:Nat):Int)<0):=by omega
      rw [← ht,G0w,p0h,y0v,hF,if_neg hneg,if_neg hneg,if_neg hneg,Int.toNat_natCast,← hDg,← hr,D0f,← hr']
      refine G4 [105] (sl:=[(4,_),(5,_),(6,_)]) (hb:=[]) (h0j (by simp [hlo])) ⟨⟨_,rfl,(.p .nil)⟩,⟨_,rfl,(.ref rfl rfl (by exact (by first | (simp; done) | (simp; omega))) (by first | rfl | omega))⟩,⟨_,rfl,.same⟩,trivial⟩ t0 ?_
      refine Y1 ?_
      refine ⟨.inr rfl,Z4.cast (.cons (.tmp rfl) (.cons (.tmp rfl) (.cons (.tmp rfl) .nil))) ?_,trivial⟩
      rw [pV,pV,O0]; rfl
  ·have hc2:=df hc2
   have hid:i=D'.length:=by omega
   refine K2 (xq ?_)
   refine exr (sw (j2 un24 rfl sz3 dC rX L) t1 t1 ?_)
   refine sw (Z1 ag3 rF rF L) t1 t1 ?_
   refine swb (f1n (k:=111) hG hX cl54 rfl hN (n0k c oM) (P0 _ rfl) L) t1 t0 ⟨rfl,rfl⟩ (aV L rfl (zn [(4,_),(11,_),(12,_)] [(111,_),(999,_)] t3 t2 (T1 (exr (mV L rfl (sw (X2 un27 L) t1 t0 (mV L rfl (zn [(4,_),(11,_),(112,_),(113,_),(114,_)] [(111,_),(999,_)] t5 t2 (X1 ?_)))))))))
   refine exl (α:=Nat) (fun k=>[(114,vi (k:Int))]) (fun k=>[(111,j4 (n0z t.pv (fun j=>ent t.b j 0) (zsQ c) k))]) (fun k=>k≤t.pv.length) (fun k=>t.pv.length - k) (0) (sl:=[(4,_),(11,_),(112,_),(113,_)]) (hb:=[(999,_)]) ?_ ⟨oR,rfl,rfl,rfl,rfl,trivial⟩ t2 ?_
   ·exact Nat.zero_le _
   intro k hk
   refine exr (sw (Z3 L) t2 t0 (zn [(4,_),(11,_),(112,_),(113,_),(114,_),(115,_)] [(111,_),(999,_)] t6 t2 (T1 ?_)))
   refine D2 rfl (fun hk2=>?_) (fun hk2=>?_)
   ·have hk2:=dt hk2
    have hkp:k<t.pv.length:=by have:=G8 t.pv; omega
    have hpk:=r3.lt _ (f6 hkp)
    have hkb:k<t.b.length:=by rw [r2.1]; omega
    have hkl:=r2.get (i:=k) oM
    refine V1 (xq ?_)
    refine T1 (X1 (exr (mV L rfl (sw (ixJ un27 sz3 (j:=k) rO oM sM L) t2 t0 ?_))))
    refine sw (s4 ag3 (B1c hkp) L) t1 t0 (aV L rfl (aV L rfl (zn [(4,_),(11,_),(20,_),(21,_),(112,_),(113,_),(114,_)] [(111,_),(999,_)] t7 t2 (C3 (mV L rfl (mV L rfl (mV L rfl (sw (j3 rX L) t1 t1 ?_))))))))
    refine sw (j2 un79 rfl sz77 dC rX L) t1 t1 ?_
    refine sw (Z1 ag77 rF rF L) t1 t1 ?_
    refine mV L rfl (sw (ixJ un77 sz40 (j:=k) rO oM sM L) t2 t0 ?_)
    refine sw (s4 ag40 (j7 hkb) L) t1 t0 (sw (y2 un40 sz47 dC oM sM dC L) t2 t0 ?_)
    refine sw (Y6 ag47 sz47 (X6 (v:=t.b.getD k []) (i:=0) oM) rfl L) t1 t0 (sw (n0g (sz:=4) un40 sz47 (by exact sM) (j:=t.pv.getD k 0) rO (by simpa using hpk) L) t2 t1 ?_)
    refine sb (D0c (n:=4) sz47 (by exact sM) rfl oM) t2 t1 ?_
    refine R1 (C3 (sw (I3 L (w64 oM oM)) t2 t0 (mV L rfl (R1 ?_))))
    exact ⟨k+1,oM,by omega,B3 ⟨oR,rfl,rfl,rfl,rfl,trivial⟩ ⟨obl rfl ((j0w _ (by simpa using hpk)).trans (by rw [C8]; rfl)),rfl,trivial⟩⟩
   ·have hk2:=df hk2
    have hkp:k=t.pv.length:=by have:=G8 t.pv; omega
    subst hkp
    refine K2 (xq ?_)
    refine exr (mV L rfl (aV L rfl (aV L rfl (aV L rfl (zn [(4,_),(5,_),(6,_)] [(111,_)] t3 t1 ?_)))))
    have hF:D0b t b.length = -1:=by
     rw [D0b,← hq]
     refine N0v fun k hk=>?_
     have:=hz k oM
     rw [hDg] at this
     rw [nzI,this]; rfl
    rw [← ht,G0w,p0h,y0v,hF,if_pos dC,if_pos dC,if_pos dC,d0f]
    refine G4 [111] (sl:=[(4,_),(5,_),(6,_)]) (hb:=[]) (h0j (by simp [hlo])) ⟨⟨_,rfl,(.ref rfl rfl (by exact sM) (by first | rfl | omega))⟩,⟨_,rfl,(.p .nil)⟩,⟨_,rfl,.same⟩,trivial⟩ t0 ?_
    refine Y1 ?_
    refine ⟨.inr rfl,Z4.cast (.cons (.tmp rfl) (.cons (.tmp rfl) (.cons (.tmp rfl) .nil))) ?_,trivial⟩
    rw [pV,G9,F0d]; rfl

def n0s (M:List (List Rat))(y:List Rat)(j k:Nat):List Rat:=(List.range k).map fun i=>y.getD i 0*ent M i j
theorem K0r {M:List (List Rat)}{y:List Rat}{j k:Nat}:n0s M y j (k+1)=n0s M y j k++[y.getD k 0*ent M k j]:=by simp [n0s,List.range_succ]
@[simp] theorem P1n {M:List (List Rat)}{y:List Rat}{j k:Nat}:(n0s M y j k).length=k:=by simp [n0s]
def V0f (M:List (List Rat))(y:List Rat)(c:Nat):Bool:=(List.range c).all fun j=>decide (M8 (n0s M y j M.length)=0)
def F0m (c:Nat)(M:List (List Rat))(b y:List Rat):Bool:=V0f M y c && decide (Z8 y b=1)
def q1h (c:Int)(m:List (List RQ))(b y:List RQ):Bool:=isM c m && b.all RQ.is && y.all RQ.is && decide (b.length=m.length) && decide (y.length=m.length)
theorem J1c (c:Int)(m:List (List RQ))(b y:List RQ)(hm:MSm m)(hbl:b.length<1000000000)(hb:∀ r∈b,r.sm)(hyl:y.length<1000000000)(hy:∀ r∈y,r.sm)(h:q1h c m b y=false):y3 E 25 [pMR c m,pVR b,pVR y] (bZ false):=by
 refine F2 (xs:=[bZ false]) Tryz.func25 rfl Tryz.ntmps25 Tryz.results25 sM fun F hG hX0 hnt hdf P0=>?_
 obtain ⟨L,hX,hN⟩:=pro hnt hX0 hG
 refine exr (swb (X3 (k:=3) (n:=2) pa2 rfl rfl (P0 _ rfl) L) t1 t0 ⟨rfl,rfl⟩ (aV L rfl (zn [(1,_),(2,_),(3,_)] [(3,_)] t3 t1 (T1 ?_))))
 refine exm (sl:=[(39,vb true)]) (sl0:=[(1,_),(2,_),(3,_)]) (hb:=[]) (hb0:=[(3,_)]) t3 t1 ?_ ?_
 ·rcases (by cases h1:isM c m; exact .inl rfl; cases h2:b.all RQ.is; exact .inr (.inl ⟨rfl,rfl⟩); cases h3:y.all RQ.is; exact .inr (.inr (.inl ⟨rfl,rfl,rfl⟩)); by_cases h4:b.length=m.length; exact .inr (.inr (.inr (.inr ⟨rfl,rfl,rfl,h4,fun h5=>by simp [q1h,h1,h2,h3,h4,h5] at h⟩))); exact .inr (.inr (.inr (.inl ⟨rfl,rfl,rfl,h4⟩))):isM c m=false∨(isM c m=true∧b.all RQ.is=false)∨(isM c m=true∧b.all RQ.is=true∧y.all RQ.is=false)∨(isM c m=true∧b.all RQ.is=true∧y.all RQ.is=true∧b.length≠m.length)∨(isM c m=true∧b.all RQ.is=true∧y.all RQ.is=true∧b.length=m.length∧y.length≠m.length)) with h1 | ⟨h1,h2⟩ | ⟨h1,h2,h3⟩ | ⟨h1,h2,h3,h4⟩ | ⟨h1,h2,h3,h4,h5⟩
  ·refine lp2 ag24 sz24 L rfl rfl (cK hG hX cl40 hN (H9 c m hm) L t1 (sw (P3 L) t1 t0 (mV L rfl (swn (g:=14) rfl (by rw [h1] <;> rfl) L rfl ?_))))
   refine swn (g:=14) rfl (by rw [h1] <;> rfl) L rfl ?_
   refine swn (g:=14) rfl (by rw [h1] <;> rfl) L rfl ?_
   refine sw (m4 (by rw [h1]; rfl) L) t2 t0 ?_
   refine mV L rfl (swn (g:=19) rfl rfl L rfl (swn (g:=19) rfl rfl L rfl (swn (g:=19) rfl rfl L rfl (sw (m4 rfl L) t2 t0 (mV L rfl (swn (g:=24) rfl rfl L rfl (swn (g:=24) rfl rfl L rfl (swn (g:=24) rfl rfl L rfl (swn (g:=24) rfl rfl L rfl (swn (g:=24) rfl rfl L rfl (swn (g:=24) rfl rfl L rfl ?_)))))))))))
   refine sw (m4 rfl L) t2 t0 (mV L rfl (swn (g:=32) rfl rfl L rfl (swn (g:=32) rfl rfl L rfl (swn (g:=32) rfl rfl L rfl (swn (g:=32) rfl rfl L rfl (swn (g:=32) rfl rfl L rfl (swn (g:=32) rfl rfl L rfl (sw (m4 rfl L) t2 t0 ?_))))))))
   exact R1 ⟨t4,t1⟩
  ·refine lp2 ag24 sz24 L rfl rfl (cK hG hX cl40 hN (H9 c m hm) L t1 (sw (P3 L) t1 t0 (mV L rfl (gV (g:=14) rfl (by rw [h1] <;> rfl) L rfl rfl ?_))))
   refine swg (g:=14) rfl (by rw [h1] <;> rfl) (c_c hG hX cl64 rfl hN (n5 b hbl hb) L) rfl t1 t0 ?_
   refine swg (g:=14) rfl (by rw [h1] <;> rfl) (P3 L) rfl t1 t0 ?_
   refine sw (U3 (by rw [h1]; rfl) L) t2 t0 ?_
   refine mV L rfl (swn (g:=19) rfl (by rw [h2] <;> rfl) L rfl ?_)
   refine swn (g:=19) rfl (by rw [h2] <;> rfl) L rfl ?_
   refine swn (g:=19) rfl (by rw [h2] <;> rfl) L rfl ?_
   refine sw (m4 (by rw [h2]; rfl) L) t2 t0 ?_
   refine mV L rfl (swn (g:=24) rfl rfl L rfl (swn (g:=24) rfl rfl L rfl (swn (g:=24) rfl rfl L rfl (swn (g:=24) rfl rfl L rfl (swn (g:=24) rfl rfl L rfl (swn (g:=24) rfl rfl L rfl (sw (m4 rfl L) t2 t0 (mV L rfl (swn (g:=32) rfl rfl L rfl (swn (g:=32) rfl rfl L rfl (swn (g:=32) rfl rfl L rfl ?_)))))))))))
   refine swn (g:=32) rfl rfl L rfl (swn (g:=32) rfl rfl L rfl (swn (g:=32) rfl rfl L rfl (sw (m4 rfl L) t2 t0 ?_)))
   exact R1 ⟨t4,t1⟩
  ·refine lp2 ag24 sz24 L rfl rfl (cK hG hX cl40 hN (H9 c m hm) L t1 (sw (P3 L) t1 t0 (mV L rfl (gV (g:=14) rfl (by rw [h1] <;> rfl) L rfl rfl ?_))))
   refine swg (g:=14) rfl (by rw [h1] <;> rfl) (c_c hG hX cl64 rfl hN (n5 b hbl hb) L) rfl t1 t0 ?_
   refine swg (g:=14) rfl (by rw [h1] <;> rfl) (P3 L) rfl t1 t0 ?_
   refine sw (U3 (by rw [h1]; rfl) L) t2 t0 ?_
   refine mV L rfl (gV (g:=19) rfl (by rw [h2] <;> rfl) L rfl rfl ?_)
   refine swg (g:=19) rfl (by rw [h2] <;> rfl) (c_c hG hX cl64 rfl hN (n5 y hyl hy) L) rfl t1 t0 ?_
   refine swg (g:=19) rfl (by rw [h2] <;> rfl) (P3 L) rfl t1 t0 ?_
   refine sw (U3 (by rw [h2]; rfl) L) t2 t0 ?_
   refine mV L rfl (swn (g:=24) rfl (by rw [h3] <;> rfl) L rfl ?_)
   refine swn (g:=24) rfl (by rw [h3] <;> rfl) L rfl ?_
   refine swn (g:=24) rfl (by rw [h3] <;> rfl) L rfl ?_
   refine swn (g:=24) rfl (by rw [h3] <;> rfl) L rfl ?_
   refine swn (g:=24) rfl (by rw [h3] <;> rfl) L rfl ?_
   refine swn (g:=24) rfl (by rw [h3] <;> rfl) L rfl ?_
   refine sw (m4 (by rw [h3]; rfl) L) t2 t0 ?_
   refine mV L rfl (swn (g:=32) rfl rfl L rfl (swn (g:=32) rfl rfl L rfl (swn (g:=32) rfl rfl L rfl (swn (g:=32) rfl rfl L rfl (swn (g:=32) rfl rfl L rfl (swn (g:=32) rfl rfl L rfl (sw (m4 rfl L) t2 t0 ?_)))))))
   exact R1 ⟨t4,t1⟩
  ·refine lp2 ag24 sz24 L rfl rfl (cK hG hX cl40 hN (H9 c m hm) L t1 (sw (P3 L) t1 t0 (mV L rfl (gV (g:=14) rfl (by rw [h1] <;> rfl) L rfl rfl ?_))))
   refine swg (g:=14) rfl (by rw [h1] <;> rfl) (c_c hG hX cl64 rfl hN (n5 b hbl hb) L) rfl t1 t0 ?_
   refine swg (g:=14) rfl (by rw [h1] <;> rfl) (P3 L) rfl t1 t0 ?_
   refine sw (U3 (by rw [h1]; rfl) L) t2 t0 ?_
   refine mV L rfl (gV (g:=19) rfl (by rw [h2] <;> rfl) L rfl rfl ?_)
   refine swg (g:=19) rfl (by rw [h2] <;> rfl) (c_c hG hX cl64 rfl hN (n5 y hyl hy) L) rfl t1 t0 ?_
   refine swg (g:=19) rfl (by rw [h2] <;> rfl) (P3 L) rfl t1 t0 ?_
   refine sw (U3 (by rw [h2]; rfl) L) t2 t0 ?_
   refine mV L rfl (gV (g:=24) rfl (by rw [h3] <;> rfl) L rfl rfl ?_)
   refine swg (g:=24) rfl (by rw [h3] <;> rfl) (X2 un40 L) rfl t1 t0 ?_
   refine swg (g:=24) rfl (by rw [h3] <;> rfl) (j2 un24 rfl sz22 dC rX L) rfl t1 t1 ?_
   refine swg (g:=24) rfl (by rw [h3] <;> rfl) (Z1 ag22 rF rF L) rfl t1 t1 ?_
   refine swg (g:=24) rfl (by rw [h3] <;> rfl) (X2 un22 L) rfl t1 t0 ?_
   refine swg (g:=24) rfl (by rw [h3] <;> rfl) (c_n L) rfl t2 t0 ?_
   refine sw (U3 (by rw [h3]; rfl) L) t2 t0 ?_
   refine mV L rfl (swn (g:=32) rfl sO L rfl (swn (g:=32) rfl sO L rfl (swn (g:=32) rfl sO L rfl (swn (g:=32) rfl sO L rfl (swn (g:=32) rfl sO L rfl (swn (g:=32) rfl sO L rfl (sw (m4 sO L) t2 t0 ?_)))))))
   exact R1 ⟨t4,t1⟩
  ·refine lp2 ag24 sz24 L rfl rfl (cK hG hX cl40 hN (H9 c m hm) L t1 (sw (P3 L) t1 t0 (mV L rfl (gV (g:=14) rfl (by rw [h1] <;> rfl) L rfl rfl ?_))))
   refine swg (g:=14) rfl (by rw [h1] <;> rfl) (c_c hG hX cl64 rfl hN (n5 b hbl hb) L) rfl t1 t0 ?_
   refine swg (g:=14) rfl (by rw [h1] <;> rfl) (P3 L) rfl t1 t0 ?_
   refine sw (U3 (by rw [h1]; rfl) L) t2 t0 ?_
   refine mV L rfl (gV (g:=19) rfl (by rw [h2] <;> rfl) L rfl rfl ?_)
   refine swg (g:=19) rfl (by rw [h2] <;> rfl) (c_c hG hX cl64 rfl hN (n5 y hyl hy) L) rfl t1 t0 ?_
   refine swg (g:=19) rfl (by rw [h2] <;> rfl) (P3 L) rfl t1 t0 ?_
   refine sw (U3 (by rw [h2]; rfl) L) t2 t0 ?_
   refine mV L rfl (gV (g:=24) rfl (by rw [h3] <;> rfl) L rfl rfl ?_)
   refine swg (g:=24) rfl (by rw [h3] <;> rfl) (X2 un40 L) rfl t1 t0 ?_
   refine swg (g:=24) rfl (by rw [h3] <;> rfl) (j2 un24 rfl sz22 dC rX L) rfl t1 t1 ?_
   refine swg (g:=24) rfl (by rw [h3] <;> rfl) (Z1 ag22 rF rF L) rfl t1 t1 ?_
   refine swg (g:=24) rfl (by rw [h3] <;> rfl) (X2 un22 L) rfl t1 t0 ?_
   refine swg (g:=24) rfl (by rw [h3] <;> rfl) (c_n L) rfl t2 t0 ?_
   refine sw (U3 (by rw [h3]; rfl) L) t2 t0 ?_
   refine mV L rfl (gV (g:=32) rfl sO L rfl rfl (swg (g:=32) rfl sO (X2 un40 L) rfl t1 t0 (swg (g:=32) rfl sO (j2 un24 rfl sz22 dC rX L) rfl t1 t1 ?_)))
   refine swg (g:=32) rfl sO (Z1 ag22 rF rF L) rfl t1 t1 ?_
   refine swg (g:=32) rfl sO (X2 un22 L) rfl t1 t0 (swg (g:=32) rfl sO (c_n L) rfl t2 t0 (sw (U3 sO L) t2 t0 ?_))
   exact R1 ⟨⟨ob rfl sO,rfl,rfl,rfl,trivial⟩,t1⟩
 refine v8 rfl rfl (exr (aV L rfl (zn [(6,_)] [] t1 trivial (Y1 ?_))))
 refine Q0 (.tmp rfl) ?_
 rfl
theorem P1w {a b:Rat}:n0f a b=0↔a=b:=by
 unfold n0f
 constructor
 ·intro h
  split at h
  ·cases h
  ·split at h
   ·cases h
   ·rename_i h1 h2; exact Rat.le_antisymm (Rat.not_lt.1 h2) (Rat.not_lt.1 h1)
 ·rintro rfl; simp [Rat.lt_irrefl]
theorem f1h {B C:Nat}{u v:List Rat}(hB:∀ a∈u,qw a≤B)(hC:∀ a∈v,qw a≤C):qw (Z8 u v)≤u.length*(B+C+1)+1:=by
 have:=f1x (P0z hB hC)
 have h2:=V0 (B+C+1) (m0b (u:=u) (v:=v))
 rw [Z8]; omega
theorem M1b {B:Nat}{M:List (List Rat)}{y:List Rat}{j k:Nat}(hB:MB B M)(hy:∀ a∈y,qw a≤B)(h0:0<B)(hk:k≤y.length):∀ a∈n0s M y j k,qw a≤B+B:=by
 intro a ha
 simp only [n0s,G0,List.mem_range] at ha
 obtain ⟨i,hi,rfl⟩:=ha
 have:=m9 (y.getD i 0) (ent M i j)
 have:=hy _ (v4 (show i<y.length by omega))
 have:=h0c (i:=i) (j:=j) hB h0
 omega
theorem w0b {M:List (List Rat)}{y:List Rat}{c:Nat}:V0f M y (c+1)=(V0f M y c && decide (M8 (n0s M y c M.length)=0)):=by
 simp [V0f,List.range_succ]
theorem F0a {M:List (List Rat)}{y:List Rat}{j c:Nat}(hj:j<c)(h:¬ M8 (n0s M y j M.length)=0):V0f M y c=false:=by
 rw [V0f,List.all_eq_false]
 exact ⟨j,by simpa using hj,by simpa using h⟩
theorem F0x (c B:Nat)(M:List (List Rat))(b y:List Rat)(h:MOk c M)(hB:MB B M)(hbB:∀ a∈b,qw a≤B)(hyB:∀ a∈y,qw a≤B)(hbl:b.length=M.length)(hyl:y.length=M.length)(h0:0<B)(hs:M.length*(B+B+1)+1<900000000)(hbb:B<100000000):y3 E 25 [pMq c M,pV b,pV y] (bZ (F0m c M b y)):=by
 refine F2 (xs:=[bZ (F0m c M b y)]) Tryz.func25 rfl Tryz.ntmps25 Tryz.results25 sM fun F hG hX0 hnt hdf P0=>?_
 obtain ⟨L,hX,hN⟩:=pro hnt hX0 hG
 have hr4:=h.rows
 have hc60:=h.cols
 refine exr (swb (X3 (k:=3) (n:=2) pa2 rfl rfl (P0 _ rfl) L) t1 t0 ⟨rfl,rfl⟩ (aV L rfl (zn [(1,_),(2,_),(3,_)] [(3,_)] t3 t1 (T1 (exr (lp2 ag24 sz24 L rfl rfl (cK hG hX cl40 hN (g9 h hB oM) L t1 (sw (P3 L) t1 t0 (mV L rfl (gV (g:=14) rfl rfl L rfl rfl (swg (g:=14) rfl rfl (c_c hG hX cl64 rfl hN (C9 hbB oM oM) L) rfl t1 t0 ?_)))))))))))
 refine swg (g:=14) rfl rfl (P3 L) rfl t1 t0 (sw (U3 rfl L) t2 t0 (mV L rfl (gV (g:=19) rfl rfl L rfl rfl (swg (g:=19) rfl rfl (c_c hG hX cl64 rfl hN (C9 hyB oM oM) L) rfl t1 t0 (swg (g:=19) rfl rfl (P3 L) rfl t1 t0 (sw (U3 rfl L) t2 t0 (mV L rfl (gV (g:=24) rfl rfl L rfl rfl (swg (g:=24) rfl rfl (X2 un40 L) rfl t1 t0 (swg (g:=24) rfl rfl (j2 un24 rfl sz22 dC rX L) rfl t1 t1 ?_))))))))))
 refine swg (g:=24) rfl rfl (Z1 ag22 rF rF L) rfl t1 t1 ?_
 refine swg (g:=24) rfl rfl (X2 un22 L) rfl t1 t0 (swg (g:=24) rfl rfl (c_n L) rfl t2 t0 (sw (U3 rfl L) t2 t0 (mV L rfl (gV (g:=32) rfl sO L rfl rfl (swg (g:=32) rfl sO (X2 un40 L) rfl t1 t0 (swg (g:=32) rfl sO (j2 un24 rfl sz22 dC rX L) rfl t1 t1 ?_))))))
 refine swg (g:=32) rfl sO (Z1 ag22 rF rF L) rfl t1 t1 ?_
 refine swg (g:=32) rfl sO (X2 un22 L) rfl t1 t0 (swg (g:=32) rfl sO (c_n L) rfl t2 t0 (sw (U3 sO L) t2 t0 (zn [(1,_),(2,_),(3,_),(39,_)] [(3,_)] t4 t1 (T3 rfl sO ?_))))
 refine V1 (xq ?_)
 refine T1 (exr (sw (j2 un24 rfl sz3 dC rX L) t1 t1 ?_))
 refine sw (Z1 ag3 rF rF L) t1 t1 ?_
 refine mV L rfl (zn [(1,_),(2,_),(3,_),(41,_),(42,_)] [(3,_)] t5 t1 (X1 ?_))
 refine exl (α:=Nat) (fun j=>[(42,vi (j:Int))]) (fun j=>[]) (fun j=>j≤c∧V0f M y j=true) (fun j=>c - j) (0) (sl:=[(1,_),(2,_),(3,_),(41,_)]) (hb:=[(3,_)]) ?_ ⟨oR,rfl,rfl,rfl,rfl,trivial⟩ t1 ?_
 ·exact ⟨Nat.zero_le _,rfl⟩
 intro j hj
 obtain ⟨hj,hch⟩:=hj
 refine exr (sw (Z3 L) t2 t0 (zn [(1,_),(2,_),(3,_),(41,_),(42,_),(43,_)] [(3,_)] t6 t1 (T1 ?_)))
 refine D2 rfl (fun hc=>?_) (fun hc=>?_)
 ·have hc:=dt hc
  have hjc:j<c:=by omega
  refine V1 (xq ?_)
  refine T1 (X1 (exr (mV L rfl (aV L rfl (zn [(1,_),(2,_),(3,_),(7,_),(41,_),(42,_)] [(3,_)] t6 t1 (exr (aV L rfl (zn [(1,_),(2,_),(3,_),(7,_),(8,_),(41,_),(42,_)] [(3,_)] t7 t1 (T1 (exr (sw (j2 un24 rfl sz22 dC rX L) t1 t1 ?_)))))))))))
  refine sw (Z1 ag22 rF rF L) t1 t1 ?_
  refine sw (X2 un22 L) t1 t0 (mV L rfl (zn [(1,_),(2,_),(3,_),(7,_),(8,_),(41,_),(42,_),(46,_),(47,_),(48,_)] [(3,_)] t10 t1 (X1 ?_)))
  refine exl (α:=(Nat×List Rat)) (fun x=>[(48,vi (x.1:Int)),(8,p1n 64 x.2)]) (fun x=>[]++p1p 64 x.2) (fun x=>x.1≤M.length∧n0s M y j x.1=x.2) (fun x=>M.length - x.1) ((0,[])) (sl:=[(1,_),(2,_),(3,_),(7,_),(41,_),(42,_),(46,_),(47,_)]) (hb:=[(3,_)]) ?_ ⟨oR,oR,rfl,rfl,rfl,rfl,rfl,rfl,rfl,rfl,trivial⟩ (hbI (l':=[(3,_)]) rfl t1) ?_
  ·exact ⟨Nat.zero_le _,rfl⟩
  intro x hk
  obtain ⟨k,T⟩:=x
  obtain ⟨hk,hT⟩:=hk
  simp only at hk hT
  rcases T with _ | ⟨q,T⟩
  ·dsimp only [p1n,p1p,List.append_nil]
   refine exr (sw (Z3 L) t2 t0 (zn [(1,_),(2,_),(3,_),(7,_),(8,_),(41,_),(42,_),(46,_),(47,_),(48,_),(49,_)] [(3,_)] t11 t1 (T1 ?_)))
   refine D2 rfl (fun hd=>?_) (fun hd=>?_)
   ·have hd:=dt hd
    have hkl:k<M.length:=by omega
    have hrl:=h.get hkl
    have ht:=K0r (M:=M) (y:=y) (j:=j) (k:=k)
    rw [hT] at ht
    have hq1:=hyB _ (v4 (show k<y.length by omega))
    have hq2:=h0c (i:=k) (j:=j) hB h0
    refine V1 (xq ?_)
    refine T1 (X1 (exr (mV L rfl (sw (ixJ un22 sz40 (j:=k) rO oM sM L) t2 t0 ?_))))
    refine sw (s4 ag40 (j7 hkl) L) t1 t0 (aV L rfl (aV L rfl (zn [(1,_),(2,_),(3,_),(7,_),(8,_),(9,_),(10,_),(41,_),(42,_),(46,_),(47,_),(48,_)] [(3,_)] t12 t1 (d0d rF ?_))))
    refine mV L rfl (mV L rfl (mV L rfl (sw (y2 un40 sz47 oM oM sM dC L) t2 t0 ?_)))
    refine sw (Y6 ag47 sz47 (X6 (show k<y.length by omega)) rfl L) t1 t0 ?_
    refine mV L rfl (mV L rfl (sw (y2 un40 sz47 oM oM sM dC L) t2 t0 ?_))
    refine sw (Y6 ag47 sz47 (X6 (show j<(M.getD k []).length by omega)) rfl L) t1 t0 ?_
    refine cK hG hX cl67 hN (F8 (y.getD k 0) (ent M k j) oM oM) L t2 (sw (E4 (vs:=[_]) un40 ti47 rfl rfl dC dC rfl (M2 (.cons rfl (.cons rfl (.cons rfl (.cons rfl .nil)))) rfl) rfl (.cons rfl pa4 rfl pu4 .nil) (.cons (.cons (.cons (.cons .nil)))) L) t1 t0 (swb (apN (k:=64) (sz:=4) un40 un40 ti47 rfl rfl rfl dC sM rfl (by simp [Tryz.t47]) oM (P0 _ rfl) L) t2 t0 ⟨rfl,rfl⟩ ?_))
    refine aV L rfl ?_
    refine R1 ⟨aok rfl rfl,?_⟩
    refine C3 (sw (I3 L (w64 oM oM)) t2 t0 (mV L rfl (R1 ?_)))
    exact ⟨(k+1,[y.getD k 0*ent M k j]),⟨by simp only; omega,ht⟩,(by simp only; omega),B3 ⟨oR,oR,rfl,rfl,rfl,rfl,rfl,rfl,rfl,rfl,trivial⟩ (hbI (l':=[(64,_),(3,_)]) rfl t2)⟩
   ·have hd:=df hd
    have hkl:k=M.length:=by omega
    rw [hkl] at hT
    refine K2 (xq ?_)
    refine G4 [] (sl:=[(1,_),(2,_),(3,_),(8,_),(41,_),(42,_)]) (hb:=[(3,_)]) (M3 hX0) ⟨⟨_,rfl,.same⟩,⟨_,rfl,.same⟩,⟨_,rfl,.same⟩,⟨_,rfl,(.p .nil)⟩,⟨_,rfl,.same⟩,⟨_,rfl,.same⟩,trivial⟩ ⟨⟨rfl,_,rfl,.same⟩,trivial⟩ (exr (mV L rfl (cK hG hX cl68 hN (q0x [] (B+B) sM sM sM) L t1 ?_)))
    refine cK hG hX cl65 hN (T6 (M8 []) (by rw [show M8 []=0 from rfl,d0y]; decide)) L t1 ?_
    refine sw (P3 L) t1 t0 (zn [(1,_),(2,_),(3,_),(41,_),(42,_),(69,_)] [(3,_)] t6 t1 (T3 rfl (by rw [show M8 []=0 from rfl]; rfl) ?_))
    refine V1 (xq ?_)
    refine C3 (sw (I3 L (w64 oM oM)) t2 t0 (mV L rfl (R1 ?_)))
    exact ⟨j+1,⟨by omega,by rw [w0b,hch,hT]; rfl⟩,by omega,B3 ⟨oR,rfl,rfl,rfl,rfl,trivial⟩ t1⟩
  ·dsimp only [p1n,p1p]
   have hTl:(q :: T).length=k:=by rw [← hT]; simp
   have hTl2:T.length+1=k:=hTl
   refine exr (sw (Z3 L) t2 t0 (zn [(1,_),(2,_),(3,_),(7,_),(8,_),(41,_),(42,_),(46,_),(47,_),(48,_),(49,_)] [(3,_),(64,_)] t11 t2 (T1 ?_)))
   refine D2 rfl (fun hd=>?_) (fun hd=>?_)
   ·have hd:=dt hd
    have hkl:k<M.length:=by omega
    have hrl:=h.get hkl
    have ht:=K0r (M:=M) (y:=y) (j:=j) (k:=k)
    rw [hT] at ht
    have hq1:=hyB _ (v4 (show k<y.length by omega))
    have hq2:=h0c (i:=k) (j:=j) hB h0
    refine V1 (xq ?_)
    refine T1 (X1 (exr (mV L rfl (sw (ixJ un22 sz40 (j:=k) rO oM sM L) t2 t0 ?_))))
    refine sw (s4 ag40 (j7 hkl) L) t1 t0 (aV L rfl (aV L rfl (zn [(1,_),(2,_),(3,_),(7,_),(8,_),(9,_),(10,_),(41,_),(42,_),(46,_),(47,_),(48,_)] [(3,_),(64,_)] t12 t2 (d0d rF ?_))))
    refine mV L rfl (mV L rfl (mV L rfl (sw (y2 un40 sz47 oM oM sM dC L) t2 t0 ?_)))
    refine sw (Y6 ag47 sz47 (X6 (show k<y.length by omega)) rfl L) t1 t0 ?_
    refine mV L rfl (mV L rfl (sw (y2 un40 sz47 oM oM sM dC L) t2 t0 ?_))
    refine sw (Y6 ag47 sz47 (X6 (show j<(M.getD k []).length by omega)) rfl L) t1 t0 ?_
    refine cK hG hX cl67 hN (F8 (y.getD k 0) (ent M k j) oM oM) L t2 (sw (E4 (vs:=[_]) un40 ti47 rfl rfl dC dC rfl (M2 (.cons rfl (.cons rfl (.cons rfl (.cons rfl .nil)))) rfl) rfl (.cons rfl pa4 rfl pu4 .nil) (.cons (.cons (.cons (.cons .nil)))) L) t1 t0 (swb (apP (sz:=4) un40 un40 ti47 rfl rfl rfl dC (by exact sM) oF sM rfl rfl rfl (by simp [Tryz.t47]; omega) oM (P0 _ rfl) L) t2 t1 t0 ?_))
    refine aV L rfl ?_
    refine R1 ⟨i5 [⟨[8],[],[53],[]⟩,⟨[2],[],[54],[]⟩,⟨[9],[],[55],[]⟩,⟨[54,55],[],[56],[]⟩,⟨[56],[],[57],[]⟩,⟨[10],[],[58],[]⟩,⟨[7],[],[59],[]⟩,⟨[58,59],[],[60],[]⟩,⟨[60],[],[61],[]⟩,⟨[57,61],[],[62],[]⟩,⟨[62],[],[63],[]⟩,⟨[53,63],[64],[64],[64]⟩,⟨[64],[],[8],[]⟩] rF rF dC,?_⟩
    refine C3 (sw (I3 L (w64 oM oM)) t2 t0 (mV L rfl (R1 ?_)))
    exact ⟨(k+1,q :: T++[y.getD k 0*ent M k j]),⟨by simp only; omega,ht⟩,(by simp only; omega),B3 ⟨oR,(by exact ov rfl sO),rfl,rfl,rfl,rfl,rfl,rfl,rfl,rfl,trivial⟩ (hbI (l':=[(64,_),(3,_)]) rfl ⟨(obl rfl (b0q (q :: T) _)),rfl,trivial⟩)⟩
   ·have hd:=df hd
    have hkl:k=M.length:=by omega
    rw [hkl] at hT hTl
    have hbd:=M1b (M:=M) (y:=y) (j:=j) (k:=M.length) hB hyB h0 oM
    rw [hT] at hbd
    have hsq:=f1x hbd
    rw [hTl] at hsq
    refine K2 (xq ?_)
    refine G4 [64] (sl:=[(1,_),(2,_),(3,_),(8,_),(41,_),(42,_)]) (hb:=[(3,_)]) (M3 hX0) ⟨⟨_,rfl,.same⟩,⟨_,rfl,.same⟩,⟨_,rfl,.same⟩,⟨_,rfl,(.ref rfl rfl (by exact sM) (by first | rfl | omega))⟩,⟨_,rfl,.same⟩,⟨_,rfl,.same⟩,trivial⟩ ⟨⟨rfl,_,rfl,.same⟩,trivial⟩ ?_
    refine exr (mV L rfl (cK hG hX cl68 hN (q0x (q :: T) (B+B) (by rw [hTl]; omega) hbd (by rw [hTl]; exact hs)) L t1 ?_))
    refine cK hG hX cl65 hN (T6 (M8 (q :: T)) oM) L t1 (sw (P3 L) t1 t0 (zn [(1,_),(2,_),(3,_),(41,_),(42,_),(69,_)] [(3,_)] t6 t1 ?_))
    refine D2 rfl (fun hz=>?_) (fun hz=>?_)
    ·have hz:¬ M8 (n0s M y j M.length)=0:=by rw [hT]; simpa using hz
     refine exr (aV L rfl (zn [(6,_)] [] t1 trivial (Y1 ?_)))
     refine Q0 (.tmp rfl) ?_
     rw [F0m,F0a hjc hz]; rfl
    ·have hz:M8 (n0s M y j M.length)=0:=by rw [hT]; simpa using hz
     refine V1 (xq ?_)
     refine C3 (sw (I3 L (w64 oM oM)) t2 t0 (mV L rfl (R1 ?_)))
     exact ⟨j+1,⟨by omega,by rw [w0b,hch,hz]; rfl⟩,by omega,B3 ⟨oR,rfl,rfl,rfl,rfl,trivial⟩ t1⟩
 ·have hc:=df hc
  have hjc:j=c:=by omega
  subst hjc
  have hq:=f1h (u:=y) (v:=b) hyB hbB
  have hmul:y.length*(B+B+1)=M.length*(B+B+1):=by rw [hyl]
  refine K2 (xq ?_)
  refine exr (mV L rfl (mV L rfl (cK hG hX cl70 hN (H0v y b B B oM oM hyB hbB oM oM oM) L t2 (cK hG hX cl55 hN (s7 1 dC dC) L t1 (cK hG hX cl69 hN (n1r (Z8 y b) 1 oM (by rw [G0f]; decide)) L t2 ?_)))))
  refine sw (c_e L) t2 t0 (aV L rfl (zn [(6,_)] [] t1 trivial (Y1 ?_)))
  refine Q0 (.tmp rfl) ?_
  rw [F0m,hch,Bool.true_and,show decide (n0f (Z8 y b) 1=0)=decide (Z8 y b=1) from decide_eq_decide.2 P1w]
theorem solve_no (c:Int)(m:List (List RQ))(b:List RQ)(hm:MSm m)(hbl:b.length<1000000000)(hb:∀ r∈b,r.sm)(h:(isM c m && b.all RQ.is)=false):y3 E 24 [pMR c m,pVR b] (.tup [.sl 0 [],.sl 0 [],vZ 3]):=by
 refine F2 (xs:=[.sl 0 [],.sl 0 [],vZ 3]) Tryz.func24 rfl Tryz.ntmps24 Tryz.results24 sM fun F hG hX0 hnt hdf P0=>?_
 obtain ⟨L,hX,hN⟩:=pro hnt hX0 hG
 refine exr (swb (X3 (k:=2) (n:=2) pa2 rfl rfl (P0 _ rfl) L) t1 t0 ⟨rfl,rfl⟩ (aV L rfl (aV L rfl (aV L rfl (zn [(1,_),(2,_),(5,_)] [(2,_)] t3 t1 (T1 ?_))))))
 refine exm (sl:=[(29,vb true)]) (sl0:=[(1,_),(2,_),(5,_)]) (hb:=[]) (hb0:=[(2,_)]) t3 t1 ?_ ?_
 ·rcases (by cases h1:isM c m; exact .inl rfl; rw [h1] at h; exact .inr ⟨rfl,h⟩:isM c m=false∨(isM c m=true∧b.all RQ.is=false)) with h1 | ⟨h1,h2⟩
  ·refine lp2 ag24 sz24 L rfl rfl (cK hG hX cl40 hN (H9 c m hm) L t1 (sw (P3 L) t1 t0 (mV L rfl (swn (g:=25) rfl (by rw [h1] <;> rfl) L rfl ?_))))
   refine swn (g:=25) rfl (by rw [h1] <;> rfl) L rfl ?_
   refine swn (g:=25) rfl (by rw [h1] <;> rfl) L rfl ?_
   refine sw (m4 (by rw [h1]; rfl) L) t2 t0 ?_
   exact R1 ⟨t4,t1⟩
  ·refine lp2 ag24 sz24 L rfl rfl (cK hG hX cl40 hN (H9 c m hm) L t1 (sw (P3 L) t1 t0 (mV L rfl (gV (g:=25) rfl (by rw [h1] <;> rfl) L rfl rfl ?_))))
   refine swg (g:=25) rfl (by rw [h1] <;> rfl) (c_c hG hX cl64 rfl hN (n5 b hbl hb) L) rfl t1 t0 ?_
   refine swg (g:=25) rfl (by rw [h1] <;> rfl) (P3 L) rfl t1 t0 ?_
   refine sw (U3 (by rw [h1]; rfl) L) t2 t0 ?_
   exact R1 ⟨⟨ob rfl (by rw [h2]; rfl),rfl,rfl,rfl,trivial⟩,t1⟩
 refine v8 rfl rfl (exr (aV L rfl (aV L rfl (aV L rfl (zn [(4,_),(5,_),(6,_)] [] t3 trivial (G4 [] (sl:=[(4,_),(5,_),(6,_)]) (hb:=[]) (M3 hX0) ⟨⟨_,rfl,(.p .nil)⟩,⟨_,rfl,(.p .nil)⟩,⟨_,rfl,.same⟩,trivial⟩ t0 (Y1 ?_)))))))
 refine P1 (.tmp rfl) (.tmp rfl) (.tmp rfl) ?_
 rfl
theorem q1f (c B:Nat)(M:List (List Rat))(b:List Rat)(h:MOk c M)(hB:MB B M)(hbB:∀ a∈b,qw a≤B)(hb:B<1000000000)(hl:b.length<1000000000)(hne:b.length≠M.length):y3 E 24 [pMq c M,pV b] (.tup [.sl 0 [],.sl 0 [],vZ 1]):=by
 refine F2 (xs:=[.sl 0 [],.sl 0 [],vZ 1]) Tryz.func24 rfl Tryz.ntmps24 Tryz.results24 sM fun F hG hX0 hnt hdf P0=>?_
 obtain ⟨L,hX,hN⟩:=pro hnt hX0 hG
 refine exr (swb (X3 (k:=2) (n:=2) pa2 rfl rfl (P0 _ rfl) L) t1 t0 ⟨rfl,rfl⟩ (aV L rfl (aV L rfl (aV L rfl (zn [(1,_),(2,_),(5,_)] [(2,_)] t3 t1 (T1 (exr (lp2 ag24 sz24 L rfl rfl (cK hG hX cl40 hN (g9 h hB hb) L t1 (sw (P3 L) t1 t0 (mV L rfl ?_)))))))))))
 refine gV (g:=25) rfl rfl L rfl rfl (swg (g:=25) rfl rfl (c_c hG hX cl64 rfl hN (C9 hbB hb hl) L) rfl t1 t0 (swg (g:=25) rfl rfl (P3 L) rfl t1 t0 (sw (U3 rfl L) t2 t0 (zn [(1,_),(2,_),(5,_),(29,_)] [(2,_)] t4 t1 (T3 rfl rfl ?_)))))
 refine V1 (xq ?_)
 refine T1 (exr (mV L rfl (sw (X2 un40 L) t1 t0 (sw (j2 un24 rfl sz22 dC rX L) t1 t1 ?_))))
 refine sw (Z1 ag22 rF rF L) t1 t1 ?_
 refine sw (X2 un22 L) t1 t0 (sw (c_n L) t2 t0 (zn [(1,_),(2,_),(5,_),(35,_)] [(2,_)] t4 t1 (v8 rfl sO (exr (aV L rfl (aV L rfl (aV L rfl (zn [(4,_),(5,_),(6,_)] [] t3 trivial (G4 [] (sl:=[(4,_),(5,_),(6,_)]) (hb:=[]) (M3 hX0) ⟨⟨_,rfl,(.p .nil)⟩,⟨_,rfl,(.p .nil)⟩,⟨_,rfl,.same⟩,trivial⟩ t0 (Y1 ?_))))))))))
 refine P1 (.tmp rfl) (.tmp rfl) (.tmp rfl) ?_
 rfl
theorem g0x (n c B DB:Nat)(M:List (List Rat))(b:List Rat)(h:MOk c M)(hB1:MB B M)(hbB:∀ a∈b,qw a≤B)(hn:M.length=n)(hbn:b.length=n)(H:EU n c (n+1) B DB M (n4 b)):y3 E 24 [pMq c M,pV b] (.tup [pV (G0w c (ech M (n4 b) c) n),pV (p0h (ech M (n4 b) c) n),vZ (y0v (ech M (n4 b) c) n)]):=q0w (d1k n c B DB M b h hB1 hbB hn hbn H)
@[reducible] def b2 (vs:List (List RQ)):List (Nat×Blk):=[(2,⟨22,1,.mix [.p (.sl vs.length (f0z vs))]⟩)]
@[reducible] def b3 (vs:List (List RQ))(w:List RQ):List (Nat×Blk):=[(2,⟨22,1,.mix [.p (.sl vs.length (f0z vs))]⟩),(3,⟨40,1,.mix [.p (pVR w)]⟩)]
theorem v1h (vs:List (List RQ))(i:Nat)(hi:i<vs.length)(hm:MSm vs):T4 E (fun _=>true) 72 [.p (vZ i),.at_ 2 0 1] (b2 vs) (b2 vs) (.p (bZ (!(vs.getD i []).all RQ.is))):=by
 refine D4 (xs:=[bZ (!(vs.getD i []).all RQ.is)]) Tryz.func72 rfl Tryz.ntmps72 Tryz.results72 sM fun F G=>?_
 have L:=@lti _ _ G.nt
 have hG:=G.g
 have hX:=G.x
 have hN:=i6 hG
 have P0:=G.p0
 have hr:=hm.2 _ (gDL hi)
 refine exr (aV L rfl (zn [(0,_),(1,_)] [(2,_)] t2 t1 (exr (sw (Z1 ag22 rF rF L) t1 t1 ?_))))
 refine mV L rfl (sw (ixJ un22 sz40 (j:=i) rO oM sM L) t2 t0 ?_)
 refine sw (s4 ag40 (h0w hi) L) t1 t0 (cK hG hX cl64 hN (n5 (vs.getD i []) hr.1 hr.2) L t1 (sw (P3 L) t1 t0 (aV L rfl (zn [(3,_)] [(2,_)] t1 t1 (Y1 ?_)))))
 refine ⟨.inr rfl,Z4.cast (.cons (.tmp rfl) .nil) ?_,t1⟩
 rfl
theorem p1q (vs:List (List RQ))(w:List RQ)(i:Nat)(hi:i<vs.length):T4 E (fun _=>true) 73 [.p (vZ i),.at_ 2 0 1,.at_ 3 0 1] (b3 vs w) (b3 vs w) (.p (bZ (!decide ((vs.getD i []).length=w.length)))):=by
 refine D4 (xs:=[bZ (!decide ((vs.getD i []).length=w.length))]) Tryz.func73 rfl Tryz.ntmps73 Tryz.results73 sM fun F G=>?_
 have L:=@lti _ _ G.nt
 have hG:=G.g
 have hX:=G.x
 have hN:=i6 hG
 have P0:=G.p0
 refine exr (aV L rfl (zn [(0,_),(1,_),(2,_)] [(2,_),(3,_)] t3 t2 (exd rF ?_)))
 refine sw (Z1 ag22 rF rF L) t1 t1 ?_
 refine mV L rfl (sw (ixJ un22 sz40 (j:=i) rO oM sM L) t2 t0 ?_)
 refine sw (s4 ag40 (h0w hi) L) t1 t0 (sw (X2 un40 L) t1 t0 (sw (Z1 ag40 rF rF L) t1 t1 ?_))
 refine sw (X2 un40 L) t1 t0 (sw (c_n L) t2 t0 (aV L rfl ?_))
 refine R1 ⟨i5 [⟨[1],[2],[5],[]⟩,⟨[0],[],[6],[]⟩,⟨[5,6],[],[7],[]⟩,⟨[7],[],[8],[]⟩,⟨[8],[],[9],[]⟩,⟨[2],[3],[10],[]⟩,⟨[10],[],[11],[]⟩,⟨[9,11],[],[12],[]⟩,⟨[12],[],[4],[]⟩] rF rF dC,[(4,_)],[(2,_),(3,_)],t1,t2,?_⟩
 refine Y1 ?_
 refine ⟨.inr rfl,Z4.cast (.cons (.tmp rfl) .nil) ?_,t2⟩
 rw [show decide (((vs.getD i []).length:Int)=w.length)=decide ((vs.getD i []).length=w.length) from decide_eq_decide.2 oM]
theorem M0v {p:Nat→Bool}{n:Nat}:0≤C4 p 0 (n - 0)↔∃ i,i<n∧p i=true:=by
 constructor
 ·intro h
  obtain ⟨h1,h2,h3,h4⟩:=j9 (show ¬ C4 p 0 (n - 0)<0 by omega)
  exact ⟨_,by omega,h3⟩
 ·rintro ⟨i,hi,h⟩
  apply Classical.byContradiction
  intro hn
  have:=B9 (show C4 p 0 (n - 0)<0 by omega) i (Nat.zero_le _) oM
  rw [h] at this; cases this
theorem h1w {vs:List (List RQ)}:decide (0≤C4 (fun i=>!(vs.getD i []).all RQ.is) 0 (vs.length - 0)) = !(vs.all fun r=>r.all RQ.is):=by
 rw [Bool.eq_iff_iff,decide_eq_true_iff,M0v,Bool.not_eq_true',List.all_eq_false]
 constructor
 ·rintro ⟨i,hi,h⟩
  exact ⟨_,gDL hi,by simpa using h⟩
 ·rintro ⟨r,hr,h⟩
  obtain ⟨i,hi,rfl⟩:=List.getElem_of_mem hr
  refine ⟨i,hi,?_⟩
  have e:vs.getD i []=vs[i]:=by simp [f0,hi]
  rw [e]; simpa using h
theorem v1y {vs:List (List RQ)}{n:Nat}:decide (0≤C4 (fun i=>!decide ((vs.getD i []).length=n)) 0 (vs.length - 0)) = !(vs.all fun r=>decide (r.length=n)):=by
 rw [Bool.eq_iff_iff,decide_eq_true_iff,M0v,Bool.not_eq_true',List.all_eq_false]
 constructor
 ·rintro ⟨i,hi,h⟩
  exact ⟨_,gDL hi,by simpa using h⟩
 ·rintro ⟨r,hr,h⟩
  obtain ⟨i,hi,rfl⟩:=List.getElem_of_mem hr
  refine ⟨i,hi,?_⟩
  have e:vs.getD i []=vs[i]:=by simp [f0,hi]
  rw [e]; simpa using h
@[reducible] def pMl (V:List (List Rat)):O2:=.sl V.length (U5 V)
theorem d2z (V:List (List Rat)):((V.map (List.map RQ.of)).all fun r=>r.all RQ.is)=true:=by
 rw [s0]; intro r hr
 obtain ⟨v,_,rfl⟩:=G0.1 hr
 exact Q0n v
theorem d2b {B:Nat}{V:List (List Rat)}(hB:MB B V)(hb:B<1000000000)(h1:V.length<1000000000)(h2:∀ r∈V,r.length<1000000000):MSm (V.map (List.map RQ.of)):=by
 refine ⟨by simpa using h1,fun r hr=>?_⟩
 obtain ⟨v,hv,rfl⟩:=G0.1 hr
 refine ⟨by simpa using h2 v hv,fun a ha=>?_⟩
 obtain ⟨q,hq,rfl⟩:=G0.1 ha
 have:=hB v hv q hq
 exact RQ.sm_of oM
theorem V0a (B DB:Nat)(V:List (List Rat))(w:List Rat)(hV:∀ r∈V,r.length=w.length)(hk:V.length≤60)(hwl:w.length≤400)(hB:MB B V)(hwB:∀ a∈w,qw a≤B)(H:EU w.length V.length (w.length+1) B DB (trM w.length V) (n4 w)):y3 E 30 [pMl V,pV w] (.tup [pV (G0w V.length (ech (trM w.length V) (n4 w) V.length) w.length),pV (p0h (ech (trM w.length V) (n4 w) V.length) w.length),vZ (y0v (ech (trM w.length V) (n4 w) V.length) w.length)]):=by
 refine F2 (xs:=[pV (G0w V.length (ech (trM w.length V) (n4 w) V.length) w.length),pV (p0h (ech (trM w.length V) (n4 w) V.length) w.length),vZ (y0v (ech (trM w.length V) (n4 w) V.length) w.length)]) Tryz.func30 rfl Tryz.ntmps30 Tryz.results30 sM fun F hG hX0 hnt hdf P0=>?_
 obtain ⟨L,hX,hN⟩:=pro hnt hX0 hG
 have hb:=H.bl
 have hms:=d2b hB oM oM (fun r hr=>by rw [hV r hr]; omega)
 have f1:=l9 72 [.at_ 2 0 1] (b2 (V.map (List.map RQ.of))) sM (l8 rfl) cl72 (fun i=>!((V.map (List.map RQ.of)).getD i []).all RQ.is) 0 (V.map (List.map RQ.of)).length sO (fun i _ hi=>v1h _ i hi hms)
 have f2:=l9 73 [.at_ 2 0 1,.at_ 3 0 1] (b3 (V.map (List.map RQ.of)) (w.map RQ.of)) sM (l8 rfl) cl73 (fun i=>!decide (((V.map (List.map RQ.of)).getD i []).length=(w.map RQ.of).length)) 0 (V.map (List.map RQ.of)).length sO (fun i _ hi=>p1q _ (w.map RQ.of) i hi)
 have ff:=h1w (vs:=V.map (List.map RQ.of))
 have fg:=v1y (vs:=V.map (List.map RQ.of)) (n:=(w.map RQ.of).length)
 have fv:((V.map (List.map RQ.of)).all fun r=>decide (r.length=(w.map RQ.of).length))=true:=by
  rw [s0]; intro r hr
  obtain ⟨v,hv,rfl⟩:=G0.1 hr
  simp [hV v hv]
 have hst:=g0x w.length V.length B DB (trM w.length V) w ⟨by simpa using hwl,hk,fun r hr=>by simp only [trM,G0] at hr; obtain ⟨j,_,rfl⟩:=hr; simp⟩ (fun r hr a ha=>by
  simp only [trM,G0,List.mem_range] at hr
  obtain ⟨j,hj,rfl⟩:=hr
  exact q1k hB hj hV a ha) hwB sM rfl H
 rw [d2z] at ff
 rw [fv] at fg
 obtain ⟨p1,hp1⟩:∃ p1,p1=C4 (fun i=>!((V.map (List.map RQ.of)).getD i []).all RQ.is) 0 ((V.map (List.map RQ.of)).length - 0):=⟨_,rfl⟩
 obtain ⟨p2,hp2⟩:∃ p2,p2=C4 (fun i=>!decide (((V.map (List.map RQ.of)).getD i []).length=(w.map RQ.of).length)) 0 ((V.map (List.map RQ.of)).length - 0):=⟨_,rfl⟩
 rw [← hp1] at f1 ff
 rw [← hp2] at f2 fg
 simp only [b2,b3,k0j,O0,g0p] at f1 f2
 refine exr (swb (X3 (k:=2) (n:=1) .sl rfl rfl (P0 _ rfl) L) t1 t0 ⟨rfl,rfl⟩ (swb (X3 (k:=3) (n:=1) .sl rfl rfl (P0 _ rfl) L) t1 t0 ⟨rfl,rfl⟩ (aV L rfl (aV L rfl (aV L rfl (zn [(2,_),(3,_)] [(2,_),(3,_)] t2 t2 (T1 (exr (sw (Z1 ag22 rF rF L) t1 t1 ?_)))))))))
 refine sw (X2 un22 L) t1 t0 (sw (w0v (vs:=[]) (us:=[_]) rfl rfl L) t1 t0 (sw (v6 hG hX hN f1 rfl L (l5 (ys:=[_,_,_]) cl52 rfl rfl) sM (l8 rfl) (fun q h=>by cases h)) t3 t1 ?_))
 refine sw (h0z L) t2 t0 (mV L rfl (swg (g:=17) rfl (by rw [ff] <;> rfl) (Z1 ag40 rF rF L) rfl t1 t1 ?_))
 refine swg (g:=17) rfl (by rw [ff] <;> rfl) (c_c hG hX cl64 rfl hN (C9 hwB oM oM) L) rfl t1 t0 ?_
 refine swg (g:=17) rfl (by rw [ff] <;> rfl) (P3 L) rfl t1 t0 ?_
 refine sw (U3 (by rw [ff] <;> rfl) L) t2 t0 ?_
 refine zn [(2,_),(3,_),(21,_)] [(2,_),(3,_)] t3 t2 (T3 rfl rfl ?_)
 refine V1 (xq ?_)
 refine T1 (exr (sw (Z1 ag22 rF rF L) t1 t1 ?_))
 refine sw (X2 un22 L) t1 t0 (sw (w0v (vs:=[]) (us:=[_,_]) rfl rfl L) t2 t0 (sw (v6 hG hX hN f2 rfl L (l5 (ys:=[_,_,_]) cl52 rfl rfl) sM (l8 rfl) (fun q h=>by cases h)) t3 t2 ?_))
 refine sw (h0z L) t2 t0 (zn [(2,_),(3,_),(26,_)] [(2,_),(3,_)] t3 t2 (T3 rfl (by rw [fg] <;> rfl) ?_))
 refine V1 (xq ?_)
 refine T1 (exr (sw (Z1 ag22 rF rF L) t1 t1 ?_))
 refine sw (X2 un22 L) t1 t0 (sw (b7 L) t2 t0 (mV L rfl (swg (g:=30) rfl sO (Z1 ag40 rF rF L) rfl t1 t1 ?_)))
 refine swg (g:=30) rfl sO (X2 un40 L) rfl t1 t0 (swg (g:=30) rfl sO (b7 L) rfl t2 t0 (sw (U3 sO L) t2 t0 (zn [(2,_),(3,_),(34,_)] [(2,_),(3,_)] t3 t2 (T3 rfl sO ?_))))
 refine V1 (xq ?_)
 refine exr (sw (Z1 ag22 rF rF L) t1 t1 ?_)
 refine sw (X2 un22 L) t1 t0 (sw (L7 (vs:=[_]) un24 zv24 (.cons rfl (.cons rfl .nil)) ((L2.cons sz3 (L2.cons sz22 L2.nil))).to rfl (.cons rfl (.atom rfl) rfl pu1 .nil) (.cons (.cons .nil)) L) t1 t0 (swb (Y3 (k:=7) (n:=2) zv24 (.cons rfl (.cons rfl .nil)) rfl (P0 _ rfl) L) t0 t0 ⟨rfl,rfl⟩ (sb (Z2 sz24 rF pa2 rfl pu2) t2 t1 ?_)))
 refine zn [(2,_),(3,_),(7,_)] [(2,_),(3,_),(7,_)] t3 t3 (T1 (exr (sw (Z1 ag40 rF rF L) t1 t1 ?_)))
 refine sw (X2 un40 L) t1 t0 (mV L rfl (zn [(2,_),(3,_),(7,_),(39,_),(40,_)] [(2,_),(3,_),(7,_)] t5 t3 (X1 ?_)))
 refine exl (α:=(Nat×List (List Rat))) (fun x=>[(40,vi (x.1:Int))]) (fun x=>[(7,⟨24,2,.mix [.p (vZ V.length),P0y 64 x.2]⟩)]++Q0a 64 x.2) (fun x=>x.1≤w.length∧trM x.1 V=x.2) (fun x=>w.length - x.1) ((0,[])) (sl:=[(2,_),(3,_),(7,_),(39,_)]) (hb:=[(2,_),(3,_)]) ?_ ⟨oR,rfl,rfl,rfl,rfl,trivial⟩ (hbI (l':=[(7,_),(2,_),(3,_)]) rfl t3) ?_
 ·exact ⟨Nat.zero_le _,rfl⟩
 intro x hx
 obtain ⟨j,T⟩:=x
 obtain ⟨hj,hT⟩:=hx
 simp only at hj hT
 rcases T with _ | ⟨q,T⟩
 ·dsimp only [P0y,Q0a,List.append_nil]
  refine exr (sw (Z3 L) t2 t0 (zn [(2,_),(3,_),(7,_),(39,_),(40,_),(41,_)] [(2,_),(3,_),(7,_)] t6 t3 (T1 ?_)))
  refine D2 rfl (fun hc=>?_) (fun hc=>?_)
  ·have hc:=dt hc
   have hjc:j<w.length:=by omega
   have ht:=b1r j V
   rw [hT] at ht
   refine V1 (xq ?_)
   refine T1 (X1 (exr (mV L rfl (aV L rfl (zn [(2,_),(3,_),(7,_),(8,_),(39,_),(40,_)] [(2,_),(3,_),(7,_)] t6 t3 (exr (sw (Z1 ag22 rF rF L) t1 t1 ?_)))))))
   refine sw (X2 un22 L) t1 t0 (swb (j6 (sz:=4) (k:=45) un40 ti47 rfl rfl dC rfl rfl rfl (show (0:Int)=((0:Nat):Int) from rfl) rfl (Nat.zero_le _) (by simp [Tryz.t47]; omega) oM (P0 _ rfl) L) t2 t0 ⟨rfl,rfl⟩ ?_)
   refine aV L rfl ?_
   refine R1 ⟨[(2,_),(3,_),(7,_),(8,_),(9,.ref 45 0 0 0),(39,_),(40,_)],[(2,_),(3,_),(7,_),(45,j4 [])],t7,t4,?_⟩
   refine T1 (exr (sw (Z1 ag22 rF rF L) t1 t1 ?_))
   refine sw (X2 un22 L) t1 t0 (mV L rfl (zn [(2,_),(3,_),(7,_),(8,_),(9,_),(39,_),(40,_),(46,_),(47,_),(48,_)] [(2,_),(3,_),(7,_),(45,_)] t10 t4 (X1 ?_)))
   refine exl (α:=Nat) (fun k=>[(48,vi (k:Int)),(9,.ref 45 0 k (k*4))]) (fun k=>[(45,j4 (w7 (V.take k) j))]) (fun k=>k≤V.length) (fun k=>V.length - k) (0) (sl:=[(2,_),(3,_),(7,_),(8,_),(39,_),(40,_),(46,_),(47,_)]) (hb:=[(2,_),(3,_),(7,_)]) ?_ ⟨oR,oR,rfl,rfl,rfl,rfl,rfl,rfl,rfl,rfl,trivial⟩ t4 ?_
   ·exact Nat.zero_le _
   intro k hk
   refine exr (sw (Z3 L) t2 t0 (zn [(2,_),(3,_),(7,_),(8,_),(9,_),(39,_),(40,_),(46,_),(47,_),(48,_),(49,_)] [(2,_),(3,_),(7,_),(45,_)] t11 t4 (T1 ?_)))
   refine D2 rfl (fun he=>?_) (fun he=>?_)
   ·have he:=dt he
    have hk2:k<V.length:=by omega
    have hrl:=hV _ (gDL hk2)
    refine V1 (xq ?_)
    refine T1 (X1 (exr (sw (ixJ un22 sz40 (j:=k) rO oM sM L) t2 t0 ?_)))
    refine sw (s4 ag40 (j7 hk2) L) t1 t0 (aV L rfl (zn [(2,_),(3,_),(7,_),(8,_),(9,_),(11,_),(39,_),(40,_),(46,_),(47,_),(48,_)] [(2,_),(3,_),(7,_),(45,_)] t11 t4 (C3 (mV L rfl (mV L rfl (mV L rfl (sw (y2 un40 sz47 oM oM sM dC L) t2 t0 ?_)))))))
    refine sw (Y6 ag47 sz47 (X6 (show j<(V.getD k []).length by omega)) rfl L) t1 t0 ?_
    refine sw (E4 (vs:=[_]) un40 ti47 rfl rfl dC dC rfl (M2 (.cons rfl (.cons rfl (.cons rfl (.cons rfl .nil)))) rfl) rfl (.cons rfl pa4 rfl pu4 .nil) (.cons (.cons (.cons (.cons .nil)))) L) t1 t0 (swb (apP (sz:=4) un40 un40 ti47 rfl rfl rfl dC (by exact (by first | (simp; done) | (simp; omega))) oF sM rfl rfl rfl (by first | (simp [Tryz.t47]; done) | (simp [Tryz.t47]; omega)) oM (P0 _ rfl) L) t2 t1 t0 ?_)
    refine aV L rfl (R1 (C3 (sw (I3 L (w64 oM oM)) t2 t0 (mV L rfl (R1 ?_)))))
    exact ⟨k+1,oM,by omega,B3 ⟨oR,ov rfl sO,rfl,rfl,rfl,rfl,rfl,rfl,rfl,rfl,trivial⟩ ⟨obl rfl ((b0q _ _).trans (by rw [g0m hk2])),rfl,rfl,rfl,trivial⟩⟩
   ·have he:=df he
    have hkM:k=V.length:=by omega
    subst hkM
    rw [I0]
    refine K2 (xq ?_)
    refine G4 [45] (sl:=[(2,_),(3,_),(7,_),(9,_),(39,_),(40,_)]) (hb:=[(2,_),(3,_),(7,_)]) (M3 hX0) ⟨⟨_,rfl,.same⟩,⟨_,rfl,.same⟩,⟨_,rfl,.same⟩,⟨_,rfl,(.ref rfl rfl (by exact (by first | (simp; done) | (simp; omega))) (by first | rfl | omega))⟩,⟨_,rfl,.same⟩,⟨_,rfl,.same⟩,trivial⟩ ⟨⟨rfl,_,rfl,.same⟩,⟨rfl,_,rfl,.same⟩,⟨rfl,_,rfl,.same⟩,trivial⟩ ?_
    refine C3 (sw (j2 un24 rfl sz22 dC rX L) t1 t1 ?_)
    refine sw (Z1 ag22 rF rF L) t1 t1 ?_
    refine mV L rfl (sw (E4 (vs:=[_]) un22 ti40 rfl rfl dC dC rfl (M2 (.cons rfl .nil) rfl) rfl (.cons rfl .sl rfl pu1 .nil) (.cons .nil) L) t1 t0 (swb (apN (k:=64) (sz:=1) un22 un22 ti40 rfl rfl rfl dC sM rfl (by first | (simp [Tryz.t40]; done) | (simp [Tryz.t40]; omega)) oM (P0 _ rfl) L) t2 t0 ⟨rfl,rfl⟩ ?_))
    refine sw (j2 un24 rfl sz22 dC rX L) t1 t1 ?_
    refine sb (Z2 sz22 rF .ref rfl (.skip pu1)) t2 t1 ?_
    refine R1 (C3 (sw (I3 L (w64 oM oM)) t2 t0 (mV L rfl (R1 ?_))))
    exact ⟨(j+1,[w7 V j]),⟨by simp only; omega,ht⟩,(by simp only; omega),B3 ⟨oR,rfl,rfl,rfl,rfl,trivial⟩ (hbI (l':=[(7,_),(64,_),(2,_),(3,_)]) rfl ⟨rfl,obl rfl (by simp [U5]),rfl,rfl,trivial⟩)⟩
  ·have hc:=df hc
   have hjc:j=w.length:=by omega
   rw [hjc] at hT
   rw [hT] at hst ⊢
   refine K2 (xq ?_)
   refine G4 [] (sl:=[(3,_),(7,_)]) (hb:=[(3,_),(7,_)]) (M3 hX0) ⟨⟨_,rfl,.same⟩,⟨_,rfl,.same⟩,trivial⟩ ⟨⟨rfl,_,rfl,.same⟩,⟨rfl,_,rfl,(.mix (.cons .same (.cons (.p .nil) .nil)))⟩,trivial⟩ (exr (lp2 ag24 sz24 L rfl rfl (sw (Z1 ag40 rF rF L) t1 t1 ?_)))
   refine cK hG hX cl24 hN hst L t2 (sw (W3 rfl L) t1 t0 (sw (W3 rfl L) t1 t0 (sw (W3 rfl L) t1 t0 (aV L rfl (aV L rfl (aV L rfl (zn [(4,_),(5,_),(6,_)] [] t3 trivial (Y1 ?_))))))))
   refine P1 (.tmp rfl) (.tmp rfl) (.tmp rfl) ?_
   rfl
 ·dsimp only [P0y,Q0a]
  have hTl:(q :: T).length=j:=by rw [← hT,h1y]
  have hTl2:T.length+1=j:=hTl
  refine exr (sw (Z3 L) t2 t0 (zn [(2,_),(3,_),(7,_),(39,_),(40,_),(41,_)] [(2,_),(3,_),(7,_),(64,_)] t6 t4 (T1 ?_)))
  refine D2 rfl (fun hc=>?_) (fun hc=>?_)
  ·have hc:=dt hc
   have hjc:j<w.length:=by omega
   have ht:=b1r j V
   rw [hT] at ht
   refine V1 (xq ?_)
   refine T1 (X1 (exr (mV L rfl (aV L rfl (zn [(2,_),(3,_),(7,_),(8,_),(39,_),(40,_)] [(2,_),(3,_),(7,_),(64,_)] t6 t4 (exr (sw (Z1 ag22 rF rF L) t1 t1 ?_)))))))
   refine sw (X2 un22 L) t1 t0 (swb (j6 (sz:=4) (k:=45) un40 ti47 rfl rfl dC rfl rfl rfl (show (0:Int)=((0:Nat):Int) from rfl) rfl (Nat.zero_le _) (by simp [Tryz.t47]; omega) oM (P0 _ rfl) L) t2 t0 ⟨rfl,rfl⟩ ?_)
   refine aV L rfl ?_
   refine R1 ⟨[(2,_),(3,_),(7,_),(8,_),(9,.ref 45 0 0 0),(39,_),(40,_)],[(2,_),(3,_),(7,_),(45,j4 []),(64,_)],t7,t5,?_⟩
   refine T1 (exr (sw (Z1 ag22 rF rF L) t1 t1 ?_))
   refine sw (X2 un22 L) t1 t0 (mV L rfl (zn [(2,_),(3,_),(7,_),(8,_),(9,_),(39,_),(40,_),(46,_),(47,_),(48,_)] [(2,_),(3,_),(7,_),(45,_),(64,_)] t10 t5 (X1 ?_)))
   refine exl (α:=Nat) (fun k=>[(48,vi (k:Int)),(9,.ref 45 0 k (k*4))]) (fun k=>[(45,j4 (w7 (V.take k) j))]) (fun k=>k≤V.length) (fun k=>V.length - k) (0) (sl:=[(2,_),(3,_),(7,_),(8,_),(39,_),(40,_),(46,_),(47,_)]) (hb:=[(2,_),(3,_),(7,_),(64,_)]) ?_ ⟨oR,oR,rfl,rfl,rfl,rfl,rfl,rfl,rfl,rfl,trivial⟩ t5 ?_
   ·exact Nat.zero_le _
   intro k hk
   refine exr (sw (Z3 L) t2 t0 (zn [(2,_),(3,_),(7,_),(8,_),(9,_),(39,_),(40,_),(46,_),(47,_),(48,_),(49,_)] [(2,_),(3,_),(7,_),(45,_),(64,_)] t11 t5 (T1 ?_)))
   refine D2 rfl (fun he=>?_) (fun he=>?_)
   ·have he:=dt he
    have hk2:k<V.length:=by omega
    have hrl:=hV _ (gDL hk2)
    refine V1 (xq ?_)
    refine T1 (X1 (exr (sw (ixJ un22 sz40 (j:=k) rO oM sM L) t2 t0 ?_)))
    refine sw (s4 ag40 (j7 hk2) L) t1 t0 (aV L rfl (zn [(2,_),(3,_),(7,_),(8,_),(9,_),(11,_),(39,_),(40,_),(46,_),(47,_),(48,_)] [(2,_),(3,_),(7,_),(45,_),(64,_)] t11 t5 (C3 (mV L rfl (mV L rfl (mV L rfl (sw (y2 un40 sz47 oM oM sM dC L) t2 t0 ?_)))))))
    refine sw (Y6 ag47 sz47 (X6 (show j<(V.getD k []).length by omega)) rfl L) t1 t0 ?_
    refine sw (E4 (vs:=[_]) un40 ti47 rfl rfl dC dC rfl (M2 (.cons rfl (.cons rfl (.cons rfl (.cons rfl .nil)))) rfl) rfl (.cons rfl pa4 rfl pu4 .nil) (.cons (.cons (.cons (.cons .nil)))) L) t1 t0 (swb (apP (sz:=4) un40 un40 ti47 rfl rfl rfl dC (by exact (by first | (simp; done) | (simp; omega))) oF sM rfl rfl rfl (by first | (simp [Tryz.t47]; done) | (simp [Tryz.t47]; omega)) oM (P0 _ rfl) L) t2 t1 t0 ?_)
    refine aV L rfl (R1 (C3 (sw (I3 L (w64 oM oM)) t2 t0 (mV L rfl (R1 ?_)))))
    exact ⟨k+1,oM,by omega,B3 ⟨oR,ov rfl sO,rfl,rfl,rfl,rfl,rfl,rfl,rfl,rfl,trivial⟩ ⟨obl rfl ((b0q _ _).trans (by rw [g0m hk2])),rfl,rfl,rfl,rfl,trivial⟩⟩
   ·have he:=df he
    have hkM:k=V.length:=by omega
    subst hkM
    rw [I0]
    refine K2 (xq ?_)
    refine G4 [45] (sl:=[(2,_),(3,_),(7,_),(9,_),(39,_),(40,_)]) (hb:=[(2,_),(3,_),(7,_),(64,_)]) (M3 hX0) ⟨⟨_,rfl,.same⟩,⟨_,rfl,.same⟩,⟨_,rfl,.same⟩,⟨_,rfl,(.ref rfl rfl (by exact (by first | (simp; done) | (simp; omega))) (by first | rfl | omega))⟩,⟨_,rfl,.same⟩,⟨_,rfl,.same⟩,trivial⟩ ⟨⟨rfl,_,rfl,.same⟩,⟨rfl,_,rfl,.same⟩,⟨rfl,_,rfl,.same⟩,⟨rfl,_,rfl,.same⟩,trivial⟩ ?_
    refine C3 (sw (j2 un24 rfl sz22 dC rX L) t1 t1 ?_)
    refine sw (Z1 ag22 rF rF L) t1 t1 ?_
    refine mV L rfl (sw (E4 (vs:=[_]) un22 ti40 rfl rfl dC dC rfl (M2 (.cons rfl .nil) rfl) rfl (.cons rfl .sl rfl pu1 .nil) (.cons .nil) L) t1 t0 (swb (apP (sz:=1) un22 un22 ti40 rfl rfl rfl dC (by exact (m6 _)) oF sM rfl rfl rfl (by first | (simp [Tryz.t40]; done) | (simp [Tryz.t40]; omega)) oM (P0 _ rfl) L) t2 t1 t0 ?_))
    refine sw (j2 un24 rfl sz22 dC rX L) t1 t1 ?_
    refine sb (Z2 sz22 rF .ref rfl (.skip pu1)) t2 t1 ?_
    refine R1 (C3 (sw (I3 L (w64 oM oM)) t2 t0 (mV L rfl (R1 ?_))))
    exact ⟨(j+1,q :: T++[w7 V j]),⟨by simp only; omega,ht⟩,(by simp only; omega),B3 ⟨oR,rfl,rfl,rfl,rfl,trivial⟩ (hbI (l':=[(7,_),(64,_),(2,_),(3,_)]) rfl ⟨obl rfl sM,obl rfl (P1j V.length (q :: T) (w7 V j) (T7 _ _)),rfl,rfl,trivial⟩)⟩
  ·have hc:=df hc
   have hjc:j=w.length:=by omega
   rw [hjc] at hT
   rw [hT] at hst ⊢
   refine K2 (xq ?_)
   refine G4 [64] (sl:=[(3,_),(7,_)]) (hb:=[(3,_),(7,_)]) (M3 hX0) ⟨⟨_,rfl,.same⟩,⟨_,rfl,.same⟩,trivial⟩ ⟨⟨rfl,_,rfl,.same⟩,⟨rfl,_,rfl,(.mix (.cons .same (.cons (.ref rfl rfl (by exact (m6 _)) (by first | rfl | omega)) .nil)))⟩,trivial⟩ ?_
   refine exr (lp2 ag24 sz24 L rfl rfl (sw (Z1 ag40 rF rF L) t1 t1 ?_))
   refine cK hG hX cl24 hN hst L t2 (sw (W3 rfl L) t1 t0 (sw (W3 rfl L) t1 t0 (sw (W3 rfl L) t1 t0 (aV L rfl (aV L rfl (aV L rfl (zn [(4,_),(5,_),(6,_)] [] t3 trivial (Y1 ?_))))))))
   refine P1 (.tmp rfl) (.tmp rfl) (.tmp rfl) ?_
   rfl
theorem y1v {a:Rat}:((D3 a.num.natAbs).length:Int)=0↔a=0:=by
 have:=k1z (a:=a.num)
 unfold nw at this
 rw [← Rat.num_eq_zero,← this]; omega
theorem m1y (a:Rat):y3 E 22 [pQ a] (bZ (decide (a=0))):=by
 refine F2 (xs:=[bZ (decide (a=0))]) Tryz.func22 rfl Tryz.ntmps22 Tryz.results22 sM fun F hG hX0 hnt hdf P0=>?_
 obtain ⟨L,hX,hN⟩:=pro hnt hX0 hG
 refine exr (swb (X3 (k:=1) (n:=4) pa4 rfl rfl (P0 _ rfl) L) t1 t0 ⟨rfl,rfl⟩ (aV L rfl (zn [(1,_)] [(1,_)] t1 t1 (exr (sw (j2 un47 rfl sz45 dC rX L) t1 t1 ?_)))))
 refine sw (j2 un45 rfl sz43 dC rX L) t1 t1 ?_
 refine sw (Z1 ag43 rF rF L) t1 t1 ?_
 refine sw (X2 un43 L) t1 t0 (sw (c_e L) t2 t0 (aV L rfl (zn [(2,_)] [] t1 trivial (Y1 ?_))))
 refine Q0 (.tmp rfl) ?_
 rw [decide_eq_decide.2 (y1v (a:=a))]
theorem dnt {p:Prop}[Decidable p](h:(!decide p)=true):¬ p:=by simpa using h
theorem dnf {p:Prop}[Decidable p](h:(!decide p)=false):p:=by simpa using h
theorem V0x {p:Nat→Prop}{k:Nat}(h:∀ i,i<k→p i)(hk:p k):∀ i,i<k+1→p i:=fun i hi=>(Nat.lt_or_eq_of_le (Nat.le_of_lt_succ hi)).elim (h i) (fun e=>e ▸ hk)
theorem B1r {ws vs:List Int}(hl:ws.length=vs.length)(h:∀ k,k<ws.length→ws.getD k 0=vs.getD k 0):ws=vs:=by
 refine List.ext_getElem hl fun i h1 h2=>?_
 have:=h i h1
 simpa [f0,h1,h2] using this
theorem j0x (m n:Bool)(ws vs:List Int)(h1:ws.length<1000000000)(h2:vs.length<1000000000):y3 E 74 [.agg [.a (.bool m),.sl ws.length (M4 ws)],.agg [.a (.bool n),.sl vs.length (M4 vs)]] (bZ (decide (m=n∧ws=vs))):=by
 refine F2 (xs:=[bZ (decide (m=n∧ws=vs))]) Tryz.func74 rfl Tryz.ntmps74 Tryz.results74 sM fun F hG hX0 hnt hdf P0=>?_
 obtain ⟨L,hX,hN⟩:=pro hnt hX0 hG
 refine exr (swb (X3 (k:=2) (n:=2) pa2 rfl rfl (P0 _ rfl) L) t1 t0 ⟨rfl,rfl⟩ (swb (X3 (k:=3) (n:=2) pa2 rfl rfl (P0 _ rfl) L) t1 t0 ⟨rfl,rfl⟩ (aV L rfl (zn [(2,_),(3,_)] [(2,_),(3,_)] t2 t2 (T1 ?_)))))
 refine exm (sl:=[(19,vb (decide (¬ (m=n∧ws.length=vs.length))))]) (sl0:=[(2,_),(3,_)]) (hb:=[]) (hb0:=[(2,_),(3,_)]) t2 t2 ?_ ?_
 ·by_cases h:m=n
  ·refine sw (j2 un45 rfl sz4 dC rX L) t1 t1 ?_
   refine sw (Z1 ag4 rF rF L) t1 t1 ?_
   refine sw (j2 un45 rfl sz4 dC rX L) t1 t1 ?_
   refine sw (Z1 ag4 rF rF L) t1 t1 ?_
   refine sw (k0q un4 L) t2 t0 (mV L rfl (swg (g:=11) rfl (by rw [h]; cases n <;> rfl) (j2 un45 rfl sz43 dC rX L) rfl t1 t1 ?_))
   refine swg (g:=11) rfl (by rw [h]; cases n <;> rfl) (Z1 ag43 rF rF L) rfl t1 t1 ?_
   refine swg (g:=11) rfl (by rw [h]; cases n <;> rfl) (X2 un43 L) rfl t1 t0 ?_
   refine swg (g:=11) rfl (by rw [h]; cases n <;> rfl) (j2 un45 rfl sz43 dC rX L) rfl t1 t1 ?_
   refine swg (g:=11) rfl (by rw [h]; cases n <;> rfl) (Z1 ag43 rF rF L) rfl t1 t1 ?_
   refine swg (g:=11) rfl (by rw [h]; cases n <;> rfl) (X2 un43 L) rfl t1 t0 ?_
   refine swg (g:=11) rfl (by rw [h]; cases n <;> rfl) (c_n L) rfl t2 t0 ?_
   refine sw (U3 (by rw [h]; cases n <;> rfl) L) t2 t0 ?_
   exact R1 ⟨⟨ob rfl (by simp [h]; omega),rfl,rfl,trivial⟩,t2⟩
  ·refine sw (j2 un45 rfl sz4 dC rX L) t1 t1 ?_
   refine sw (Z1 ag4 rF rF L) t1 t1 ?_
   refine sw (j2 un45 rfl sz4 dC rX L) t1 t1 ?_
   refine sw (Z1 ag4 rF rF L) t1 t1 ?_
   refine sw (k0q un4 L) t2 t0 (mV L rfl (swn (g:=11) rfl (by revert h; cases m <;> cases n <;> simp) L rfl ?_))
   refine swn (g:=11) rfl (by revert h; cases m <;> cases n <;> simp) L rfl ?_
   refine swn (g:=11) rfl (by revert h; cases m <;> cases n <;> simp) L rfl ?_
   refine swn (g:=11) rfl (by revert h; cases m <;> cases n <;> simp) L rfl ?_
   refine swn (g:=11) rfl (by revert h; cases m <;> cases n <;> simp) L rfl ?_
   refine swn (g:=11) rfl (by revert h; cases m <;> cases n <;> simp) L rfl ?_
   refine swn (g:=11) rfl (by revert h; cases m <;> cases n <;> simp) L rfl ?_
   refine sw (m4 (by revert h; cases m <;> cases n <;> simp) L) t2 t0 ?_
   exact R1 ⟨⟨ob rfl (by simp [h]),rfl,rfl,trivial⟩,t2⟩
 refine D2 rfl (fun hc=>?_) (fun hc=>?_)
 ·have hc:=dt hc
  refine exr (aV L rfl (zn [(4,_)] [] t1 trivial (Y1 ?_)))
  refine Q0 (.tmp rfl) ?_
  rw [decide_eq_false (fun h=>hc ⟨h.1,by rw [h.2]⟩)]
 ·have hc:=df hc
  have hc:m=n∧ws.length=vs.length:=Classical.not_not.1 hc
  obtain ⟨rfl,hl⟩:=hc
  refine V1 (xq ?_)
  refine T1 (exr (aV L rfl (zn [(2,_),(3,_),(5,_)] [(2,_),(3,_)] t3 t2 (X1 ?_))))
  refine exl (α:=Nat) (fun k=>[(5,vi (k:Int))]) (fun k=>[]) (fun k=>k≤ws.length∧∀ i,i<k→ws.getD i 0=vs.getD i 0) (fun k=>ws.length - k) (0) (sl:=[(2,_),(3,_)]) (hb:=[(2,_),(3,_)]) ?_ ⟨oR,rfl,rfl,trivial⟩ t2 ?_
  ·exact ⟨Nat.zero_le _,fun i h=>absurd h (Nat.not_lt_zero i)⟩
  intro k hk
  obtain ⟨hk,hw⟩:=hk
  refine T1 (exr (mV L rfl (sw (j2 un45 rfl sz43 dC rX L) t1 t1 ?_)))
  refine sw (Z1 ag43 rF rF L) t1 t1 ?_
  refine sw (X2 un43 L) t1 t0 (sw (Z3 L) t2 t0 (zn [(2,_),(3,_),(5,_),(24,_)] [(2,_),(3,_)] t4 t2 ?_))
  refine D2 rfl (fun hc=>?_) (fun hc=>?_)
  ·have hc:=dt hc
   have hk2:k<ws.length:=by omega
   have hk3:k<vs.length:=by omega
   refine V1 (xq ?_)
   refine T1 (X1 (exd rF ?_))
   refine sw (j2 un45 rfl sz43 dC rX L) t1 t1 ?_
   refine sw (Z1 ag43 rF rF L) t1 t1 ?_
   refine mV L rfl (sw (ixJ un43 sz119 (j:=k) rO oM sM L) t2 t0 ?_)
   refine sw (s4 ag119 (b6 hk2) L) t1 t0 (sw (j2 un45 rfl sz43 dC rX L) t1 t1 ?_)
   refine sw (Z1 ag43 rF rF L) t1 t1 ?_
   refine mV L rfl (sw (ixJ un43 sz119 (j:=k) rO oM sM L) t2 t0 ?_)
   refine sw (s4 ag119 (b6 hk3) L) t1 t0 (sw (c_n L) t2 t0 ?_)
   refine R1 ⟨i5 [⟨[2],[2],[27],[]⟩,⟨[27],[2],[28],[]⟩,⟨[5],[],[29],[]⟩,⟨[28,29],[],[30],[]⟩,⟨[30],[],[31],[]⟩,⟨[3],[3],[32],[]⟩,⟨[32],[3],[33],[]⟩,⟨[5],[],[34],[]⟩,⟨[33,34],[],[35],[]⟩,⟨[35],[],[36],[]⟩,⟨[31,36],[],[37],[]⟩] rF rF dC,[(2,_),(3,_),(5,_),(37,_)],[(2,_),(3,_)],t4,t2,?_⟩
   refine D2 rfl (fun he=>?_) (fun he=>?_)
   ·have he:=dnt he
    refine exr (aV L rfl (zn [(4,_)] [] t1 trivial (Y1 ?_)))
    refine Q0 (.tmp rfl) ?_
    rw [decide_eq_false (fun h=>he (by rw [h.2]))]
   ·have he:=dnf he
    refine V1 (xq ?_)
    refine C3 (mV L rfl (sw (I3 L (w64 oM oM)) t2 t0 (aV L rfl (R1 ?_))))
    exact ⟨k+1,⟨by omega,V0x hw he⟩,by omega,B3 ⟨oR,rfl,rfl,trivial⟩ t2⟩
  ·have hc:=df hc
   refine K2 (xq ?_)
   refine exr (aV L rfl (zn [(4,_)] [] t1 trivial (Y1 ?_)))
   refine Q0 (.tmp rfl) ?_
   rw [decide_eq_true (⟨rfl,B1r hl (fun i hi=>hw i oM)⟩:m=m∧ws=vs)]
deriving instance DecidableEq for RQ
theorem y0d {α:Type}{d:α}{u v:List α}(hl:u.length=v.length)(h:∀ k,k<u.length→u.getD k d=v.getD k d):u=v:=by
 refine List.ext_getElem hl fun i h1 h2=>?_
 have:=h i h1
 simpa [f0,h1,h2] using this
theorem y0z (a b:RQ)(ha:a.sm)(hb:b.sm):y3 E 33 [.agg (cR a),.agg (cR b)] (bZ (decide (a=b))):=by
 refine F2 (xs:=[bZ (decide (a=b))]) Tryz.func33 rfl Tryz.ntmps33 Tryz.results33 sM fun F hG hX0 hnt hdf P0=>?_
 obtain ⟨L,hX,hN⟩:=pro hnt hX0 hG
 have e:(a=b)=((a.m=b.m∧a.ws=b.ws)∧(a.n=b.n∧a.vs=b.vs)):=by
  cases a; cases b; simp only [RQ.mk.injEq,and_assoc]
 refine exr (swb (X3 (k:=2) (n:=4) pa4 rfl rfl (P0 _ rfl) L) t1 t0 ⟨rfl,rfl⟩ (swb (X3 (k:=3) (n:=4) pa4 rfl rfl (P0 _ rfl) L) t1 t0 ⟨rfl,rfl⟩ (aV L rfl (zn [(2,_),(3,_)] [(2,_),(3,_)] t2 t2 ?_))))
 refine exm (sl:=[(4,vb (decide (a=b)))]) (sl0:=[]) (hb:=[]) (hb0:=[]) t0 t0 ?_ ?_
 ·by_cases h:a.m=b.m∧a.ws=b.ws
  ·refine sw (j2 un47 rfl sz45 dC rX L) t1 t1 ?_
   refine lp2 ag45 sz45 L rfl rfl (sw (j2 un47 rfl sz45 dC rX L) t1 t1 ?_)
   refine lp2 ag45 sz45 L rfl rfl (cK hG hX cl74 hN (j0x a.m b.m a.ws b.ws ha.2.1 hb.2.1) L t2 (mV L rfl (swg (g:=10) rfl (by rw [decide_eq_true h] <;> rfl) (j2 un47 rfl sz45 dC rX L) rfl t1 t1 ?_)))
   refine swg (g:=10) rfl (by rw [decide_eq_true h] <;> rfl) (R6 ag45 sz45 rF (by exact al2) rfl L) rfl t1 t1 ?_
   refine swg (g:=10) rfl (by rw [decide_eq_true h] <;> rfl) (j2 un47 rfl sz45 dC rX L) rfl t1 t1 ?_
   refine swg (g:=10) rfl (by rw [decide_eq_true h] <;> rfl) (R6 ag45 sz45 rF (by exact al2) rfl L) rfl t1 t1 ?_
   refine swg (g:=10) rfl (by rw [decide_eq_true h] <;> rfl) (c_c hG hX cl74 rfl hN (j0x a.n b.n a.vs b.vs ha.2.2 hb.2.2) L) rfl t2 t0 ?_
   refine sw (m4 (by rw [decide_eq_true h] <;> rfl) L) t2 t0 ?_
   refine aV L rfl ?_
   exact R1 ⟨⟨ob rfl (by simp only [e,h,true_and,and_self]),trivial⟩,trivial⟩
  ·refine sw (j2 un47 rfl sz45 dC rX L) t1 t1 ?_
   refine lp2 ag45 sz45 L rfl rfl (sw (j2 un47 rfl sz45 dC rX L) t1 t1 ?_)
   refine lp2 ag45 sz45 L rfl rfl (cK hG hX cl74 hN (j0x a.m b.m a.ws b.ws ha.2.1 hb.2.1) L t2 (mV L rfl (swn (g:=10) rfl (by rw [decide_eq_false h] <;> rfl) L rfl ?_)))
   refine swn (g:=10) rfl (by rw [decide_eq_false h] <;> rfl) L rfl ?_
   refine swn (g:=10) rfl (by rw [decide_eq_false h] <;> rfl) L rfl ?_
   refine swn (g:=10) rfl (by rw [decide_eq_false h] <;> rfl) L rfl ?_
   refine swn (g:=10) rfl (by rw [decide_eq_false h] <;> rfl) L rfl ?_
   refine sw (U3 (by rw [decide_eq_false h] <;> rfl) L) t2 t0 ?_
   refine aV L rfl ?_
   exact R1 ⟨⟨ob rfl (by simp only [e,h,false_and,decide_false]),trivial⟩,trivial⟩
 refine Y1 ?_
 refine Q0 (.tmp rfl) ?_
 rfl
theorem y0x (u v:List RQ)(hu:u.length<1000000000)(su:∀ r∈u,r.sm)(sv:∀ r∈v,r.sm):y3 E 29 [pVR u,pVR v] (bZ (decide (u=v))):=by
 refine F2 (xs:=[bZ (decide (u=v))]) Tryz.func29 rfl Tryz.ntmps29 Tryz.results29 sM fun F hG hX0 hnt hdf P0=>?_
 obtain ⟨L,hX,hN⟩:=pro hnt hX0 hG
 refine exr (aV L rfl (zn [(0,_),(1,_)] [] t2 trivial (T1 (exr (mV L rfl (sw (X2 un40 L) t1 t0 (mV L rfl (sw (X2 un40 L) t1 t0 (sw (c_n L) t2 t0 (zn [(0,_),(1,_),(10,_)] [] t3 trivial ?_))))))))))
 refine D2 rfl (fun hc=>?_) (fun hc=>?_)
 ·have hc:=dnt hc
  refine exr (aV L rfl (zn [(4,_)] [] t1 trivial (Y1 ?_)))
  refine Q0 (.tmp rfl) ?_
  rw [decide_eq_false (fun h=>hc (by rw [h]))]
 ·have hc:=dnf hc
  have hl:u.length=v.length:=by omega
  refine V1 (xq ?_)
  refine T1 (exr (aV L rfl (zn [(0,_),(1,_),(5,_)] [] t3 trivial (X1 ?_))))
  refine exl (α:=Nat) (fun k=>[(5,vi (k:Int))]) (fun k=>[]) (fun k=>k≤u.length∧∀ i,i<k→u.getD i default=v.getD i default) (fun k=>u.length - k) (0) (sl:=[(0,_),(1,_)]) (hb:=[]) ?_ ⟨oR,rfl,rfl,trivial⟩ t0 ?_
  ·exact ⟨Nat.zero_le _,fun i h=>absurd h (Nat.not_lt_zero i)⟩
  intro k hk
  obtain ⟨hk,hw⟩:=hk
  refine T1 (exr (mV L rfl (mV L rfl (sw (X2 un40 L) t1 t0 (sw (Z3 L) t2 t0 (zn [(0,_),(1,_),(5,_),(14,_)] [] t4 trivial ?_))))))
  refine D2 rfl (fun hc=>?_) (fun hc=>?_)
  ·have hc:=dt hc
   have hk2:k<u.length:=by omega
   have hk3:k<v.length:=by omega
   refine V1 (xq ?_)
   refine T1 (X1 (exd rF ?_))
   refine mV L rfl (mV L rfl (sw (y2 un40 sz47 oM oM sM dC L) t2 t0 ?_))
   refine sw (Y6 ag47 sz47 (n1m hk2) rfl L) t1 t0 (mV L rfl (mV L rfl (sw (y2 un40 sz47 oM oM sM dC L) t2 t0 ?_)))
   refine sw (Y6 ag47 sz47 (n1m hk3) rfl L) t1 t0 (cK hG hX cl33 hN (y0z _ _ (su _ (gD hk2)) (sv _ (gD hk3))) L t2 (sw (P3 L) t1 t0 ?_))
   refine R1 ⟨i5 [⟨[0],[],[17],[]⟩,⟨[5],[],[18],[]⟩,⟨[17,18],[],[19],[]⟩,⟨[19],[],[20],[]⟩,⟨[1],[],[21],[]⟩,⟨[5],[],[22],[]⟩,⟨[21,22],[],[23],[]⟩,⟨[23],[],[24],[]⟩,⟨[20,24],[],[25],[]⟩,⟨[25],[],[26],[]⟩] rF rF dC,[(0,_),(1,_),(5,_),(26,_)],[],t4,trivial,?_⟩
   refine D2 rfl (fun he=>?_) (fun he=>?_)
   ·have he:=dnt he
    refine exr (aV L rfl (zn [(4,_)] [] t1 trivial (Y1 ?_)))
    refine Q0 (.tmp rfl) ?_
    rw [decide_eq_false (fun h=>he (by rw [h]))]
   ·have he:=dnf he
    refine V1 (xq ?_)
    refine C3 (mV L rfl (sw (I3 L (w64 oM oM)) t2 t0 (aV L rfl (R1 ?_))))
    exact ⟨k+1,⟨by omega,V0x hw he⟩,by omega,B3 ⟨oR,rfl,rfl,trivial⟩ trivial⟩
  ·have hc:=df hc
   refine K2 (xq ?_)
   refine exr (aV L rfl (zn [(4,_)] [] t1 trivial (Y1 ?_)))
   refine Q0 (.tmp rfl) ?_
   rw [decide_eq_true (y0d hl (fun i hi=>hw i oM))]
theorem B0d (u v:List (List RQ))(hu:MSm u)(hv:MSm v):y3 E 19 [.sl u.length (f0z u),.sl v.length (f0z v)] (bZ (decide (u=v))):=by
 refine F2 (xs:=[bZ (decide (u=v))]) Tryz.func19 rfl Tryz.ntmps19 Tryz.results19 sM fun F hG hX0 hnt hdf P0=>?_
 obtain ⟨L,hX,hN⟩:=pro hnt hX0 hG
 have hul:=hu.1
 have hvl:=hv.1
 refine exr (aV L rfl (zn [(0,_),(1,_)] [] t2 trivial (T1 (exr (mV L rfl (sw (X2 un22 L) t1 t0 (mV L rfl (sw (X2 un22 L) t1 t0 (sw (c_n L) t2 t0 (zn [(0,_),(1,_),(10,_)] [] t3 trivial ?_))))))))))
 refine D2 rfl (fun hc=>?_) (fun hc=>?_)
 ·have hc:=dnt hc
  refine exr (aV L rfl (zn [(4,_)] [] t1 trivial (Y1 ?_)))
  refine Q0 (.tmp rfl) ?_
  rw [decide_eq_false (fun h=>hc (by rw [h]))]
 ·have hc:=dnf hc
  have hl:u.length=v.length:=by omega
  refine V1 (xq ?_)
  refine T1 (exr (aV L rfl (zn [(0,_),(1,_),(5,_)] [] t3 trivial (X1 ?_))))
  refine exl (α:=Nat) (fun k=>[(5,vi (k:Int))]) (fun k=>[]) (fun k=>k≤u.length∧∀ i,i<k→u.getD i []=v.getD i []) (fun k=>u.length - k) (0) (sl:=[(0,_),(1,_)]) (hb:=[]) ?_ ⟨oR,rfl,rfl,trivial⟩ t0 ?_
  ·exact ⟨Nat.zero_le _,fun i h=>absurd h (Nat.not_lt_zero i)⟩
  intro k hk
  obtain ⟨hk,hw⟩:=hk
  refine T1 (exr (mV L rfl (mV L rfl (sw (X2 un22 L) t1 t0 (sw (Z3 L) t2 t0 (zn [(0,_),(1,_),(5,_),(14,_)] [] t4 trivial ?_))))))
  refine D2 rfl (fun hc=>?_) (fun hc=>?_)
  ·have hc:=dt hc
   have hk2:k<u.length:=by omega
   have hk3:k<v.length:=by omega
   have m1:=hu.2 _ (gDL hk2)
   have m2:=hv.2 _ (gDL hk3)
   refine V1 (xq ?_)
   refine T1 (X1 (exd rF ?_))
   refine mV L rfl (mV L rfl (sw (ixJ un22 sz40 (j:=k) rO oM sM L) t2 t0 ?_))
   refine sw (s4 ag40 (h0w hk2) L) t1 t0 (mV L rfl (mV L rfl (sw (ixJ un22 sz40 (j:=k) rO oM sM L) t2 t0 ?_)))
   refine sw (s4 ag40 (h0w hk3) L) t1 t0 (cK hG hX cl29 hN (y0x _ _ m1.1 m1.2 m2.2) L t2 (sw (P3 L) t1 t0 ?_))
   refine R1 ⟨i5 [⟨[0],[],[17],[]⟩,⟨[5],[],[18],[]⟩,⟨[17,18],[],[19],[]⟩,⟨[19],[],[20],[]⟩,⟨[1],[],[21],[]⟩,⟨[5],[],[22],[]⟩,⟨[21,22],[],[23],[]⟩,⟨[23],[],[24],[]⟩,⟨[20,24],[],[25],[]⟩,⟨[25],[],[26],[]⟩] rF rF dC,[(0,_),(1,_),(5,_),(26,_)],[],t4,trivial,?_⟩
   refine D2 rfl (fun he=>?_) (fun he=>?_)
   ·have he:=dnt he
    refine exr (aV L rfl (zn [(4,_)] [] t1 trivial (Y1 ?_)))
    refine Q0 (.tmp rfl) ?_
    rw [decide_eq_false (fun h=>he (by rw [h]))]
   ·have he:=dnf he
    refine V1 (xq ?_)
    refine C3 (mV L rfl (sw (I3 L (w64 oM oM)) t2 t0 (aV L rfl (R1 ?_))))
    exact ⟨k+1,⟨by omega,V0x hw he⟩,by omega,B3 ⟨oR,rfl,rfl,trivial⟩ trivial⟩
  ·have hc:=df hc
   refine K2 (xq ?_)
   refine exr (aV L rfl (zn [(4,_)] [] t1 trivial (Y1 ?_)))
   refine Q0 (.tmp rfl) ?_
   rw [decide_eq_true (y0d hl (fun i hi=>hw i oM))]
theorem b1c (c d:Int)(u v:List (List RQ))(hu:MSm u)(hv:MSm v):y3 E 17 [pMR c u,pMR d v] (bZ (decide (c=d∧u=v))):=by
 refine F2 (xs:=[bZ (decide (c=d∧u=v))]) Tryz.func17 rfl Tryz.ntmps17 Tryz.results17 sM fun F hG hX0 hnt hdf P0=>?_
 obtain ⟨L,hX,hN⟩:=pro hnt hX0 hG
 refine exr (swb (X3 (k:=2) (n:=2) pa2 rfl rfl (P0 _ rfl) L) t1 t0 ⟨rfl,rfl⟩ (swb (X3 (k:=3) (n:=2) pa2 rfl rfl (P0 _ rfl) L) t1 t0 ⟨rfl,rfl⟩ (aV L rfl (zn [(2,_),(3,_)] [(2,_),(3,_)] t2 t2 ?_))))
 refine exm (sl:=[(4,vb (decide (c=d∧u=v)))]) (sl0:=[]) (hb:=[]) (hb0:=[]) t0 t0 ?_ ?_
 ·by_cases h:c=d
  ·refine sw (j2 un24 rfl sz3 dC rX L) t1 t1 ?_
   refine sw (Z1 ag3 rF rF L) t1 t1 ?_
   refine sw (j2 un24 rfl sz3 dC rX L) t1 t1 ?_
   refine sw (Z1 ag3 rF rF L) t1 t1 ?_
   refine sw (c_e L) t2 t0 (mV L rfl (swg (g:=10) rfl (by simp [h]) (j2 un24 rfl sz22 dC rX L) rfl t1 t1 ?_))
   refine swg (g:=10) rfl (by simp [h]) (Z1 ag22 rF rF L) rfl t1 t1 ?_
   refine swg (g:=10) rfl (by simp [h]) (j2 un24 rfl sz22 dC rX L) rfl t1 t1 ?_
   refine swg (g:=10) rfl (by simp [h]) (Z1 ag22 rF rF L) rfl t1 t1 ?_
   refine swg (g:=10) rfl (by simp [h]) (c_c hG hX cl19 rfl hN (B0d u v hu hv) L) rfl t2 t0 ?_
   refine sw (m4 (by simp [h]) L) t2 t0 ?_
   refine aV L rfl ?_
   exact R1 ⟨⟨ob rfl (by simp only [h,true_and]),trivial⟩,trivial⟩
  ·refine sw (j2 un24 rfl sz3 dC rX L) t1 t1 ?_
   refine sw (Z1 ag3 rF rF L) t1 t1 ?_
   refine sw (j2 un24 rfl sz3 dC rX L) t1 t1 ?_
   refine sw (Z1 ag3 rF rF L) t1 t1 ?_
   refine sw (c_e L) t2 t0 (mV L rfl (swn (g:=10) rfl (by rw [decide_eq_false h] <;> rfl) L rfl ?_))
   refine swn (g:=10) rfl (by rw [decide_eq_false h] <;> rfl) L rfl ?_
   refine swn (g:=10) rfl (by rw [decide_eq_false h] <;> rfl) L rfl ?_
   refine swn (g:=10) rfl (by rw [decide_eq_false h] <;> rfl) L rfl ?_
   refine swn (g:=10) rfl (by rw [decide_eq_false h] <;> rfl) L rfl ?_
   refine sw (U3 (by rw [decide_eq_false h] <;> rfl) L) t2 t0 ?_
   refine aV L rfl ?_
   exact R1 ⟨⟨ob rfl (by simp only [h,false_and,decide_false]),trivial⟩,trivial⟩
 refine Y1 ?_
 refine Q0 (.tmp rfl) ?_
 rfl
theorem q0k {α:Type}{p:α→Bool}{v:List α}{k:Nat}{d:α}(h:k<v.length)(h1:(v.take k).all p=true)(h2:p (v.getD k d)=true):(v.take (k+1)).all p=true:=by
 rw [J1,List.all_append,h1]
 simpa [f0,h] using h2
theorem P0j {α:Type}{p:α→Bool}{v:List α}{a:α}(h:a∈v)(h2:p a=false):v.all p=false:=by
 rw [Bool.eq_false_iff]; intro hh
 rw [s0] at hh
 rw [hh a h] at h2; cases h2
theorem G7 (v:List RQ)(hl:v.length<1000000000)(hs:∀ r∈v,r.sm):y3 E 27 [pVR v] (bZ (v.all RQ.is)):=by
 refine F2 (xs:=[bZ (v.all RQ.is)]) Tryz.func27 rfl Tryz.ntmps27 Tryz.results27 sM fun F hG hX0 hnt hdf P0=>?_
 obtain ⟨L,hX,hN⟩:=pro hnt hX0 hG
 refine exr (aV L rfl (zn [(0,_)] [] t1 trivial (T1 (exr (aV L rfl (zn [(0,_),(3,_)] [] t2 trivial (X1 ?_)))))))
 refine exl (α:=Nat) (fun k=>[(3,vi (k:Int))]) (fun k=>[]) (fun k=>k≤v.length∧(v.take k).all RQ.is=true) (fun k=>v.length - k) (0) (sl:=[(0,_)]) (hb:=[]) ?_ ⟨oR,rfl,trivial⟩ t0 ?_
 ·exact ⟨Nat.zero_le _,rfl⟩
 intro k hk
 obtain ⟨hk,hw⟩:=hk
 refine T1 (exr (mV L rfl (mV L rfl (sw (X2 un40 L) t1 t0 (sw (Z3 L) t2 t0 (zn [(0,_),(3,_),(7,_)] [] t3 trivial ?_))))))
 refine D2 rfl (fun hc=>?_) (fun hc=>?_)
 ·have hc:=dt hc
  have hk2:k<v.length:=by omega
  have hr:=hs _ (gD hk2)
  refine V1 (xq ?_)
  refine T1 (X1 (exr (mV L rfl (mV L rfl (sw (y2 un40 sz47 oM oM sM dC L) t2 t0 ?_)))))
  refine sw (Y6 ag47 sz47 (n1m hk2) rfl L) t1 t0 (cK hG hX cl36 hN (n1j hr.1 hr.2.1 hr.2.2) L t1 (sw (P3 L) t1 t0 (zn [(0,_),(3,_),(15,_)] [] t3 trivial ?_)))
  refine D2 rfl (fun he=>?_) (fun he=>?_)
  ·have he:(v.getD k default).is=false:=by simpa using he
   refine exr (aV L rfl (zn [(2,_)] [] t1 trivial (Y1 ?_)))
   refine Q0 (.tmp rfl) ?_
   rw [P0j (gD hk2) he]
  ·have he:(v.getD k default).is=true:=by simpa using he
   refine V1 (xq ?_)
   refine C3 (mV L rfl (sw (I3 L (w64 oM oM)) t2 t0 (aV L rfl (R1 ?_))))
   exact ⟨k+1,⟨by omega,q0k hk2 hw he⟩,by omega,B3 ⟨oR,rfl,trivial⟩ trivial⟩
 ·have hc:=df hc
  refine K2 (xq ?_)
  refine exr (aV L rfl (zn [(2,_)] [] t1 trivial (Y1 ?_)))
  refine Q0 (.tmp rfl) ?_
  rw [show k=v.length by omega,I0] at hw; rw [hw]
theorem I8 (c:Int)(m:List (List RQ))(hm:MSm m):y3 E 15 [pMR c m] (bZ (isM c m)):=by
 refine F2 (xs:=[bZ (isM c m)]) Tryz.func15 rfl Tryz.ntmps15 Tryz.results15 sM fun F hG hX0 hnt hdf P0=>?_
 obtain ⟨L,hX,hN⟩:=pro hnt hX0 hG
 have hl:=hm.1
 refine exr (swb (X3 (k:=1) (n:=2) pa2 rfl rfl (P0 _ rfl) L) t1 t0 ⟨rfl,rfl⟩ (aV L rfl (zn [(1,_)] [(1,_)] t1 t1 (T1 ?_))))
 refine exm (sl:=[(17,vb (!decide (m.length≤400∧0≤c∧c≤60)))]) (sl0:=[(1,_)]) (hb:=[]) (hb0:=[(1,_)]) t1 t1 ?_ ?_
 ·rcases (by omega:c<0∨0≤c∧60<c∨0≤c∧c≤60) with h | h | h
  ·refine sw (j2 un24 rfl sz3 dC rX L) t1 t1 ?_
   refine sw (Z1 ag3 rF rF L) t1 t1 ?_
   refine sw (Z3 L) t2 t0 (mV L rfl (swn (g:=7) rfl sO L rfl (swn (g:=7) rfl sO L rfl (swn (g:=7) rfl sO L rfl (sw (m4 sO L) t2 t0 (mV L rfl (swn (g:=12) rfl rfl L rfl (swn (g:=12) rfl rfl L rfl (swn (g:=12) rfl rfl L rfl (swn (g:=12) rfl rfl L rfl (sw (m4 rfl L) t2 t0 ?_)))))))))))
   exact R1 ⟨⟨ob rfl sO,rfl,trivial⟩,t1⟩
  ·refine sw (j2 un24 rfl sz3 dC rX L) t1 t1 ?_
   refine sw (Z1 ag3 rF rF L) t1 t1 ?_
   refine sw (Z3 L) t2 t0 (mV L rfl (swg (g:=7) rfl sO (j2 un24 rfl sz3 dC rX L) rfl t1 t1 ?_))
   refine swg (g:=7) rfl sO (Z1 ag3 rF rF L) rfl t1 t1 ?_
   refine swg (g:=7) rfl sO (b7 L) rfl t2 t0 (sw (U3 sO L) t2 t0 (mV L rfl (swn (g:=12) rfl sO L rfl (swn (g:=12) rfl sO L rfl (swn (g:=12) rfl sO L rfl (swn (g:=12) rfl sO L rfl (sw (m4 sO L) t2 t0 ?_)))))))
   exact R1 ⟨⟨ob rfl sO,rfl,trivial⟩,t1⟩
  ·refine sw (j2 un24 rfl sz3 dC rX L) t1 t1 ?_
   refine sw (Z1 ag3 rF rF L) t1 t1 ?_
   refine sw (Z3 L) t2 t0 (mV L rfl (swg (g:=7) rfl sO (j2 un24 rfl sz3 dC rX L) rfl t1 t1 ?_))
   refine swg (g:=7) rfl sO (Z1 ag3 rF rF L) rfl t1 t1 ?_
   refine swg (g:=7) rfl sO (b7 L) rfl t2 t0 (sw (U3 sO L) t2 t0 (mV L rfl (swg (g:=12) rfl sO (j2 un24 rfl sz22 dC rX L) rfl t1 t1 ?_)))
   refine swg (g:=12) rfl sO (Z1 ag22 rF rF L) rfl t1 t1 ?_
   refine swg (g:=12) rfl sO (X2 un22 L) rfl t1 t0 (swg (g:=12) rfl sO (b7 L) rfl t2 t0 (sw (U3 sO L) t2 t0 ?_))
   exact R1 ⟨⟨ob rfl (by rw [Bool.eq_iff_iff]; simp; omega),rfl,trivial⟩,t1⟩
 refine D2 rfl (fun hc=>?_) (fun hc=>?_)
 ·refine exr (aV L rfl (zn [(2,_)] [] t1 trivial (Y1 ?_)))
  refine Q0 (.tmp rfl) ?_
  simp only [isM]; rw [show decide (m.length≤400∧0≤c∧c≤60)=false by simpa only [Bool.not_eq_true'] using hc]; rfl
 ·have hd:decide (m.length≤400∧0≤c∧c≤60)=true:=by simpa only [Bool.not_eq_false'] using hc
  refine V1 (xq ?_)
  refine T1 (exr (aV L rfl (zn [(1,_),(3,_)] [(1,_)] t2 t1 (X1 ?_))))
  refine exl (α:=Nat) (fun k=>[(3,vi (k:Int))]) (fun k=>[]) (fun k=>k≤m.length∧(m.take k).all (d0c c)=true) (fun k=>m.length - k) (0) (sl:=[(1,_)]) (hb:=[(1,_)]) ?_ ⟨oR,rfl,trivial⟩ t1 ?_
  ·exact ⟨Nat.zero_le _,rfl⟩
  intro k hk
  obtain ⟨hk,hw⟩:=hk
  refine T1 (exr (mV L rfl (sw (j2 un24 rfl sz22 dC rX L) t1 t1 ?_)))
  refine sw (Z1 ag22 rF rF L) t1 t1 ?_
  refine sw (X2 un22 L) t1 t0 (sw (Z3 L) t2 t0 (zn [(1,_),(3,_),(22,_)] [(1,_)] t3 t1 ?_))
  refine D2 rfl (fun hc=>?_) (fun hc=>?_)
  ·have hc:=dt hc
   have hk2:k<m.length:=by omega
   have hr:=hm.2 _ (gDL hk2)
   refine V1 (xq ?_)
   refine T1 (X1 ?_)
   refine Y1x (sl:=[(42,vb (!d0c c (m.getD k [])))]) (sl0:=[(1,_),(3,_)]) (hb:=[]) (hb0:=[(1,_)]) rF t2 t1 ?_ ?_
   ·by_cases h:((m.getD k []).length:Int)=c
    ·refine sw (j2 un24 rfl sz22 dC rX L) t1 t1 ?_
     refine sw (Z1 ag22 rF rF L) t1 t1 ?_
     refine mV L rfl (sw (ixJ un22 sz40 (j:=k) rO oM sM L) t2 t0 ?_)
     refine sw (s4 ag40 (h0w hk2) L) t1 t0 (sw (X2 un40 L) t1 t0 (sw (j2 un24 rfl sz3 dC rX L) t1 t1 ?_))
     refine sw (Z1 ag3 rF rF L) t1 t1 ?_
     refine sw (c_n L) t2 t0 (mV L rfl (swg (g:=34) rfl (by rw [h]; simp) (j2 un24 rfl sz22 dC rX L) rfl t1 t1 ?_))
     refine swg (g:=34) rfl (by rw [h]; simp) (Z1 ag22 rF rF L) rfl t1 t1 ?_
     refine gV (g:=34) rfl (by rw [h]; simp) L rfl rfl ?_
     refine swg (g:=34) rfl (by rw [h]; simp) (ixJ un22 sz40 (j:=k) rO oM sM L) rfl t2 t0 ?_
     refine swg (g:=34) rfl (by rw [h]; simp) (s4 ag40 (h0w hk2) L) rfl t1 t0 ?_
     refine swg (g:=34) rfl (by rw [h]; simp) (c_c hG hX cl27 rfl hN (G7 (m.getD k []) hr.1 hr.2) L) rfl t1 t0 ?_
     refine swg (g:=34) rfl (by rw [h]; simp) (P3 L) rfl t1 t0 ?_
     refine sw (U3 (by rw [h]; simp) L) t2 t0 ?_
     exact R1 ⟨i5 [⟨[1],[1],[25],[]⟩,⟨[25],[1],[26],[]⟩,⟨[3],[],[27],[]⟩,⟨[26,27],[],[28],[]⟩,⟨[28],[],[29],[]⟩,⟨[29],[],[30],[]⟩,⟨[1],[1],[31],[]⟩,⟨[31],[1],[32],[]⟩,⟨[30,32],[],[33],[]⟩,⟨[33],[],[34],[]⟩,⟨[34,1],[1],[35],[]⟩,⟨[34,35],[1],[36],[]⟩,⟨[34,3],[],[37],[]⟩,⟨[34,36,37],[],[38],[]⟩,⟨[34,38],[],[39],[]⟩,⟨[34,39],[],[40],[]⟩,⟨[34,40],[],[41],[]⟩,⟨[34,41],[],[42],[]⟩] rF rF dC,⟨ob rfl (by rw [d0c,h]; simp),rfl,rfl,trivial⟩,t1⟩
    ·refine sw (j2 un24 rfl sz22 dC rX L) t1 t1 ?_
     refine sw (Z1 ag22 rF rF L) t1 t1 ?_
     refine mV L rfl (sw (ixJ un22 sz40 (j:=k) rO oM sM L) t2 t0 ?_)
     refine sw (s4 ag40 (h0w hk2) L) t1 t0 (sw (X2 un40 L) t1 t0 (sw (j2 un24 rfl sz3 dC rX L) t1 t1 ?_))
     refine sw (Z1 ag3 rF rF L) t1 t1 ?_
     refine sw (c_n L) t2 t0 (mV L rfl (swn (g:=34) rfl (by rw [decide_eq_false h] <;> rfl) L rfl ?_))
     refine swn (g:=34) rfl (by rw [decide_eq_false h] <;> rfl) L rfl ?_
     refine swn (g:=34) rfl (by rw [decide_eq_false h] <;> rfl) L rfl ?_
     refine swn (g:=34) rfl (by rw [decide_eq_false h] <;> rfl) L rfl ?_
     refine swn (g:=34) rfl (by rw [decide_eq_false h] <;> rfl) L rfl ?_
     refine swn (g:=34) rfl (by rw [decide_eq_false h] <;> rfl) L rfl ?_
     refine swn (g:=34) rfl (by rw [decide_eq_false h] <;> rfl) L rfl ?_
     refine sw (m4 (by rw [decide_eq_false h] <;> rfl) L) t2 t0 ?_
     exact R1 ⟨i5 [⟨[1],[1],[25],[]⟩,⟨[25],[1],[26],[]⟩,⟨[3],[],[27],[]⟩,⟨[26,27],[],[28],[]⟩,⟨[28],[],[29],[]⟩,⟨[29],[],[30],[]⟩,⟨[1],[1],[31],[]⟩,⟨[31],[1],[32],[]⟩,⟨[30,32],[],[33],[]⟩,⟨[33],[],[34],[]⟩,⟨[34],[],[35],[]⟩,⟨[34],[],[36],[]⟩,⟨[34],[],[37],[]⟩,⟨[34],[],[38],[]⟩,⟨[34],[],[39],[]⟩,⟨[34],[],[40],[]⟩,⟨[34],[],[41],[]⟩,⟨[34],[],[42],[]⟩] rF rF dC,⟨ob rfl (by rw [d0c,decide_eq_false h]; rfl),rfl,rfl,trivial⟩,t1⟩
   refine D2 rfl (fun he=>?_) (fun he=>?_)
   ·have he:d0c c (m.getD k [])=false:=by simpa using he
    refine exr (aV L rfl (zn [(2,_)] [] t1 trivial (Y1 ?_)))
    refine Q0 (.tmp rfl) ?_
    rw [isM,hd,P0j (gDL hk2) he]; rfl
   ·have he:d0c c (m.getD k [])=true:=by simpa using he
    refine V1 (xq ?_)
    refine C3 (mV L rfl (sw (I3 L (w64 oM oM)) t2 t0 (aV L rfl (R1 ?_))))
    exact ⟨k+1,⟨by omega,q0k hk2 hw he⟩,by omega,B3 ⟨oR,rfl,trivial⟩ t1⟩
  ·have hc:=df hc
   refine K2 (xq ?_)
   refine exr (aV L rfl (zn [(2,_)] [] t1 trivial (Y1 ?_)))
   refine Q0 (.tmp rfl) ?_
   rw [show k=m.length by omega,I0] at hw; rw [isM,hd,hw]; rfl
def dtF (u v:List Rat)(k:Nat):Rat:=M8 ((List.zipWith (· * ·) u v).take k)
theorem D1x {u v:List Rat}{k:Nat}(h:k<u.length)(hv:u.length=v.length):(List.zipWith (· * ·) u v).getD k 0=u.getD k 0*v.getD k 0:=by
 have h2:k<v.length:=by omega
 simp [f0,List.getElem?_zipWith,h,h2]
theorem d1d {u v:List Rat}{k:Nat}(h:k<u.length)(hv:u.length=v.length):dtF u v (k+1)=dtF u v k+u.getD k 0*v.getD k 0:=by
 rw [dtF,N0x sO,D1x h hv]; rfl
theorem M1z {B C:Nat}{u v:List Rat}(hB:∀ a∈u,qw a≤B)(hC:∀ a∈v,qw a≤C):∀ a∈List.zipWith (· * ·) u v,qw a≤B+C:=by
 intro a ha
 rw [← List.map_uncurry_zip_eq_zipWith] at ha
 obtain ⟨p,h1,rfl⟩:=G0.1 ha
 have h2:=List.of_mem_zip (a:=p.1) (b:=p.2) h1
 have:=m9 p.1 p.2
 have:=hB _ h2.1
 have:=hC _ h2.2
 simp only [Function.uncurry]; omega
def dtR (u v:List Rat):Rat:=M8 (List.zipWith (· * ·) u v)
theorem y0h (c:Rat):∀ v:List Rat,v.foldl (· + ·) c=c+v.foldl (· + ·) 0
 | []=>by simp [Rat.add_zero]
 | a :: v=>by
  rw [List.foldl_cons,List.foldl_cons,y0h (c+a),y0h (0+a),Rat.zero_add,Rat.add_assoc]
theorem K0n (a:Rat)(v:List Rat):M8 (a :: v)=a+M8 v:=by
 rw [M8,List.foldl_cons,y0h,Rat.zero_add]; rfl
theorem v0k:∀ u v:List Rat,Z8 u v=dtR u v
 | [],_=>rfl
 | _ :: _,[]=>rfl
 | a :: u,b :: v=>by
  have ih:=v0k u v
  rw [dtR,List.zipWith_cons_cons,K0n,← dtR,← ih,Z8,K0c,List.zip_cons_cons]
  by_cases h:a≠0∧b≠0
  ·rw [List.filter_cons_of_pos (by simpa using h),R0,K0n]; rfl
  ·rw [List.filter_cons_of_neg (by simpa using h)]
   have e:a*b=0:=by
    rcases Classical.em (a=0) with h1 | h1
    ·rw [h1,Rat.zero_mul]
    ·rcases Classical.em (b=0) with h2 | h2
     ·rw [h2,Rat.mul_zero]
     ·exact absurd ⟨h1,h2⟩ h
   rw [e,Rat.zero_add]; rfl
theorem Q1v {B C:Nat}{u v:List Rat}{k:Nat}(hv:u.length=v.length)(hB:∀ a∈u,qw a≤B)(hC:∀ a∈v,qw a≤C):qw (dtF u v k)≤u.length*(B+C+1)+1:=by
 have:=B0p (k:=k) (M1z hB hC)
 rwa [List.length_zipWith,hv,Nat.min_self,← hv] at this
theorem w0j (u v:List Rat)(B C:Nat)(huv:u.length=v.length)(hl:u.length<1000000000)(hB:∀ a∈u,qw a≤B)(hC:∀ a∈v,qw a≤C)(hBl:B<500000000)(hCl:C<500000000)(hb:u.length*(B+C+1)+1<900000000):y3 E 63 [pV u,pV v] (pQ (Z8 u v)):=by
 refine F2 (xs:=[pQ (Z8 u v)]) Tryz.func63 rfl Tryz.ntmps63 Tryz.results63 sM fun F hG hX0 hnt hdf P0=>?_
 obtain ⟨L,hX,hN⟩:=pro hnt hX0 hG
 refine exr (swb (Y3 (k:=4) (n:=4) zv47 (.cons rfl (.cons rfl (.cons rfl (.cons rfl .nil)))) rfl (P0 _ rfl) L) t0 t0 ⟨rfl,rfl⟩ (zn [(0,_),(1,_),(4,_)] [(4,_)] t3 t1 (exr (cK hG hX cl60 hN (n0v) L t0 (swb (Y3 (k:=5) (n:=4) zv47 (.cons rfl (.cons rfl (.cons rfl (.cons rfl .nil)))) rfl (P0 _ rfl) L) t0 t0 ⟨rfl,rfl⟩ (sb (Z2 sz47 rF pa4 rfl pu4) t2 t1 ?_))))))
 refine zn [(0,_),(1,_),(4,_),(5,_)] [(4,_),(5,_)] t4 t2 (T1 (exr (aV L rfl (zn [(0,_),(1,_),(4,_),(5,_),(6,_)] [(4,_),(5,_)] t5 t2 (X1 ?_)))))
 refine exl (α:=Nat) (fun k=>[(6,vi (k:Int))]) (fun k=>[(5,bQ (dtF u v k))]) (fun k=>k≤u.length) (fun k=>u.length - k) (0) (sl:=[(0,_),(1,_),(4,_),(5,_)]) (hb:=[(4,_)]) ?_ ⟨oR,rfl,rfl,rfl,rfl,trivial⟩ t2 ?_
 ·exact Nat.zero_le _
 intro k hk
 refine T1 (exr (mV L rfl (mV L rfl (sw (X2 un40 L) t1 t0 (sw (Z3 L) t2 t0 (zn [(0,_),(1,_),(4,_),(5,_),(6,_),(12,_)] [(4,_),(5,_)] t6 t2 ?_))))))
 refine D2 rfl (fun hc=>?_) (fun hc=>?_)
 ·have hc:=dt hc
  have hk2:k<u.length:=by omega
  have hk3:k<v.length:=by omega
  have b1:qw (u.getD k 0)≤B:=hB _ (v4 hk2)
  have b2:qw (v.getD k 0)≤C:=hC _ (v4 hk3)
  have b3:=Q1v (k:=k) huv hB hC
  have b4:=m9 (u.getD k 0) (v.getD k 0)
  refine V1 (xq ?_)
  refine T1 (X1 (exd rF ?_))
  refine mV L rfl (mV L rfl (sw (y2 un40 sz47 oM oM sM dC L) t2 t0 ?_))
  refine sw (Y6 ag47 sz47 (X6 hk2) rfl L) t1 t0 (mV L rfl (mV L rfl (sw (y2 un40 sz47 oM oM sM dC L) t2 t0 ?_)))
  refine sw (Y6 ag47 sz47 (X6 hk3) rfl L) t1 t0 (cK hG hX cl37 hN (F0y (u.getD k 0) (v.getD k 0) oM oM) L t2 (swb (Y3 (k:=7) (n:=4) zv47 (.cons rfl (.cons rfl (.cons rfl (.cons rfl .nil)))) rfl (P0 _ rfl) L) t0 t0 ⟨rfl,rfl⟩ (sb (Z2 sz47 rF pa4 rfl pu4) t2 t1 ?_)))
  refine R1 ⟨aok rfl rfl,[(0,_),(1,_),(4,_),(5,_),(6,_),(7,_)],[(4,_),(5,_),(7,_)],t6,t3,?_⟩
  refine C3 (lp4 ag47 sz47 L rfl rfl (lp4 ag47 sz47 L rfl rfl (cK hG hX cl76 hN (G0h (dtF u v k) (u.getD k 0*v.getD k 0) oM oM) L t2 (sb (Z2 sz47 rF pa4 rfl pu4) t2 t1 ?_))))
  refine R1 (C3 (mV L rfl (sw (I3 L (w64 oM oM)) t2 t0 (aV L rfl (R1 ?_)))))
  exact ⟨k+1,oM,by omega,B3 ⟨oR,rfl,rfl,rfl,rfl,trivial⟩ ⟨obl rfl (by rw [d1d hk2 huv]),rfl,trivial⟩⟩
 ·have hc:=df hc
  refine K2 (xq ?_)
  refine exr (lp4 ag47 sz47 L rfl rfl (sb (Z2 sz47 rF pa4 rfl pu4) t2 t1 ?_))
  refine zn [(4,_)] [(4,_)] t1 t1 (Y1 ?_)
  refine Q0 (.agg rfl rfl rfl ag47 sz47 (.cons (.cons (.cons (.cons .nil))))) ?_
  rw [dtF,C0 sO,← dtR,← v0k]
theorem w1w (c j:Nat)(M:List (List Rat))(hl:M.length<1000000000)(hr:∀ r∈M,r.length=c)(hj:j<c)(hc:c<1000000000):y3 E 84 [pMq c M,vZ j] (pV (w7 M j)):=by
 refine F2 (xs:=[pV (w7 M j)]) Tryz.func84 rfl Tryz.ntmps84 Tryz.results84 sM fun F hG hX0 hnt hdf P0=>?_
 obtain ⟨L,hX,hN⟩:=pro hnt hX0 hG
 refine exr (swb (X3 (k:=2) (n:=2) pa2 rfl rfl (P0 _ rfl) L) t1 t0 ⟨rfl,rfl⟩ (aV L rfl (zn [(1,_),(2,_)] [(2,_)] t2 t1 (exr (sw (j2 un24 rfl sz22 dC rX L) t1 t1 ?_)))))
 refine sw (Z1 ag22 rF rF L) t1 t1 ?_
 refine sw (X2 un22 L) t1 t0 (swb (j6 (sz:=4) (k:=10) un40 ti47 rfl rfl dC rfl rfl rfl (show (0:Int)=((0:Nat):Int) from rfl) rfl (Nat.zero_le _) (by simp [Tryz.t47]; omega) oM (P0 _ rfl) L) t2 t0 ⟨rfl,rfl⟩ ?_)
 refine aV L rfl ?_
 refine R1 ⟨[(1,_),(2,_),(5,.ref 10 0 0 0)],[(2,_),(10,j4 [])],t3,t2,?_⟩
 refine T1 (exr (aV L rfl (zn [(1,_),(2,_),(5,_),(6,_)] [(2,_),(10,_)] t4 t2 (X1 ?_))))
 refine exl (α:=Nat) (fun k=>[(6,vi (k:Int)),(5,.ref 10 0 k (k*4))]) (fun k=>[(10,j4 (w7 (M.take k) j))]) (fun k=>k≤M.length) (fun k=>M.length - k) (0) (sl:=[(1,_),(2,_)]) (hb:=[(2,_)]) ?_ ⟨oR,oR,rfl,rfl,trivial⟩ t2 ?_
 ·exact Nat.zero_le _
 intro k hk
 refine T1 (exr (mV L rfl (sw (j2 un24 rfl sz22 dC rX L) t1 t1 ?_)))
 refine sw (Z1 ag22 rF rF L) t1 t1 ?_
 refine sw (X2 un22 L) t1 t0 (sw (Z3 L) t2 t0 (zn [(1,_),(2,_),(5,_),(6,_),(15,_)] [(2,_),(10,_)] t5 t2 ?_))
 refine D2 rfl (fun he=>?_) (fun he=>?_)
 ·have he:=dt he
  have hk2:k<M.length:=by omega
  have hrl:=hr _ (gDL hk2)
  refine V1 (xq ?_)
  refine T1 (X1 (C3 (mV L rfl (sw (j2 un24 rfl sz22 dC rX L) t1 t1 ?_))))
  refine sw (Z1 ag22 rF rF L) t1 t1 ?_
  refine mV L rfl (sw (ixJ un22 sz40 (j:=k) rO oM sM L) t2 t0 ?_)
  refine sw (s4 ag40 (j7 hk2) L) t1 t0 (mV L rfl (sw (y2 un40 sz47 oM oM sM dC L) t2 t0 ?_))
  refine sw (Y6 ag47 sz47 (X6 (show j<(M.getD k []).length by omega)) rfl L) t1 t0 ?_
  refine sw (E4 (vs:=[_]) un40 ti47 rfl rfl dC dC rfl (M2 (.cons rfl (.cons rfl (.cons rfl (.cons rfl .nil)))) rfl) rfl (.cons rfl pa4 rfl pu4 .nil) (.cons (.cons (.cons (.cons .nil)))) L) t1 t0 (swb (apP (sz:=4) un40 un40 ti47 rfl rfl rfl dC (by exact (by first | (simp; done) | (simp; omega))) oF sM rfl rfl rfl (by first | (simp [Tryz.t47]; done) | (simp [Tryz.t47]; omega)) oM (P0 _ rfl) L) t2 t1 t0 ?_)
  refine aV L rfl (R1 (C3 (mV L rfl (sw (I3 L (w64 oM oM)) t2 t0 (aV L rfl (R1 ?_))))))
  exact ⟨k+1,oM,by omega,B3 ⟨oR,ov rfl sO,rfl,rfl,trivial⟩ ⟨obl rfl ((b0q _ _).trans (by rw [g0m hk2])),rfl,trivial⟩⟩
 ·have he:=df he
  have hkM:k=M.length:=by omega
  subst hkM
  rw [I0]
  refine K2 (xq ?_)
  refine G4 [10] (sl:=[(5,_)]) (hb:=[]) (M3 hX0) ⟨⟨_,rfl,(.ref rfl rfl (by exact (by first | (simp; done) | (simp; omega))) (by first | rfl | omega))⟩,trivial⟩ t0 ?_
  refine exr (mV L rfl (aV L rfl (zn [(4,_)] [] t1 trivial (Y1 ?_))))
  refine Q0 (.tmp rfl) ?_
  simp
def apQ (M:List (List Rat))(x:List Rat):List Rat:=M.map (Z8 · x)
@[simp] theorem H0x (M:List (List Rat))(x:List Rat):(apQ M x).length=M.length:=by simp [apQ]
theorem B1z {M:List (List Rat)}{x:List Rat}{k:Nat}(h:k<M.length):apQ (M.take (k+1)) x=apQ (M.take k) x++[Z8 (M.getD k []) x]:=by
 rw [J1,show M[k]?.toList=[M.getD k []] by simp [f0,h],apQ,List.map_append]; rfl
theorem Y0d (c B C:Nat)(M:List (List Rat))(x:List Rat)(hl:M.length<1000000000)(hr:∀ r∈M,r.length=c)(hx:x.length=c)(hc:c<1000000000)(hB:MB B M)(hC:∀ a∈x,qw a≤C)(hBl:B<500000000)(hCl:C<500000000)(hb:c*(B+C+1)+1<900000000):y3 E 21 [pMq c M,pV x] (pV (apQ M x)):=by
 refine F2 (xs:=[pV (apQ M x)]) Tryz.func21 rfl Tryz.ntmps21 Tryz.results21 sM fun F hG hX0 hnt hdf P0=>?_
 obtain ⟨L,hX,hN⟩:=pro hnt hX0 hG
 refine exr (swb (X3 (k:=2) (n:=2) pa2 rfl rfl (P0 _ rfl) L) t1 t0 ⟨rfl,rfl⟩ (aV L rfl (zn [(1,_),(2,_)] [(2,_)] t2 t1 (exr (sw (j2 un24 rfl sz22 dC rX L) t1 t1 ?_)))))
 refine sw (Z1 ag22 rF rF L) t1 t1 ?_
 refine sw (X2 un22 L) t1 t0 (swb (j6 (sz:=4) (k:=10) un40 ti47 rfl rfl dC rfl rfl rfl (show (0:Int)=((0:Nat):Int) from rfl) rfl (Nat.zero_le _) (by simp [Tryz.t47]; omega) oM (P0 _ rfl) L) t2 t0 ⟨rfl,rfl⟩ ?_)
 refine aV L rfl ?_
 refine R1 ⟨[(1,_),(2,_),(5,.ref 10 0 0 0)],[(2,_),(10,j4 [])],t3,t2,?_⟩
 refine T1 (exr (aV L rfl (zn [(1,_),(2,_),(5,_),(6,_)] [(2,_),(10,_)] t4 t2 (X1 ?_))))
 refine exl (α:=Nat) (fun k=>[(6,vi (k:Int)),(5,.ref 10 0 k (k*4))]) (fun k=>[(10,j4 (apQ (M.take k) x))]) (fun k=>k≤M.length) (fun k=>M.length - k) (0) (sl:=[(1,_),(2,_)]) (hb:=[(2,_)]) ?_ ⟨oR,oR,rfl,rfl,trivial⟩ t2 ?_
 ·exact Nat.zero_le _
 intro k hk
 refine T1 (exr (mV L rfl (sw (j2 un24 rfl sz22 dC rX L) t1 t1 ?_)))
 refine sw (Z1 ag22 rF rF L) t1 t1 ?_
 refine sw (X2 un22 L) t1 t0 (sw (Z3 L) t2 t0 (zn [(1,_),(2,_),(5,_),(6,_),(15,_)] [(2,_),(10,_)] t5 t2 ?_))
 refine D2 rfl (fun he=>?_) (fun he=>?_)
 ·have he:=dt he
  have hk2:k<M.length:=by omega
  have hrl:=hr _ (gDL hk2)
  refine V1 (xq ?_)
  refine T1 (X1 (C3 (mV L rfl (sw (j2 un24 rfl sz22 dC rX L) t1 t1 ?_))))
  refine sw (Z1 ag22 rF rF L) t1 t1 ?_
  refine mV L rfl (sw (ixJ un22 sz40 (j:=k) rO oM sM L) t2 t0 ?_)
  refine sw (s4 ag40 (j7 hk2) L) t1 t0 (mV L rfl (cK hG hX cl63 hN (w0j (M.getD k []) x B C oM oM (hB _ (gDL hk2)) hC hBl hCl (by rw [hrl]; exact hb)) L t2 ?_))
  refine sw (E4 (vs:=[_]) un40 ti47 rfl rfl dC dC rfl (M2 (.cons rfl (.cons rfl (.cons rfl (.cons rfl .nil)))) rfl) rfl (.cons rfl pa4 rfl pu4 .nil) (.cons (.cons (.cons (.cons .nil)))) L) t1 t0 (swb (apP (sz:=4) un40 un40 ti47 rfl rfl rfl dC (by exact (by first | (simp; done) | (simp; omega))) oF sM rfl rfl rfl (by first | (simp [Tryz.t47]; done) | (simp [Tryz.t47]; omega)) oM (P0 _ rfl) L) t2 t1 t0 ?_)
  refine aV L rfl (R1 (C3 (mV L rfl (sw (I3 L (w64 oM oM)) t2 t0 (aV L rfl (R1 ?_))))))
  exact ⟨k+1,oM,by omega,B3 ⟨oR,ov rfl sO,rfl,rfl,trivial⟩ ⟨obl rfl ((b0q _ _).trans (by rw [B1z hk2])),rfl,trivial⟩⟩
 ·have he:=df he
  have hkM:k=M.length:=by omega
  subst hkM
  rw [I0]
  refine K2 (xq ?_)
  refine G4 [10] (sl:=[(5,_)]) (hb:=[]) (M3 hX0) ⟨⟨_,rfl,(.ref rfl rfl (by exact (by first | (simp; done) | (simp; omega))) (by first | rfl | omega))⟩,trivial⟩ t0 ?_
  refine exr (mV L rfl (aV L rfl (zn [(4,_)] [] t1 trivial (Y1 ?_))))
  refine Q0 (.tmp rfl) ?_
  simp
theorem b1d (c B C:Nat)(y:List Rat)(M:List (List Rat))(hl:M.length<1000000000)(hr:∀ r∈M,r.length=c)(hy:y.length=M.length)(hc:c<1000000000)(hB:MB B M)(hC:∀ a∈y,qw a≤C)(hBl:B<500000000)(hCl:C<500000000)(hb:M.length*(C+B+1)+1<900000000):y3 E 71 [pV y,pMq c M] (pV (f0h y M c)):=by
 refine F2 (xs:=[pV (f0h y M c)]) Tryz.func71 rfl Tryz.ntmps71 Tryz.results71 sM fun F hG hX0 hnt hdf P0=>?_
 obtain ⟨L,hX,hN⟩:=pro hnt hX0 hG
 refine exr (swb (X3 (k:=3) (n:=2) pa2 rfl rfl (P0 _ rfl) L) t1 t0 ⟨rfl,rfl⟩ (aV L rfl (zn [(0,_),(3,_)] [(3,_)] t2 t1 (exr (sw (j2 un24 rfl sz3 dC rX L) t1 t1 ?_)))))
 refine sw (Z1 ag3 rF rF L) t1 t1 ?_
 refine swb (j6 (sz:=4) (k:=9) un40 ti47 rfl rfl dC rfl rfl rfl (show (0:Int)=((0:Nat):Int) from rfl) rfl (Nat.zero_le _) (by simp [Tryz.t47]; omega) oM (P0 _ rfl) L) t2 t0 ⟨rfl,rfl⟩ ?_
 refine aV L rfl ?_
 refine R1 ⟨[(0,_),(3,_),(5,.ref 9 0 0 0)],[(3,_),(9,j4 [])],t3,t2,?_⟩
 refine T1 (exr (aV L rfl (zn [(0,_),(3,_),(5,_),(6,_)] [(3,_),(9,_)] t4 t2 (X1 ?_))))
 refine exl (α:=Nat) (fun k=>[(6,vi (k:Int)),(5,.ref 9 0 k (k*4))]) (fun k=>[(9,j4 (f0h y M k))]) (fun k=>k≤c) (fun k=>c - k) (0) (sl:=[(0,_),(3,_)]) (hb:=[(3,_)]) ?_ ⟨oR,oR,rfl,rfl,trivial⟩ t2 ?_
 ·exact Nat.zero_le _
 intro k hk
 refine T1 (exr (mV L rfl (sw (j2 un24 rfl sz3 dC rX L) t1 t1 ?_)))
 refine sw (Z1 ag3 rF rF L) t1 t1 ?_
 refine sw (Z3 L) t2 t0 (zn [(0,_),(3,_),(5,_),(6,_),(13,_)] [(3,_),(9,_)] t5 t2 ?_)
 refine D2 rfl (fun he=>?_) (fun he=>?_)
 ·have he:=dt he
  have hk2:k<c:=by omega
  refine V1 (xq ?_)
  refine T1 (X1 (C3 (mV L rfl (mV L rfl (lp2 ag24 sz24 L rfl rfl (mV L rfl (cK hG hX cl84 hN (w1w c k M hl hr hk2 hc) L t2 (cK hG hX cl63 hN (w0j y (w7 M k) C B (by rw [T7]; exact hy) oM hC (q1k hB hk2 hr) hCl hBl (by rw [hy]; exact hb)) L t2 ?_))))))))
  refine sw (E4 (vs:=[_]) un40 ti47 rfl rfl dC dC rfl (M2 (.cons rfl (.cons rfl (.cons rfl (.cons rfl .nil)))) rfl) rfl (.cons rfl pa4 rfl pu4 .nil) (.cons (.cons (.cons (.cons .nil)))) L) t1 t0 (swb (apP (sz:=4) un40 un40 ti47 rfl rfl rfl dC (by exact (by first | (simp; done) | (simp; omega))) oF sM rfl rfl rfl (by first | (simp [Tryz.t47]; done) | (simp [Tryz.t47]; omega)) oM (P0 _ rfl) L) t2 t1 t0 ?_)
  refine aV L rfl (R1 (C3 (mV L rfl (sw (I3 L (w64 oM oM)) t2 t0 (aV L rfl (R1 ?_))))))
  exact ⟨k+1,oM,by omega,B3 ⟨oR,ov rfl sO,rfl,rfl,trivial⟩ ⟨obl rfl ((b0q _ _).trans (by rw [w0h])),rfl,trivial⟩⟩
 ·have he:=df he
  have hkM:k=c:=by omega
  subst hkM
  refine K2 (xq ?_)
  refine G4 [9] (sl:=[(5,_)]) (hb:=[]) (M3 hX0) ⟨⟨_,rfl,(.ref rfl rfl (by exact (by first | (simp; done) | (simp; omega))) (by first | rfl | omega))⟩,trivial⟩ t0 ?_
  refine exr (mV L rfl (aV L rfl (zn [(4,_)] [] t1 trivial (Y1 ?_))))
  refine Q0 (.tmp rfl) ?_
  simp
theorem J0a {c B:Nat}{M:List (List Rat)}(h:MOk c M)(hB:MB B M)(hb:B<1000000000):y3 E 15 [pMq c M] (bZ true):=by
 have:=I8 c _ (B1v h hB hb)
 rwa [F1r h,P0w] at this
@[simp] theorem M1r {u v:List Rat}{c:Rat}(h:v.length=u.length):(L6 u v c).length=u.length:=F6 h
theorem j1b {u v:List Rat}{c:Rat}{k:Nat}(h:k<u.length)(hv:v.length=u.length):(L6 u v c).take (k+1)=(L6 u v c).take k++[u.getD k 0 - c*v.getD k 0]:=by
 have h2:k<(L6 u v c).length:=by rw [F6 hv]; exact h
 rw [J1,show (L6 u v c)[k]?.toList=[(L6 u v c).getD k 0] by simp [f0,h2],W7 hv]
theorem p0a (u v:List Rat)(c:Rat)(B C D:Nat)(hv:v.length=u.length)(hl:u.length<1000000000)(hB:∀ a∈u,qw a≤B)(hC:∀ a∈v,qw a≤C)(hD:qw c≤D)(hb:B<400000000∧C<400000000∧D<400000000):y3 E 103 [pV u,pV v,pQ c] (pV (L6 u v c)):=by
 refine F2 (xs:=[pV (L6 u v c)]) Tryz.func103 rfl Tryz.ntmps103 Tryz.results103 sM fun F hG hX0 hnt hdf P0=>?_
 obtain ⟨L,hX,hN⟩:=pro hnt hX0 hG
 obtain ⟨hb1,hb2,hb3⟩:=hb
 refine exr (swb (X3 (k:=5) (n:=4) pa4 rfl rfl (P0 _ rfl) L) t1 t0 ⟨rfl,rfl⟩ (aV L rfl (zn [(0,_),(1,_),(5,_)] [(5,_)] t3 t1 (exr (mV L rfl (sw (X2 un40 L) t1 t0 (swb (j6 (sz:=4) (k:=12) un40 ti47 rfl rfl dC rfl rfl rfl (show (0:Int)=((0:Nat):Int) from rfl) rfl (Nat.zero_le _) (by simp [Tryz.t47]; omega) oM (P0 _ rfl) L) t2 t0 ⟨rfl,rfl⟩ ?_)))))))
 refine aV L rfl ?_
 refine R1 ⟨[(0,_),(1,_),(5,_),(7,.ref 12 0 0 0)],[(5,_),(12,j4 [])],t4,t2,?_⟩
 refine T1 (exr (aV L rfl (zn [(0,_),(1,_),(5,_),(7,_),(8,_)] [(5,_),(12,_)] t5 t2 (X1 ?_))))
 refine exl (α:=Nat) (fun k=>[(8,vi (k:Int)),(7,.ref 12 0 k (k*4))]) (fun k=>[(12,j4 ((L6 u v c).take k))]) (fun k=>k≤u.length) (fun k=>u.length - k) (0) (sl:=[(0,_),(1,_),(5,_)]) (hb:=[(5,_)]) ?_ ⟨oR,oR,rfl,rfl,rfl,trivial⟩ t2 ?_
 ·exact Nat.zero_le _
 intro k hk
 refine T1 (exr (mV L rfl (mV L rfl (sw (X2 un40 L) t1 t0 (sw (Z3 L) t2 t0 (zn [(0,_),(1,_),(5,_),(7,_),(8,_),(16,_)] [(5,_),(12,_)] t6 t2 ?_))))))
 refine D2 rfl (fun he=>?_) (fun he=>?_)
 ·have he:=dt he
  have hk2:k<u.length:=by omega
  have hk3:k<v.length:=by omega
  have b1:qw (u.getD k 0)≤B:=hB _ (v4 hk2)
  have b2:qw (v.getD k 0)≤C:=hC _ (v4 hk3)
  have b3:=m9 c (v.getD k 0)
  refine V1 (xq ?_)
  refine T1 (X1 (exd rF ?_))
  refine lp4 ag47 sz47 L rfl rfl (mV L rfl (mV L rfl (sw (y2 un40 sz47 oM oM sM dC L) t2 t0 ?_)))
  refine sw (Y6 ag47 sz47 (X6 hk3) rfl L) t1 t0 (cK hG hX cl37 hN (F0y c (v.getD k 0) oM oM) L t2 (swb (Y3 (k:=9) (n:=4) zv47 (.cons rfl (.cons rfl (.cons rfl (.cons rfl .nil)))) rfl (P0 _ rfl) L) t0 t0 ⟨rfl,rfl⟩ (sb (Z2 sz47 rF pa4 rfl pu4) t2 t1 ?_)))
  refine R1 ⟨aok rfl rfl,[(0,_),(1,_),(5,_),(7,_),(8,_),(9,_)],[(5,_),(9,_),(12,_)],t6,t3,?_⟩
  refine d0d rF ?_
  refine mV L rfl (mV L rfl (mV L rfl (sw (y2 un40 sz47 oM oM sM dC L) t2 t0 ?_)))
  refine sw (Y6 ag47 sz47 (X6 hk2) rfl L) t1 t0 (lp4 ag47 sz47 L rfl rfl (cK hG hX cl132 hN (h1k (u.getD k 0) (c*v.getD k 0) oM oM) L t2 (sw (E4 (vs:=[_]) un40 ti47 rfl rfl dC dC rfl (M2 (.cons rfl (.cons rfl (.cons rfl (.cons rfl .nil)))) rfl) rfl (.cons rfl pa4 rfl pu4 .nil) (.cons (.cons (.cons (.cons .nil)))) L) t1 t0 (swb (apP (sz:=4) un40 un40 ti47 rfl rfl rfl dC (by exact (by first | rw [i3,J0,F6 hv,I1 hk] | rw [i3,F6 hv])) oF sM rfl rfl rfl (by first | (simp [Tryz.t47]; done) | (simp [Tryz.t47]; omega)) oM (P0 _ rfl) L) t2 t1 t0 ?_))))
  refine aV L rfl ?_
  refine R1 ⟨i5 [⟨[7],[],[25],[]⟩,⟨[0],[],[26],[]⟩,⟨[8],[],[27],[]⟩,⟨[26,27],[],[28],[]⟩,⟨[28],[],[29],[]⟩,⟨[9],[9],[30],[]⟩,⟨[29,30],[],[31],[]⟩,⟨[31],[],[32],[]⟩,⟨[25,32],[12],[33],[12]⟩,⟨[33],[],[7],[]⟩] rF rF dC,?_⟩
  refine C3 (mV L rfl (sw (I3 L (w64 oM oM)) t2 t0 (aV L rfl (R1 ?_))))
  exact ⟨k+1,oM,by omega,B3 ⟨oR,ov rfl sO,rfl,rfl,rfl,trivial⟩ ⟨obl rfl ((b0q _ _).trans (by rw [j1b hk2 hv])),rfl,trivial⟩⟩
 ·have he:=df he
  have hkM:k=u.length:=by omega
  rw [C0 (by rw [F6 hv]; omega),hkM]
  refine K2 (xq ?_)
  refine G4 [12] (sl:=[(7,_)]) (hb:=[]) (M3 hX0) ⟨⟨_,rfl,(.ref rfl rfl (by exact (by first | rw [i3,J0,F6 hv,I1 hk] | rw [i3,F6 hv])) (by first | rfl | omega))⟩,trivial⟩ t0 ?_
  refine exr (mV L rfl (aV L rfl (zn [(6,_)] [] t1 trivial (Y1 ?_))))
  refine Q0 (.tmp rfl) ?_
  rw [pV,F6 hv]
theorem q1q {u:List Rat}{c:Rat}{k:Nat}(h:k<u.length):(u.map (· / c)).take (k+1)=(u.map (· / c)).take k++[u.getD k 0 / c]:=by
 rw [J1]; simp [f0,h]
theorem P0g (u:List Rat)(c:Rat)(B:Nat)(hl:u.length<1000000000)(hB:∀ a∈u,qw a≤B)(hD:qw c≤B)(hb:B<400000000)(h0:c≠0):y3 E 104 [pV u,pQ c] (pV (u.map (· / c))):=by
 refine F2 (xs:=[pV (u.map (· / c))]) Tryz.func104 rfl Tryz.ntmps104 Tryz.results104 sM fun F hG hX0 hnt hdf P0=>?_
 obtain ⟨L,hX,hN⟩:=pro hnt hX0 hG
 refine exr (swb (X3 (k:=3) (n:=4) pa4 rfl rfl (P0 _ rfl) L) t1 t0 ⟨rfl,rfl⟩ (aV L rfl (zn [(0,_),(3,_)] [(3,_)] t2 t1 (exr (mV L rfl (sw (X2 un40 L) t1 t0 (swb (j6 (sz:=4) (k:=11) un40 ti47 rfl rfl dC rfl rfl rfl (show (0:Int)=((0:Nat):Int) from rfl) rfl (Nat.zero_le _) (by simp [Tryz.t47]; omega) oM (P0 _ rfl) L) t2 t0 ⟨rfl,rfl⟩ ?_)))))))
 refine aV L rfl ?_
 refine R1 ⟨[(0,_),(3,_),(5,.ref 11 0 0 0)],[(3,_),(11,j4 [])],t3,t2,?_⟩
 refine T1 (exr (aV L rfl (zn [(0,_),(3,_),(5,_),(6,_)] [(3,_),(11,_)] t4 t2 (X1 ?_))))
 refine exl (α:=Nat) (fun k=>[(6,vi (k:Int)),(5,.ref 11 0 k (k*4))]) (fun k=>[(11,j4 ((u.map (· / c)).take k))]) (fun k=>k≤u.length) (fun k=>u.length - k) (0) (sl:=[(0,_),(3,_)]) (hb:=[(3,_)]) ?_ ⟨oR,oR,rfl,rfl,trivial⟩ t2 ?_
 ·exact Nat.zero_le _
 intro k hk
 refine T1 (exr (mV L rfl (mV L rfl (sw (X2 un40 L) t1 t0 (sw (Z3 L) t2 t0 (zn [(0,_),(3,_),(5,_),(6,_),(15,_)] [(3,_),(11,_)] t5 t2 ?_))))))
 refine D2 rfl (fun he=>?_) (fun he=>?_)
 ·have he:=dt he
  have hk2:k<u.length:=by omega
  have b1:qw (u.getD k 0)≤B:=hB _ (v4 hk2)
  refine V1 (xq ?_)
  refine T1 (X1 (exd rF ?_))
  refine mV L rfl (mV L rfl (sw (y2 un40 sz47 oM oM sM dC L) t2 t0 ?_))
  refine sw (Y6 ag47 sz47 (X6 hk2) rfl L) t1 t0 (lp4 ag47 sz47 L rfl rfl (cK hG hX cl133 hN (h1z (u.getD k 0) c oM oM h0) L t2 (mV L rfl (sw (W3 rfl L) t1 t0 (sw (W3 rfl L) t1 t0 (swb (Y3 (k:=7) (n:=4) zv47 (.cons rfl (.cons rfl (.cons rfl (.cons rfl .nil)))) rfl (P0 _ rfl) L) t0 t0 ⟨rfl,rfl⟩ (sb (Z2 sz47 rF pa4 rfl pu4) t2 t1 ?_)))))))
  refine aV L rfl ?_
  refine R1 ⟨aok rfl rfl,[(0,_),(3,_),(5,_),(6,_),(7,_)],[(3,_),(7,_),(11,_)],t5,t3,?_⟩
  refine C3 (mV L rfl (lp4 ag47 sz47 L rfl rfl (sw (E4 (vs:=[_]) un40 ti47 rfl rfl dC dC rfl (M2 (.cons rfl (.cons rfl (.cons rfl (.cons rfl .nil)))) rfl) rfl (.cons rfl pa4 rfl pu4 .nil) (.cons (.cons (.cons (.cons .nil)))) L) t1 t0 (swb (apP (sz:=4) un40 un40 ti47 rfl rfl rfl dC (by exact (by first | rw [i3,J0,O0,I1 hk] | rw [i3,O0])) oF sM rfl rfl rfl (by first | (simp [Tryz.t47]; done) | (simp [Tryz.t47]; omega)) oM (P0 _ rfl) L) t2 t1 t0 ?_))))
  refine aV L rfl (R1 (C3 (mV L rfl (sw (I3 L (w64 oM oM)) t2 t0 (aV L rfl (R1 ?_))))))
  exact ⟨k+1,oM,by omega,B3 ⟨oR,ov rfl sO,rfl,rfl,trivial⟩ ⟨obl rfl ((b0q _ _).trans (by rw [q1q hk2])),rfl,trivial⟩⟩
 ·have he:=df he
  have hkM:k=u.length:=by omega
  rw [C0 (by rw [O0]; omega),hkM]
  refine K2 (xq ?_)
  refine G4 [11] (sl:=[(5,_)]) (hb:=[]) (M3 hX0) ⟨⟨_,rfl,(.ref rfl rfl (by exact (by first | rw [i3,J0,O0,I1 hk] | rw [i3,O0])) (by first | rfl | omega))⟩,trivial⟩ t0 ?_
  refine exr (mV L rfl (aV L rfl (zn [(4,_)] [] t1 trivial (Y1 ?_))))
  refine Q0 (.tmp rfl) ?_
  rw [pV,O0]
theorem n1x {v:List Rat}{k:Nat}(h:k≤v3 v)(hk:k<v.length):(v.getD k 0=0)↔k<v3 v:=by
 constructor
 ·intro h0
  rcases Nat.lt_or_ge k (v3 v) with h1 | h1
  ·exact h1
  ·have e:v3 v=k:=by omega
   exact absurd (by rw [e]; exact h0) (j0f (r:=v) oM)
 ·exact fun h1=>O9 h1
theorem g0w (v:List Rat)(hl:v.length<1000000000):y3 E 58 [pV v] (vZ (v3 v)):=by
 refine F2 (xs:=[vZ (v3 v)]) Tryz.func58 rfl Tryz.ntmps58 Tryz.results58 sM fun F hG hX0 hnt hdf P0=>?_
 obtain ⟨L,hX,hN⟩:=pro hnt hX0 hG
 have hle:=q0d v
 refine exr (aV L rfl (zn [(0,_)] [] t1 trivial (exr (aV L rfl (zn [(0,_),(3,_)] [] t2 trivial (T1 (X1 ?_)))))))
 refine exl (α:=Nat) (fun k=>[(3,vi (k:Int))]) (fun k=>[]) (fun k=>k≤v3 v) (fun k=>v3 v - k) (0) (sl:=[(0,_)]) (hb:=[]) ?_ ⟨oR,rfl,trivial⟩ t0 ?_
 ·exact Nat.zero_le _
 intro k hk
 refine T1 ?_
 refine exm (sl:=[(14,vb (decide (k<v3 v)))]) (sl0:=[(0,_),(3,_)]) (hb:=[]) (hb0:=[]) t2 t0 ?_ ?_
 ·by_cases h:k<v.length
  ·refine mV L rfl (mV L rfl (sw (X2 un40 L) t1 t0 (sw (Z3 L) t2 t0 (mV L rfl (gV (g:=8) rfl (by simp [h]) L rfl rfl ?_)))))
   refine gV (g:=8) rfl (by simp [h]) L rfl rfl ?_
   refine swg (g:=8) rfl (by simp [h]) (y2 un40 sz47 oM oM sM dC L) rfl t2 t0 ?_
   refine swg (g:=8) rfl (by simp [h]) (Y6 ag47 sz47 (X6 h) rfl L) rfl t1 t0 ?_
   refine swg (g:=8) rfl (by simp [h]) (c_c hG hX cl22 rfl hN (m1y (v.getD k 0)) L) rfl t1 t0 ?_
   refine sw (m4 (by simp [h]) L) t2 t0 ?_
   exact R1 ⟨⟨ob rfl (by rw [decide_eq_decide.2 (n1x hk h)]),rfl,rfl,trivial⟩,trivial⟩
  ·refine mV L rfl (mV L rfl (sw (X2 un40 L) t1 t0 (sw (Z3 L) t2 t0 (mV L rfl (swn (g:=8) rfl sO L rfl (swn (g:=8) rfl sO L rfl (swn (g:=8) rfl sO L rfl (swn (g:=8) rfl sO L rfl (swn (g:=8) rfl sO L rfl (sw (U3 sO L) t2 t0 ?_))))))))))
   exact R1 ⟨⟨ob rfl sO,rfl,rfl,trivial⟩,trivial⟩
 refine D2 rfl (fun hc=>?_) (fun hc=>?_)
 ·have hc:=dt hc
  refine V1 (xq ?_)
  refine X1 (C3 (mV L rfl (sw (I3 L (w64 oM oM)) t2 t0 (aV L rfl (R1 ?_)))))
  exact ⟨k+1,oM,by omega,B3 ⟨oR,rfl,trivial⟩ trivial⟩
 ·have hc:=df hc
  refine K2 (xq ?_)
  refine exr (mV L rfl (aV L rfl (zn [(2,_)] [] t1 trivial (Y1 ?_))))
  refine Q0 (.tmp rfl) ?_
  rw [show k=v3 v by omega]
@[reducible] def pMr (m:List (List Rat)):O2:=.sl m.length (U5 m)
def D0a (row:List Rat)(p:Nat)(s:List (List Rat)×Bool)(q:List Rat):List (List Rat)×Bool :=
 if (!s.2 && decide (p<v3 q))=true then (s.1++[row]++[L6 q row (q.getD p 0)],true) else (s.1++[L6 q row (q.getD p 0)],s.2)
def y1w (row:List Rat)(s:List (List Rat)×Bool):List (List Rat):=if s.2=true then s.1 else s.1++[row]
theorem N0f {row:List Rat}{p:Nat}:∀ (l:List (List Rat)) (o:List (List Rat)),l.foldl (D0a row p) (o,true)=(o++l.map fun z=>L6 z row (z.getD p 0),true)
 | [],o=>by simp
 | q :: l,o=>by
  rw [List.foldl_cons,D0a,if_neg sM,N0f l]; simp
theorem H0k {row:List Rat}{p:Nat}:∀ (l:List (List Rat)) (o:List (List Rat)),y1w row (l.foldl (D0a row p) (o,false))=o++m0r row p l
 | [],o=>by simp [y1w,m0r]
 | q :: l,o=>by
  rw [List.foldl_cons,D0a,m0r]
  by_cases h:p<v3 q
  ·rw [if_pos (by simp [h]),if_pos h,N0f,y1w]; simp
  ·rw [if_neg (by simp [h]),if_neg h]; simp only; rw [H0k l]; simp
theorem p0n {α β:Type}{f:β→α→β}{b:β}{l:List α}{d:α}{k:Nat}(h:k<l.length):(l.take (k+1)).foldl f b=f ((l.take k).foldl f b) (l.getD k d):=by
 rw [J1,List.foldl_append]; simp [f0,h]
theorem Y0w {row:List Rat}{p:Nat}:∀ (l:List (List Rat)) (s:List (List Rat)×Bool),(l.foldl (D0a row p) s).1.length≤s.1.length+2*l.length
 | [],s=>by simp
 | q :: l,s=>by
  have:=Y0w (row:=row) (p:=p) l (D0a row p s q)
  rw [List.foldl_cons,E1]
  have h:(D0a row p s q).1.length≤s.1.length+2:=by
   unfold D0a; split <;> simp
  omega
theorem w0x {rows:List (List Rat)}{row:List Rat}{k:Nat}(h:k<rows.length):s8 (rows.take (k+1)) row=L6 (s8 (rows.take k) row) (rows.getD k []) ((s8 (rows.take k) row).getD (v3 (rows.getD k [])) 0):=by
 rw [s8,p0n (d:=[]) h]; rfl
theorem W0k {c:Nat}:∀ {rows:List (List Rat)} {row:List Rat},(∀ q∈rows,q.length=c)→row.length=c→(s8 rows row).length=c
 | [],_,_,h=>h
 | q :: l,row,hr,h=>by
  rw [s8,List.foldl_cons]
  have h2:(L6 row q (row.getD (v3 q) 0)).length=c:=by rw [F6 (by rw [hr q sM,h])]; exact h
  exact W0k (rows:=l) (fun q hq=>hr q (by simp [hq])) h2
theorem N0r {c:Nat}{rows:List (List Rat)}{row:List Rat}(h:∀ q∈rows,q.length=c)(hr:row.length=c)(k:Nat):(s8 (rows.take k) row).length=c:=W0k (fun q hq=>h q (List.mem_of_mem_take hq)) hr
@[reducible] def q1c (m:List (List Rat)):Blk:=⟨40,1,.pure (U5 m)⟩
theorem V0m (c B C:Nat)(rows:List (List Rat))(row:List Rat)(hl:rows.length<100000000)(hc:c<1000000000)(hq:∀ q∈rows,q.length=c)(hq2:∀ q∈rows,v3 q<c)(hr:row.length=c)(hB:MB B rows)(hC:∀ k,k≤rows.length→∀ a∈s8 (rows.take k) row,qw a≤C)(hb:B<200000000∧C<200000000):y3 E 57 [pMr rows,pV row] (pMr (m0v rows row)):=by
 refine F2 (xs:=[pMr (m0v rows row)]) Tryz.func57 rfl Tryz.ntmps57 Tryz.results57 sM fun F hG hX0 hnt hdf P0=>?_
 obtain ⟨L,hX,hN⟩:=pro hnt hX0 hG
 obtain ⟨hb1,hb2⟩:=hb
 have hlen:=N0r hq hr
 refine exr (aV L rfl (zn [(0,_),(1,_)] [] t2 trivial (T1 (exr (aV L rfl (zn [(0,_),(1,_),(5,_)] [] t3 trivial (X1 ?_)))))))
 refine exl (α:=Nat) (fun k=>[(5,vi (k:Int)),(1,.p (pV (s8 (rows.take k) row)))]) (fun k=>[]) (fun k=>k≤rows.length) (fun k=>rows.length - k) (0) (sl:=[(0,_)]) (hb:=[]) ?_ ⟨oR,oR,rfl,trivial⟩ t0 ?_
 ·exact Nat.zero_le _
 intro k hk
 have hlk:=hlen k
 refine T1 (exr (mV L rfl (mV L rfl (sw (X2 un22 L) t1 t0 (sw (Z3 L) t2 t0 (zn [(0,_),(1,_),(5,_),(14,_)] [] t4 trivial ?_))))))
 refine D2 rfl (fun hc=>?_) (fun hc=>?_)
 ·have hc:=dt hc
  have hk2:k<rows.length:=by omega
  have hqk:=hq _ (gDL hk2)
  have hqk2:=hq2 _ (gDL hk2)
  have hq3:v3 (rows.getD k [])<(s8 (rows.take k) row).length:=by omega
  refine V1 (xq ?_)
  refine T1 (X1 (exr (mV L rfl (mV L rfl (sw (ixJ un22 sz40 (j:=k) rO oM sM L) t2 t0 ?_)))))
  refine sw (s4 ag40 (j7 hk2) L) t1 t0 (cK hG hX cl58 hN (g0w (rows.getD k []) oM) L t1 (aV L rfl (zn [(0,_),(1,_),(5,_),(6,_)] [] t4 trivial (d0d rF ?_))))
  refine mV L rfl (mV L rfl (mV L rfl (sw (ixJ un22 sz40 (j:=k) rO oM sM L) t2 t0 ?_)))
  refine sw (s4 ag40 (j7 hk2) L) t1 t0 (mV L rfl (mV L rfl (sw (y2 un40 sz47 oM oM sM dC L) t2 t0 ?_)))
  refine sw (Y6 ag47 sz47 (X6 hq3) rfl L) t1 t0 (cK hG hX cl103 hN (p0a (s8 (rows.take k) row) (rows.getD k []) ((s8 (rows.take k) row).getD (v3 (rows.getD k [])) 0) C B C oM oM (hC k hk) (hB _ (gDL hk2)) (hC k hk _ (v4 hq3)) ⟨by omega,by omega,by omega⟩) L t3 ?_)
  refine aV L rfl ?_
  refine R1 ⟨i5 [⟨[1],[],[22],[]⟩,⟨[0],[],[23],[]⟩,⟨[5],[],[24],[]⟩,⟨[23,24],[],[25],[]⟩,⟨[25],[],[26],[]⟩,⟨[1],[],[27],[]⟩,⟨[6],[],[28],[]⟩,⟨[27,28],[],[29],[]⟩,⟨[29],[],[30],[]⟩,⟨[22,26,30],[],[31],[]⟩,⟨[31],[],[1],[]⟩] rF rF dC,?_⟩
  refine C3 (mV L rfl (sw (I3 L (w64 oM oM)) t2 t0 (aV L rfl (R1 ?_))))
  exact ⟨k+1,oM,by omega,B3 ⟨oR,ov rfl (by rw [w0x hk2]),rfl,trivial⟩ trivial⟩
 ·have hc:=df hc
  have hkM:k=rows.length:=by omega
  subst hkM
  rw [I0] at hlk ⊢
  have hCC:=hC rows.length (Nat.le_refl _)
  rw [I0] at hCC
  obtain ⟨r1,hr1⟩:∃ r1,r1=s8 rows row:=⟨_,rfl⟩
  rw [← hr1] at hlk hCC ⊢
  have hle:=q0d r1
  refine K2 (xq ?_)
  refine exr (mV L rfl (cK hG hX cl58 hN (g0w r1 oM) L t1 (aV L rfl (zn [(0,_),(1,_),(7,_)] [] t3 trivial (T1 (exr (mV L rfl (mV L rfl (sw (X2 un40 L) t1 t0 (sw (c_e L) t2 t0 (zn [(0,_),(1,_),(7,_),(37,_)] [] t4 trivial ?_)))))))))))
  refine D2 rfl (fun he=>?_) (fun he=>?_)
  ·have he:=dt he
   refine exr (mV L rfl (aV L rfl (zn [(4,_)] [] t1 trivial (Y1 ?_))))
   refine Q0 (.tmp rfl) ?_
   rw [m0v,← hr1,if_pos oM]
  ·have he:=df he
   have hp:v3 r1<r1.length:=by omega
   have hne:=j0f hp
   refine V1 (xq ?_)
   refine exr (mV L rfl (mV L rfl (mV L rfl (sw (y2 un40 sz47 oM oM sM dC L) t2 t0 ?_))))
   refine sw (Y6 ag47 sz47 (X6 hp) rfl L) t1 t0 (cK hG hX cl104 hN (P0g r1 (r1.getD (v3 r1) 0) C oM hCC (hCC _ (v4 hp)) oM hne) L t2 (aV L rfl (zn [(0,_),(1,_),(7,_)] [] t3 trivial ?_)))
   obtain ⟨w,hw⟩:∃ w,w=r1.map (· / r1.getD (v3 r1) 0):=⟨_,rfl⟩
   obtain ⟨p,hp0⟩:∃ p,p=v3 r1:=⟨_,rfl⟩
   have hwl:w.length=c:=by rw [hw,O0]; exact hlk
   have hwB:∀ a∈w,qw a≤2*C:=by
    intro a ha
    rw [hw] at ha
    obtain ⟨z,hz,rfl⟩:=G0.1 ha
    have h1:=h1j (a:=z) hne
    have h2:=hCC _ hz
    have h3:=hCC _ (v4 hp)
    omega
   have hfin:m0v rows row=m0r w p rows:=by rw [m0v,← hr1,if_neg oM,← hw,← hp0]
   rw [← hw,← hp0]
   refine exr (mV L rfl (sw (X2 un22 L) t1 t0 (sw (I3 L (w64 oM oM)) t2 t0 (swb (q0y (k:=48) un22 ti40 rfl rfl rfl rfl (show (0:Int)=((0:Nat):Int) from rfl) (show (rows.length:Int)+1=((rows.length+1:Nat):Int) from rfl) (Nat.zero_le _) (by simp [Tryz.t40]; omega) oM (P0 _ rfl) L) t2 t0 ⟨rfl,rfl⟩ ?_))))
   refine aV L rfl ?_
   refine R1 ⟨[(0,_),(1,_),(7,_),(8,.ref 48 0 0 0)],[(48,q1c [])],t4,t1,?_⟩
   refine exr (aV L rfl (zn [(0,_),(1,_),(7,_),(8,_),(9,_)] [(48,_)] t5 t1 (T1 (exr (aV L rfl (zn [(0,_),(1,_),(7,_),(8,_),(9,_),(10,_)] [(48,_)] t6 t1 (X1 ?_)))))))
   refine exl (α:=(Nat×List (List Rat)×Bool)) (fun x=>[(10,vi (x.1:Int)),(8,.ref 48 0 x.2.1.length x.2.1.length),(9,vb x.2.2)]) (fun x=>[(48,q1c x.2.1)]) (fun x=>x.1≤rows.length∧(rows.take x.1).foldl (D0a w p) ([],false)=x.2) (fun x=>rows.length - x.1) ((0,[],false)) (sl:=[(0,_),(1,_),(7,_)]) (hb:=[]) ?_ ⟨oR,oR,oR,rfl,rfl,rfl,trivial⟩ t1 ?_
   ·exact ⟨Nat.zero_le _,rfl⟩
   intro x hx
   obtain ⟨k,T,b⟩:=x
   obtain ⟨hk,hT⟩:=hx
   simp only at hk hT
   have hTl:T.length≤2*rows.length:=by
    have:=Y0w (row:=w) (p:=p) (rows.take k) ([],false)
    rw [hT,J0] at this
    simp only [List.length_nil] at this; omega
   dsimp only
   refine T1 (exr (mV L rfl (mV L rfl (sw (X2 un22 L) t1 t0 (sw (Z3 L) t2 t0 (zn [(0,_),(1,_),(7,_),(8,_),(9,_),(10,_),(52,_)] [(48,_)] t7 t1 ?_))))))
   refine D2 rfl (fun hc2=>?_) (fun hc2=>?_)
   ·have hc2:=dt hc2
    have hk2:k<rows.length:=by omega
    have hqk:=hq _ (gDL hk2)
    have hpk:p<(rows.getD k []).length:=by omega
    have hst:=p0n (f:=D0a w p) (b:=([],false)) (d:=[]) hk2
    rw [hT] at hst
    refine V1 (xq ?_)
    refine T1 (X1 (T1 ?_))
    refine exm (sl:=[(65,vb (!b && decide (p<v3 (rows.getD k []))))]) (sl0:=[(0,_),(1,_),(7,_),(8,_),(9,_),(10,_)]) (hb:=[]) (hb0:=[(48,_)]) t6 t1 ?_ ?_
    ·by_cases h:b=true
     ·refine mV L rfl (sw (P3 L) t1 t0 (mV L rfl (swn (g:=57) rfl (by rw [h] <;> rfl) L rfl ?_)))
      refine swn (g:=57) rfl (by rw [h] <;> rfl) L rfl ?_
      refine swn (g:=57) rfl (by rw [h] <;> rfl) L rfl ?_
      refine swn (g:=57) rfl (by rw [h] <;> rfl) L rfl ?_
      refine swn (g:=57) rfl (by rw [h] <;> rfl) L rfl ?_
      refine swn (g:=57) rfl (by rw [h] <;> rfl) L rfl ?_
      refine swn (g:=57) rfl (by rw [h] <;> rfl) L rfl ?_
      refine sw (U3 (by rw [h] <;> rfl) L) t2 t0 ?_
      exact R1 ⟨⟨ob rfl (by rw [h] <;> rfl),rfl,rfl,rfl,rfl,rfl,rfl,trivial⟩,t1⟩
     ·refine mV L rfl (sw (P3 L) t1 t0 (mV L rfl (gV (g:=57) rfl (by simp [h]) L rfl rfl ?_)))
      refine gV (g:=57) rfl (by simp [h]) L rfl rfl ?_
      refine swg (g:=57) rfl (by simp [h]) (ixJ un22 sz40 (j:=k) rO oM sM L) rfl t2 t0 ?_
      refine swg (g:=57) rfl (by simp [h]) (s4 ag40 (j7 hk2) L) rfl t1 t0 ?_
      refine swg (g:=57) rfl (by simp [h]) (c_c hG hX cl58 rfl hN (g0w (rows.getD k []) oM) L) rfl t1 t0 ?_
      refine gV (g:=57) rfl (by simp [h]) L rfl rfl ?_
      refine swg (g:=57) rfl (by simp [h]) (b7 L) rfl t2 t0 ?_
      refine sw (m4 (by simp [h]) L) t2 t0 ?_
      exact R1 ⟨⟨ob rfl (by simp [h]),rfl,rfl,rfl,rfl,rfl,rfl,trivial⟩,t1⟩
    refine D2 rfl (fun hz=>?_) (fun hz=>?_)
    ·rw [D0a,if_pos hz] at hst
     refine exr (mV L rfl (mV L rfl (sw (E4 (vs:=[_]) un22 ti40 rfl rfl dC dC rfl (M2 (.cons rfl .nil) rfl) rfl (.cons rfl .sl rfl pu1 .nil) (.cons .nil) L) t1 t0 (swb (apP (sz:=1) un22 un22 ti40 rfl rfl rfl dC (by exact (m6 _)) oF sM rfl rfl rfl (by first | (simp [Tryz.t40]; done) | (simp [Tryz.t40]; omega)) oM (P0 _ rfl) L) t2 t1 t0 ?_))))
     refine aV L rfl (zn [(0,_),(1,_),(7,_),(8,_),(10,_)] [(48,_)] t5 t1 (C3 (aV L rfl (R1 (d0d rF ?_)))))
     refine mV L rfl (mV L rfl (mV L rfl (sw (ixJ un22 sz40 (j:=k) rO oM sM L) t2 t0 ?_)))
     refine sw (s4 ag40 (j7 hk2) L) t1 t0 (mV L rfl (mV L rfl (mV L rfl (sw (ixJ un22 sz40 (j:=k) rO oM sM L) t2 t0 ?_))))
     refine sw (s4 ag40 (j7 hk2) L) t1 t0 (mV L rfl (sw (y2 un40 sz47 oM oM sM dC L) t2 t0 ?_))
     refine sw (Y6 ag47 sz47 (X6 hpk) rfl L) t1 t0 (cK hG hX cl103 hN (p0a (rows.getD k []) w ((rows.getD k []).getD p 0) B (2*C) B oM oM (hB _ (gDL hk2)) hwB (hB _ (gDL hk2) _ (v4 hpk)) ⟨by omega,by omega,by omega⟩) L t3 ?_)
     refine sw (E4 (vs:=[_]) un22 ti40 rfl rfl dC dC rfl (M2 (.cons rfl .nil) rfl) rfl (.cons rfl .sl rfl pu1 .nil) (.cons .nil) L) t1 t0 (swb (apP (sz:=1) un22 un22 ti40 rfl rfl rfl dC (by exact sM) oF sM rfl rfl rfl (by first | (simp [Tryz.t40]; done) | (simp [Tryz.t40]; omega)) oM (P0 _ rfl) L) t2 t1 t0 ?_)
     refine aV L rfl ?_
     refine R1 ⟨i5 [⟨[8],[],[70],[]⟩,⟨[0],[],[71],[]⟩,⟨[10],[],[72],[]⟩,⟨[71,72],[],[73],[]⟩,⟨[73],[],[74],[]⟩,⟨[1],[],[75],[]⟩,⟨[0],[],[76],[]⟩,⟨[10],[],[77],[]⟩,⟨[76,77],[],[78],[]⟩,⟨[78],[],[79],[]⟩,⟨[7],[],[80],[]⟩,⟨[79,80],[],[81],[]⟩,⟨[81],[],[82],[]⟩,⟨[74,75,82],[],[83],[]⟩,⟨[83],[],[84],[]⟩,⟨[70,84],[48],[85],[48]⟩,⟨[85],[],[8],[]⟩] rF rF dC,?_⟩
     refine C3 (mV L rfl (sw (I3 L (w64 oM oM)) t2 t0 (aV L rfl (R1 ?_))))
     exact ⟨(k+1,T++[w]++[L6 (rows.getD k []) w ((rows.getD k []).getD p 0)],true),⟨by simp only; omega,hst⟩,(by simp only; omega),B3 ⟨oR,ov rfl sM,oR,rfl,rfl,rfl,trivial⟩ ⟨obl rfl (by simp only [q1c,g0b]; rfl),trivial⟩⟩
    ·rw [D0a,if_neg (by rw [hz]; decide)] at hst
     refine V1 (xq ?_)
     refine d0d rF ?_
     refine mV L rfl (mV L rfl (mV L rfl (sw (ixJ un22 sz40 (j:=k) rO oM sM L) t2 t0 ?_)))
     refine sw (s4 ag40 (j7 hk2) L) t1 t0 (mV L rfl (mV L rfl (mV L rfl (sw (ixJ un22 sz40 (j:=k) rO oM sM L) t2 t0 ?_))))
     refine sw (s4 ag40 (j7 hk2) L) t1 t0 (mV L rfl (sw (y2 un40 sz47 oM oM sM dC L) t2 t0 ?_))
     refine sw (Y6 ag47 sz47 (X6 hpk) rfl L) t1 t0 (cK hG hX cl103 hN (p0a (rows.getD k []) w ((rows.getD k []).getD p 0) B (2*C) B oM oM (hB _ (gDL hk2)) hwB (hB _ (gDL hk2) _ (v4 hpk)) ⟨by omega,by omega,by omega⟩) L t3 ?_)
     refine sw (E4 (vs:=[_]) un22 ti40 rfl rfl dC dC rfl (M2 (.cons rfl .nil) rfl) rfl (.cons rfl .sl rfl pu1 .nil) (.cons .nil) L) t1 t0 (swb (apP (sz:=1) un22 un22 ti40 rfl rfl rfl dC (by exact (m6 _)) oF sM rfl rfl rfl (by first | (simp [Tryz.t40]; done) | (simp [Tryz.t40]; omega)) oM (P0 _ rfl) L) t2 t1 t0 ?_)
     refine aV L rfl ?_
     refine R1 ⟨i5 [⟨[8],[],[70],[]⟩,⟨[0],[],[71],[]⟩,⟨[10],[],[72],[]⟩,⟨[71,72],[],[73],[]⟩,⟨[73],[],[74],[]⟩,⟨[1],[],[75],[]⟩,⟨[0],[],[76],[]⟩,⟨[10],[],[77],[]⟩,⟨[76,77],[],[78],[]⟩,⟨[78],[],[79],[]⟩,⟨[7],[],[80],[]⟩,⟨[79,80],[],[81],[]⟩,⟨[81],[],[82],[]⟩,⟨[74,75,82],[],[83],[]⟩,⟨[83],[],[84],[]⟩,⟨[70,84],[48],[85],[48]⟩,⟨[85],[],[8],[]⟩] rF rF dC,?_⟩
     refine C3 (mV L rfl (sw (I3 L (w64 oM oM)) t2 t0 (aV L rfl (R1 ?_))))
     exact ⟨(k+1,T++[L6 (rows.getD k []) w ((rows.getD k []).getD p 0)],b),⟨by simp only; omega,hst⟩,(by simp only; omega),B3 ⟨oR,ov rfl sM,oR,rfl,rfl,rfl,trivial⟩ ⟨obl rfl (by simp only [q1c,g0b]; rfl),trivial⟩⟩
   ·have hc2:=df hc2
    have hkM:k=rows.length:=by omega
    subst hkM
    have hfin2:=H0k (row:=w) (p:=p) rows []
    rw [I0] at hT
    rw [hT,List.nil_append,← hfin] at hfin2
    refine K2 (xq ?_)
    refine T1 (exr (mV L rfl (sw (P3 L) t1 t0 (zn [(1,_),(8,_),(87,_)] [(48,_)] t3 t1 ?_))))
    refine D2 rfl (fun hn=>?_) (fun hn=>?_)
    ·have hn:b=false:=by simpa using hn
     subst hn
     refine C3 (mV L rfl (mV L rfl (sw (E4 (vs:=[_]) un22 ti40 rfl rfl dC dC rfl (M2 (.cons rfl .nil) rfl) rfl (.cons rfl .sl rfl pu1 .nil) (.cons .nil) L) t1 t0 (swb (apP (sz:=1) un22 un22 ti40 rfl rfl rfl dC (by exact (m6 _)) oF sM rfl rfl rfl (by first | (simp [Tryz.t40]; done) | (simp [Tryz.t40]; omega)) oM (P0 _ rfl) L) t2 t1 t0 ?_))))
     refine aV L rfl (R1 (G4 [48] (sl:=[(8,_)]) (hb:=[]) (M3 hX0) ⟨⟨_,rfl,(.ref rfl rfl (by exact sM) (by first | rfl | omega))⟩,trivial⟩ t0 ?_))
     refine exr (mV L rfl (aV L rfl (zn [(4,_)] [] t1 trivial (Y1 ?_))))
     refine Q0 (.tmp rfl) ?_
     rw [← hfin2,y1w,if_neg Bool.false_ne_true]; simp [U5]
    ·have hn:b=true:=by simpa using hn
     subst hn
     refine V1 (xq ?_)
     refine G4 [48] (sl:=[(8,_)]) (hb:=[]) (M3 hX0) ⟨⟨_,rfl,(.ref rfl rfl (by exact (m6 _)) (by first | rfl | omega))⟩,trivial⟩ t0 ?_
     refine exr (mV L rfl (aV L rfl (zn [(4,_)] [] t1 trivial (Y1 ?_))))
     refine Q0 (.tmp rfl) ?_
     rw [← hfin2,y1w,if_pos rfl]
theorem d1s {row:List Rat}{p:Nat}:∀ l:List (List Rat),(m0r row p l).length=l.length+1
 | []=>rfl
 | q :: l=>by
  simp only [m0r]; split
  ·simp
  ·rw [E1,d1s l,E1]
theorem H1a (rows:List (List Rat))(row:List Rat):(m0v rows row).length≤rows.length+1:=by
 unfold m0v; split
 ·omega
 ·rw [d1s]; omega
theorem b1x:∀ (m rows:List (List Rat)),(m.foldl m0v rows).length≤rows.length+m.length
 | [],rows=>by simp
 | r :: m,rows=>by
  rw [List.foldl_cons,E1]
  have h1:=H1a rows r
  have h2:=b1x m (m0v rows r)
  omega
theorem n0m (m:List (List Rat)):(B4 m).length≤m.length:=by
 have:=b1x m []
 simpa [B4] using this
theorem Y0s {M:List (List Rat)}{k:Nat}(h:k<M.length):B4 (M.take (k+1))=m0v (B4 (M.take k)) (M.getD k []):=by
 rw [B4,p0n (d:=[]) h]; rfl
structure RE (c B C:Nat) (M:List (List Rat)):Prop where
 len:∀ r∈M,r.length=c
 rl:M.length<1000000
 cl:c<1000000
 bd:∀ i,i≤M.length→MB B (B4 (M.take i))
 rd:∀ i,i<M.length→∀ k,∀ a∈s8 ((B4 (M.take i)).take k) (M.getD i []),qw a≤C
 hb:B<200000000∧C<200000000
theorem RE.rows {c B C:Nat}{M:List (List Rat)}(h:RE c B C M)(k:Nat):(∀ q∈B4 (M.take k),q.length=c)∧∀ q∈B4 (M.take k),v3 q<c:=by
 have h1:=(J8 (c:=c) (m:=M.take k) fun r hr=>h.len r (List.mem_of_mem_take hr)).1
 exact ⟨fun q hq=>h1.len (v3 q,q) (n6.2 ⟨hq,rfl⟩),fun q hq=>h1.lt (v3 q,q) (n6.2 ⟨hq,rfl⟩)⟩
@[reducible] def k1q (l:List Nat):Blk:=⟨3,1,.pure (V6 l)⟩
theorem d2m (l:List Nat)(n:Nat):(⟨3,1,.pure (V6 l++[vZ n])⟩:Blk)=k1q (l++[n]):=by simp [k1q,V6]
theorem p1k {m:List (List Rat)}{k:Nat}(h:k<m.length):(m.map v3).take (k+1)=(m.map v3).take k++[v3 (m.getD k [])]:=by
 rw [J1]; simp [f0,h]
theorem J0y (c B C:Nat)(M:List (List Rat))(h:RE c B C M):y3 E 16 [pMq c M] (.tup [pMq c (B4 M),pIs ((B4 M).map v3)]):=by
 refine F2 (xs:=[pMq c (B4 M),pIs ((B4 M).map v3)]) Tryz.func16 rfl Tryz.ntmps16 Tryz.results16 sM fun F hG hX0 hnt hdf P0=>?_
 obtain ⟨L,hX,hN⟩:=pro hnt hX0 hG
 have hrl:=h.rl
 have hcl:=h.cl
 have hb:=h.hb
 refine exr (swb (X3 (k:=1) (n:=2) pa2 rfl rfl (P0 _ rfl) L) t1 t0 ⟨rfl,rfl⟩ (swb (Y3 (k:=2) (n:=2) zv24 (.cons rfl (.cons rfl .nil)) rfl (P0 _ rfl) L) t0 t0 ⟨rfl,rfl⟩ (aV L rfl (zn [(1,_),(2,_)] [(1,_),(2,_)] t2 t2 (exr (sw (j2 un24 rfl sz3 dC rX L) t1 t1 ?_))))))
 refine sw (Z1 ag3 rF rF L) t1 t1 ?_
 refine sw (b0s (L7 (vs:=[_]) un24 zv24 (.cons rfl (.cons rfl .nil)) ((L2.cons sz3 (L2.cons sz22 L2.nil))).to rfl (.cons rfl (.atom rfl) rfl pu1 .nil) (.cons (.cons .nil)) L) (.agg (.cons .same (.cons .nil .nil)))) t1 t0 (swb (Y3 (k:=4) (n:=2) zv24 (.cons rfl (.cons rfl .nil)) rfl (P0 _ rfl) L) t0 t0 ⟨rfl,rfl⟩ (sb (Z2 sz24 rF pa2 rfl pu2) t2 t1 ?_))
 refine zn [(1,_),(2,_),(4,_)] [(1,_),(2,_),(4,_)] t3 t3 (T1 (exr (aV L rfl (zn [(1,_),(2,_),(4,_),(5,_)] [(1,_),(2,_),(4,_)] t4 t3 (X1 ?_)))))
 refine exl (α:=Nat) (fun k=>[(5,vi (k:Int))]) (fun k=>[(4,⟨24,2,.mix [.p (vZ c),.p (pMr (B4 (M.take k)))]⟩)]) (fun k=>k≤M.length) (fun k=>M.length - k) (0) (sl:=[(1,_),(2,_),(4,_)]) (hb:=[(1,_),(2,_)]) ?_ ⟨oR,rfl,rfl,rfl,trivial⟩ t3 ?_
 ·exact Nat.zero_le _
 intro k hk
 have hle:=n0m (M.take k)
 rw [J0] at hle
 refine T1 (exr (mV L rfl (sw (j2 un24 rfl sz22 dC rX L) t1 t1 ?_)))
 refine sw (Z1 ag22 rF rF L) t1 t1 ?_
 refine sw (X2 un22 L) t1 t0 (sw (Z3 L) t2 t0 (zn [(1,_),(2,_),(4,_),(5,_),(15,_)] [(1,_),(2,_),(4,_)] t5 t3 ?_))
 refine D2 rfl (fun hc=>?_) (fun hc=>?_)
 ·have hc:=dt hc
  have hk2:k<M.length:=by omega
  have hr:=h.rows k
  refine V1 (xq ?_)
  refine T1 (X1 (d0d rF ?_))
  refine sw (j2 un24 rfl sz22 dC rX L) t1 t1 ?_
  refine sw (Z1 ag22 rF rF L) t1 t1 ?_
  refine sw (j2 un24 rfl sz22 dC rX L) t1 t1 ?_
  refine sw (Z1 ag22 rF rF L) t1 t1 ?_
  refine mV L rfl (sw (ixJ un22 sz40 (j:=k) rO oM sM L) t2 t0 ?_)
  refine sw (s4 ag40 (j7 hk2) L) t1 t0 (cK hG hX cl57 hN (V0m c B C (B4 (M.take k)) (M.getD k []) oM oM hr.1 hr.2 (h.len _ (gDL hk2)) (h.bd k hk) (fun j _=>h.rd k hk2 j) hb) L t2 ?_)
  refine sw (j2 un24 rfl sz22 dC rX L) t1 t1 ?_
  refine sb (Z2 sz22 rF .sl rfl (.skip pu1)) t2 t1 ?_
  refine R1 ⟨i5 [⟨[4],[4],[18],[]⟩,⟨[18],[4],[19],[]⟩,⟨[1],[1],[20],[]⟩,⟨[20],[1],[21],[]⟩,⟨[5],[],[22],[]⟩,⟨[21,22],[],[23],[]⟩,⟨[23],[],[24],[]⟩,⟨[19,24],[],[25],[]⟩,⟨[4],[4],[26],[]⟩,⟨[26,25],[4],[],[4]⟩] rF rF dC,?_⟩
  refine C3 (mV L rfl (sw (I3 L (w64 oM oM)) t2 t0 (aV L rfl (R1 ?_))))
  exact ⟨k+1,oM,by omega,B3 ⟨oR,rfl,rfl,rfl,trivial⟩ ⟨obl rfl (by rw [Y0s hk2]),rfl,rfl,trivial⟩⟩
 ·have hc:=df hc
  have hkM:k=M.length:=by omega
  subst hkM
  rw [I0]
  have hr:=h.rows M.length
  rw [I0] at hr hle
  obtain ⟨m,hm⟩:∃ m,m=B4 M:=⟨_,rfl⟩
  rw [← hm] at hr hle ⊢
  refine K2 (xq ?_)
  refine exr (sw (j2 un24 rfl sz22 dC rX L) t1 t1 ?_)
  refine sw (Z1 ag22 rF rF L) t1 t1 ?_
  refine sw (X2 un22 L) t1 t0 (swb (q0y (k:=30) un27 ti3 rfl rfl rfl rfl (show (0:Int)=((0:Nat):Int) from rfl) rfl (Nat.zero_le _) (by simp [Tryz.t3]; omega) oM (P0 _ rfl) L) t2 t0 ⟨rfl,rfl⟩ ?_)
  refine aV L rfl ?_
  refine R1 ⟨[(2,_),(4,_),(6,.ref 30 0 0 0)],[(2,_),(4,_),(30,k1q [])],t3,t3,?_⟩
  refine T1 (exr (aV L rfl (zn [(2,_),(4,_),(6,_),(7,_)] [(2,_),(4,_),(30,_)] t4 t3 (X1 ?_))))
  refine exl (α:=Nat) (fun k=>[(7,vi (k:Int)),(6,.ref 30 0 k k)]) (fun k=>[(30,k1q ((m.map v3).take k))]) (fun k=>k≤m.length) (fun k=>m.length - k) (0) (sl:=[(2,_),(4,_)]) (hb:=[(2,_),(4,_)]) ?_ ⟨oR,oR,rfl,rfl,trivial⟩ t3 ?_
  ·exact Nat.zero_le _
  intro k hk
  refine T1 (exr (mV L rfl (sw (j2 un24 rfl sz22 dC rX L) t1 t1 ?_)))
  refine sw (Z1 ag22 rF rF L) t1 t1 ?_
  refine sw (X2 un22 L) t1 t0 (sw (Z3 L) t2 t0 (zn [(2,_),(4,_),(6,_),(7,_),(35,_)] [(2,_),(4,_),(30,_)] t5 t3 ?_))
  refine D2 rfl (fun hc=>?_) (fun hc=>?_)
  ·have hc:=dt hc
   have hk2:k<m.length:=by omega
   have hq1:=hr.1 _ (gDL hk2)
   refine V1 (xq ?_)
   refine T1 (X1 (C3 (mV L rfl (sw (j2 un24 rfl sz22 dC rX L) t1 t1 ?_))))
   refine sw (Z1 ag22 rF rF L) t1 t1 ?_
   refine mV L rfl (sw (ixJ un22 sz40 (j:=k) rO oM sM L) t2 t0 ?_)
   refine sw (s4 ag40 (j7 hk2) L) t1 t0 (cK hG hX cl58 hN (g0w (m.getD k []) oM) L t1 (sw (E4 (vs:=[_]) un27 ti3 rfl rfl dC dC rfl (M2 (.cons rfl .nil) rfl) rfl (.cons rfl (.atom rfl) rfl pu1 .nil) (.cons .nil) L) t1 t0 (swb (apP (sz:=1) un27 un27 ti3 rfl rfl rfl dC (by exact (by first | (simp; done) | (simp; omega))) oF sM rfl rfl rfl (by first | (simp [Tryz.t3]; done) | (simp [Tryz.t3]; omega)) oM (P0 _ rfl) L) t2 t1 t0 ?_)))
   refine aV L rfl (R1 (C3 (mV L rfl (sw (I3 L (w64 oM oM)) t2 t0 (aV L rfl (R1 ?_))))))
   exact ⟨k+1,oM,by omega,B3 ⟨oR,oR,rfl,rfl,trivial⟩ ⟨obl rfl ((d2m _ _).trans (by rw [p1k hk2])),rfl,rfl,trivial⟩⟩
  ·have hc:=df hc
   have hkm:k=m.length:=by omega
   rw [C0 sO,hkm]
   refine K2 (xq ?_)
   refine G4 [30] (sl:=[(2,_),(4,_),(6,_)]) (hb:=[(2,_),(4,_)]) (M3 hX0) ⟨⟨_,rfl,.same⟩,⟨_,rfl,.same⟩,⟨_,rfl,(.ref rfl rfl (by exact (by first | (simp; done) | (simp; omega))) (by first | rfl | omega))⟩,trivial⟩ ⟨⟨rfl,_,rfl,.same⟩,⟨rfl,_,rfl,.same⟩,trivial⟩ ?_
   refine exr (lp2 ag24 sz24 L rfl rfl (mV L rfl (sb (Z2 sz24 rF pa2 rfl pu2) t2 t1 ?_)))
   refine aV L rfl (zn [(2,_),(3,_)] [(2,_)] t2 t1 (Y1 ?_))
   refine Y0 (.agg rfl rfl rfl ag24 sz24 (.cons (.cons .nil))) (.tmp rfl) ?_
   simp
theorem K0k {l:List Nat}{n k:Nat}(h:k<l.length):(l.take (k+1)).contains n=((l.take k).contains n || decide (l.getD k 0=n)):=by
 rw [J1,show l[k]?.toList=[l.getD k 0] by simp [f0,h],Bool.eq_iff_iff]
 simp only [List.contains_iff_mem,List.mem_append,List.mem_singleton,Bool.or_eq_true,decide_eq_true_eq]
 exact or_congr Iff.rfl eq_comm
theorem W0w {l:List Nat}{k:Nat}(h:k<l.length):(V6 l)[k]? = some (vZ (l.getD k 0)):=by simp [V6,f0,h]
theorem P0c (l:List Nat)(n:Nat)(hl:l.length<1000000000):y3 E 59 [pIs l,vZ n] (bZ (l.contains n)):=by
 refine F2 (xs:=[bZ (l.contains n)]) Tryz.func59 rfl Tryz.ntmps59 Tryz.results59 sM fun F hG hX0 hnt hdf P0=>?_
 obtain ⟨L,hX,hN⟩:=pro hnt hX0 hG
 refine exr (aV L rfl (zn [(0,_),(1,_)] [] t2 trivial (T1 (exr (aV L rfl (zn [(0,_),(1,_),(5,_)] [] t3 trivial (X1 ?_)))))))
 refine exl (α:=Nat) (fun k=>[(5,vi (k:Int))]) (fun k=>[]) (fun k=>k≤l.length∧(l.take k).contains n=false) (fun k=>l.length - k) (0) (sl:=[(0,_),(1,_)]) (hb:=[]) ?_ ⟨oR,rfl,rfl,trivial⟩ t0 ?_
 ·exact ⟨Nat.zero_le _,by simp⟩
 intro k hk
 obtain ⟨hk,hw⟩:=hk
 refine T1 (exr (mV L rfl (mV L rfl (sw (X2 un27 L) t1 t0 (sw (Z3 L) t2 t0 (zn [(0,_),(1,_),(5,_),(9,_)] [] t4 trivial ?_))))))
 refine D2 rfl (fun hc=>?_) (fun hc=>?_)
 ·have hc:=dt hc
  have hk2:k<l.length:=by omega
  have hst:=K0k (n:=n) hk2
  rw [hw,Bool.false_or] at hst
  refine V1 (xq ?_)
  refine T1 (X1 (exr (mV L rfl (mV L rfl (sw (ixJ un27 sz3 (j:=k) rO oM sM L) t2 t0 ?_)))))
  refine sw (s4 ag3 (W0w hk2) L) t1 t0 (mV L rfl (sw (c_e L) t2 t0 (zn [(0,_),(1,_),(5,_),(17,_)] [] t4 trivial ?_)))
  refine D2 rfl (fun he=>?_) (fun he=>?_)
  ·have he:=dt he
   have he2:l.getD k 0=n:=by omega
   refine exr (aV L rfl (zn [(4,_)] [] t1 trivial (Y1 ?_)))
   refine Q0 (.tmp rfl) ?_
   rw [List.contains_iff_mem.2 (by rw [← he2]; exact f6 hk2)]
  ·have he:=df he
   have he2:¬ l.getD k 0=n:=by omega
   rw [decide_eq_false he2] at hst
   refine V1 (xq ?_)
   refine C3 (mV L rfl (sw (I3 L (w64 oM oM)) t2 t0 (aV L rfl (R1 ?_))))
   exact ⟨k+1,⟨by omega,hst⟩,by omega,B3 ⟨oR,rfl,rfl,trivial⟩ trivial⟩
 ·have hc:=df hc
  rw [C0 oM] at hw
  refine K2 (xq ?_)
  refine exr (aV L rfl (zn [(4,_)] [] t1 trivial (Y1 ?_)))
  refine Q0 (.tmp rfl) ?_
  rw [hw]
theorem P1b (n:Nat):zq n=zsQ n:=rfl
@[simp] theorem q7 (M:List (List Rat))(b:List Rat):(J5 M b).length=M.length:=by simp [J5]
theorem J1b {M:List (List Rat)}{b:List Rat}{k:Nat}(h:k<M.length):(J5 M b).getD k []=M.getD k []++[b.getD k 0]:=by
 simp [J5,f0,h]
theorem N0g {M:List (List Rat)}{b:List Rat}{k:Nat}(h:k<M.length):(J5 M b).take (k+1)=(J5 M b).take k++[M.getD k []++[b.getD k 0]]:=by
 have h2:k<(J5 M b).length:=by rw [q7]; exact h
 rw [J1,show (J5 M b)[k]?.toList=[(J5 M b).getD k []] by simp [f0,h],J1b h]
theorem N1z (n:Nat)(T:List (List Rat))(v:List Rat)(a:Rat)(h:v.length+1=n):(⟨40,1,.pure (U5 T++[.sl n (X5 v++cQ a)])⟩:Blk)=q1c (T++[v++[a]]):=by subst h; rw [q1c,g0b]; simp [U5,q0a,X5]
def G0v (c:Nat)(M:List (List Rat))(b:List Rat):Bool:=!((B4 (J5 M b)).map v3).contains c
theorem f1r (c B C:Nat)(M:List (List Rat))(b:List Rat)(hr:∀ r∈M,r.length=c)(hb:b.length=M.length)(h:RE (c+1) B C (J5 M b)):y3 E 28 [pMq c M,pV b] (.tup [pV (if G0v c M b=true then K7 c M b else []),bZ (G0v c M b)]):=by
 refine F2 (xs:=[pV (if G0v c M b=true then K7 c M b else []),bZ (G0v c M b)]) Tryz.func28 rfl Tryz.ntmps28 Tryz.results28 sM fun F hG hX0 hnt hdf P0=>?_
 obtain ⟨L,hX,hN⟩:=pro hnt hX0 hG
 have hrl:=h.rl
 have hcl:=h.cl
 rw [q7] at hrl
 have hB:=h.hb
 have hr2:=h.rows (J5 M b).length
 have hBm:=h.bd (J5 M b).length (Nat.le_refl _)
 have hle:=n0m (J5 M b)
 rw [q7] at hle
 rw [I0] at hr2 hBm
 have hE:=J0y (c+1) B C (J5 M b) h
 refine exr (swb (X3 (k:=2) (n:=2) pa2 rfl rfl (P0 _ rfl) L) t1 t0 ⟨rfl,rfl⟩ (aV L rfl (aV L rfl (zn [(1,_),(2,_)] [(2,_)] t2 t1 (exr (sw (j2 un24 rfl sz3 dC rX L) t1 t1 ?_))))))
 refine sw (Z1 ag3 rF rF L) t1 t1 ?_
 refine sw (I3 L (w64 oM oM)) t2 t0 (sw (L7 (vs:=[_]) un24 zv24 (.cons rfl (.cons rfl .nil)) ((L2.cons sz3 (L2.cons sz22 L2.nil))).to rfl (.cons rfl (.atom rfl) rfl pu1 .nil) (.cons (.cons .nil)) L) t1 t0 (swb (Y3 (k:=6) (n:=2) zv24 (.cons rfl (.cons rfl .nil)) rfl (P0 _ rfl) L) t0 t0 ⟨rfl,rfl⟩ (sb (Z2 sz24 rF pa2 rfl pu2) t2 t1 ?_)))
 refine zn [(1,_),(2,_),(6,_)] [(2,_),(6,_)] t3 t2 (T1 (exr (aV L rfl (zn [(1,_),(2,_),(6,_),(7,_)] [(2,_),(6,_)] t4 t2 (X1 ?_)))))
 refine exl (α:=(Nat×List (List Rat))) (fun x=>[(7,vi (x.1:Int))]) (fun x=>[(6,⟨24,2,.mix [.p (vZ (c+1:Nat)),P0y 43 x.2]⟩)]++Q0a 43 x.2) (fun x=>x.1≤M.length∧(J5 M b).take x.1=x.2) (fun x=>M.length - x.1) ((0,[])) (sl:=[(1,_),(2,_),(6,_)]) (hb:=[(2,_)]) ?_ ⟨oR,rfl,rfl,rfl,trivial⟩ (hbI (l':=[(6,_),(2,_)]) rfl t2) ?_
 ·exact ⟨Nat.zero_le _,rfl⟩
 intro x hx
 obtain ⟨k,T⟩:=x
 obtain ⟨hk,hT⟩:=hx
 simp only at hk hT
 rcases T with _ | ⟨q,T⟩
 ·dsimp only [P0y,Q0a,List.append_nil]
  refine T1 (exr (mV L rfl (sw (j2 un24 rfl sz22 dC rX L) t1 t1 ?_)))
  refine sw (Z1 ag22 rF rF L) t1 t1 ?_
  refine sw (X2 un22 L) t1 t0 (sw (Z3 L) t2 t0 (zn [(1,_),(2,_),(6,_),(7,_),(22,_)] [(2,_),(6,_)] t5 t2 ?_))
  refine D2 rfl (fun hc=>?_) (fun hc=>?_)
  ·have hc:=dt hc
   have hk2:k<M.length:=by omega
   have hk3:k<b.length:=by omega
   have ht:=N0g (b:=b) hk2
   rw [hT] at ht
   have hlen:=hr _ (gDL hk2)
   have hld:=j7 hk2
   obtain ⟨r,hr0⟩:∃ r,r=M.getD k []:=⟨_,rfl⟩
   rw [← hr0] at hlen ht hld
   refine V1 (xq ?_)
   refine T1 (X1 (exr (swb (g0c (k:=25) (sz:=4) un40 ti47 (P0 _ rfl) L) t0 t0 ⟨rfl,rfl⟩ (sw (j2 un24 rfl sz22 dC rX L) t1 t1 ?_))))
   refine sw (Z1 ag22 rF rF L) t1 t1 ?_
   refine mV L rfl (sw (ixJ un22 sz40 (j:=k) rO oM sM L) t2 t0 ?_)
   refine sw (s4 ag40 hld L) t1 t0 (swb (apP (sz:=4) un40 un40 ti47 rfl rfl rfl dC rX oF sM rfl rfl rfl (by first | (simp [Tryz.t47]; done) | (simp [Tryz.t47]; omega)) oM (P0 _ rfl) L) t2 t1 t0 ?_)
   refine aV L rfl ?_
   refine R1 ⟨[(1,_),(2,_),(6,_),(7,_),(8,.ref 25 0 r.length (r.length*4))],[(2,_),(6,_),(25,j4 r)],⟨rfl,rfl,rfl,rfl,ov rfl sM,trivial⟩,t3,?_⟩
   refine exr (mV L rfl (mV L rfl (mV L rfl (sw (y2 un40 sz47 oM oM sM dC L) t2 t0 ?_))))
   refine sw (Y6 ag47 sz47 (X6 hk3) rfl L) t1 t0 (sw (E4 (vs:=[_]) un40 ti47 rfl rfl dC dC rfl (M2 (.cons rfl (.cons rfl (.cons rfl (.cons rfl .nil)))) rfl) rfl (.cons rfl pa4 rfl pu4 .nil) (.cons (.cons (.cons (.cons .nil)))) L) t1 t0 (swb (apP (sz:=4) un40 un40 ti47 rfl rfl rfl dC (by exact sM) oF sM rfl rfl rfl (by first | (simp [Tryz.t47]; done) | (simp [Tryz.t47]; omega)) oM (P0 _ rfl) L) t2 t1 t0 ?_))
   refine aV L rfl (zn [(1,_),(2,_),(6,_),(7,_),(8,_)] [(2,_),(6,_),(25,_)] t5 t3 (G4 [25] (sl:=[(1,_),(2,_),(6,_),(7,_),(8,_)]) (hb:=[(2,_),(6,_)]) (M3 hX0) ⟨⟨_,rfl,.same⟩,⟨_,rfl,.same⟩,⟨_,rfl,.same⟩,⟨_,rfl,.same⟩,⟨_,rfl,(.ref rfl rfl (by exact sM) (by first | rfl | omega))⟩,trivial⟩ ⟨⟨rfl,_,rfl,.same⟩,⟨rfl,_,rfl,.same⟩,trivial⟩ ?_))
   refine C3 (sw (j2 un24 rfl sz22 dC rX L) t1 t1 ?_)
   refine sw (Z1 ag22 rF rF L) t1 t1 ?_
   refine mV L rfl (sw (E4 (vs:=[_]) un22 ti40 rfl rfl dC dC rfl (M2 (.cons rfl .nil) rfl) rfl (.cons rfl .sl rfl pu1 .nil) (.cons .nil) L) t1 t0 (swb (apN (k:=43) (sz:=1) un22 un22 ti40 rfl rfl rfl dC sM rfl (by first | (simp [Tryz.t40]; done) | (simp [Tryz.t40]; omega)) oM (P0 _ rfl) L) t2 t0 ⟨rfl,rfl⟩ ?_))
   refine sw (j2 un24 rfl sz22 dC rX L) t1 t1 ?_
   refine sb (Z2 sz22 rF .ref rfl (.skip pu1)) t2 t1 ?_
   refine R1 (C3 (mV L rfl (sw (I3 L (w64 oM oM)) t2 t0 (aV L rfl (R1 ?_)))))
   exact ⟨(k+1,[r++[b.getD k 0]]),⟨by simp only; omega,ht⟩,(by simp only; omega),B3 ⟨oR,rfl,rfl,rfl,trivial⟩ (hbI (l':=[(6,_),(43,_),(2,_)]) rfl ⟨rfl,obl rfl (N1z _ [] _ _ rfl),rfl,trivial⟩)⟩
  ·have hc:=df hc
   have hkM:k=M.length:=by omega
   rw [C0 (by rw [q7]; omega)] at hT
   rw [hT] at hE hr2 hBm hle
   refine K2 (xq ?_)
   refine G4 [] (sl:=[(2,_),(6,_)]) (hb:=[(2,_),(6,_)]) (M3 hX0) ⟨⟨_,rfl,.same⟩,⟨_,rfl,.same⟩,trivial⟩ ⟨⟨rfl,_,rfl,.same⟩,⟨rfl,_,rfl,(.mix (.cons .same (.cons (.p .nil) .nil)))⟩,trivial⟩ (exr (lp2 ag24 sz24 L rfl rfl (cK hG hX cl16 hN hE L t1 (mV L rfl (sw (W3 rfl L) t1 t0 (sw (W3 rfl L) t1 t0 (swb (Y3 (k:=9) (n:=2) zv24 (.cons rfl (.cons rfl .nil)) rfl (P0 _ rfl) L) t0 t0 ⟨rfl,rfl⟩ (sb (Z2 sz24 rF pa2 rfl pu2) t2 t1 ?_))))))))
   refine aV L rfl (zn [(2,_),(9,_),(10,_)] [(2,_),(9,_)] t3 t2 ?_)
   have hcan:G0v c M b = !((B4 ([])).map v3).contains c:=by rw [G0v,hT]
   have hwant:K7 c M b=d0f c ((B4 ([])).map v3) fun i=>ent (B4 ([])) i c:=by rw [K7,hT]
   obtain ⟨m,hm⟩:∃ m,m=B4 ([]):=⟨_,rfl⟩
   rw [← hm] at hr2 hBm hle hcan hwant ⊢
   obtain ⟨pv,hpv⟩:∃ pv,pv=m.map v3:=⟨_,rfl⟩
   have hpl:pv.length=m.length:=by rw [hpv,O0]
   have hpc:∀ i,i<pv.length→pv.getD i 0<c+1:=fun i hi=>by
    have h1:=f6 hi
    obtain ⟨q,hq,e⟩:=G0.1 (by rw [← hpv]; exact h1)
    have:=hr2.2 q hq
    omega
   rw [← hpv] at hcan hwant ⊢
   rw [hcan,hwant]
   refine T1 (exr (mV L rfl (sw (j2 un24 rfl sz3 dC rX L) t1 t1 ?_)))
   refine sw (Z1 ag3 rF rF L) t1 t1 ?_
   refine cK hG hX cl59 hN (P0c pv c oM) L t2 (zn [(2,_),(9,_),(10,_),(53,_)] [(2,_),(9,_)] t4 t2 ?_)
   refine D2 rfl (fun hh=>?_) (fun hh=>?_)
   ·refine exr (aV L rfl (aV L rfl (zn [(4,_),(5,_)] [] t2 trivial (G4 [] (sl:=[(4,_),(5,_)]) (hb:=[]) (M3 hX0) ⟨⟨_,rfl,(.p .nil)⟩,⟨_,rfl,.same⟩,trivial⟩ t0 (Y1 ?_)))))
    refine Y0 (.tmp rfl) (.tmp rfl) ?_
    rw [hh,Bool.not_true,if_neg Bool.false_ne_true]; rfl
   ·rw [hh,Bool.not_false,if_pos rfl]
    have hpc2:∀ i,i<pv.length→pv.getD i 0<c:=fun i hi=>by
     have h1:=hpc i hi
     have h2:pv.getD i 0≠c:=fun e=>by
      have h3:=f6 hi
      rw [e,← List.contains_iff_mem,hh] at h3
      cases h3
     omega
    refine V1 (xq ?_)
    refine exr (sw (j2 un24 rfl sz3 dC rX L) t1 t1 ?_)
    refine sw (Z1 ag3 rF rF L) t1 t1 ?_
    refine swb (j6 (sz:=4) (k:=56) un40 ti47 rfl rfl dC rfl rfl rfl (show (0:Int)=((0:Nat):Int) from rfl) rfl (Nat.zero_le _) (by simp [Tryz.t47]; omega) oM (P0 _ rfl) L) t2 t0 ⟨rfl,rfl⟩ ?_
    refine aV L rfl ?_
    refine R1 ⟨[(2,_),(9,_),(10,_),(11,.ref 56 0 0 0)],[(2,_),(9,_),(56,j4 [])],t4,t3,?_⟩
    refine T1 (exr (aV L rfl (zn [(2,_),(9,_),(10,_),(11,_),(12,_)] [(2,_),(9,_),(56,_)] t5 t3 (X1 ?_))))
    refine exl (α:=Nat) (fun j=>[(12,vi (j:Int)),(11,.ref 56 0 j (j*4))]) (fun j=>[(56,j4 (zq j))]) (fun j=>j≤c) (fun j=>c - j) (0) (sl:=[(2,_),(9,_),(10,_)]) (hb:=[(2,_),(9,_)]) ?_ ⟨oR,oR,rfl,rfl,rfl,trivial⟩ t3 ?_
    ·exact Nat.zero_le _
    intro j hj
    refine T1 (exr (mV L rfl (sw (j2 un24 rfl sz3 dC rX L) t1 t1 ?_)))
    refine sw (Z1 ag3 rF rF L) t1 t1 ?_
    refine sw (Z3 L) t2 t0 (zn [(2,_),(9,_),(10,_),(11,_),(12,_),(60,_)] [(2,_),(9,_),(56,_)] t6 t3 ?_)
    refine D2 rfl (fun he=>?_) (fun he=>?_)
    ·have he:=dt he
     refine V1 (xq ?_)
     refine T1 (X1 (C3 (mV L rfl (cK hG hX cl60 hN (n0v) L t0 (sw (E4 (vs:=[_]) un40 ti47 rfl rfl dC dC rfl (M2 (.cons rfl (.cons rfl (.cons rfl (.cons rfl .nil)))) rfl) rfl (.cons rfl pa4 rfl pu4 .nil) (.cons (.cons (.cons (.cons .nil)))) L) t1 t0 (swb (apP (sz:=4) un40 un40 ti47 rfl rfl rfl dC (by exact sM) oF sM rfl rfl rfl (by first | (simp [Tryz.t47]; done) | (simp [Tryz.t47]; omega)) oM (P0 _ rfl) L) t2 t1 t0 ?_))))))
     refine aV L rfl (R1 (C3 (mV L rfl (sw (I3 L (w64 oM oM)) t2 t0 (aV L rfl (R1 ?_))))))
     exact ⟨j+1,oM,by omega,B3 ⟨oR,ov rfl sO,rfl,rfl,rfl,trivial⟩ ⟨obl rfl ((b0q _ _).trans (by rw [V0n])),rfl,rfl,trivial⟩⟩
    ·have he:=df he
     have hjc:j=c:=by omega
     subst hjc
     refine K2 (xq ?_)
     refine T1 (exr (aV L rfl (zn [(2,_),(9,_),(10,_),(11,_),(13,_)] [(2,_),(9,_),(56,_)] t5 t3 (X1 ?_))))
     refine exl (α:=Nat) (fun i=>[(13,vi (i:Int))]) (fun i=>[(56,j4 (n0z pv (fun i=>ent m i j) (zq j) i))]) (fun i=>i≤pv.length) (fun i=>pv.length - i) (0) (sl:=[(2,_),(9,_),(10,_),(11,_)]) (hb:=[(2,_),(9,_)]) ?_ ⟨oR,rfl,rfl,rfl,rfl,trivial⟩ t3 ?_
     ·exact Nat.zero_le _
     intro i hi
     refine T1 (exr (mV L rfl (mV L rfl (sw (X2 un27 L) t1 t0 (sw (Z3 L) t2 t0 (zn [(2,_),(9,_),(10,_),(11,_),(13,_),(70,_)] [(2,_),(9,_),(56,_)] t6 t3 ?_))))))
     refine D2 rfl (fun hq=>?_) (fun hq=>?_)
     ·have hq:=dt hq
      have hi2:i<pv.length:=by omega
      have hi3:i<m.length:=by omega
      have hml:=hr2.1 _ (gDL hi3)
      have hfl:j<(m.getD i []).length:=by omega
      have hpi:=hpc2 i hi2
      refine V1 (xq ?_)
      refine T1 (X1 (d0d rF ?_))
      refine mV L rfl (mV L rfl (mV L rfl (sw (ixJ un27 sz3 (j:=i) rO oM sM L) t2 t0 ?_)))
      refine sw (s4 ag3 (W0w hi2) L) t1 t0 (sw (j2 un24 rfl sz22 dC rX L) t1 t1 ?_)
      refine sw (Z1 ag22 rF rF L) t1 t1 ?_
      refine mV L rfl (sw (ixJ un22 sz40 (j:=i) rO oM sM L) t2 t0 ?_)
      refine sw (s4 ag40 (j7 hi3) L) t1 t0 (sw (j2 un24 rfl sz3 dC rX L) t1 t1 ?_)
      refine sw (Z1 ag3 rF rF L) t1 t1 ?_
      refine sw (y2 un40 sz47 oM oM sM dC L) t2 t0 ?_
      refine sw (Y6 ag47 sz47 (X6 hfl) rfl L) t1 t0 (sw (n0g (sz:=4) un40 sz47 (by exact sM) (j:=pv.getD i 0) rO oM L) t2 t1 ?_)
      refine sb (D0c (n:=4) sz47 (by exact sM) rfl oM) t2 t1 ?_
      refine R1 ⟨i5 [⟨[11],[],[73],[]⟩,⟨[10],[],[74],[]⟩,⟨[13],[],[75],[]⟩,⟨[74,75],[],[76],[]⟩,⟨[76],[],[77],[]⟩,⟨[9],[9],[78],[]⟩,⟨[78],[9],[79],[]⟩,⟨[13],[],[80],[]⟩,⟨[79,80],[],[81],[]⟩,⟨[81],[],[82],[]⟩,⟨[2],[2],[83],[]⟩,⟨[83],[2],[84],[]⟩,⟨[82,84],[],[85],[]⟩,⟨[85],[],[86],[]⟩,⟨[73,77],[56],[87],[]⟩,⟨[87,86],[56],[],[56]⟩] rF rF dC,?_⟩
      refine C3 (mV L rfl (sw (I3 L (w64 oM oM)) t2 t0 (aV L rfl (R1 ?_))))
      exact ⟨i+1,oM,by omega,B3 ⟨oR,rfl,rfl,rfl,rfl,trivial⟩ ⟨obl rfl ((j0w _ (by rw [G9,b0h]; exact hpi)).trans (by rw [C8]; rfl)),rfl,rfl,trivial⟩⟩
     ·have hq:=df hq
      have hip:i=pv.length:=by omega
      subst hip
      refine K2 (xq ?_)
      refine G4 [56] (sl:=[(11,_)]) (hb:=[]) (M3 hX0) ⟨⟨_,rfl,(.ref rfl rfl (by exact sM) (by first | rfl | omega))⟩,trivial⟩ t0 ?_
      refine exr (mV L rfl (aV L rfl (aV L rfl (zn [(4,_),(5,_)] [] t2 trivial (Y1 ?_)))))
      refine Y0 (.tmp rfl) (.tmp rfl) ?_
      rw [d0f,P1b]; simp
 ·dsimp only [P0y,Q0a]
  have hTl:(q :: T).length=k:=by rw [← hT,J0,q7]; omega
  have hTl2:T.length+1=k:=hTl
  refine T1 (exr (mV L rfl (sw (j2 un24 rfl sz22 dC rX L) t1 t1 ?_)))
  refine sw (Z1 ag22 rF rF L) t1 t1 ?_
  refine sw (X2 un22 L) t1 t0 (sw (Z3 L) t2 t0 (zn [(1,_),(2,_),(6,_),(7,_),(22,_)] [(2,_),(6,_),(43,_)] t5 t3 ?_))
  refine D2 rfl (fun hc=>?_) (fun hc=>?_)
  ·have hc:=dt hc
   have hk2:k<M.length:=by omega
   have hk3:k<b.length:=by omega
   have ht:=N0g (b:=b) hk2
   rw [hT] at ht
   have hlen:=hr _ (gDL hk2)
   have hld:=j7 hk2
   obtain ⟨r,hr0⟩:∃ r,r=M.getD k []:=⟨_,rfl⟩
   rw [← hr0] at hlen ht hld
   refine V1 (xq ?_)
   refine T1 (X1 (exr (swb (g0c (k:=25) (sz:=4) un40 ti47 (P0 _ rfl) L) t0 t0 ⟨rfl,rfl⟩ (sw (j2 un24 rfl sz22 dC rX L) t1 t1 ?_))))
   refine sw (Z1 ag22 rF rF L) t1 t1 ?_
   refine mV L rfl (sw (ixJ un22 sz40 (j:=k) rO oM sM L) t2 t0 ?_)
   refine sw (s4 ag40 hld L) t1 t0 (swb (apP (sz:=4) un40 un40 ti47 rfl rfl rfl dC rX oF sM rfl rfl rfl (by first | (simp [Tryz.t47]; done) | (simp [Tryz.t47]; omega)) oM (P0 _ rfl) L) t2 t1 t0 ?_)
   refine aV L rfl ?_
   refine R1 ⟨[(1,_),(2,_),(6,_),(7,_),(8,.ref 25 0 r.length (r.length*4))],[(2,_),(6,_),(25,j4 r),(43,_)],⟨rfl,rfl,rfl,rfl,ov rfl sM,trivial⟩,t4,?_⟩
   refine exr (mV L rfl (mV L rfl (mV L rfl (sw (y2 un40 sz47 oM oM sM dC L) t2 t0 ?_))))
   refine sw (Y6 ag47 sz47 (X6 hk3) rfl L) t1 t0 (sw (E4 (vs:=[_]) un40 ti47 rfl rfl dC dC rfl (M2 (.cons rfl (.cons rfl (.cons rfl (.cons rfl .nil)))) rfl) rfl (.cons rfl pa4 rfl pu4 .nil) (.cons (.cons (.cons (.cons .nil)))) L) t1 t0 (swb (apP (sz:=4) un40 un40 ti47 rfl rfl rfl dC (by exact sM) oF sM rfl rfl rfl (by first | (simp [Tryz.t47]; done) | (simp [Tryz.t47]; omega)) oM (P0 _ rfl) L) t2 t1 t0 ?_))
   refine aV L rfl (zn [(1,_),(2,_),(6,_),(7,_),(8,_)] [(2,_),(6,_),(25,_),(43,_)] t5 t4 (G4 [25] (sl:=[(1,_),(2,_),(6,_),(7,_),(8,_)]) (hb:=[(2,_),(6,_),(43,_)]) (M3 hX0) ⟨⟨_,rfl,.same⟩,⟨_,rfl,.same⟩,⟨_,rfl,.same⟩,⟨_,rfl,.same⟩,⟨_,rfl,(.ref rfl rfl (by exact sM) (by first | rfl | omega))⟩,trivial⟩ ⟨⟨rfl,_,rfl,.same⟩,⟨rfl,_,rfl,.same⟩,⟨rfl,_,rfl,.same⟩,trivial⟩ ?_))
   refine C3 (sw (j2 un24 rfl sz22 dC rX L) t1 t1 ?_)
   refine sw (Z1 ag22 rF rF L) t1 t1 ?_
   refine mV L rfl (sw (E4 (vs:=[_]) un22 ti40 rfl rfl dC dC rfl (M2 (.cons rfl .nil) rfl) rfl (.cons rfl .sl rfl pu1 .nil) (.cons .nil) L) t1 t0 (swb (apP (sz:=1) un22 un22 ti40 rfl rfl rfl dC (by exact (m6 _)) oF sM rfl rfl rfl (by first | (simp [Tryz.t40]; done) | (simp [Tryz.t40]; omega)) oM (P0 _ rfl) L) t2 t1 t0 ?_))
   refine sw (j2 un24 rfl sz22 dC rX L) t1 t1 ?_
   refine sb (Z2 sz22 rF .ref rfl (.skip pu1)) t2 t1 ?_
   refine R1 (C3 (mV L rfl (sw (I3 L (w64 oM oM)) t2 t0 (aV L rfl (R1 ?_)))))
   exact ⟨(k+1,q :: T++[r++[b.getD k 0]]),⟨by simp only; omega,ht⟩,(by simp only; omega),B3 ⟨oR,rfl,rfl,rfl,trivial⟩ (hbI (l':=[(6,_),(43,_),(2,_)]) rfl ⟨obl rfl sM,obl rfl (N1z _ (q :: T) _ _ rfl),rfl,trivial⟩)⟩
  ·have hc:=df hc
   have hkM:k=M.length:=by omega
   rw [C0 (by rw [q7]; omega)] at hT
   rw [hT] at hE hr2 hBm hle
   refine K2 (xq ?_)
   refine G4 [43] (sl:=[(2,_),(6,_)]) (hb:=[(2,_),(6,_)]) (M3 hX0) ⟨⟨_,rfl,.same⟩,⟨_,rfl,.same⟩,trivial⟩ ⟨⟨rfl,_,rfl,.same⟩,⟨rfl,_,rfl,(.mix (.cons .same (.cons (.ref rfl rfl (by exact (m6 _)) (by first | rfl | omega)) .nil)))⟩,trivial⟩ ?_
   refine exr (lp2 ag24 sz24 L rfl rfl (cK hG hX cl16 hN hE L t1 (mV L rfl (sw (W3 rfl L) t1 t0 (sw (W3 rfl L) t1 t0 (swb (Y3 (k:=9) (n:=2) zv24 (.cons rfl (.cons rfl .nil)) rfl (P0 _ rfl) L) t0 t0 ⟨rfl,rfl⟩ (sb (Z2 sz24 rF pa2 rfl pu2) t2 t1 ?_)))))))
   refine aV L rfl (zn [(2,_),(9,_),(10,_)] [(2,_),(9,_)] t3 t2 ?_)
   have hcan:G0v c M b = !((B4 (q :: T)).map v3).contains c:=by rw [G0v,hT]
   have hwant:K7 c M b=d0f c ((B4 (q :: T)).map v3) fun i=>ent (B4 (q :: T)) i c:=by rw [K7,hT]
   obtain ⟨m,hm⟩:∃ m,m=B4 (q :: T):=⟨_,rfl⟩
   rw [← hm] at hr2 hBm hle hcan hwant ⊢
   obtain ⟨pv,hpv⟩:∃ pv,pv=m.map v3:=⟨_,rfl⟩
   have hpl:pv.length=m.length:=by rw [hpv,O0]
   have hpc:∀ i,i<pv.length→pv.getD i 0<c+1:=fun i hi=>by
    have h1:=f6 hi
    obtain ⟨q,hq,e⟩:=G0.1 (by rw [← hpv]; exact h1)
    have:=hr2.2 q hq
    omega
   rw [← hpv] at hcan hwant ⊢
   rw [hcan,hwant]
   refine T1 (exr (mV L rfl (sw (j2 un24 rfl sz3 dC rX L) t1 t1 ?_)))
   refine sw (Z1 ag3 rF rF L) t1 t1 ?_
   refine cK hG hX cl59 hN (P0c pv c oM) L t2 (zn [(2,_),(9,_),(10,_),(53,_)] [(2,_),(9,_)] t4 t2 ?_)
   refine D2 rfl (fun hh=>?_) (fun hh=>?_)
   ·refine exr (aV L rfl (aV L rfl (zn [(4,_),(5,_)] [] t2 trivial (G4 [] (sl:=[(4,_),(5,_)]) (hb:=[]) (M3 hX0) ⟨⟨_,rfl,(.p .nil)⟩,⟨_,rfl,.same⟩,trivial⟩ t0 (Y1 ?_)))))
    refine Y0 (.tmp rfl) (.tmp rfl) ?_
    rw [hh,Bool.not_true,if_neg Bool.false_ne_true]; rfl
   ·rw [hh,Bool.not_false,if_pos rfl]
    have hpc2:∀ i,i<pv.length→pv.getD i 0<c:=fun i hi=>by
     have h1:=hpc i hi
     have h2:pv.getD i 0≠c:=fun e=>by
      have h3:=f6 hi
      rw [e,← List.contains_iff_mem,hh] at h3
      cases h3
     omega
    refine V1 (xq ?_)
    refine exr (sw (j2 un24 rfl sz3 dC rX L) t1 t1 ?_)
    refine sw (Z1 ag3 rF rF L) t1 t1 ?_
    refine swb (j6 (sz:=4) (k:=56) un40 ti47 rfl rfl dC rfl rfl rfl (show (0:Int)=((0:Nat):Int) from rfl) rfl (Nat.zero_le _) (by simp [Tryz.t47]; omega) oM (P0 _ rfl) L) t2 t0 ⟨rfl,rfl⟩ ?_
    refine aV L rfl ?_
    refine R1 ⟨[(2,_),(9,_),(10,_),(11,.ref 56 0 0 0)],[(2,_),(9,_),(56,j4 [])],t4,t3,?_⟩
    refine T1 (exr (aV L rfl (zn [(2,_),(9,_),(10,_),(11,_),(12,_)] [(2,_),(9,_),(56,_)] t5 t3 (X1 ?_))))
    refine exl (α:=Nat) (fun j=>[(12,vi (j:Int)),(11,.ref 56 0 j (j*4))]) (fun j=>[(56,j4 (zq j))]) (fun j=>j≤c) (fun j=>c - j) (0) (sl:=[(2,_),(9,_),(10,_)]) (hb:=[(2,_),(9,_)]) ?_ ⟨oR,oR,rfl,rfl,rfl,trivial⟩ t3 ?_
    ·exact Nat.zero_le _
    intro j hj
    refine T1 (exr (mV L rfl (sw (j2 un24 rfl sz3 dC rX L) t1 t1 ?_)))
    refine sw (Z1 ag3 rF rF L) t1 t1 ?_
    refine sw (Z3 L) t2 t0 (zn [(2,_),(9,_),(10,_),(11,_),(12,_),(60,_)] [(2,_),(9,_),(56,_)] t6 t3 ?_)
    refine D2 rfl (fun he=>?_) (fun he=>?_)
    ·have he:=dt he
     refine V1 (xq ?_)
     refine T1 (X1 (C3 (mV L rfl (cK hG hX cl60 hN (n0v) L t0 (sw (E4 (vs:=[_]) un40 ti47 rfl rfl dC dC rfl (M2 (.cons rfl (.cons rfl (.cons rfl (.cons rfl .nil)))) rfl) rfl (.cons rfl pa4 rfl pu4 .nil) (.cons (.cons (.cons (.cons .nil)))) L) t1 t0 (swb (apP (sz:=4) un40 un40 ti47 rfl rfl rfl dC (by exact sM) oF sM rfl rfl rfl (by first | (simp [Tryz.t47]; done) | (simp [Tryz.t47]; omega)) oM (P0 _ rfl) L) t2 t1 t0 ?_))))))
     refine aV L rfl (R1 (C3 (mV L rfl (sw (I3 L (w64 oM oM)) t2 t0 (aV L rfl (R1 ?_))))))
     exact ⟨j+1,oM,by omega,B3 ⟨oR,ov rfl sO,rfl,rfl,rfl,trivial⟩ ⟨obl rfl ((b0q _ _).trans (by rw [V0n])),rfl,rfl,trivial⟩⟩
    ·have he:=df he
     have hjc:j=c:=by omega
     subst hjc
     refine K2 (xq ?_)
     refine T1 (exr (aV L rfl (zn [(2,_),(9,_),(10,_),(11,_),(13,_)] [(2,_),(9,_),(56,_)] t5 t3 (X1 ?_))))
     refine exl (α:=Nat) (fun i=>[(13,vi (i:Int))]) (fun i=>[(56,j4 (n0z pv (fun i=>ent m i j) (zq j) i))]) (fun i=>i≤pv.length) (fun i=>pv.length - i) (0) (sl:=[(2,_),(9,_),(10,_),(11,_)]) (hb:=[(2,_),(9,_)]) ?_ ⟨oR,rfl,rfl,rfl,rfl,trivial⟩ t3 ?_
     ·exact Nat.zero_le _
     intro i hi
     refine T1 (exr (mV L rfl (mV L rfl (sw (X2 un27 L) t1 t0 (sw (Z3 L) t2 t0 (zn [(2,_),(9,_),(10,_),(11,_),(13,_),(70,_)] [(2,_),(9,_),(56,_)] t6 t3 ?_))))))
     refine D2 rfl (fun hq=>?_) (fun hq=>?_)
     ·have hq:=dt hq
      have hi2:i<pv.length:=by omega
      have hi3:i<m.length:=by omega
      have hml:=hr2.1 _ (gDL hi3)
      have hfl:j<(m.getD i []).length:=by omega
      have hpi:=hpc2 i hi2
      refine V1 (xq ?_)
      refine T1 (X1 (d0d rF ?_))
      refine mV L rfl (mV L rfl (mV L rfl (sw (ixJ un27 sz3 (j:=i) rO oM sM L) t2 t0 ?_)))
      refine sw (s4 ag3 (W0w hi2) L) t1 t0 (sw (j2 un24 rfl sz22 dC rX L) t1 t1 ?_)
      refine sw (Z1 ag22 rF rF L) t1 t1 ?_
      refine mV L rfl (sw (ixJ un22 sz40 (j:=i) rO oM sM L) t2 t0 ?_)
      refine sw (s4 ag40 (j7 hi3) L) t1 t0 (sw (j2 un24 rfl sz3 dC rX L) t1 t1 ?_)
      refine sw (Z1 ag3 rF rF L) t1 t1 ?_
      refine sw (y2 un40 sz47 oM oM sM dC L) t2 t0 ?_
      refine sw (Y6 ag47 sz47 (X6 hfl) rfl L) t1 t0 (sw (n0g (sz:=4) un40 sz47 (by exact sM) (j:=pv.getD i 0) rO oM L) t2 t1 ?_)
      refine sb (D0c (n:=4) sz47 (by exact sM) rfl oM) t2 t1 ?_
      refine R1 ⟨i5 [⟨[11],[],[73],[]⟩,⟨[10],[],[74],[]⟩,⟨[13],[],[75],[]⟩,⟨[74,75],[],[76],[]⟩,⟨[76],[],[77],[]⟩,⟨[9],[9],[78],[]⟩,⟨[78],[9],[79],[]⟩,⟨[13],[],[80],[]⟩,⟨[79,80],[],[81],[]⟩,⟨[81],[],[82],[]⟩,⟨[2],[2],[83],[]⟩,⟨[83],[2],[84],[]⟩,⟨[82,84],[],[85],[]⟩,⟨[85],[],[86],[]⟩,⟨[73,77],[56],[87],[]⟩,⟨[87,86],[56],[],[56]⟩] rF rF dC,?_⟩
      refine C3 (mV L rfl (sw (I3 L (w64 oM oM)) t2 t0 (aV L rfl (R1 ?_))))
      exact ⟨i+1,oM,by omega,B3 ⟨oR,rfl,rfl,rfl,rfl,trivial⟩ ⟨obl rfl ((j0w _ (by rw [G9,b0h]; exact hpi)).trans (by rw [C8]; rfl)),rfl,rfl,trivial⟩⟩
     ·have hq:=df hq
      have hip:i=pv.length:=by omega
      subst hip
      refine K2 (xq ?_)
      refine G4 [56] (sl:=[(11,_)]) (hb:=[]) (M3 hX0) ⟨⟨_,rfl,(.ref rfl rfl (by exact sM) (by first | rfl | omega))⟩,trivial⟩ t0 ?_
      refine exr (mV L rfl (aV L rfl (aV L rfl (zn [(4,_),(5,_)] [] t2 trivial (Y1 ?_)))))
      refine Y0 (.tmp rfl) (.tmp rfl) ?_
      rw [d0f,P1b]; simp
theorem RQ.of_inj {a b:Rat}(h:RQ.of a=RQ.of b):a=b:=by
 have h1:=congrArg (fun r=>sg r.m (val r.ws)) h
 have h2:=congrArg (fun r=>sg r.n (val r.vs)) h
 simp only [RQ.of,N1n] at h1 h2
 exact Rat.ext h1 (by exact_mod_cast h2)
theorem RQ.of_iff {a b:Rat}:RQ.of a=RQ.of b↔a=b:=⟨RQ.of_inj,fun h=>by rw [h]⟩
theorem B0a (a b:Rat)(ha:qw a<1000000000)(hb:qw b<1000000000):y3 E 33 [pQ a,pQ b] (bZ (decide (a=b))):=by
 have:=y0z (RQ.of a) (RQ.of b) (RQ.sm_of ha) (RQ.sm_of hb)
 rwa [decide_eq_decide.2 RQ.of_iff] at this
theorem J0n {M:List (List Rat)}{y:List Rat}{j:Nat}(hy:y.length=M.length):M8 (n0s M y j M.length)=Z8 y (w7 M j):=by
 rw [v0k,dtR]
 congr 1
 refine List.ext_getElem (by simp [hy]) fun i h1 h2=>?_
 have h3:i<y.length:=by simp at h1; omega
 have h4:i<M.length:=by omega
 simp [n0s,w7,ent,f0,h3,h4]
theorem v1v (c:Int)(m:List (List RQ))(b y:List RQ)(hm:MSm m)(hbl:b.length<1000000000)(hb:∀ r∈b,r.sm)(hyl:y.length<1000000000)(hy:∀ r∈y,r.sm)(h:q1h c m b y=false):y3 E 26 [pMR c m,pVR b,pVR y] (bZ false):=by
 refine F2 (xs:=[bZ false]) Tryz.func26 rfl Tryz.ntmps26 Tryz.results26 sM fun F hG hX0 hnt hdf P0=>?_
 obtain ⟨L,hX,hN⟩:=pro hnt hX0 hG
 refine exr (swb (X3 (k:=3) (n:=2) pa2 rfl rfl (P0 _ rfl) L) t1 t0 ⟨rfl,rfl⟩ (aV L rfl (zn [(1,_),(2,_),(3,_)] [(3,_)] t3 t1 (T1 ?_))))
 refine exm (sl:=[(37,vb true)]) (sl0:=[(1,_),(2,_),(3,_)]) (hb:=[]) (hb0:=[(3,_)]) t3 t1 ?_ ?_
 ·rcases (by cases h1:isM c m; exact .inl rfl; cases h2:b.all RQ.is; exact .inr (.inl ⟨rfl,rfl⟩); cases h3:y.all RQ.is; exact .inr (.inr (.inl ⟨rfl,rfl,rfl⟩)); by_cases h4:b.length=m.length; exact .inr (.inr (.inr (.inr ⟨rfl,rfl,rfl,h4,fun h5=>by simp [q1h,h1,h2,h3,h4,h5] at h⟩))); exact .inr (.inr (.inr (.inl ⟨rfl,rfl,rfl,h4⟩))):isM c m=false∨(isM c m=true∧b.all RQ.is=false)∨(isM c m=true∧b.all RQ.is=true∧y.all RQ.is=false)∨(isM c m=true∧b.all RQ.is=true∧y.all RQ.is=true∧b.length≠m.length)∨(isM c m=true∧b.all RQ.is=true∧y.all RQ.is=true∧b.length=m.length∧y.length≠m.length)) with h1 | ⟨h1,h2⟩ | ⟨h1,h2,h3⟩ | ⟨h1,h2,h3,h4⟩ | ⟨h1,h2,h3,h4,h5⟩
  ·refine lp2 ag24 sz24 L rfl rfl (cK hG hX cl15 hN (I8 c m hm) L t1 (sw (P3 L) t1 t0 (mV L rfl (swn (g:=12) rfl (by rw [h1] <;> rfl) L rfl ?_))))
   refine swn (g:=12) rfl (by rw [h1] <;> rfl) L rfl ?_
   refine swn (g:=12) rfl (by rw [h1] <;> rfl) L rfl ?_
   refine sw (m4 (by rw [h1]; rfl) L) t2 t0 ?_
   refine mV L rfl (swn (g:=17) rfl rfl L rfl (swn (g:=17) rfl rfl L rfl (swn (g:=17) rfl rfl L rfl (sw (m4 rfl L) t2 t0 (mV L rfl (swn (g:=22) rfl rfl L rfl (swn (g:=22) rfl rfl L rfl (swn (g:=22) rfl rfl L rfl (swn (g:=22) rfl rfl L rfl (swn (g:=22) rfl rfl L rfl (swn (g:=22) rfl rfl L rfl ?_)))))))))))
   refine sw (m4 rfl L) t2 t0 (mV L rfl (swn (g:=30) rfl rfl L rfl (swn (g:=30) rfl rfl L rfl (swn (g:=30) rfl rfl L rfl (swn (g:=30) rfl rfl L rfl (swn (g:=30) rfl rfl L rfl (swn (g:=30) rfl rfl L rfl (sw (m4 rfl L) t2 t0 ?_))))))))
   exact R1 ⟨t4,t1⟩
  ·refine lp2 ag24 sz24 L rfl rfl (cK hG hX cl15 hN (I8 c m hm) L t1 (sw (P3 L) t1 t0 (mV L rfl (gV (g:=12) rfl (by rw [h1] <;> rfl) L rfl rfl ?_))))
   refine swg (g:=12) rfl (by rw [h1] <;> rfl) (c_c hG hX cl27 rfl hN (G7 b hbl hb) L) rfl t1 t0 ?_
   refine swg (g:=12) rfl (by rw [h1] <;> rfl) (P3 L) rfl t1 t0 ?_
   refine sw (U3 (by rw [h1]; rfl) L) t2 t0 ?_
   refine mV L rfl (swn (g:=17) rfl (by rw [h2] <;> rfl) L rfl ?_)
   refine swn (g:=17) rfl (by rw [h2] <;> rfl) L rfl ?_
   refine swn (g:=17) rfl (by rw [h2] <;> rfl) L rfl ?_
   refine sw (m4 (by rw [h2]; rfl) L) t2 t0 ?_
   refine mV L rfl (swn (g:=22) rfl rfl L rfl (swn (g:=22) rfl rfl L rfl (swn (g:=22) rfl rfl L rfl (swn (g:=22) rfl rfl L rfl (swn (g:=22) rfl rfl L rfl (swn (g:=22) rfl rfl L rfl (sw (m4 rfl L) t2 t0 (mV L rfl (swn (g:=30) rfl rfl L rfl (swn (g:=30) rfl rfl L rfl (swn (g:=30) rfl rfl L rfl ?_)))))))))))
   refine swn (g:=30) rfl rfl L rfl (swn (g:=30) rfl rfl L rfl (swn (g:=30) rfl rfl L rfl (sw (m4 rfl L) t2 t0 ?_)))
   exact R1 ⟨t4,t1⟩
  ·refine lp2 ag24 sz24 L rfl rfl (cK hG hX cl15 hN (I8 c m hm) L t1 (sw (P3 L) t1 t0 (mV L rfl (gV (g:=12) rfl (by rw [h1] <;> rfl) L rfl rfl ?_))))
   refine swg (g:=12) rfl (by rw [h1] <;> rfl) (c_c hG hX cl27 rfl hN (G7 b hbl hb) L) rfl t1 t0 ?_
   refine swg (g:=12) rfl (by rw [h1] <;> rfl) (P3 L) rfl t1 t0 ?_
   refine sw (U3 (by rw [h1]; rfl) L) t2 t0 ?_
   refine mV L rfl (gV (g:=17) rfl (by rw [h2] <;> rfl) L rfl rfl ?_)
   refine swg (g:=17) rfl (by rw [h2] <;> rfl) (c_c hG hX cl27 rfl hN (G7 y hyl hy) L) rfl t1 t0 ?_
   refine swg (g:=17) rfl (by rw [h2] <;> rfl) (P3 L) rfl t1 t0 ?_
   refine sw (U3 (by rw [h2]; rfl) L) t2 t0 ?_
   refine mV L rfl (swn (g:=22) rfl (by rw [h3] <;> rfl) L rfl ?_)
   refine swn (g:=22) rfl (by rw [h3] <;> rfl) L rfl ?_
   refine swn (g:=22) rfl (by rw [h3] <;> rfl) L rfl ?_
   refine swn (g:=22) rfl (by rw [h3] <;> rfl) L rfl ?_
   refine swn (g:=22) rfl (by rw [h3] <;> rfl) L rfl ?_
   refine swn (g:=22) rfl (by rw [h3] <;> rfl) L rfl ?_
   refine sw (m4 (by rw [h3]; rfl) L) t2 t0 ?_
   refine mV L rfl (swn (g:=30) rfl rfl L rfl (swn (g:=30) rfl rfl L rfl (swn (g:=30) rfl rfl L rfl (swn (g:=30) rfl rfl L rfl (swn (g:=30) rfl rfl L rfl (swn (g:=30) rfl rfl L rfl (sw (m4 rfl L) t2 t0 ?_)))))))
   exact R1 ⟨t4,t1⟩
  ·refine lp2 ag24 sz24 L rfl rfl (cK hG hX cl15 hN (I8 c m hm) L t1 (sw (P3 L) t1 t0 (mV L rfl (gV (g:=12) rfl (by rw [h1] <;> rfl) L rfl rfl ?_))))
   refine swg (g:=12) rfl (by rw [h1] <;> rfl) (c_c hG hX cl27 rfl hN (G7 b hbl hb) L) rfl t1 t0 ?_
   refine swg (g:=12) rfl (by rw [h1] <;> rfl) (P3 L) rfl t1 t0 ?_
   refine sw (U3 (by rw [h1]; rfl) L) t2 t0 ?_
   refine mV L rfl (gV (g:=17) rfl (by rw [h2] <;> rfl) L rfl rfl ?_)
   refine swg (g:=17) rfl (by rw [h2] <;> rfl) (c_c hG hX cl27 rfl hN (G7 y hyl hy) L) rfl t1 t0 ?_
   refine swg (g:=17) rfl (by rw [h2] <;> rfl) (P3 L) rfl t1 t0 ?_
   refine sw (U3 (by rw [h2]; rfl) L) t2 t0 ?_
   refine mV L rfl (gV (g:=22) rfl (by rw [h3] <;> rfl) L rfl rfl ?_)
   refine swg (g:=22) rfl (by rw [h3] <;> rfl) (X2 un40 L) rfl t1 t0 ?_
   refine swg (g:=22) rfl (by rw [h3] <;> rfl) (j2 un24 rfl sz22 dC rX L) rfl t1 t1 ?_
   refine swg (g:=22) rfl (by rw [h3] <;> rfl) (Z1 ag22 rF rF L) rfl t1 t1 ?_
   refine swg (g:=22) rfl (by rw [h3] <;> rfl) (X2 un22 L) rfl t1 t0 ?_
   refine swg (g:=22) rfl (by rw [h3] <;> rfl) (c_n L) rfl t2 t0 ?_
   refine sw (U3 (by rw [h3]; rfl) L) t2 t0 ?_
   refine mV L rfl (swn (g:=30) rfl sO L rfl (swn (g:=30) rfl sO L rfl (swn (g:=30) rfl sO L rfl (swn (g:=30) rfl sO L rfl (swn (g:=30) rfl sO L rfl (swn (g:=30) rfl sO L rfl (sw (m4 sO L) t2 t0 ?_)))))))
   exact R1 ⟨t4,t1⟩
  ·refine lp2 ag24 sz24 L rfl rfl (cK hG hX cl15 hN (I8 c m hm) L t1 (sw (P3 L) t1 t0 (mV L rfl (gV (g:=12) rfl (by rw [h1] <;> rfl) L rfl rfl ?_))))
   refine swg (g:=12) rfl (by rw [h1] <;> rfl) (c_c hG hX cl27 rfl hN (G7 b hbl hb) L) rfl t1 t0 ?_
   refine swg (g:=12) rfl (by rw [h1] <;> rfl) (P3 L) rfl t1 t0 ?_
   refine sw (U3 (by rw [h1]; rfl) L) t2 t0 ?_
   refine mV L rfl (gV (g:=17) rfl (by rw [h2] <;> rfl) L rfl rfl ?_)
   refine swg (g:=17) rfl (by rw [h2] <;> rfl) (c_c hG hX cl27 rfl hN (G7 y hyl hy) L) rfl t1 t0 ?_
   refine swg (g:=17) rfl (by rw [h2] <;> rfl) (P3 L) rfl t1 t0 ?_
   refine sw (U3 (by rw [h2]; rfl) L) t2 t0 ?_
   refine mV L rfl (gV (g:=22) rfl (by rw [h3] <;> rfl) L rfl rfl ?_)
   refine swg (g:=22) rfl (by rw [h3] <;> rfl) (X2 un40 L) rfl t1 t0 ?_
   refine swg (g:=22) rfl (by rw [h3] <;> rfl) (j2 un24 rfl sz22 dC rX L) rfl t1 t1 ?_
   refine swg (g:=22) rfl (by rw [h3] <;> rfl) (Z1 ag22 rF rF L) rfl t1 t1 ?_
   refine swg (g:=22) rfl (by rw [h3] <;> rfl) (X2 un22 L) rfl t1 t0 ?_
   refine swg (g:=22) rfl (by rw [h3] <;> rfl) (c_n L) rfl t2 t0 ?_
   refine sw (U3 (by rw [h3]; rfl) L) t2 t0 ?_
   refine mV L rfl (gV (g:=30) rfl sO L rfl rfl (swg (g:=30) rfl sO (X2 un40 L) rfl t1 t0 (swg (g:=30) rfl sO (j2 un24 rfl sz22 dC rX L) rfl t1 t1 ?_)))
   refine swg (g:=30) rfl sO (Z1 ag22 rF rF L) rfl t1 t1 ?_
   refine swg (g:=30) rfl sO (X2 un22 L) rfl t1 t0 (swg (g:=30) rfl sO (c_n L) rfl t2 t0 (sw (U3 sO L) t2 t0 ?_))
   exact R1 ⟨⟨ob rfl sO,rfl,rfl,rfl,trivial⟩,t1⟩
 refine v8 rfl rfl (exr (aV L rfl (zn [(6,_)] [] t1 trivial (Y1 ?_))))
 refine Q0 (.tmp rfl) ?_
 rfl
theorem V0z {B:Nat}{v:List Rat}(h:∀ a∈v,qw a≤B)(hb:B<1000000000):∀ r∈v.map RQ.of,r.sm:=fun r hr=>by
 obtain ⟨a,ha,rfl⟩:=G0.1 hr
 exact RQ.sm_of (Nat.lt_of_le_of_lt (h a ha) hb)
theorem p0j {B:Nat}{v:List Rat}(hl:v.length<1000000000)(h:∀ a∈v,qw a≤B)(hb:B<1000000000):y3 E 27 [pV v] (bZ true):=by
 have:=G7 (v.map RQ.of) (by rw [O0]; exact hl) (V0z h hb)
 rwa [Q0n,g0p] at this
theorem M1n {c B C:Nat}{y:List Rat}{M:List (List Rat)}(hB:MB B M)(hC:∀ a∈y,qw a≤C)(hr:∀ r∈M,r.length=c){j:Nat}(hj:j<c):qw (Z8 y (w7 M j))≤y.length*(C+B+1)+1:=f1h hC (q1k hB hj hr)
theorem p1h {r:List Rat}{N:List (List Rat)}{c j:Nat}(h:j<c):(f0h r N c).getD j 0=Z8 r (w7 N j):=by
 simp [f0h,f0,h]
theorem B0v (c B C:Nat)(M:List (List Rat))(b y:List Rat)(h:MOk c M)(hB:MB B M)(hbB:∀ a∈b,qw a≤B)(hyB:∀ a∈y,qw a≤C)(hbl:b.length=M.length)(hyl:y.length=M.length)(hs:M.length*(C+B+1)+1<900000000)(hbb:B<100000000∧C<100000000):y3 E 26 [pMq c M,pV b,pV y] (bZ (F0m c M b y)):=by
 refine F2 (xs:=[bZ (F0m c M b y)]) Tryz.func26 rfl Tryz.ntmps26 Tryz.results26 sM fun F hG hX0 hnt hdf P0=>?_
 obtain ⟨L,hX,hN⟩:=pro hnt hX0 hG
 have hr4:=h.rows
 have hc6:=h.cols
 have hmul:y.length*(C+B+1)=M.length*(C+B+1):=by rw [hyl]
 obtain ⟨hbb,hcc⟩:=hbb
 refine exr (swb (X3 (k:=3) (n:=2) pa2 rfl rfl (P0 _ rfl) L) t1 t0 ⟨rfl,rfl⟩ (aV L rfl (zn [(1,_),(2,_),(3,_)] [(3,_)] t3 t1 (T1 (exr (lp2 ag24 sz24 L rfl rfl (cK hG hX cl15 hN (J0a h hB oM) L t1 (sw (P3 L) t1 t0 (mV L rfl (gV (g:=12) rfl rfl L rfl rfl (swg (g:=12) rfl rfl (c_c hG hX cl27 rfl hN (p0j oM hbB oM) L) rfl t1 t0 ?_)))))))))))
 refine swg (g:=12) rfl rfl (P3 L) rfl t1 t0 (sw (U3 rfl L) t2 t0 (mV L rfl (gV (g:=17) rfl rfl L rfl rfl (swg (g:=17) rfl rfl (c_c hG hX cl27 rfl hN (p0j oM hyB oM) L) rfl t1 t0 (swg (g:=17) rfl rfl (P3 L) rfl t1 t0 (sw (U3 rfl L) t2 t0 (mV L rfl (gV (g:=22) rfl rfl L rfl rfl (swg (g:=22) rfl rfl (X2 un40 L) rfl t1 t0 (swg (g:=22) rfl rfl (j2 un24 rfl sz22 dC rX L) rfl t1 t1 ?_))))))))))
 refine swg (g:=22) rfl rfl (Z1 ag22 rF rF L) rfl t1 t1 ?_
 refine swg (g:=22) rfl rfl (X2 un22 L) rfl t1 t0 (swg (g:=22) rfl rfl (c_n L) rfl t2 t0 (sw (U3 rfl L) t2 t0 (mV L rfl (gV (g:=30) rfl sO L rfl rfl (swg (g:=30) rfl sO (X2 un40 L) rfl t1 t0 (swg (g:=30) rfl sO (j2 un24 rfl sz22 dC rX L) rfl t1 t1 ?_))))))
 refine swg (g:=30) rfl sO (Z1 ag22 rF rF L) rfl t1 t1 ?_
 refine swg (g:=30) rfl sO (X2 un22 L) rfl t1 t0 (swg (g:=30) rfl sO (c_n L) rfl t2 t0 (sw (U3 sO L) t2 t0 (zn [(1,_),(2,_),(3,_),(37,_)] [(3,_)] t4 t1 (T3 rfl sO ?_))))
 refine V1 (xq ?_)
 refine exr (mV L rfl (lp2 ag24 sz24 L rfl rfl (cK hG hX cl71 hN (b1d c B C y M oM h.len hyl oM hB hyB oM oM oM) L t2 (aV L rfl (zn [(1,_),(2,_),(7,_)] [] t3 trivial (T1 (exr (aV L rfl (zn [(1,_),(2,_),(7,_),(8,_)] [] t4 trivial (X1 ?_))))))))))
 refine exl (α:=Nat) (fun j=>[(8,vi (j:Int))]) (fun j=>[]) (fun j=>j≤c∧V0f M y j=true) (fun j=>c - j) (0) (sl:=[(1,_),(2,_),(7,_)]) (hb:=[]) ?_ ⟨oR,rfl,rfl,rfl,trivial⟩ t0 ?_
 ·exact ⟨Nat.zero_le _,rfl⟩
 intro j hj
 obtain ⟨hj,hch⟩:=hj
 refine T1 (exr (mV L rfl (mV L rfl (sw (X2 un40 L) t1 t0 (sw (Z3 L) t2 t0 (zn [(1,_),(2,_),(7,_),(8,_),(44,_)] [] t5 trivial ?_))))))
 refine D2 rfl (fun hc=>?_) (fun hc=>?_)
 ·have hc:=dt hc
  simp only [Y5] at hc
  have hjc:j<c:=by omega
  have hjm:j<(f0h y M c).length:=by rw [Y5]; exact hjc
  have hq:=M1n hB hyB h.len hjc
  have hld:=X6 hjm
  rw [p1h hjc] at hld
  refine V1 (xq ?_)
  refine T1 (X1 (exr (mV L rfl (mV L rfl (sw (y2 un40 sz47 oM oM sM dC L) t2 t0 ?_)))))
  refine sw (Y6 ag47 sz47 hld rfl L) t1 t0 (cK hG hX cl22 hN (m1y (Z8 y (w7 M j))) L t1 (sw (P3 L) t1 t0 (zn [(1,_),(2,_),(7,_),(8,_),(52,_)] [] t5 trivial ?_)))
  refine D2 rfl (fun hz=>?_) (fun hz=>?_)
  ·have hz:=dnt hz
   refine exr (aV L rfl (zn [(6,_)] [] t1 trivial (Y1 ?_)))
   refine Q0 (.tmp rfl) ?_
   rw [F0m,F0a hjc (by rw [J0n hyl]; exact hz)]; rfl
  ·have hz:=dnf hz
   refine V1 (xq ?_)
   refine C3 (mV L rfl (sw (I3 L (w64 oM oM)) t2 t0 (aV L rfl (R1 ?_))))
   exact ⟨j+1,⟨by omega,by rw [w0b,hch,J0n hyl,hz]; rfl⟩,by omega,B3 ⟨oR,rfl,rfl,rfl,trivial⟩ trivial⟩
 ·have hc:=df hc
  simp only [Y5] at hc
  have hjc:j=c:=by omega
  subst hjc
  have hq:=f1h (u:=y) (v:=b) hyB hbB
  refine K2 (xq ?_)
  refine exr (mV L rfl (mV L rfl (cK hG hX cl63 hN (w0j y b C B oM oM hyB hbB oM oM oM) L t2 (cK hG hX cl61 hN (f1y) L t0 (cK hG hX cl33 hN (B0a (Z8 y b) 1 oM (by rw [G0f]; decide)) L t2 ?_)))))
  refine aV L rfl (zn [(6,_)] [] t1 trivial (Y1 ?_))
  refine Q0 (.tmp rfl) ?_
  rw [F0m,hch,Bool.true_and]


end Go.Proofs.YtjagfionflbjbaaGreat.N
