/- Part E of the proof: lemmas for the walks of the given functions. No statement of its own. -/
import Derived.LaidEql
import Derived.Test.YtjagfionflbjbaaGreatPD
set_option linter.unusedVariables false
set_option linter.unusedSimpArgs false
set_option linter.deprecated false
namespace Go.Proofs.YtjagfionflbjbaaGreat.SH
open Go Go.RowKit
section
variable {P:Program} {F:Fr} {Q:Exit→St→Prop} {S:St}
end
section
variable {P:Program} {F:Fr} {d:Nat} {T:TypeId} {pos:String} {aft:Array Edge} {g:Option (Nat×Bool)} {x:Operand} {t xT yT:TypeId} {y:L2} {c:Value} {ms:Array (String×TypeId)} {fs:Array Field}
end
end Go.Proofs.YtjagfionflbjbaaGreat.SH
namespace Go.Proofs.YtjagfionflbjbaaGreat.SH
open Go Go.RowKit
end Go.Proofs.YtjagfionflbjbaaGreat.SH
namespace Go.Proofs.YtjagfionflbjbaaGreat.SH
open Go Go.RowKit
structure Mk (cf:Nat→Nat) (A:Ann) (f:List Nat×List Nat):Prop where
 fr:∀ k,A.fresh=some k→cf k∈f.1
 me:∀ k,A.free k=false→cf k∈f.2
inductive Mks (cf:Nat→Nat):List Ann→List (List Nat×List Nat)→Prop
 | nil:Mks cf [] []
 | cons {A:Ann} {f:List Nat×List Nat} {As:List Ann} {fs:List (List Nat×List Nat)}:Mk cf A f→Mks cf As fs→Mks cf (A :: As) (f :: fs)
theorem J1g {cf:Nat→Nat}{As:List Ann}{fs:List (List Nat×List Nat)}(h:Mks cf As fs):∀ (i:Nat) (A:Ann),As[i]? = some A→∃ f,fs[i]? = some f∧Mk cf A f:=by
 induction h with
 | nil=>intro i A h; simp at h
 | cons hc _ ih =>
  intro i A hA
  cases i with
  | zero =>
    obtain rfl := by simpa using hA
    exact ⟨_,rfl,hc⟩
  | succ i=>simpa using ih i A (by simpa using hA)
theorem J1q {cf:Nat→Nat}{As As':List Ann}{fs fs':List (List Nat×List Nat)}(h:Mks cf As fs)(h':Mks cf As' fs'):Mks cf (As++As') (fs++fs'):=by
 induction h with
 | nil=>exact h'
 | cons hc _ ih=>exact .cons hc ih
theorem q1r {cf:Nat→Nat}{A B:Ann}{a b:List Nat×List Nat}(hA:Mk cf A a)(hB:Mk cf B b)(h1:hit a.1 b.2=false)(h2:hit b.1 a.2=false):y0b A B=true:=by
 simp only [y0b,j0]
 constructor
 ·cases e:A.fresh with
  | none=>rfl
  | some k =>
   cases e2:B.free k with
   | true=>simp [e2]
   | false=>exact absurd (hB.me k e2) (w8.1 h1 _ (hA.fr k e))
 ·cases e:B.fresh with
  | none=>rfl
  | some k =>
   cases e2:A.free k with
   | true=>simp [e2]
   | false=>exact absurd (hA.me k e2) (w8.1 h2 _ (hB.fr k e))
def J1h:List Oper→List (List Nat×List Nat)→List Nat→List (List Nat×List Nat)→Bool
 | [],[],_,_=>true
 | o :: os,b :: fs,ms,done=>((List.range ms.length).all fun i=>(b9 ms o).testBit i || (done[i]?.all fun a=>!hit a.1 b.2 && !hit b.1 a.2)) && J1h os fs (ms++[b9 ms o]) (done++[b])
 | _,_,_,_=>false
theorem D0s {cf cg:Nat→Nat}:∀ (os:List Oper) (As:List Ann) (sks:List Sk) (fs:List (List Nat×List Nat)) (ms:List Nat) (done:List Ann) (dsk:List Sk) (dfs:List (List Nat×List Nat)),b0h cf As sks→b0h cf done dsk→Mks cg As fs→Mks cg done dfs→done.length=ms.length→J1h os fs ms dfs=true→b8 os sks ms dsk=true→Y7 os As ms done=true
 | [],[],_,_,_,_,_,_,_,_,_,_,_,_,_=>rfl
 | [],_ :: _,_ :: _,_,_,_,_,_,_,_,_,_,_,_,hh=>by simp [b8] at hh
 | _ :: _,[],[],_,_,_,_,_,_,_,_,_,_,_,hh=>by simp [b8] at hh
 | _ :: _,_ :: _,[],_,_,_,_,_,h,_,_,_,_,_,_=>by cases h
 | _,[],_ :: _,_,_,_,_,_,h,_,_,_,_,_,_=>by cases h
 | [],_ :: _,[],_,_,_,_,_,h,_,_,_,_,_,_=>by cases h
 | _,_ :: _,_,[],_,_,_,_,_,_,h,_,_,_,_=>by cases h
 | o :: os,B :: As,b :: sks,f :: fs,ms,done,dsk,dfs,h,h',g,g',hl,hf,hh=>by
  cases h with
  | cons hB hAs =>
   cases g with
   | cons gB gAs =>
    simp only [b8,j0] at hh
    simp only [J1h,j0] at hf
    obtain ⟨⟨h1,h2⟩,h3⟩:=hh
    simp only [Y7,j0]
    refine ⟨⟨h1,?_⟩,D0s os As sks fs _ _ _ _ hAs (M0z h' (.cons hB .nil)) gAs (J1q g' (.cons gB .nil)) (by simp [hl]) hf.2 h3⟩
    rw [s0] at h2 ⊢
    intro i hi
    have hi':i<done.length:=by simpa using hi
    have:=h2 i (by simpa [← hl] using hi')
    have h5:=s0.1 hf.1 i (by simpa [← hl] using hi')
    rw [Bool.or_eq_true] at this h5 ⊢
    rcases this with h | h
    ·exact .inl h
    rcases h5 with h5 | h5
    ·exact .inl h5
    ·refine .inr ?_
     obtain ⟨A,hA⟩:∃ A,done[i]? = some A:=⟨done[i],by simp [hi']⟩
     obtain ⟨sk,hs,hc⟩:=M0p h' i A hA
     obtain ⟨fk,hfs,hfc⟩:=J1g g' i A hA
     rw [hs] at h
     rw [hfs] at h5
     rw [hA]
     simp only [Option.all_some,j0,Bool.not_eq_true'] at h5
     exact D0r hc hB (q1r hfc gB h5.1 h5.2) h
theorem d2d (cf cg:Nat→Nat){os:List Oper}{As:List Ann}{S:St}(sks:List Sk)(fs:List (List Nat×List Nat))(h1:b0h cf As sks)(g1:Mks cg As fs)(hS:∀ k∈m7 As,S.free k=true)(h2:b8 os sks [] []=true)(h3:J1h os fs [] []=true):(Y7 os As [] [] && Z5 S As)=true:=by
 rw [D0s os As sks fs [] [] [] [] h1 .nil g1 .nil rfl h3 h2,b0g hS]; rfl
theorem q0g {E:Env}{st:Nat→Bool}{f:FuncId}{xs:List L2}{r:L2}(h:R4 E st f (xs.map .p) [] [] (.p r)):v3 E f xs r:=by
 intro ok w vals hG hrel
 have hv:∀ (xs:List L2) (vals:List Value),I5 ok (hp w) xs vals→D3 (lk []) (fun j=>j) ok (hp w) (xs.map .p) vals:=by
  intro xs
  induction xs with
  | nil=>intro vals h; simpa [I5,D3] using h
  | cons x xs ih =>
   intro vals h
   simp only [I5] at h
   simp only [R0,D3]
   obtain ⟨v,r,h1,h2,h3⟩:=h
   exact ⟨v,r,h1,by simpa [M2] using h2,ih _ h3⟩
 refine Calls.mono (h ok (fun j=>j) w vals hG (fun j B hj=>by cases hj) (fun j j' hj=>absurd rfl hj) (hv xs vals hrel)) fun e w' ⟨v,ρ',he,hp⟩=>?_
 refine ⟨v,he,?_,⟨hp.os,hp.tape,hp.output,hp.size,fun b hb=>hp.frame b hb fun j hj=>absurd rfl hj⟩⟩
 have:=hp.res
 simp only [M2] at this
 exact Rel.mono (fun b hb _=>⟨hb.1,rfl⟩) _ _ this
end Go.Proofs.YtjagfionflbjbaaGreat.SH
set_option maxRecDepth 100000
set_option maxHeartbeats 4000000
namespace Go.Proofs.YtjagfionflbjbaaGreat.N
open Go Go.Proofs.YtjagfionflbjbaaGreat.SH Go.Proofs.YtjagfionflbjbaaGreat.NumA
open Go.Proofs.Tryz renaming call55→cl55,call89→cl89,isAgg22→ag22,isAgg3→ag3,isAgg40→ag40,isAgg47→ag47,isAgg73→ag73,isAgg77→ag77,sizeOf22→sz22,sizeOf3→sz3,sizeOf40→sz40,sizeOf47→sz47,sizeOf77→sz77,typeInfo40→ti40,underlying22→un22,underlying24→un24,underlying27→un27,underlying77→un77,underlying79→un79,zeroValue3→zv3,zeroValue47→zv47,zeroValue79→zv79
theorem J1d {s:Bool}{n:Nat}:Y6 (bv s n) [bv s n]:=by
 cases s
 ·exact .atom rfl
 ·exact .ref
theorem y5 (s:Bool)(b:List (List Rat)):R5 (bsT s b):=by
 cases s
 ·exact ⟨fun _ _=>rfl,List.nodup_nil,fun _ _=>rfl,fun j B hj=>by cases hj⟩
 ·exact y2 dC b
@[reducible] def wU (c:Nat)(m:List (List Rat))(v:PV):Nat×Blk:=(999,⟨79,3,.mix [rvV 1001 (V4 0 0 m),.p (vZ c),v]⟩)
def s5 (s:Bool)(m b:List (List Rat)):List (Nat×Blk):=B0x 0 m++bsT s b
theorem P0g {s:Bool}{m b:List (List Rat)}(h:0<m.length):s5 s m b=W3 s m b:=by rw [s5,v0q h]; rfl
theorem Y1s {c:Nat}{m:List (List Rat)}{v:PV}(h:0<m.length):wU c m v=wV c m.length v:=by
 cases m with
 | nil=>cases h
 | cons r m=>simp [wU,wV,rvV,V4]
theorem J6 (s:Bool)(m b:List (List Rat)):R5 (s5 s m b):=by
 cases m with
 | nil=>exact y5 s b
 | cons r m=>rw [P0g sM]; exact U7 s _ b
theorem G1v {s:Bool}{b:List (List Rat)}{k:Nat}(h:(bsT s b).lookup k≠none):k=1002∨∃ q,k=I3 1 q:=by
 cases s
 ·exact absurd rfl h
 ·rcases V5 dC h with h | ⟨q,_,h⟩
  ·exact .inl h
  ·exact .inr ⟨q,h⟩
theorem Q0m {s:Bool}{b:List (List Rat)}{k:Nat}(h1:k≠1002)(h2:∀ q,k≠I3 1 q):(bsT s b).lookup k=none:=by
 cases e:(bsT s b).lookup k with
 | none=>rfl
 | some B =>
  rcases G1v (show (bsT s b).lookup k≠none by rw [e]; simp) with h | ⟨q,h⟩
  ·exact absurd h h1
  ·exact absurd h (h2 q)
theorem D1h {s:Bool}{b:List (List Rat)}{k:Nat}(h:∀ q,k≠I3 1 q):X2 k (bsT s b)=true:=by
 cases s
 ·rfl
 ·have hr:∀ (i:Nat) (m:List (List Rat)),PV.freeL k (V4 1 i m)=true:=by
   intro i m
   induction m generalizing i with
   | nil=>rfl
   | cons v m ih=>simp only [V4,PV.freeL,PV.free,ih,Bool.and_true,bne_iff_ne]; exact fun e=>h i e.symm
  simp only [bsT,if_true,I2,X2,Cells.free,hr,f0j,Bool.and_self]
theorem n0x {k:Nat}:∀ {i:Nat} {m:List (List Rat)},(∀ q,q<i+m.length→k≠I3 0 q)→PV.freeL k (V4 0 i m)=true
 | _,[],_=>rfl
 | i,v :: m,h=>by
  simp only [V4,PV.freeL,PV.free,j0,bne_iff_ne]
  exact ⟨fun e=>h i sM e.symm,n0x fun q hq=>h q sO⟩
theorem w0r {s:Bool}{m b:List (List Rat)}{k:Nat}(h1:∀ q,q<m.length→k≠I3 0 q)(h2:∀ q,k≠I3 1 q):X2 k (s5 s m b)=true:=by
 rw [s5,B0x,P4,P4,D1h h2,f0j,y1v (n0x (by simpa using h1))]; rfl
theorem b1y {s:Bool}{m b:List (List Rat)}{k:Nat}(h1:∀ q,q<m.length→k≠I3 0 q)(h2:∀ q,k≠I3 1 q)(h3:k=1001→m=[])(h4:k≠1002):(s5 s m b).lookup k=none:=by
 rw [s5,T1,Q0m h4 h2,Option.or_none]
 cases e:(B0x 0 m).lookup k with
 | none=>rfl
 | some B =>
  rcases N0m dC (show (B0x 0 m).lookup k≠none by rw [e]; simp) with h | ⟨q,hq,h⟩
  ·rw [h3 h] at e; cases e
  ·exact absurd h (h1 q hq)
theorem f1g (i q:Nat):I3 0 i≠I3 1 q:=by unfold I3; omega
theorem D0m {i q:Nat}(h:q<i):I3 0 i≠I3 0 q:=by unfold I3; omega
theorem k1m {k:Nat}{e:TypeId}{cs:List PV}{p:Nat×Blk}(h:p∈rvB k e cs):p.1=k:=by
 cases cs with
 | nil=>cases h
 | cons a l=>obtain rfl:=List.mem_singleton.1 h; rfl
theorem h1z {k q:Nat}{cs:List PV}(h:rvF k cs=some q):q=k∧cs=[]:=by
 cases cs with
 | nil=>injection h with h; exact ⟨h.symm,rfl⟩
 | cons a l=>cases h
theorem H0j {S:St}:∀ {a b:List (Nat×Blk)},P6 S a→P6 S b→P6 S (a++b)
 | [],_,_,h=>h
 | _ :: _,_,h,h'=>⟨h.1,H0j h.2 h'⟩
theorem K0f {k q:Nat}{cs:List PV}(h:(rvV k cs).free q=false):q=k:=by
 cases cs with
 | nil=>cases h
 | cons a l =>
  have h:(k != q)=false:=h
  exact (bne_eq_false_iff_eq.1 h).symm
def cgB (i k:Nat):Nat:=if k=I3 0 i then 2000 else if k<1003 then k else 1003
theorem k1w {i:Nat}:cgB i (I3 0 i)=2000:=by rw [cgB,if_pos rfl]
theorem k0g {i k:Nat}(h:k<1003):cgB i k=k:=by
 have h1:¬ k=I3 0 i:=by unfold I3; omega
 rw [cgB,if_neg h1,if_pos h]
theorem M1v {i q:Nat}:∀ {a:Nat} {m:List (List Rat)},PV.freeL q (V4 0 a m)=false→a+m.length≤i→cgB i q=1003
 | _,[],h,_=>by cases h
 | a,v :: m,h,hl=>by
  simp only [V4,PV.freeL,PV.free,Bool.and_eq_false_iff,bne_eq_false_iff_eq] at h
  simp only [D1] at hl
  rcases h with h | h
  ·subst h
   have h1:¬ I3 0 a=I3 0 i:=by unfold I3; omega
   have h2:¬ I3 0 a<1003:=by unfold I3; omega
   rw [cgB,if_neg h1,if_neg h2]
  ·exact M1v h oM
theorem M8 {k j:Nat}{B:Blk}{l:List (Nat×Blk)}(h:k≠j):List.lookup k ((j,B) :: l)=List.lookup k l:=by rw [i0,show (k == j)=false by simpa using h]
theorem V1f {s:Bool}{sl:List (Nat×PV)}{i:Nat}{m b:List (List Rat)}{v:List Rat}{X Y Z:Blk}(hm:m.length=i) :
  O5 ⟨sl,(999,X) :: ([(1001,⟨40,1,.mix (V4 0 0 m++[.ref (I3 0 i) 0 v.length (v.length*4)])⟩)]++(27,Y) :: (I3 0 i,T3 v) :: ([(999,Z)]++s5 s m b))⟩ (s5 s (m++[v]) b):=by
 have hr:∀ q j,I3 q j≠999∧I3 q j≠1001∧I3 q j≠27:=fun q j=>by unfold I3; omega
 refine v5 (J6 s (m++[v]) b).nd fun k B hk=>?_
 show List.lookup k _=some B
 rw [s5,B0x,k0s,K1s,v0z,hm] at hk
 simp only [L1,List.nil_append,List.append_assoc,F1] at hk ⊢
 by_cases e1:k=1001
 ·subst e1
  rw [M8 dC]
  rw [i0] at hk ⊢
  exact hk
 ·rw [M8 e1,T1] at hk
  have h999:k≠999:=by
   rintro rfl
   have h1:(d7 0 0 m).lookup 999=none:=p0x fun j _=>by have:=(hr 0 (0+j)).1; omega
   rw [h1,l0,M8 (Ne.symm (hr 0 i).1),Q0m dC (fun q=>Ne.symm (hr 1 q).1)] at hk; cases hk
  have h27:k≠27:=by
   rintro rfl
   have h1:(d7 0 0 m).lookup 27=none:=p0x fun j _=>by have:=(hr 0 (0+j)).2.2; omega
   rw [h1,l0,M8 (Ne.symm (hr 0 i).2.2),Q0m dC (fun q=>Ne.symm (hr 1 q).2.2)] at hk; cases hk
  rw [M8 h999,M8 e1,M8 h27]
  by_cases e2:k=I3 0 i
  ·subst e2
   have h1:(d7 0 0 m).lookup (I3 0 i)=none:=p0x fun j hj=>by rw [F1]; exact D0m oM
   rw [h1,l0,List.lookup_cons_self] at hk
   rw [List.lookup_cons_self]; exact hk
  ·rw [M8 e2,M8 h999,s5,B0x,T1,T1]
   have h2:(rvB (0+1001) 40 (V4 0 0 m)).lookup k=none:=by
    cases e:(rvB (0+1001) 40 (V4 0 0 m)).lookup k with
    | none=>rfl
    | some C=>exact absurd (k1m (L3 e)) oM
   rw [h2,l0]
   rw [M8 e2] at hk
   exact hk
theorem w1b {i d k o t:Nat}{rs:List (Operand×PV)}{rb:List (Nat×Blk)}(hk:k<1003):Mk (cgB i) ⟨rs,rb,none,[(d,.at_ k o t)],[]⟩ ([],[k]):=by
 refine ⟨fun q hq=>(by cases hq),fun q hq=>?_⟩
 simp only [Ann.free,J3,X2,PV.free,Bool.and_true,bne_eq_false_iff_eq] at hq
 subst hq
 rw [k0g hk]; simp
theorem d2h {i d:Nat}{rs:List (Operand×PV)}{rb:List (Nat×Blk)}{cs:List PV}:Mk (cgB i) ⟨rs,rb,none,[(d,rvV 1001 cs)],[]⟩ ([],[1001]):=by
 refine ⟨fun q hq=>(by cases hq),fun q hq=>?_⟩
 simp only [Ann.free,J3,X2,Bool.and_true] at hq
 rw [K0f hq,k0g dC]; simp
theorem mkP {i d:Nat}{rs:List (Operand×PV)}{rb:List (Nat×Blk)}{x:L2}:Mk (cgB i) ⟨rs,rb,none,[(d,.p x)],[]⟩ ([],[]):=by
 refine ⟨fun q hq=>(by cases hq),fun q hq=>?_⟩
 simp [Ann.free,J3,X2,PV.free] at hq
theorem mkN {i d n t:Nat}{rs:List (Operand×PV)}{rb:List (Nat×Blk)}{T:TypeId}{sz:Nat}{xs:List L2}:Mk (cgB i) ⟨rs,rb,some (I3 0 i),[(d,.ref (I3 0 i) 0 n t)],[(I3 0 i,⟨T,sz,.pure xs⟩)]⟩ ([2000],[2000]):=by
 refine ⟨fun q hq=>(by injection hq with hq; subst hq; rw [k1w]; simp),fun q hq=>?_⟩
 simp only [Ann.free,J3,X2,PV.free,Cells.free,Bool.and_true,bne_eq_false_iff_eq] at hq
 subst hq
 rw [k1w]; simp
theorem mkS {i d a n t a' n' t':Nat}{rs:List (Operand×PV)}{rb:List (Nat×Blk)}{T:TypeId}{sz:Nat}(ha:a<1000):Mk (cgB i) ⟨rs,rb,some a,[(d,.ref a 0 n t)],[(a,⟨T,sz,.mix [.ref (I3 0 i) a' n' t']⟩)]⟩ ([a],[a,2000]):=by
 refine ⟨fun q hq=>(by injection hq with hq; subst hq; rw [k0g oM]; simp),fun q hq=>?_⟩
 simp only [Ann.free,J3,X2,PV.free,PV.freeL,Cells.free,Bool.and_true,Bool.and_eq_false_iff,bne_eq_false_iff_eq] at hq
 rcases hq with hq | hq <;> subst hq
 ·rw [k0g oM]; simp
 ·rw [k1w]; simp
theorem mkH {i d n t n' t':Nat}{rs:List (Operand×PV)}{rb:List (Nat×Blk)}{T:TypeId}{sz:Nat}{m:List (List Rat)}(hm:m.length=i):Mk (cgB i) ⟨rs,rb,rvF 1001 (V4 0 0 m),[(d,.ref 1001 0 n t)],[(1001,⟨T,sz,.mix (V4 0 0 m++[.ref (I3 0 i) 0 n' t'])⟩)]⟩ ([1001],[1001,1003,2000]):=by
 have hap:∀ (q:Nat) (l r:List PV),PV.freeL q (l++r)=(PV.freeL q l && PV.freeL q r):=fun q l r=>by
  induction l with
  | nil=>rfl
  | cons x l ih=>simp [PV.freeL,ih,Bool.and_assoc]
 refine ⟨fun q hq=>(by rw [(h1z hq).1,k0g dC]; simp),fun q hq=>?_⟩
 simp only [Ann.free,J3,X2,PV.free,PV.freeL,Cells.free,hap,Bool.and_true,Bool.and_eq_false_iff,bne_eq_false_iff_eq] at hq
 rcases hq with hq | hq | hq
 ·subst hq; rw [k0g dC]; simp
 ·rw [M1v (i:=i) hq oM]; simp
 ·subst hq; rw [k1w]; simp
theorem mkW {i n t:Nat}{s:Bool}{c:L2}{rs:List (Operand×PV)}{rb:List (Nat×Blk)}{T:TypeId}{sz n':Nat}:Mk (cgB i) ⟨rs,rb,none,[],[(999,⟨T,sz,.mix [.ref 1001 0 n t,.p c,bv s n']⟩)]⟩ ([],[999,1001,1002]):=by
 refine ⟨fun q hq=>(by cases hq),fun q hq=>?_⟩
 simp only [Ann.free,J3,X2,PV.free,PV.freeL,Cells.free,Bool.and_true,Bool.true_and,Bool.and_eq_false_iff,bne_eq_false_iff_eq] at hq
 rcases hq with hq | hq
 ·subst hq; rw [k0g dC]; simp
 ·have:=PV.only_mem (J1z (s:=s) (n:=n')) hq
  simp only [List.mem_cons,List.not_mem_nil,or_false] at this
  rcases this with rfl | rfl | rfl <;> (rw [k0g dC]; simp)
theorem d2v {s:Bool}{sl:List (Nat×PV)}{pre:List (Nat×Blk)}{m b:List (List Rat)}(hp:∀ B,(1001,B) ∉ pre):P6 ⟨sl,pre++s5 s m b⟩ (rvB 1001 40 (V4 0 0 m)):=by
 cases m with
 | nil=>trivial
 | cons v m =>
  refine ⟨?_,trivial⟩
  show (pre++_).lookup 1001=_
  rw [T1]
  have:pre.lookup 1001=none:=by
   cases e:pre.lookup 1001 with
   | none=>rfl
   | some B=>exact absurd (L3 e) (hp B)
  rw [this,l0]; rfl
theorem D0z {M:List (List Rat)}{i:Nat}(h:i<M.length):M.take (i+1)=M.take i++[M.getD i []]:=by
 rw [I1]; congr 1; simp [f0,h]
theorem n0k (s:Bool)(n cols:Nat)(M b:List (List Rat))(hM:RC n cols M)(hn:n<1000)(hc:cols<1000):R4 E (fun _=>false) 50 [.p (.agg [vZ cols,.sl n (M5 M)]),bv s n] (bsT s b) ([wU cols M (bv s n)]++s5 s M b) (.at_ 999 0 3):=by
 refine y0a Tryz.func50 rfl Tryz.ntmps50 Tryz.results50 sM fun F G=>?_
 have L:=@lti _ _ G.nt
 have hG:=G.g
 have hX:=G.x
 have hN:=Y5 hG
 have P0:∀ k,Nat.blt k 1000=true→F.pin k=none:=fun k hk=>G.p0 k ((y5 s b).low k hk)
 obtain ⟨rfl,hMc⟩:=hM
 refine exr (swb (U3 (k:=989) (n:=2) pa2 rfl rfl (P0 _ rfl) L) t1 t0 (frT [] (y5 s b) rfl rfl (by simp [J3,X2,Cells.free,PV.freeL,PV.free,X3,i3])) ?_)
 refine aV L rfl ?_
 refine O1 ⟨[(1,_),(2,_)],(989,_) :: ((bsT s b)),t2,⟨rfl,(hbT [_] (y5 s b) rfl)⟩,?_⟩
 refine exr (sw (i2 un24 rfl sz3 dC rX L) t1 t1 ?_)
 refine sw (Y1 ag3 rF rF L) t1 t1 ?_
 refine mV L rfl (sw (k0f (vs:=[_,_]) un79 zv79 (.cons rfl (.cons rfl (.cons rfl .nil))) ((J2.cons sz77 (J2.cons sz3 (J2.cons sz77 J2.nil)))).to rfl (.cons rfl (.atom rfl) rfl (.skip pu1) (.cons rfl J1d rfl (.skip (.skip pu1)) .nil)) L) t2 t0 (swb (U3 (k:=999) (n:=3) .agg rfl (by simp [PV.freeL,PV.free]) (P0 _ rfl) L) t1 t0 (frT [_] (y5 s b) rfl rfl (by simp [J3,X2,Cells.free,PV.freeL,PV.free,X3,i3])) ?_))
 refine aV L rfl ?_
 refine O1 ⟨[(2,_),(5,_)],(989,_) :: (999,_) :: ((bsT s b)),t2,⟨rfl,rfl,(hbT [_,_] (y5 s b) rfl)⟩,?_⟩
 refine R1 (exr (sw (i2 un24 rfl sz22 dC rX L) t1 t1 ?_))
 refine sw (Y1 ag22 rF rF L) t1 t1 ?_
 refine sw (R2 un22 L) t1 t0 (mV L rfl ?_)
 refine O1 ⟨[(5,_),(14,_),(15,_),(16,_)],(999,_) :: ((bsT s b)),t4,⟨rfl,(hbT [_,_] (y5 s b) rfl)⟩,?_⟩
 refine V1 ?_
 refine J0n (α:=Nat) (fun i=>[(16,vi (i:Int))]) (fun i=>[(999,(wU cols (M.take i) (bv s M.length)).2)]) (fun i=>(s5 s (M.take i) b)) (fun i=>i≤M.length) (fun i=>M.length - i) (0) (sl:=[(5,_),(14,_),(15,_)]) (hb:=[]) ?_ ⟨oR,rfl,rfl,rfl,trivial⟩ ⟨rfl,(hbT [_] (y5 s b) rfl)⟩ ?_
 ·exact Nat.zero_le _
 intro i hi
 refine exr (sw (P3 L) t2 t0 ?_)
 refine O1 ⟨[(5,_),(14,_),(15,_),(16,_),(17,_)],(999,_) :: ((s5 s (M.take i) b)),t5,⟨rfl,(hbT [_] (J6 s (M.take i) b) rfl)⟩,?_⟩
 refine R1 ?_
 refine j2 rfl (fun hc=>?_) (fun hc=>?_)
 ·have hc2:=dt hc
  have hil:i<M.length:=by omega
  refine U1 (xq ?_)
  refine R1 (V1 (exr (sw (ixJ un22 sz40 (j:=i) rO oM sM L) t2 t0 ?_)))
  refine sw (d4 ag40 (by rw [b7 hil]) L) t1 t0 ?_
  refine aV L rfl ?_
  refine O1 ⟨[(5,_),(7,_),(14,_),(15,_),(16,_)],(999,_) :: ((s5 s (M.take i) b)),t5,⟨rfl,(hbT [_] (J6 s (M.take i) b) rfl)⟩,?_⟩
  obtain ⟨v,hv⟩:∃ v,v=M.getD i []:=⟨_,rfl⟩
  obtain ⟨cs,hcs⟩:∃ cs,cs=V4 0 0 (M.take i):=⟨_,rfl⟩
  have hvl:v.length=cols:=by rw [hv]; exact hMc _ (b0a hil)
  have htl:(M.take i).length=i:=by rw [J0]; omega
  have hcl:cs.length=i:=by rw [hcs,E2,htl]
  have hts:=D0z hil
  rw [← hv] at hts ⊢
  have hcs2:V4 0 0 (M.take (i+1))=cs++[.ref (I3 0 i) 0 v.length (v.length*4)]:=by rw [hts,k0s,← hcs,htl,F1]
  have hp1:F.pin 1001=none:=G.ps _ rfl
  have hp2:F.pin (I3 0 i)=none:=G.ps _ rfl
  show n4 _ _ _ ⟨_,[(999,⟨79,3,.mix [rvV 1001 (V4 0 0 (M.take i)),.p (vZ cols),bv s M.length]⟩)]++s5 s (M.take i) b⟩ _
  rw [← hcs]
  have nf:∀ k,k<1001→X2 k (s5 s (M.take i) b)=true:=fun k hk=>w0r (fun q _=>by simp only [I3]; omega) (fun q=>by simp only [I3]; omega)
  have nfi:X2 (I3 0 i) (s5 s (M.take i) b)=true:=w0r (fun q hq=>D0m oM) (fun q=>f1g i q)
  have nli:(s5 s (M.take i) b).lookup (I3 0 i)=none:=b1y (fun q hq=>D0m oM) (fun q=>f1g i q) (fun h=>by simp only [I3] at h; omega) (by simp only [I3]; omega)
  have nf1:X2 1001 (s5 s (M.take i) b)=true:=w0r (fun q _=>by unfold I3; omega) (fun q=>by unfold I3; omega)
  have nl:∀ k,k<1000→(s5 s (M.take i) b).lookup k=none:=fun k hk=>(J6 s (M.take i) b).low k (by simpa [Nat.blt_eq] using hk)
  have h27:I3 0 i≠27∧I3 0 i≠999∧I3 0 i≠1001∧I3 0 i≠1002:=by simp only [I3]; omega
  refine b0z rF ?_
  refine mV L rfl (mV L rfl (sw (Z2 rX L) t1 t1 ?_))
  refine sw (i2 un79 rfl sz77 dC rX L) t1 t1 ?_
  refine sw (Y1 ag77 rF rF L) t1 t1 ?_
  refine mV L rfl ?_
  refine swb (d1z (k:=I3 0 i) hG hX cl89 rfl hN (Y0h v oM) hp2 L) t1 t0 ⟨?_,?_⟩ ?_
  ·show ([(999,_)]++s5 s (M.take i) b).lookup (I3 0 i)=none
   rw [T1,i0,show (I3 0 i == 999)=false by simpa using h27.2.1]; exact nli
  ·show (J3 (I3 0 i) _ && X2 (I3 0 i) ([(999,_)]++s5 s (M.take i) b))=true
   have hcf:PV.freeL (I3 0 i) cs=true:=by rw [hcs]; exact n0x fun q hq=>D0m oM
   rw [P4,nfi]
   simp [J3,X2,Cells.free,PV.freeL,PV.free,k0d (cs:=cs) (Ne.symm h27.2.2.1),Q0d (s:=s) (n:=M.length) (Ne.symm h27.2.2.2),Ne.symm h27.2.1]
  refine swb (Y1d (k:=27) (vs:=[_]) un77 ti40 rfl rfl dC dC rfl (K2 (.cons rfl .nil) rfl) rfl (.cons rfl .ref rfl pu1 .nil) rfl (by simp [PV.freeL,PV.free,h27.1]; rfl) (P0 _ rfl) L) t1 t0 ⟨?_,?_⟩ ?_
  ·show (List.lookup 27 ((I3 0 i,_) :: ([(999,_)]++s5 s (M.take i) b)))=none
   rw [i0,show (27 == I3 0 i)=false by simpa using Ne.symm h27.1,T1,i0]; exact nl 27 dC
  ·show (J3 27 _ && X2 27 ((I3 0 i,_) :: ([(999,_)]++s5 s (M.take i) b)))=true
   simp only [X2,P4,nf 27 dC]
   simp [J3,Cells.free,PV.freeL,PV.free,k0d (k:=1001) (q:=27) (cs:=cs) dC,h27.1]
  refine swA (v1k (k:=1001) (j:=27) (cs:=cs) (u:=.ref (I3 0 i) 0 v.length (v.length*4)) un77 un77 ti40 rfl rfl rfl (by simp [PV.free,h27.2.2.1]) (by simp [Tryz.t40]; omega) oM hp1 L) t2 ?_ ?_ ?_
  ·refine H0j ?_ t1
   rw [hcs]
   exact d2v (pre:=[_,_,_]) (fun B hB=>by simp [Ne.symm h27.2.2.1] at hB)
  ·cases hcs0:cs with
   | cons a l=>trivial
   | nil =>
    have hM0:M.take i=[]:=List.length_eq_zero_iff.1 (by rw [htl,← hcl,hcs0]; rfl)
    refine ⟨?_,?_⟩
    ·show (List.lookup 1001 ((27,_) :: (I3 0 i,_) :: ([(999,_)]++s5 s (M.take i) b)))=none
     rw [M8 dC,M8 (Ne.symm h27.2.2.1),T1,M8 dC]
     exact b1y (fun q _=>by unfold I3; omega) (fun q=>by unfold I3; omega) (fun _=>hM0) dC
    ·show (J3 1001 _ && X2 1001 ((27,_) :: (I3 0 i,_) :: ([(999,_)]++s5 s (M.take i) b)))=true
     simp only [X2,P4,nf1]
     simp [J3,Cells.free,PV.freeL,PV.free,rvV,h27.2.2.1,F1k]
  refine sw (Z2 rX L) t1 t1 ?_
  refine sw (i2 un79 rfl sz77 dC rX L) t1 t1 ?_
  refine sb (U2 sz77 rF .ref rfl pu1) t2 t1 ?_
  refine O1 ⟨d2d cls (cgB i) [⟨[5],[],[20],[]⟩,⟨[5],[],[21],[]⟩,⟨[21],[999],[22],[]⟩,⟨[22],[999],[23],[]⟩,⟨[23],[999],[24],[]⟩,⟨[7],[],[25],[]⟩,⟨[25],[],[26],[1000]⟩,⟨[26],[],[27],[27]⟩,⟨[24,27],[1000,27],[28],[1000]⟩,⟨[20],[999],[29],[]⟩,⟨[29],[999],[30],[]⟩,⟨[30,28],[999],[],[999]⟩] [([],[999]),([],[999]),([],[999]),([],[999]),([],[1001]),([],[]),([2000],[2000]),([27],[27,2000]),([1001],[1001,1003,2000]),([],[999]),([],[999]),([],[999,1001,1002])] (.cons (cf0 rfl) (.cons (cf0 rfl) (.cons (cf0 rfl) (.cons (cf0 rfl) (.cons (cf0 rfl) (.cons (cf0 rfl) (.cons ?_ (.cons (cf0 rfl) (.cons ?_ (.cons (cf0 rfl) (.cons (cf0 rfl) (.cons (cf0 rfl) .nil)))))))))))) (.cons ?_ (.cons ?_ (.cons ?_ (.cons ?_ (.cons ?_ (.cons ?_ (.cons ?_ (.cons ?_ (.cons ?_ (.cons ?_ (.cons ?_ (.cons ?_ .nil)))))))))))) ?_ dC dC,(show n4 _ _ _ _ _ from exw (sl:=[(5,_),(14,_),(15,_),(16,_)]) (hb:=(wU cols (M.take (i+1)) (bv s M.length)) :: (s5 s (M.take (i+1)) b)) t4 ⟨?_,?_⟩ ?_)⟩
  ·exact ⟨fun k hk=>(by injection hk with hk; subst hk; simp),rfl,fun _ h=>(by cases h),rfl,V8 (C5 0 i)⟩
  ·refine ⟨fun k hk=>by rw [(h1z hk).1]; rfl,rfl,fun p hp=>?_,rfl,V8 dC⟩
   rcases List.mem_append.1 hp with hp | hp
   ·rw [k1m hp]; decide
   ·obtain rfl:=List.mem_singleton.1 hp
    show cls 27∈[1000,27]
    decide
  ·exact w1b dC
  ·exact w1b dC
  ·exact w1b dC
  ·exact w1b dC
  ·exact d2h
  ·exact mkP
  ·exact mkN
  ·exact mkS dC
  ·rw [hcs]; exact mkH htl
  ·exact w1b dC
  ·exact w1b dC
  ·exact mkW
  ·intro k hk
   show (J3 k _ && X2 k ([(999,_)]++s5 s (M.take i) b))=true
   simp only [m7,Option.toList_none,Option.toList_some,List.nil_append,List.append_nil,List.mem_append,List.mem_singleton,Option.mem_toList] at hk
   rw [P4]
   rcases hk with rfl | rfl | hk
   ·rw [nfi]; simp [J3,X2,Cells.free,PV.freeL,PV.free,k0d (cs:=cs) (Ne.symm h27.2.2.1),Q0d (s:=s) (n:=M.length) (Ne.symm h27.2.2.2),Ne.symm h27.2.1]
   ·rw [nf 27 dC]; simp [J3,X2,Cells.free,PV.freeL,PV.free,k0d (k:=1001) (q:=27) (cs:=cs) dC]
   ·obtain ⟨rfl,h0⟩:=h1z hk
    rw [nf1,h0]; simp [J3,X2,Cells.free,PV.freeL,PV.free,rvV]
  ·rw [hcs2,M1b]; rfl
  ·rw [hts,hcs]; exact V1f htl
  refine j3 (sw (B3 L (w64 oM oM)) t2 t0 (mV L rfl (O1 ?_)))
  exact ⟨i+1,oM,by omega,l3 ⟨oR,rfl,rfl,rfl,trivial⟩ ⟨rfl,(hbT [_] (J6 s (M.take (i+1)) b) rfl)⟩⟩
 ·have hc2:=df hc
  have e:i=M.length:=by omega
  subst e
  rw [I0]
  refine G2 (xq ?_)
  refine exr (mV L rfl (aV L rfl ?_))
  refine O1 ⟨[(4,_)],(999,_) :: ((s5 s M b)),t1,⟨rfl,(hbT [_] (J6 s M b) rfl)⟩,?_⟩
  refine X1 ?_
  refine ⟨.inr rfl,rfl,⟨rfl,hbT [_] (J6 s M b) rfl⟩⟩
@[simp] theorem W1a {k q:Nat}{cs:List PV}(h:k≠q):(rvV k cs).free q=true:=k0d h
theorem k1q {sl:List (Nat×PV)}{pre pre' T:List (Nat×Blk)}(hT:R5 T)(hp:l6 pre=true)(hb:O5 ⟨[],pre⟩ pre'):h0z ⟨sl,pre++T⟩ [] (pre'++T):=by
 refine q0v fun p hp2=>⟨rfl,?_⟩
 show (pre++T).lookup p.1=_
 rcases List.mem_append.1 hp2 with h | h
 ·rw [T1,q0f hb h]; rfl
 ·have h1:=U5 (j:=p.1) (B:=p.2) hT.nd h
  have h2:pre.lookup p.1=none:=by
   cases e:pre.lookup p.1 with
   | none=>rfl
   | some C =>
    have:=f0h hp e
    rw [hT.low _ (by simpa [Nat.blt_eq] using this)] at h1; cases h1
  rw [T1,h2,l0,h1]
theorem v1x (s:Bool)(n cols:Nat)(b:List (List Rat)):R4 E G8 51 [.at_ 999 0 3] ([wU cols [] (bv s n)]++bsT s b) ([wU cols [] (bv s n)]++bsT s b) (.p (.tup [.sl 0 [],pQ 1])):=by
 refine v4 (xs:=[.sl 0 [],pQ 1]) Tryz.func51 rfl Tryz.ntmps51 Tryz.results51 sM fun F G=>?_
 have L:=@lti _ _ G.nt
 have hG:=G.g
 have hX:=G.x
 have hN:=Y5 hG
 have P0:=fun k (hk:(Nat.blt k 1000 && (List.lookup k _).isNone)=true)=>G.p0 k (p0T (y5 s b) hk)
 refine exr (swb (g0m (k:=1) rX rfl (P0 _ rfl) L) t1 t1 (frT [_] (y5 s b) rfl rfl (by simp [J3,X2,Cells.free,PV.freeL,PV.free,X3,i3])) ?_)
 refine aV L rfl (swb (R3 (k:=3) (n:=4) zv47 (.cons rfl (.cons rfl (.cons rfl (.cons rfl .nil)))) rfl (P0 _ rfl) L) t0 t0 (frT [_,_] (y5 s b) rfl rfl (by simp [J3,X2,Cells.free,PV.freeL,PV.free,X3,i3])) ?_)
 refine O1 ⟨[(1,_),(2,_),(3,_)],(1,_) :: (3,_) :: (999,_) :: ((bsT s b)),t3,⟨rfl,rfl,rfl,(hbT [_,_,_] (y5 s b) rfl)⟩,?_⟩
 refine exr (cK hG hX cl55 hN (l7 1 dC dC) L t1 (sb (U2 sz47 rF pa4 rfl pu4) t2 t1 ?_))
 refine O1 ⟨[(1,_),(2,_),(3,_)],(1,_) :: (3,_) :: (999,_) :: ((bsT s b)),t3,⟨rfl,rfl,rfl,(hbT [_,_,_,_] (y5 s b) rfl)⟩,?_⟩
 refine R1 (exr (swb (R3 (k:=4) (n:=1) zv3 (.cons rfl .nil) rfl (P0 _ rfl) L) t0 t0 (frT [_,_,_] (y5 s b) rfl rfl (by simp [J3,X2,Cells.free,PV.freeL,PV.free,X3,i3])) ?_))
 refine sb (U2 sz3 rF (.atom rfl) rfl pu1) t2 t1 ?_
 refine O1 ⟨[(1,_),(2,_),(3,_),(4,_)],(1,_) :: (3,_) :: (4,_) :: (999,_) :: ((bsT s b)),t4,⟨rfl,rfl,rfl,rfl,(hbT [_,_,_,_,_] (y5 s b) rfl)⟩,?_⟩
 refine V1 ?_
 refine J0n (α:=Nat) (fun x=>[]) (fun x=>[(4,⟨3,1,.mix [.p (vZ (x:Int))]⟩)]) (fun x=>(bsT s b)) (fun x=>x=0) (fun x=>x) (0) (sl:=[(1,_),(2,_),(3,_),(4,_)]) (hb:=[(1,_),(3,_),(999,_)]) ?_ t4 ⟨rfl,rfl,rfl,rfl,(hbT [_,_,_,_] (y5 s b) rfl)⟩ ?_
 ·rfl
 intro x hx
 subst hx
 by_cases hcc:0<cols
 ·refine R1 (exd rF ?_)
  refine sw (Y1 ag3 rF rF L) t1 t1 ?_
  refine sw (Y1 ag73 rF rF L) t1 t1 ?_
  refine sw (Z2 rX L) t1 t1 ?_
  refine sw (i2 un79 rfl sz3 dC rX L) t1 t1 ?_
  refine sw (Y1 ag3 rF rF L) t1 t1 ?_
  refine sw (P3 L) t2 t0 (mV L rfl (gV (g:=19) rfl sO L rfl rfl (swg (g:=19) rfl sO (w0j un27 L) rfl t1 t0 (swg (g:=19) rfl sO (Y1 ag73 rF rF L) rfl t1 t1 ?_))))
  refine swg (g:=19) rfl sO (Z2 rX L) rfl t1 t1 ?_
  refine swg (g:=19) rfl sO (i2 un79 rfl sz77 dC rX L) rfl t1 t1 ?_
  refine swg (g:=19) rfl sO (Y1 ag77 rF rF L) rfl t1 t1 ?_
  refine swg (g:=19) rfl sO (w0j un77 L) rfl t1 t0 (swg (g:=19) rfl sO (P3 L) rfl t2 t0 (sw (O4 sO L) t2 t0 ?_))
  refine O1 ⟨h0n [⟨[4],[4],[13],[]⟩,⟨[1],[1],[14],[]⟩,⟨[14],[999],[15],[]⟩,⟨[15],[999],[16],[]⟩,⟨[16],[999],[17],[]⟩,⟨[13,17],[],[18],[]⟩,⟨[18],[],[19],[]⟩,⟨[19,2],[],[20],[]⟩,⟨[19,20],[],[21],[]⟩,⟨[19,1],[1],[22],[]⟩,⟨[19,22],[999],[23],[]⟩,⟨[19,23],[999],[24],[]⟩,⟨[19,24],[999],[25],[]⟩,⟨[19,25],[],[26],[]⟩,⟨[19,21,26],[],[27],[]⟩,⟨[19,27],[],[28],[]⟩] (.cons (cf0 rfl) (.cons (cf0 rfl) (.cons (cf0 rfl) (.cons (cf0 rfl) (.cons (cf0 rfl) (.cons (cf0 rfl) (.cons (cf0 rfl) (.cons (cf0 rfl) (.cons (cf0 rfl) (.cons (cf0 rfl) (.cons (cf0 rfl) (.cons (cf0 rfl) (.cons (cf0 rfl) (.cons (cf0 rfl) (.cons (cf0 rfl) (.cons (cf0 rfl)  .nil)))))))))))))))) rfl (frS [] [_,_,_,_] (y5 s b) rfl (by simp [J3,X2,Cells.free,PV.freeL,PV.free,X3,i3])) dC,[(1,_),(2,_),(3,_),(4,_),(28,_)],(1,_) :: (3,_) :: (4,_) :: (999,_) :: ((bsT s b)),t5,⟨rfl,rfl,rfl,rfl,(hbT [_,_,_,_] (y5 s b) rfl)⟩,?_⟩
  refine Z3 rfl rfl ?_
  refine G2 (xq ?_)
  refine exd rF ?_
  refine mV L rfl (lp4 ag47 sz47 L rfl rfl (aV L rfl (sb (U2 sz47 rF pa4 rfl pu4) t2 t1 ?_)))
  refine O1 ⟨h0n [⟨[2],[],[84],[]⟩,⟨[3],[3],[85],[]⟩,⟨[84],[],[2],[]⟩,⟨[3,85],[3],[],[3]⟩] (.cons (cf0 rfl) (.cons (cf0 rfl) (.cons (cf0 rfl) (.cons (cf0 rfl)  .nil)))) rfl (frS [] [_,_,_,_] (y5 s b) rfl (by simp [J3,X2,Cells.free,PV.freeL,PV.free,X3,i3])) dC,[(2,_),(3,_)],(3,_) :: (999,_) :: ((bsT s b)),t2,⟨rfl,rfl,(hbT [_,_,_,_,_] (y5 s b) rfl)⟩,?_⟩
  refine s4 [] (sl:=[(2,.p (.sl 0 [])),(3,.at_ 3 0 4)]) (hb:=[(3,bQ 1),wU cols [] (bv s n)]++bsT s b) (g0y rfl) ⟨⟨_,rfl,.p .nil⟩,⟨_,rfl,.same⟩,trivial⟩ (k1q (pre:=[_,_]) (y5 s b) rfl t2) (X1 ?_)
  exact ⟨.inr rfl,.cons (.tmp rfl) (.cons (.agg rfl rfl rfl ag47 sz47 (.cons (.cons (.cons (.cons .nil))))) .nil),rfl,hbT [_,_] (y5 s b) rfl⟩
 ·refine R1 (exd rF ?_)
  refine sw (Y1 ag3 rF rF L) t1 t1 ?_
  refine sw (Y1 ag73 rF rF L) t1 t1 ?_
  refine sw (Z2 rX L) t1 t1 ?_
  refine sw (i2 un79 rfl sz3 dC rX L) t1 t1 ?_
  refine sw (Y1 ag3 rF rF L) t1 t1 ?_
  refine sw (P3 L) t2 t0 (mV L rfl (swn (g:=19) rfl sO L rfl (swn (g:=19) rfl sO L rfl (swn (g:=19) rfl sO L rfl (swn (g:=19) rfl sO L rfl (swn (g:=19) rfl sO L rfl (swn (g:=19) rfl sO L rfl (swn (g:=19) rfl sO L rfl (swn (g:=19) rfl sO L rfl (sw (y4 sO L) t2 t0 ?_))))))))))
  refine O1 ⟨h0n [⟨[4],[4],[13],[]⟩,⟨[1],[1],[14],[]⟩,⟨[14],[999],[15],[]⟩,⟨[15],[999],[16],[]⟩,⟨[16],[999],[17],[]⟩,⟨[13,17],[],[18],[]⟩,⟨[18],[],[19],[]⟩,⟨[19],[],[20],[]⟩,⟨[19],[],[21],[]⟩,⟨[19],[],[22],[]⟩,⟨[19],[],[23],[]⟩,⟨[19],[],[24],[]⟩,⟨[19],[],[25],[]⟩,⟨[19],[],[26],[]⟩,⟨[19],[],[27],[]⟩,⟨[19],[],[28],[]⟩] (.cons (cf0 rfl) (.cons (cf0 rfl) (.cons (cf0 rfl) (.cons (cf0 rfl) (.cons (cf0 rfl) (.cons (cf0 rfl) (.cons (cf0 rfl) (.cons (cf0 rfl) (.cons (cf0 rfl) (.cons (cf0 rfl) (.cons (cf0 rfl) (.cons (cf0 rfl) (.cons (cf0 rfl) (.cons (cf0 rfl) (.cons (cf0 rfl) (.cons (cf0 rfl)  .nil)))))))))))))))) rfl (frS [] [_,_,_,_] (y5 s b) rfl (by simp [J3,X2,Cells.free,PV.freeL,PV.free,X3,i3])) dC,[(1,_),(2,_),(3,_),(4,_),(28,_)],(1,_) :: (3,_) :: (4,_) :: (999,_) :: ((bsT s b)),t5,⟨rfl,rfl,rfl,rfl,(hbT [_,_,_,_] (y5 s b) rfl)⟩,?_⟩
  refine Z3 rfl rfl ?_
  refine G2 (xq ?_)
  refine exd rF ?_
  refine mV L rfl (lp4 ag47 sz47 L rfl rfl (aV L rfl (sb (U2 sz47 rF pa4 rfl pu4) t2 t1 ?_)))
  refine O1 ⟨h0n [⟨[2],[],[84],[]⟩,⟨[3],[3],[85],[]⟩,⟨[84],[],[2],[]⟩,⟨[3,85],[3],[],[3]⟩] (.cons (cf0 rfl) (.cons (cf0 rfl) (.cons (cf0 rfl) (.cons (cf0 rfl)  .nil)))) rfl (frS [] [_,_,_,_] (y5 s b) rfl (by simp [J3,X2,Cells.free,PV.freeL,PV.free,X3,i3])) dC,[(2,_),(3,_)],(3,_) :: (999,_) :: ((bsT s b)),t2,⟨rfl,rfl,(hbT [_,_,_,_,_] (y5 s b) rfl)⟩,?_⟩
  refine s4 [] (sl:=[(2,.p (.sl 0 [])),(3,.at_ 3 0 4)]) (hb:=[(3,bQ 1),wU cols [] (bv s n)]++bsT s b) (g0y rfl) ⟨⟨_,rfl,.p .nil⟩,⟨_,rfl,.same⟩,trivial⟩ (k1q (pre:=[_,_]) (y5 s b) rfl t2) (X1 ?_)
  exact ⟨.inr rfl,.cons (.tmp rfl) (.cons (.agg rfl rfl rfl ag47 sz47 (.cons (.cons (.cons (.cons .nil))))) .nil),rfl,hbT [_,_] (y5 s b) rfl⟩
theorem j1x {b:List (List Rat)}:∀ c,ech [] b c=⟨[],b,[],1⟩
 | 0=>rfl
 | c+1=>by rw [q9,j1x c]; rfl
structure EU (n cols d B DB:Nat) (m b:List (List Rat)):Prop where
 rc:RC n cols m
 rb:RC n d b
 nl:n<1000
 cl:cols<1000
 dl:d<1000
 b0:0<B
 bl:B<100000000
 dbl:DB+B<1000000000
 me:∀ c,c≤cols→MB B (ech m b c).m
 be:∀ c,c≤cols→MB B (ech m b c).b
 de:∀ c,c≤cols→qw (ech m b c).det≤DB
theorem w0b (s:Bool)(n cols d B DB:Nat)(m b:List (List Rat))(H:EU n cols d B DB m b):R4 E G8 51 [.at_ 999 0 3] ([wU cols m (bv s n)]++s5 s m b) ([wU cols (ech m b cols).m (bv s n)]++s5 s (ech m b cols).m (ech m b cols).b) (.p (.tup [.sl (ech m b cols).pv.length (V6 (ech m b cols).pv),pQ (ech m b cols).det])):=by
 cases m with
 | nil =>
  rw [j1x]
  exact v1x s n cols b
 | cons r m =>
  have h0:0<n:=by have:=H.rc.1; simp at this; omega
  have hm:0<(r :: m).length:=by simp
  have hrc:=v6 H.rc H.rb cols (Nat.le_refl _)
  have hm':0<(ech (r :: m) b cols).m.length:=by rw [hrc.1.1]; exact h0
  have hn:=H.rc.1
  have:=B1b s n cols d B DB (r :: m) b ⟨H.rc,H.rb,h0,H.nl,H.cl,H.dl,H.b0,H.bl,H.dbl,H.me,H.be,H.de⟩
  rw [P0g hm,P0g hm',Y1s hm,Y1s hm',hrc.1.1,hn]; exact this
end Go.Proofs.YtjagfionflbjbaaGreat.N
namespace Go.Proofs.YtjagfionflbjbaaGreat.SH
open Go Go.RowKit
section
variable {P:Program} {F:Fr} {d:Nat} {T:TypeId} {pos:String} {aft:Array Edge} {g:Option (Nat×Bool)} {t:TypeId}
theorem b2x {x hi mx:Operand}{n h:Nat}{i:Int}{xs ys:List L2}{e:TypeId}{sz:Nat}{kh km:IntKind}(hu:P.underlying t=some (.slice e))(hsz:∀ w,(sizeOf e).run P w = .ok sz w)(hi':i=(h:Int))(h2:h≤n)(hy:xs.take (h*sz)=ys)(hlt:d<F.nt) :
  O2 P F ⟨some d,.slice t x none (some hi) (some mx),T,pos,aft,g⟩ { rs:=[(x,.p (.sl n xs)),(hi,.p (.a (.int kh i))),(mx,.p (.a (.int km i)))],ws:=[(d,.p (.sl h ys))] }:=by
 subst hi'
 exact E4 rfl hlt rfl rfl fun ρ S a w hS hA=>by
  have hx:=Z4 hS (v:=.p (.sl n xs)) (hA.rs (x,_) (by simp))
  simp only [M2,Rel] at hx
  obtain ⟨ad,cap,he,hc,hr⟩:=hx
  have e1:a.eval hi = .int kh h:=M4 hS (hA.rs (hi,_) (by simp))
  have e2:a.eval mx = .int km h:=M4 hS (hA.rs (mx,_) (by simp))
  have b1:(h:Int)≤cap:=by omega
  have hb:(Instr.sliceBounds true n cap none (some (a.eval hi)) (some (a.eval mx))).run P w = .ok (0,h,h) w:=by
   simp_all [Instr.sliceBounds,Instr.sliceBound,asIntOf]
  refine ⟨.slice (if h=0 then ad else ad.map (·.add (0*sz))) h h,?_,?_⟩
  ·simp [execOp,Instr.sliceAt,Instr.slice,run_underlying hu,he,hb,hsz]
  ·simp only [M2,Rel]
   refine ⟨_,_,rfl,Nat.le_refl _,?_⟩
   by_cases hyn:ys=[]
   ·subst hyn; simp [M7]
   ·have hxn:xs≠[]:=fun e=>by subst e; simp at hy; exact hyn (by first | exact hy | exact hy.symm)
    obtain ⟨b,o,rfl,hok,hra⟩:=hr.at hxn
    have h0:0<h:=by
     rcases Nat.eq_zero_or_pos h with e | e
     ·subst e; simp at hy; exact absurd (by first | exact hy | exact hy.symm) hyn
     ·exact e
    rw [if_neg (by omega)]
    have e:(⟨b,o,none⟩:Addr).add (0*sz)=⟨b,o,none⟩:=by unfold Addr.add; split <;> simp_all
    simp only [Option.map_some,e]
    rw [← hy]
    exact M7.of hok (hra.take _)
end
theorem b1w {P:Program}{F:Fr}{ops:Array Oper}{o:Oper}{S S1 S2:St}(h:G0n P F ops o S S1)(hs:∀ t,S2.slot t=S1.slot t)(hb:∀ k,S2.blk k=S1.blk k):G0n P F ops o S S2:=by
 intro a w hS Q K hK
 exact h a w hS Q K fun a' w' h'=>hK a' w' (h'.congr hs hb)
def Q0h (l:List (Nat×Blk)):Bool:=l.all fun p=>Nat.blt p.1 900
theorem g0f {l:List (Nat×Blk)}(h:Q0h l=true){k:Nat}(hk:900≤k):l.lookup k=none:=by
 cases e:l.lookup k with
 | none=>rfl
 | some B =>
  unfold Q0h at h
  rw [s0] at h
  have:=h _ (L3 e)
  simp only [Nat.blt_eq] at this
  omega
theorem H0p {sl:List (Nat×PV)}{pre H:List (Nat×Blk)}:∀ {l:List (Nat×Blk)},O5 ⟨[],pre⟩ l→O5 ⟨sl,pre++H⟩ l
 | [],_=>trivial
 | (k, B) :: l, h => ⟨by
   show (pre++H).lookup k=some B
   rw [T1,show pre.lookup k=some B from h.1]; rfl,H0p h.2⟩
theorem F1z {P:Program}{F:Fr}{ops:Array Oper}{o:Oper}{S S1 S2:St}(h:G0n P F ops o S S1)(hl:St.le S2 S1):G0n P F ops o S S2:=by
 intro a w hS Q K hK
 exact h a w hS Q K fun a' w' ⟨ρ,h'⟩=>hK a' w' ⟨ρ,h'.weakR hl⟩
theorem nsU {E:Env}{st st0:Nat→Bool}{F:Fr}{nt:Nat}(G:GFr E st0 [] nt F)(hng:E.ng≤F.w0.heap.size){ops:Array Oper}{d:Nat}{f:FuncId}{op:Op}{T:TypeId}{pos:String}{aft:Array Edge}{xs:List PV}{sl:List (Nat×PV)}{pre H H':List (Nat×Blk)}{r:PV}{rs:List (Operand×PV)}{os:List Oper}{K:St→Prop}(ks:List Nat)(slR:List (Nat×PV))(hbR:List (Nat×Blk))(hs:R4 E st f xs H H' r)(hlt:d<F.nt)
  (hargs:∀ ρ S a w,b5 F ρ S a w→(∀ p∈rs,S.opd p.1=some p.2)→∃ vals:List Value,(execOp a.eval ⟨some d,op,T,pos,aft,none⟩).run E.P w = .ok (.enter f vals.toArray) w∧D3 S.blk ρ (okI F S.blk ρ) (hp w) xs vals)
  (hr:C8 ⟨sl,pre++H⟩ rs) (hh:∀ k B,H.lookup k=some B→900≤k) (hh':∀ k B,H'.lookup k=some B→900≤k) (nd:(H.map (·.1)).Nodup) (nd':(H'.map (·.1)).Nodup) (hw:Whole H') (hres:∀ q,r.free q=false→H'.lookup q≠none) (h9:ks.contains 999=true→∃ B0 B1,st 999=true∧H.lookup 999=some B0∧H'.lookup 999=some B1∧B1.sz=B0.sz∧B1.cs.len=B0.cs.len)
  (hp:Q0h pre=true) (hR:O5 ⟨[],pre⟩ hbR) (hR9:Q0h hbR=true) (hsl:q7 ⟨sl,pre++H⟩ slR) (hd:slR.lookup d=none) (ho:(slR.all fun p=>p.2.only ks)=true) (hbo:(hbR.all fun p=>p.2.cs.only ks)=true) (hks:(ks.all fun k=>(hbR.lookup k).isSome || k == 999)=true)
  (hn:h0d E.P F ops os ⟨(d,r) :: slR,hbR++H'⟩ K):h0d E.P F ops (⟨some d,op,T,pos,aft,none⟩ :: os) ⟨sl,pre++H⟩ K:=by
 have hHno:∀ k,k<900→H.lookup k=none:=fun k hk=>by
  cases e:H.lookup k with
  | none=>rfl
  | some B=>have:=hh k B e; omega
 have hHno':∀ k,k<900→H'.lookup k=none:=fun k hk=>by
  cases e:H'.lookup k with
  | none=>rfl
  | some B=>have:=hh' k B e; omega
 have hlt9:∀ k,hbR.lookup k≠none→k<900:=fun k hk=>by
  apply Classical.byContradiction
  intro h
  exact hk (g0f hR9 (by omega))
 refine .cons (b1w (S2:=⟨(d,r) :: slR,hbR++H'⟩) (N1b (H:=H) (H':=H') G.g G.x hng ks slR hbR hs hlt hargs hr (v5 nd fun k B hk=>?_) hsl (H0p hR) hd nd nd' (fun k hk=>⟨hHno k (hlt9 k hk),hHno' k (hlt9 k hk)⟩) hw hres ho (fun k B hk=>by rw [s0] at hbo; exact hbo _ (L3 hk)) (fun k hk=>by
  rw [s0] at hks
  have:=hks k hk
  rw [Bool.or_eq_true,beq_iff_eq] at this
  rcases this with h | h
  ·exact .inl fun e=>by rw [e] at h; cases h
  ·subst h; exact .inr (h9 (by rw [List.contains_iff_mem]; exact hk))) (fun i j hi _ _ hlo=>by rw [G.lo] at hlo; cases hlo) (fun j _ hj=>absurd (G.p0 j rfl) hj)) (fun t=>rfl) (fun k=>?_)) hn
 ·show (pre++H).lookup k=some B
  rw [T1,g0f hp (hh k B hk),l0,hk]
 ·show (hbR++H').lookup k=(H'++hbR).lookup k
  rw [T1,T1]
  cases e:hbR.lookup k with
  | none=>simp
  | some B=>rw [hHno' k (hlt9 k (by rw [e]; simp))]; rfl
theorem d2q {E:Env}{st st0:Nat→Bool}{F:Fr}{nt:Nat}(G:GFr E st0 [] nt F)(hng:E.ng≤F.w0.heap.size){ops:Array Oper}{d:Nat}{f:FuncId}{op:Op}{T:TypeId}{pos:String}{aft:Array Edge}{xs:List PV}{sl:List (Nat×PV)}{pre H H':List (Nat×Blk)}{r:PV}{rs:List (Operand×PV)}{os:List Oper}{K:St→Prop}(ks:List Nat)(slR:List (Nat×PV))(hbR:List (Nat×Blk))(hs:R4 E st f xs H H' r)(hlt:d<F.nt)
  (hargs:∀ ρ S a w,b5 F ρ S a w→(∀ p∈rs,S.opd p.1=some p.2)→∃ vals:List Value,(execOp a.eval ⟨some d,op,T,pos,aft,none⟩).run E.P w = .ok (.enter f vals.toArray) w∧D3 S.blk ρ (okI F S.blk ρ) (hp w) xs vals)
  (hr:C8 ⟨sl,pre++H⟩ rs) (hh:∀ k B,H.lookup k=some B→900≤k) (hh':∀ k B,H'.lookup k=some B→900≤k) (nd:(H.map (·.1)).Nodup) (nd':(H'.map (·.1)).Nodup) (hw:Whole H') (hres:∀ q,r.free q=false→H'.lookup q≠none) (h9:ks.contains 999=true→∃ B0 B1,st 999=true∧H.lookup 999=some B0∧H'.lookup 999=some B1∧B1.sz=B0.sz∧B1.cs.len=B0.cs.len)
  (hp:Q0h pre=true) (hR:O5 ⟨[],pre⟩ hbR) (hR9:Q0h hbR=true) (hsl:q7 ⟨sl,pre++H⟩ slR) (hd:slR.lookup d=none) (ho:(slR.all fun p=>p.2.only ks)=true) (hbo:(hbR.all fun p=>p.2.cs.only ks)=true) (hks:(ks.all fun k=>(hbR.lookup k).isSome || k == 999)=true)
  (hn:h0d E.P F ops os ⟨(d,r) :: slR,hbR⟩ K):h0d E.P F ops (⟨some d,op,T,pos,aft,none⟩ :: os) ⟨sl,pre++H⟩ K:=by
 have hlt9:∀ k,hbR.lookup k≠none→k<900:=fun k hk=>by
  apply Classical.byContradiction
  intro h
  exact hk (g0f hR9 (by omega))
 have hHno:∀ k,k<900→H.lookup k=none:=fun k hk=>by
  cases e:H.lookup k with
  | none=>rfl
  | some B=>have:=hh k B e; omega
 have hHno':∀ k,k<900→H'.lookup k=none:=fun k hk=>by
  cases e:H'.lookup k with
  | none=>rfl
  | some B=>have:=hh' k B e; omega
 refine .cons (F1z (S1:=⟨(d,r) :: slR,H'++hbR⟩) (S2:=⟨(d,r) :: slR,hbR⟩) (N1b (H:=H) (H':=H') G.g G.x hng ks slR hbR hs hlt hargs hr (v5 nd fun k B hk=>?_) hsl (H0p hR) hd nd nd' (fun k hk=>⟨hHno k (hlt9 k hk),hHno' k (hlt9 k hk)⟩) hw hres ho (fun k B hk=>by rw [s0] at hbo; exact hbo _ (L3 hk)) (fun k hk=>by
  rw [s0] at hks
  have:=hks k hk
  rw [Bool.or_eq_true,beq_iff_eq] at this
  rcases this with h | h
  ·exact .inl fun e=>by rw [e] at h; cases h
  ·subst h; exact .inr (h9 (by rw [List.contains_iff_mem]; exact hk))) (fun i j hi _ _ hlo=>by rw [G.lo] at hlo; cases hlo) (fun j _ hj=>absurd (G.p0 j rfl) hj)) ⟨fun t v h=>h,fun k B h=>?_⟩) hn
 ·show (pre++H).lookup k=some B
  rw [T1,g0f hp (hh k B hk),l0,hk]
 ·show (H'++hbR).lookup k=some B
  rw [T1,hHno' k (hlt9 k (by rw [show hbR.lookup k=some B from h]; simp)),l0]; exact h
end Go.Proofs.YtjagfionflbjbaaGreat.SH
set_option maxRecDepth 100000
set_option maxHeartbeats 4000000
namespace Go.Proofs.YtjagfionflbjbaaGreat.N
open Go Go.Proofs.YtjagfionflbjbaaGreat.SH Go.Proofs.YtjagfionflbjbaaGreat.NumA
open Go.Proofs.Tryz renaming call13→cl13,call40→cl40,call50→cl50,call51→cl51,call52→cl52,call53→cl53,call54→cl54,call55→cl55,call56→cl56,isAgg22→ag22,isAgg24→ag24,isAgg27→ag27,isAgg3→ag3,isAgg40→ag40,isAgg47→ag47,isAgg77→ag77,sizeOf22→sz22,sizeOf24→sz24,sizeOf27→sz27,sizeOf3→sz3,sizeOf40→sz40,sizeOf45→sz45,sizeOf47→sz47,sizeOf77→sz77,typeInfo40→ti40,underlying22→un22,underlying24→un24,underlying27→un27,underlying40→un40,underlying47→un47,underlying77→un77,underlying79→un79,zeroValue24→zv24,zeroValue27→zv27,zeroValue3→zv3,zeroValue47→zv47
theorem K1w {s:Bool}{m b:List (List Rat)}:∀ k B,(s5 s m b).lookup k=some B→900≤k:=fun k B h=>by
 have:=d0d (J6 s m b) _ (L3 h)
 simp only at this; omega
theorem d1s {s:Bool}{b:List (List Rat)}:∀ k B,(bsT s b).lookup k=some B→900≤k:=fun k B h=>by
 have:=d0d (y5 s b) _ (L3 h)
 simp only at this; omega
theorem v0g {s:Bool}{c:Nat}{m b:List (List Rat)}{v:PV}:∀ k B,([wU c m v]++s5 s m b).lookup k=some B→900≤k:=fun k B h=>by
 rw [List.singleton_append,i0] at h
 by_cases e:k=999
 ·omega
 ·rw [show (k == 999)=false by simpa using e] at h; exact K1w k B h
theorem v0d {s:Bool}{c:Nat}{m b:List (List Rat)}{v:PV}:(([wU c m v]++s5 s m b).map (·.1)).Nodup:=by
 rw [List.singleton_append,R0,List.nodup_cons]
 refine ⟨fun hm=>?_,(J6 s m b).nd⟩
 obtain ⟨⟨q,B⟩,hp,e⟩:=G0.1 hm
 have:=d0d (J6 s m b) _ hp
 simp only at this e; omega
theorem D1d {b:List (List Rat)}:(bsT true b).lookup 1002=some (hdB 1 b):=hdL
theorem q1m {s:Bool}{c n:Nat}{m b:List (List Rat)}:Whole ([wU c m (bv s n)]++s5 s m b):=by
 intro j B hj i x hx q hq
 rw [T1] at hj
 cases e:([wU c m (bv s n)]:List (Nat×Blk)).lookup j with
 | none =>
  rw [e,l0] at hj
  exact O8 ((J6 s m b).whole j B hj i x hx q hq)
 | some C =>
  rw [e,K0] at hj
  injection hj with hj
  subst hj
  obtain rfl:C=(wU c m (bv s n)).2:=by
   simp only [i0,List.lookup_nil] at e
   split at e
   ·injection e with e; exact e.symm
   ·cases e
  have hx:[rvV 1001 (V4 0 0 m),PV.p (vZ c),bv s n][i]? = some x:=hx
  have hm:=M1 hx
  simp only [List.mem_cons,List.not_mem_nil,or_false] at hm
  rcases hm with rfl | rfl | rfl
  ·cases m with
   | nil=>cases hq
   | cons r m =>
    rw [K0f hq]
    refine O8 ?_
    rw [P0g sM,j1s]; simp
  ·cases hq
  ·cases s
   ·cases hq
   ·obtain rfl:1002=q:=by simpa [bv,PV.free] using hq
    refine O8 ?_
    rw [s5,T1,D1d]
    cases (B0x 0 m).lookup 1002 <;> simp
theorem g1y {s:Bool}{c:Nat}{m b:List (List Rat)}{v:PV}:∀ q,(PV.at_ 999 0 3).free q=false→([wU c m v]++s5 s m b).lookup q≠none:=fun q h=>by
 obtain rfl:999=q:=by simpa [PV.free] using h
 simp [i0]
theorem b2d {s:Bool}{c:Nat}{m m' b b':List (List Rat)}{v v':PV}{p:Prop}:p→∃ B0 B1,G8 999=true∧([wU c m v]++s5 s m b).lookup 999=some B0∧([wU c m' v']++s5 s m' b').lookup 999=some B1∧B1.sz=B0.sz∧B1.cs.len=B0.cs.len:=fun _=>⟨_,_,rfl,rfl,rfl,rfl,rfl⟩
def nob (n:Nat):List (List Rat):=List.replicate n []
theorem Q0x {n:Nat}:RC n 0 (nob n):=⟨by simp [nob],fun r hr=>by obtain ⟨_,rfl⟩:=List.mem_replicate.1 hr; rfl⟩
theorem q1a (n B DB:Nat)(M:List (List Rat))(h:MOk n M)(hB1:MB B M)(hn:M.length=n)(H:EU n n 0 B DB M (nob n)):R4 E (fun _=>true) 31 [.p (pMq n M)] ([]) ([]) (.p (.tup [pQ (p1d n M (nob n)),vZ 0])):=by
 refine v4 (xs:=[pQ (p1d n M (nob n)),vZ 0]) Tryz.func31 rfl Tryz.ntmps31 Tryz.results31 sM fun F G=>?_
 have L:=@lti _ _ G.nt
 have hG:=G.g
 have hX:=G.x
 have hN:=Y5 hG
 have P0:=G.p0
 have hb:=H.bl
 subst hn
 refine exr (swb (U3 (k:=1) (n:=2) pa2 rfl rfl (P0 _ rfl) L) t1 t0 ⟨rfl,rfl⟩ (swb (R3 (k:=2) (n:=4) zv47 (.cons rfl (.cons rfl (.cons rfl (.cons rfl .nil)))) rfl (P0 _ rfl) L) t0 t0 ⟨rfl,rfl⟩ (aV L rfl (zn [(1,_),(2,_)] [(1,_),(2,_)] t2 t2 (R1 (exr (lp2 ag24 sz24 L rfl rfl (cK hG hX cl40 hN (Z9 h hB1 oM) L t1 (sw (C4 L) t1 t0 (zn [(1,_),(2,_),(8,_)] [(1,_),(2,_)] t3 t2 (Z3 rfl rfl ?_)))))))))))
 refine U1 (xq ?_)
 refine R1 (exr (sw (i2 un24 rfl sz22 dC rX L) t1 t1 ?_))
 refine sw (Y1 ag22 rF rF L) t1 t1 ?_
 refine sw (R2 un22 L) t1 t0 (sw (i2 un24 rfl sz3 dC rX L) t1 t1 ?_)
 refine sw (Y1 ag3 rF rF L) t1 t1 ?_
 refine sw (c_n L) t2 t0 (zn [(1,_),(2,_),(15,_)] [(1,_),(2,_)] t3 t2 (Z3 rfl sM ?_))
 refine U1 (xq ?_)
 refine p0r (nsw (R6 ag24 sz24 rF (by exact al2) rfl L) t1 t1 ?_)
 refine nsU (pre:=[_,_]) (H:=bsT false (nob M.length)) G hN [1,2] [(1,.at_ 1 0 2),(2,.at_ 2 0 4)] [(1,_),(2,_)] (n0k false M.length M.length M (nob M.length) H.rc H.nl H.cl) L (K4 (ys:=[_,_]) cl50 rfl rfl) t2 d1s v0g (y5 _ _).nd v0d q1m g1y (fun h=>by cases h) rfl t2 rfl t2 rfl rfl rfl rfl ?_
 refine d2q (pre:=[_,_]) (H:=[wU M.length M (bv false M.length)]++s5 false M (nob M.length)) G hN [1,2] [(1,.at_ 1 0 2),(2,.at_ 2 0 4)] [(1,_),(2,_)] (w0b false M.length M.length 0 B DB M (nob M.length) H) L (K4 (ys:=[_]) cl51 rfl rfl) t1 v0g v0g v0d v0d q1m (fun q h=>by cases h) (fun h=>by cases h) rfl t2 rfl t2 rfl rfl rfl rfl ?_
 refine nsw (c_m L) t1 t0 (nsw (O3 rfl L) t1 t0 (nsw (O3 rfl L) t1 t0 (V1k (R3 (k:=5) (n:=4) zv47 (.cons rfl (.cons rfl (.cons rfl (.cons rfl .nil)))) rfl (P0 _ rfl) L) t0 t0 ⟨rfl,rfl⟩ (nsw (c_a L) t1 t0 (nsb (U2 sz47 rF pa4 rfl pu4) t2 t1 ?_)))))
 refine .nil ⟨[(1,_),(2,_),(4,_),(5,_)],(1,_) :: (2,_) :: (5,_) :: [],t4,t3,?_⟩
 refine R1 (exr (mV L rfl (sw (R2 un27 L) t1 t0 (sw (i2 un24 rfl sz3 dC rX L) t1 t1 ?_))))
 refine sw (Y1 ag3 rF rF L) t1 t1 ?_
 refine sw (P3 L) t2 t0 (zn [(2,_),(5,_),(27,_)] [(2,_),(5,_)] t3 t2 ?_)
 refine j2 rfl (fun hc=>?_) (fun hc=>?_)
 ·have hc2:=dt hc
  refine exr (cK hG hX cl55 hN (l7 0 dC dC) L t1 (sb (U2 sz47 rF pa4 rfl pu4) t2 t1 ?_))
  refine aV L rfl (zn [(2,_),(3,_)] [(2,_)] t2 t1 (X1 ?_))
  refine ⟨.inr rfl,X4.cast (.cons (.agg rfl rfl rfl ag47 sz47 (.cons (.cons (.cons (.cons .nil))))) (.cons (.tmp rfl) .nil)) ?_,trivial⟩
  rw [p1d,if_pos oM]; rfl
 ·have hc2:=df hc
  refine U1 (xq ?_)
  refine exr (lp4 ag47 sz47 L rfl rfl (sb (U2 sz47 rF pa4 rfl pu4) t2 t1 ?_))
  refine aV L rfl (zn [(2,_),(3,_)] [(2,_)] t2 t1 (X1 ?_))
  refine ⟨.inr rfl,X4.cast (.cons (.agg rfl rfl rfl ag47 sz47 (.cons (.cons (.cons (.cons .nil))))) (.cons (.tmp rfl) .nil)) ?_,trivial⟩
  rw [p1d,if_neg oM]
theorem w1y (n B DB:Nat)(M:List (List Rat))(h:MOk n M)(hB1:MB B M)(hn:M.length=n)(H:EU n n 0 B DB M (nob n)):v3 E 31 [pMq n M] (.tup [pQ (p1d n M (nob n)),vZ 0]):=q0g (q1a n B DB M h hB1 hn H)
theorem G0z {β:Nat→Option Blk}{z:List Nat}{s:Nat}:∀ {i:Nat} {m:List (List Rat)},(∀ j,j<m.length→z.contains (I3 s (i+j))=true∧β (I3 s (i+j))=some (T3 (m.getD j [])))→CvP β z (V4 s i m) (M5 m)
 | _,[],_=>.nil
 | i,v :: m,h=>by
  have h0:=h 0 sM
  refine .cons (.ref h0.1 h0.2 (Y2 v) rfl) (G0z fun j hj=>?_)
  have:=h (j+1) (by simpa using hj)
  rw [show i+1+j=i+(j+1) by omega]
  exact this
def bw (s:Bool)(b:List (List Rat)):PV:=if s then .p (.sl b.length (M5 b)) else .p (.a (.slice none 0 0))
@[reducible] def wD (s:Bool)(c:Nat)(m b:List (List Rat)):Nat×Blk:=(999,⟨79,3,.mix [.p (.sl m.length (M5 m)),.p (vZ c),bw s b]⟩)
theorem m1a {sl:List (Nat×PV)}{pre T:List (Nat×Blk)}{k:Nat}(hp:Q0h pre=true)(hk:900≤k):St.blk ⟨sl,pre++T⟩ k=T.lookup k:=by
 show (pre++T).lookup k=_
 rw [T1,g0f hp hk,l0]
theorem G1z {s:Bool}{m b:List (List Rat)}{j:Nat}(h:j<m.length):(s5 s m b).lookup (I3 0 j)=some (T3 (m.getD j [])):=by
 rw [s5,v0q oM,T1,rwL dC h]; rfl
theorem M1k {s:Bool}{m b:List (List Rat)}(h:0<m.length):(s5 s m b).lookup 1001=some (hdB 0 m):=by
 rw [s5,v0q h,T1,show (1001:Nat)=0+1001 from rfl,hdL]; rfl
theorem m1s {m:List (List Rat)}{k:Nat}(h1:k≠1001)(h2:∀ q,k≠I3 0 q):(B0x 0 m).lookup k=none:=by
 cases e:(B0x 0 m).lookup k with
 | none=>rfl
 | some B =>
  rcases N0m dC (show (B0x 0 m).lookup k≠none by rw [e]; simp) with h | ⟨q,_,h⟩
  ·exact absurd h h1
  ·exact absurd h (h2 q)
theorem y1g {m b:List (List Rat)}:(s5 true m b).lookup 1002=some (hdB 1 b):=by
 rw [s5,T1,m1s dC (fun q=>by unfold I3; omega),l0]; exact D1d
theorem q1w {m b:List (List Rat)}{j:Nat}(h:j<b.length):(s5 true m b).lookup (I3 1 j)=some (T3 (b.getD j [])):=by
 rw [s5,T1,m1s (by unfold I3; omega) (fun q=>Ne.symm (f1g q j)),l0]; exact rwL dC h
theorem j1z {T:List (Nat×Blk)}{k:Nat}{B:Blk}(h:T.lookup k=some B):(T.map (·.1)).contains k=true:=by
 rw [List.contains_iff_mem]; exact G0.2 ⟨_,L3 h,rfl⟩
theorem Y1a {T:List (Nat×Blk)}{k:Nat}(h:R5 T)(hk:k<1000):(T.map (·.1)).contains k=false:=by
 cases e:(T.map (·.1)).contains k with
 | false=>rfl
 | true =>
  rw [List.contains_iff_mem] at e
  obtain ⟨p,hp,rfl⟩:=G0.1 e
  have:=d0d h p hp; omega
theorem D1s {P:Program}{F:Fr}{c:Code}{Q:Exit→St→Prop}{s:Bool}{cols n:Nat}{m b:List (List Rat)}{sl:List (Nat×PV)}{pre:List (Nat×Blk)}(hlo:∀ k,F.lo k=true)(hp:Q0h pre=true)(hpn:(pre.map (·.1)).Nodup)(hb:s=true→b.length=n)
  (hsl:N0s ⟨sl,pre++([wU cols m (bv s n)]++s5 s m b)⟩ ((s5 s m b).map (·.1)) sl) (hn:n4 P F c ⟨sl,pre++[wD s cols m b]⟩ Q):n4 P F c ⟨sl,pre++([wU cols m (bv s n)]++s5 s m b)⟩ Q:=by
 have hT:=J6 s m b
 refine s4 ((s5 s m b).map (·.1)) (g0y (by rw [s0]; exact fun k _=>hlo k)) hsl ?_ hn
 have hbig:∀ k B,1000≤k→(s5 s m b).lookup k=some B→St.blk ⟨sl,pre++([wU cols m (bv s n)]++s5 s m b)⟩ k=some B:=fun k B hk h=>by
  rw [m1a hp oM,List.singleton_append,M8 oM,h]
 have key:∀ (l:List (Nat×Blk)),(∀ p∈l,p.1<900∧pre.lookup p.1=some p.2)→∀ r,h0z ⟨sl,pre++([wU cols m (bv s n)]++s5 s m b)⟩ ((s5 s m b).map (·.1)) r→h0z ⟨sl,pre++([wU cols m (bv s n)]++s5 s m b)⟩ ((s5 s m b).map (·.1)) (l++r):=by
  intro l
  induction l with
  | nil=>intro _ r h; exact h
  | cons p l ih =>
   intro h r hr
   obtain ⟨h1,h2⟩:=h p sM
   refine ⟨⟨Y1a hT oM,p.2,?_,.same⟩,ih (fun q hq=>h q (by simp [hq])) r hr⟩
   show (pre++_).lookup p.1=_
   rw [T1,h2]; rfl
 refine key pre (fun p hm=>⟨?_,U5 hpn hm⟩) _ ⟨⟨Y1a hT dC,⟨79,3,.mix [rvV 1001 (V4 0 0 m),.p (vZ cols),bv s n]⟩,?_,.mix (.cons ?_ (.cons .same (.cons ?_ .nil)))⟩,trivial⟩
 ·unfold Q0h at hp
  rw [s0] at hp
  simpa [Nat.blt_eq] using hp p hm
 ·rw [m1a hp dC]; rfl
 ·cases m with
  | nil=>exact .p .nil
  | cons r m =>
   have h1:=M1k (s:=s) (m:=r :: m) (b:=b) sM
   have:=Cv.refm (n:=(r :: m).length) (j1z h1) (hbig _ _ dC h1) (E2 0 0 _) (Nat.mul_one _) (G0z fun j hj=>by
    rw [F1]
    have h2:=G1z (s:=s) (b:=b) hj
    exact ⟨j1z h2,hbig _ _ (by unfold I3; omega) h2⟩)
   simpa [rvV,V4] using this
 ·cases s with
  | false=>exact .same
  | true =>
   have hb':=hb rfl
   subst hb'
   have h1:=y1g (m:=m) (b:=b)
   have:=Cv.refm (n:=b.length) (j1z h1) (hbig _ _ dC h1) (E2 1 0 _) (Nat.mul_one _) (G0z fun j hj=>by
    rw [F1]
    have h2:=q1w (m:=m) hj
    exact ⟨j1z h2,hbig _ _ (by unfold I3; omega) h2⟩)
   exact this
@[reducible] def pIs (l:List Nat):L2:=.sl l.length (V6 l)
theorem p1x {m:List (List Rat)}{k:Nat}:(M5 m).take k=M5 (m.take k):=by simp [M5,List.map_take]
theorem J0z (n c B DB:Nat)(M:List (List Rat))(h:MOk c M)(hB1:MB B M)(hn:M.length=n)(H:EU n c 0 B DB M (nob n)):R4 E (fun _=>true) 13 [.p (pMq c M)] ([]) ([]) (.p (.tup [pMq c ((ech M (nob n) c).m.take (ech M (nob n) c).pv.length),pIs (ech M (nob n) c).pv,vZ 0])):=by
 refine v4 (xs:=[pMq c ((ech M (nob n) c).m.take (ech M (nob n) c).pv.length),pIs (ech M (nob n) c).pv,vZ 0]) Tryz.func13 rfl Tryz.ntmps13 Tryz.results13 sM fun F G=>?_
 have L:=@lti _ _ G.nt
 have hG:=G.g
 have hX:=G.x
 have hN:=Y5 hG
 have P0:=G.p0
 have hb:=H.bl
 subst hn
 have hsp:=v6 H.rc H.rb c (Nat.le_refl _)
 refine exr (swb (U3 (k:=1) (n:=2) pa2 rfl rfl (P0 _ rfl) L) t1 t0 ⟨rfl,rfl⟩ (swb (R3 (k:=2) (n:=2) zv24 (.cons rfl (.cons rfl .nil)) rfl (P0 _ rfl) L) t0 t0 ⟨rfl,rfl⟩ (aV L rfl (aV L rfl (zn [(1,_),(2,_)] [(1,_),(2,_)] t2 t2 (R1 (exr (lp2 ag24 sz24 L rfl rfl (cK hG hX cl40 hN (Z9 h hB1 oM) L t1 (sw (C4 L) t1 t0 (zn [(1,_),(2,_),(10,_)] [(1,_),(2,_)] t3 t2 ?_)))))))))))
 refine Z3 rfl rfl ?_
 refine U1 (xq ?_)
 refine p0r (nsw (R6 ag24 sz24 rF (by exact al2) rfl L) t1 t1 ?_)
 refine nsU (pre:=[_,_]) (H:=bsT false (nob M.length)) G hN [1,2] [(1,.at_ 1 0 2),(2,.at_ 2 0 2)] [(1,_),(2,_)] (n0k false M.length c M (nob M.length) H.rc H.nl H.cl) L (K4 (ys:=[_,_]) cl50 rfl rfl) t2 d1s v0g (y5 _ _).nd v0d q1m g1y (fun h=>by cases h) rfl t2 rfl t2 rfl rfl rfl rfl ?_
 refine nsw (c_a L) t1 t0 ?_
 refine .nil ⟨[(1,_),(2,_),(5,_)],(1,_) :: (2,_) :: (999,_) :: (s5 false M (nob M.length)),t3,⟨rfl,rfl,rfl,(hbT [_,_,_] (J6 false M (nob M.length)) rfl)⟩,?_⟩
 refine p0r (nsw (c_m L) t1 t0 (nsU (pre:=[_,_]) (H:=[wU c M (bv false M.length)]++s5 false M (nob M.length)) G hN [1,2,999] [(1,.at_ 1 0 2),(2,.at_ 2 0 2),(5,.at_ 999 0 3)] [(1,_),(2,_)] (w0b false M.length c 0 B DB M (nob M.length) H) L (K4 (ys:=[_]) cl51 rfl rfl) t1 v0g v0g v0d v0d q1m (fun q h=>by cases h) b2d rfl t2 rfl t3 rfl rfl rfl rfl ?_))
 refine nsw (c_m L) t1 t0 (nsw (O3 rfl L) t1 t0 (nsw (O3 rfl L) t1 t0 (V1k (R3 (k:=7) (n:=4) zv47 (.cons rfl (.cons rfl (.cons rfl (.cons rfl .nil)))) rfl (P0 _ rfl) L) t0 t0 (frT [_,_,_] (J6 false (ech M (nob M.length) c).m (ech M (nob M.length) c).b) rfl rfl (by simp [J3,X2,Cells.free,PV.freeL,PV.free,X3,i3])) ?_)))
 refine nsw (c_a L) t1 t0 (nsb (U2 sz47 rF pa4 rfl pu4) t2 t1 ?_)
 refine .nil ⟨[(1,_),(2,_),(5,_),(6,_)],(1,_) :: (2,_) :: (999,_) :: (s5 false (ech M (nob M.length) c).m (ech M (nob M.length) c).b),t4,⟨rfl,rfl,rfl,(hbT [_,_,_,_,_] (J6 false (ech M (nob M.length) c).m (ech M (nob M.length) c).b) rfl)⟩,?_⟩
 refine D1s (pre:=[_,_]) (fun k=>by rw [G.lo]; rfl) rfl sM (fun h=>by cases h) ⟨⟨_,rfl,.same⟩,⟨_,rfl,.same⟩,⟨_,rfl,.same⟩,⟨_,rfl,.same⟩,trivial⟩ ?_
 have hle:=hsp.2.2.1.le
 have hml:=hsp.1.1
 refine exd rF ?_
 refine sw (i2 un24 rfl sz3 dC rX L) t1 t1 ?_
 refine sw (Y1 ag3 rF rF L) t1 t1 ?_
 refine mV L rfl (sw (Z2 rX L) t1 t1 ?_)
 refine sw (i2 un79 rfl sz77 dC rX L) t1 t1 ?_
 refine sw (Y1 ag77 rF rF L) t1 t1 ?_
 refine mV L rfl (sw (R2 un27 L) t1 t0 (mV L rfl (sw (R2 un27 L) t1 t0 (sw (b2x un77 sz40 (h:=(ech M (nob M.length) c).pv.length) rO oM (by rw [Nat.mul_one,p1x]) L) t3 t0 ?_))))
 refine sw (G7 (vs:=[_,_]) un24 zv24 (.cons rfl (.cons rfl .nil)) ((J2.cons sz3 (J2.cons sz22 J2.nil))).to rfl (.cons rfl (.atom rfl) rfl pu1 (.cons rfl .sl rfl (.skip pu1) .nil)) (.cons (.cons .nil)) L) t2 t0 (mV L rfl (sb (U2 sz24 rF pa2 rfl pu2) t2 t1 ?_))
 refine aV L rfl (aV L rfl ?_)
 refine O1 ⟨d5 [⟨[1],[1],[19],[]⟩,⟨[19],[1],[20],[]⟩,⟨[5],[],[21],[]⟩,⟨[21],[999],[22],[]⟩,⟨[22],[999],[23],[]⟩,⟨[23],[999],[24],[]⟩,⟨[6],[],[25],[]⟩,⟨[25],[],[26],[]⟩,⟨[6],[],[27],[]⟩,⟨[27],[],[28],[]⟩,⟨[24,26,28],[],[29],[]⟩,⟨[20,29],[],[30],[]⟩,⟨[6],[],[31],[]⟩,⟨[2,30],[2],[],[2]⟩,⟨[31],[],[3],[]⟩,⟨[],[],[4],[]⟩] rF rF dC,[(2,_),(3,_),(4,_)],[(2,_)],t3,t1,?_⟩
 refine X1 ?_
 refine ⟨.inr rfl,X4.cast (.cons (.agg rfl rfl rfl ag24 sz24 (.cons (.cons .nil))) (.cons (.tmp rfl) (.cons (.tmp rfl) .nil))) ?_,trivial⟩
 rw [pMq,J0,G1 oM]
theorem G1p {pv:List Nat}{i:Nat}(h:i<pv.length):(V6 pv)[i]? = some (vZ (pv.getD i 0:Nat)):=by
 simp [V6,h,f0]
@[reducible] def bK (pv:List Nat)(c:Nat):List (Nat×Blk):=[(5,⟨27,1,.mix [.p (pIs pv)]⟩),(8,⟨3,1,.mix [.p (vZ c)]⟩)]
theorem q1q (pv:List Nat)(c i:Nat)(hi:i<pv.length)(hl:pv.length<1000):R4 E (fun _=>true) 53 [.p (vZ i),.at_ 5 0 1,.at_ 8 0 1] (bK pv c) (bK pv c) (.p (bZ (decide (pv.getD i 0=c)))):=by
 refine v4 (xs:=[bZ (decide (pv.getD i 0=c))]) Tryz.func53 rfl Tryz.ntmps53 Tryz.results53 sM fun F G=>?_
 have L:=@lti _ _ G.nt
 have hG:=G.g
 have hX:=G.x
 have hN:=Y5 hG
 have P0:=G.p0
 refine exr (aV L rfl (zn [(0,_),(1,_),(2,_)] [(5,_),(8,_)] t3 t2 (exd rF ?_)))
 refine sw (Y1 ag27 rF rF L) t1 t1 ?_
 refine mV L rfl (sw (ixJ un27 sz3 (j:=i) rO oM sM L) t2 t0 ?_)
 refine sw (d4 ag3 (G1p hi) L) t1 t0 (sw (Y1 ag3 rF rF L) t1 t1 ?_)
 refine sw (c_e L) t2 t0 (aV L rfl ?_)
 refine O1 ⟨d5 [⟨[1],[5],[5],[]⟩,⟨[0],[],[6],[]⟩,⟨[5,6],[],[7],[]⟩,⟨[7],[],[8],[]⟩,⟨[2],[8],[9],[]⟩,⟨[8,9],[],[10],[]⟩,⟨[10],[],[4],[]⟩] rF rF dC,[(4,_)],[(5,_),(8,_)],t1,t2,?_⟩
 refine X1 ?_
 refine ⟨.inr rfl,X4.cast (.cons (.tmp rfl) .nil) ?_,t2⟩
 rw [show decide ((pv.getD i 0:Int)=c)=decide (pv.getD i 0=c) from decide_eq_decide.2 oM]
theorem M0x {pv:List Nat}{c:Nat}:0≤l4 (fun i=>decide (pv.getD i 0=c)) 0 (pv.length - 0)↔c∈pv:=by
 constructor
 ·intro h
  obtain ⟨h1,h2,h3,h4⟩:=i9 (show ¬ l4 (fun i=>decide (pv.getD i 0=c)) 0 (pv.length - 0)<0 by omega)
  have h3:pv.getD (l4 (fun i=>decide (pv.getD i 0=c)) 0 (pv.length - 0)).toNat 0=c:=by simpa using h3
  rw [← h3]; exact d6 oM
 ·intro h
  apply Classical.byContradiction
  intro hn
  obtain ⟨i,hi,e⟩:=Q0f h
  have:=o9 (show l4 (fun i=>decide (pv.getD i 0=c)) 0 (pv.length - 0)<0 by omega) i (Nat.zero_le _) oM
  simp only [decide_eq_false_iff_not] at this
  exact this e
theorem Y1m {sl:List (Nat×PV)}{pre:List (Nat×Blk)}{xs:List L2}{e:TypeId}(hp:l6 pre=true)(hf:xs=[]→(J3 1003 sl && X2 1003 pre)=true):g0v ⟨sl,pre++pvB 1003 e xs⟩ (pvF 1003 xs):=by
 cases xs with
 | cons a l=>trivial
 | nil =>
  have h:=hf rfl
  simp only [j0] at h
  refine ⟨?_,?_⟩
  ·show (pre++_).lookup 1003=none
   rw [T1,n5 hp dC,l0]; rfl
  ·show (J3 1003 sl && X2 1003 (pre++_))=true
   rw [P4,h.1,h.2]; rfl
theorem b2j {sl:List (Nat×PV)}{r:List (Nat×Blk)}{xs:List L2}{y:L2}{e:TypeId}:O5 ⟨sl,pvB 1003 e (xs++[y])++r⟩ (pvB 1003 e (xs++[y])):=by
 obtain ⟨C,hC⟩:=J0c (xs:=xs) (y:=y) (k:=1003) (e:=e)
 rw [hC]
 exact ⟨by show List.lookup 1003 _=_; simp,trivial⟩
theorem Y1z {sl:List (Nat×PV)}{pre:List (Nat×Blk)}{xs:List L2}{e:TypeId}(hp:l6 pre=true):Cv (St.blk ⟨sl,pre++pvB 1003 e xs⟩) [1003] (pvV 1003 xs) (.p (.sl xs.length xs)):=by
 cases xs with
 | nil=>exact .p .nil
 | cons a l =>
  have hB:St.blk ⟨sl,pre++pvB 1003 e (a :: l)⟩ 1003=some ⟨e,1,.pure (a :: l)⟩:=by
   show (pre++_).lookup 1003=_
   rw [T1,n5 hp dC]; rfl
  exact Cv.ref (n:=(a :: l).length) (z:=[1003]) rfl hB rfl (Nat.mul_one _)
theorem I6:R5 []:=⟨fun _ _=>rfl,List.nodup_nil,fun _ _=>rfl,fun j B hj=>by cases hj⟩
theorem v1w {f:Nat}{pv:List Nat}{c:Nat}{m:List (List Rat)}:(W8 (f+1) pv).map (f0f c pv m)=(W8 f pv).map (f0f c pv m)++if f∈pv then [] else [f0f c pv m f]:=by
 rw [W8,List.range_succ,List.filter_append,List.map_append,← W8]
 congr 1
 by_cases h:f∈pv
 ·rw [if_pos h,List.filter_cons_of_neg (by simpa using h)]; rfl
 ·rw [if_neg h,List.filter_cons_of_pos (by simpa using h)]; rfl
theorem p0p (n c B DB:Nat)(M:List (List Rat))(h:MOk c M)(hB1:MB B M)(hn:M.length=n)(H:EU n c 0 B DB M (nob n)):v3 E 13 [pMq c M] (.tup [pMq c ((ech M (nob n) c).m.take (ech M (nob n) c).pv.length),pIs (ech M (nob n) c).pv,vZ 0]):=q0g (J0z n c B DB M h hB1 hn H)
theorem D1x {c f:Nat}{pv:List Nat}{m:List (List Rat)}:(f0f c pv m f).length=c:=by simp [f0f]
theorem H1p {c f:Nat}{pv:List Nat}{m:List (List Rat)}(hf:f<1000):((W8 f pv).map (f0f c pv m)).length<1000:=by
 rw [O0,W8]
 have:=List.length_filter_le (fun g=>!pv.contains g) (List.range f)
 rw [List.length_range] at this; omega
theorem Q1x {β:Nat→Option Blk}{z:List Nat}{k n:Nat}{v:List Rat}(hz:z.contains k=true)(hb:β k=some (T3 v))(hv:v.length=n):Cv β z (.ref k 0 n (n*4)) (.p (pV v)):=by
 subst hv
 exact .ref hz hb (Y2 v) rfl
theorem K1p {sl:List (Nat×PV)}{pre pre' T:List (Nat×Blk)}{z:List Nat}(hT:R5 T)(hp:l6 pre=true)(hb:O5 ⟨[],pre⟩ pre')(hz:(z.all fun k=>Nat.blt k 1000)=true)(hz':(pre'.all fun p=>!z.contains p.1)=true):h0z ⟨sl,pre++T⟩ z (pre'++T):=by
 refine q0v fun p hp2=>?_
 rcases List.mem_append.1 hp2 with h | h
 ·rw [s0] at hz'
  refine ⟨by simpa using hz' p h,?_⟩
  show (pre++T).lookup p.1=_
  rw [T1,q0f hb h]; rfl
 ·have h1:=U5 (j:=p.1) (B:=p.2) hT.nd h
  have h3:=d0d hT p h
  refine ⟨?_,?_⟩
  ·cases e:z.contains p.1 with
   | false=>rfl
   | true =>
    rw [List.contains_iff_mem] at e
    rw [s0] at hz
    have:=hz _ e
    simp only [Nat.blt_eq] at this; omega
  ·show (pre++T).lookup p.1=_
   rw [T1,n5 hp h3,l0,h1]
theorem tPv {L:List (List Rat)}:R5 (pvB 1003 40 (M5 L)):=F1g dC _
theorem W1d {sl:List (Nat×PV)}{pre:List (Nat×Blk)}{e:TypeId}{xs:List L2}(hp:l6 pre=true):P6 ⟨sl,pre++pvB 1003 e xs⟩ (pvB 1003 e xs):=by
 have:=K1b (sl:=sl) (R:=[]) (k:=1003) (e:=e) (xs:=xs) pre hp dC
 rwa [List.append_nil] at this
theorem q1p {c f k:Nat}{pv:List Nat}{g:Nat→Rat}(hk:k<pv.length):(n0y pv g ((zsQ c).set f 1) k).set (pv.getD k 0) (g k)=n0y pv g ((zsQ c).set f 1) (k+1):=y8.symm
theorem Q0n (n c B DB:Nat)(M:List (List Rat))(h:MOk c M)(hB1:MB B M)(hn:M.length=n)(H:EU n c 0 B DB M (nob n)):R4 E (fun _=>true) 14 [.p (pMq c M)] ([]) ([]) (.p (.tup [.sl (f1s c (ech M (nob n) c).pv ((ech M (nob n) c).m.take (ech M (nob n) c).pv.length)).length (M5 (f1s c (ech M (nob n) c).pv ((ech M (nob n) c).m.take (ech M (nob n) c).pv.length))),vZ 0])):=by
 refine v4 (xs:=[.sl (f1s c (ech M (nob n) c).pv ((ech M (nob n) c).m.take (ech M (nob n) c).pv.length)).length (M5 (f1s c (ech M (nob n) c).pv ((ech M (nob n) c).m.take (ech M (nob n) c).pv.length))),vZ 0]) Tryz.func14 rfl Tryz.ntmps14 Tryz.results14 sM fun F G=>?_
 have L:=@lti _ _ G.nt
 have hG:=G.g
 have hX:=G.x
 have hN:=Y5 hG
 have P0:∀ k,Nat.blt k 1000=true→F.pin k=none:=fun k hk=>G.p0 k (I6.low k hk)
 have hb:=H.bl
 have hcl:=H.cl
 have hsp:=v6 H.rc H.rb c (Nat.le_refl _)
 have hme:=H.me c (Nat.le_refl _)
 have hecho:=p0p n c B DB M h hB1 hn H
 obtain ⟨E',hE⟩:∃ E',E'=(ech M (nob n) c).m.take (ech M (nob n) c).pv.length:=⟨_,rfl⟩
 obtain ⟨pv,hpv⟩:∃ pv,pv=(ech M (nob n) c).pv:=⟨_,rfl⟩
 have hrc:=hsp.1
 have hR:=hsp.2.2.1
 have hEl:E'.length=pv.length:=by rw [hE,hpv,J0,hrc.1]; exact G1 hR.le
 have hEr:∀ i,i<pv.length→(E'.getD i []).length=c:=fun i hi=>by
  have hm:E'.getD i []∈E':=b0a oM
  rw [hE] at hm
  exact hrc.2 _ (by rw [hE]; exact List.mem_of_mem_take hm)
 have hEB:MB B E':=fun r hr a ha=>hme r (List.mem_of_mem_take (by rw [hE] at hr; exact hr)) a ha
 have hpl:pv.length<1000:=by have:=hR.le; have:=H.nl; rw [← hpv] at *; omega
 have hplt:∀ p∈pv,p<c:=by rw [hpv]; exact hR.lt
 rw [← hE,← hpv] at hecho ⊢
 have hlo:F.lo 1003=true:=by rw [G.lo]; rfl
 have hpin3:F.pin 1003=none:=G.p0 _ rfl
 refine exr (swb (U3 (k:=1) (n:=2) pa2 rfl rfl (P0 _ rfl) L) t1 t0 (frT [] I6 rfl rfl rfl) (aV L rfl (aV L rfl ?_)))
 refine O1 ⟨[(1,_)],(1,_) :: (([]:List (Nat×Blk))),t1,⟨rfl,(hbT [_] I6 rfl)⟩,?_⟩
 refine exr (lp2 ag24 sz24 L rfl rfl (cK hG hX cl13 hN hecho L t1 (mV L rfl (sw (O3 rfl L) t1 t0 (sw (O3 rfl L) t1 t0 (sw (O3 rfl L) t1 t0 (swb (R3 (k:=4) (n:=2) zv24 (.cons rfl (.cons rfl .nil)) rfl (P0 _ rfl) L) t0 t0 (frT [_] I6 rfl rfl rfl) (swb (R3 (k:=5) (n:=1) zv27 (.cons rfl .nil) rfl (P0 _ rfl) L) t0 t0 (frT [_,_] I6 rfl rfl rfl) (sb (U2 sz24 rF pa2 rfl pu2) t2 t1 ?_)))))))))
 refine sb (U2 sz27 rF .sl rfl pu1) t2 t1 ?_
 refine aV L rfl ?_
 refine O1 ⟨[(1,_),(4,_),(5,_),(6,_)],(1,_) :: (4,_) :: (5,_) :: (([]:List (Nat×Blk))),t4,⟨rfl,rfl,rfl,(hbT [_,_,_,_,_] I6 rfl)⟩,?_⟩
 refine R1 (exr (mV L rfl (sw (c_n L) t2 t0 ?_)))
 refine O1 ⟨[(1,_),(4,_),(5,_),(6,_),(19,_)],(1,_) :: (4,_) :: (5,_) :: (([]:List (Nat×Blk))),t5,⟨rfl,rfl,rfl,(hbT [_,_,_] I6 rfl)⟩,?_⟩
 refine Z3 rfl rfl ?_
 refine U1 (xq ?_)
 refine exr (aV L rfl ?_)
 refine O1 ⟨[(1,_),(4,_),(5,_),(7,pvV 1003 (M5 []))],(1,_) :: (4,_) :: (5,_) :: ((pvB 1003 40 (M5 []))),t4,⟨rfl,rfl,rfl,(hbT [_,_,_] I6 rfl)⟩,?_⟩
 refine R1 (exr (sw (i2 un24 rfl sz3 dC rX L) t1 t1 ?_))
 refine sw (Y1 ag3 rF rF L) t1 t1 ?_
 refine mV L rfl ?_
 refine O1 ⟨[(1,_),(4,_),(5,_),(7,_),(22,_),(23,_)],(1,_) :: (4,_) :: (5,_) :: ((pvB 1003 40 (M5 []))),t6,⟨rfl,rfl,rfl,(hbT [_,_,_] (tPv (L:=[])) rfl)⟩,?_⟩
 refine V1 ?_
 refine J0n (α:=Nat) (fun f=>[(23,vi (f:Int)),(7,pvV 1003 (M5 ((W8 f pv).map (f0f c pv E'))))]) (fun f=>[]) (fun f=>(pvB 1003 40 (M5 ((W8 f pv).map (f0f c pv E'))))) (fun f=>f≤c) (fun f=>c - f) (0) (sl:=[(1,_),(4,_),(5,_),(22,_)]) (hb:=[(1,_),(4,_),(5,_)]) ?_ ⟨oR,oR,rfl,rfl,rfl,rfl,trivial⟩ ⟨rfl,rfl,rfl,(hbT [_,_,_] (tPv (L:=[])) rfl)⟩ ?_
 ·exact Nat.zero_le _
 intro f hf
 refine exr (sw (P3 L) t2 t0 ?_)
 refine O1 ⟨[(1,_),(4,_),(5,_),(7,_),(22,_),(23,_),(24,_)],(1,_) :: (4,_) :: (5,_) :: ((pvB 1003 40 (M5 ((W8 f pv).map (f0f c pv E'))))),t7,⟨rfl,rfl,rfl,(hbT [_,_,_] (tPv (L:=(W8 f pv).map (f0f c pv E'))) rfl)⟩,?_⟩
 refine R1 ?_
 refine j2 rfl (fun hc=>?_) (fun hc=>?_)
 ·have hc:=dt hc
  have hfc:f<c:=by omega
  have hstep:=v1w (f:=f) (pv:=pv) (c:=c) (m:=E')
  have hlen:=H1p (c:=c) (f:=f) (pv:=pv) (m:=E') oM
  refine U1 (xq ?_)
  refine R1 (V1 (exr (mV L rfl (swb (R3 (k:=8) (n:=1) zv3 (.cons rfl .nil) rfl (P0 _ rfl) L) t0 t0 (frT [_,_,_] (tPv (L:=(W8 f pv).map (f0f c pv E'))) rfl rfl (by simp [J3,X2,Cells.free,PV.freeL,PV.free,X3,i3])) ?_))))
  refine sb (U2 sz3 rF (.atom rfl) rfl pu1) t2 t1 ?_
  refine O1 ⟨[(1,_),(4,_),(5,_),(7,_),(8,_),(22,_),(23,_)],(1,_) :: (4,_) :: (5,_) :: (8,_) :: ((pvB 1003 40 (M5 ((W8 f pv).map (f0f c pv E'))))),t7,⟨rfl,rfl,rfl,rfl,(hbT [_,_,_,_,_] (tPv (L:=(W8 f pv).map (f0f c pv E'))) rfl)⟩,?_⟩
  have f1:=n7 53 [.at_ 5 0 1,.at_ 8 0 1] (bK pv f) sM (m6 rfl) cl53 (fun i=>decide (pv.getD i 0=f)) 0 pv.length oM (fun i _ hi=>q1q pv f i hi hpl)
  refine R1 (exr (sw (Y1 ag27 rF rF L) t1 t1 ?_))
  refine sw (R2 un27 L) t1 t0 (sw (j0k (vs:=[]) (us:=[_,_]) rfl rfl L) t2 t0 (sw (o5 hG hX hN f1 rfl L (K4 (ys:=[_,_,_]) cl52 rfl rfl) sM (m6 rfl) (fun q h=>by cases h)) t3 t2 ?_))
  refine sw (d0b L) t2 t0 ?_
  refine O1 ⟨[(1,_),(4,_),(5,_),(7,_),(8,_),(22,_),(23,_),(30,_)],(1,_) :: (4,_) :: (5,_) :: (8,_) :: ((pvB 1003 40 (M5 ((W8 f pv).map (f0f c pv E'))))),t8,⟨rfl,rfl,rfl,rfl,(hbT [_,_,_,_] (tPv (L:=(W8 f pv).map (f0f c pv E'))) rfl)⟩,?_⟩
  refine j2 rfl (fun hg=>?_) (fun hg=>?_)
  ·have hg:f∈pv:=M0x.1 (dt hg)
   rw [if_pos hg,List.append_nil] at hstep
   refine G2 (xq ?_)
   refine j3 (sw (B3 L (w64 oM oM)) t2 t0 (mV L rfl (O1 ?_)))
   exact ⟨f+1,oM,by omega,l3 ⟨oR,(by rw [hstep]; rfl),rfl,rfl,rfl,rfl,trivial⟩ ⟨rfl,rfl,rfl,(by rw [hstep]; exact hbT [_,_,_,_] tPv rfl)⟩⟩
  ·have hg:f ∉ pv:=fun h=>(df hg) (M0x.2 h)
   rw [if_neg hg] at hstep
   obtain ⟨L0,hL0⟩:∃ L0,L0=(W8 f pv).map (f0f c pv E'):=⟨_,rfl⟩
   rw [← hL0] at hstep hlen ⊢
   refine U1 (xq ?_)
   refine exr (sw (i2 un24 rfl sz3 dC rX L) t1 t1 ?_)
   refine sw (Y1 ag3 rF rF L) t1 t1 ?_
   refine swb (d1z (k:=33) hG hX cl54 rfl hN (m0x c oM) (P0 _ rfl) L) t1 t0 (frT [_,_,_,_] (tPv (L:=L0)) rfl rfl (by simp [J3,X2,Cells.free,PV.freeL,PV.free,X3,i3])) ?_
   refine aV L rfl ?_
   refine O1 ⟨[(1,_),(4,_),(5,_),(7,_),(8,_),(9,_),(22,_),(23,_)],(1,_) :: (4,_) :: (5,_) :: (8,_) :: (33,_) :: ((pvB 1003 40 (M5 L0))),t8,⟨rfl,rfl,rfl,rfl,rfl,(hbT [_,_,_,_,_] (tPv (L:=L0)) rfl)⟩,?_⟩
   refine exd rF ?_
   refine mV L rfl (sw (Y1 ag3 rF rF L) t1 t1 ?_)
   refine cK hG hX cl55 hN (l7 1 dC dC) L t1 (sw (n0j (sz:=4) un40 sz47 (by exact sM) (j:=f) rO oM L) t2 t1 ?_)
   refine sb (B0v (n:=4) sz47 (by exact sM) rfl oM) t2 t1 ?_
   refine O1 ⟨h0n [⟨[9],[],[34],[]⟩,⟨[8],[8],[35],[]⟩,⟨[],[],[36],[]⟩,⟨[34,35],[33],[37],[]⟩,⟨[37,36],[33],[],[33]⟩] (.cons (cf0 rfl) (.cons (cf0 rfl) (.cons (cf0 rfl) (.cons (cf0 rfl) (.cons (cf0 rfl)  .nil))))) rfl (frS [] [_,_,_,_,_] (tPv (L:=L0)) rfl (by simp [J3,X2,Cells.free,PV.freeL,PV.free,X3,i3])) dC,[(1,_),(4,_),(5,_),(7,_),(8,_),(9,_),(22,_),(23,_)],(1,_) :: (4,_) :: (5,_) :: (8,_) :: (33,_) :: ((pvB 1003 40 (M5 L0))),t8,⟨rfl,rfl,rfl,rfl,rfl,(hbT [_,_,_,_,_,_] (tPv (L:=L0)) rfl)⟩,?_⟩
   refine R1 (exr (sw (Y1 ag27 rF rF L) t1 t1 ?_))
   refine sw (R2 un27 L) t1 t0 (mV L rfl ?_)
   refine O1 ⟨[(1,_),(4,_),(5,_),(7,_),(8,_),(9,_),(22,_),(23,_),(38,_),(39,_),(40,_)],(1,_) :: (4,_) :: (5,_) :: (8,_) :: (33,_) :: ((pvB 1003 40 (M5 L0))),t11,⟨rfl,rfl,rfl,rfl,rfl,(hbT [_,_,_,_,_] (tPv (L:=L0)) rfl)⟩,?_⟩
   refine V1 ?_
   refine J0n (α:=Nat) (fun k=>[(40,vi (k:Int))]) (fun k=>[(33,T3 (n0y pv (fun i=>-(ent E' i f)) ((zsQ c).set f 1) k))]) (fun k=>(pvB 1003 40 (M5 L0))) (fun k=>k≤pv.length) (fun k=>pv.length - k) (0) (sl:=[(1,_),(4,_),(5,_),(7,_),(8,_),(9,_),(22,_),(23,_),(38,_),(39,_)]) (hb:=[(1,_),(4,_),(5,_),(8,_)]) ?_ ⟨oR,rfl,rfl,rfl,rfl,rfl,rfl,rfl,rfl,rfl,rfl,trivial⟩ ⟨obl rfl (k0c 1 sO),rfl,rfl,rfl,rfl,(hbT [_,_,_,_,_] (tPv (L:=L0)) rfl)⟩ ?_
   ·exact Nat.zero_le _
   intro k hk
   refine exr (sw (P3 L) t2 t0 ?_)
   refine O1 ⟨[(1,_),(4,_),(5,_),(7,_),(8,_),(9,_),(22,_),(23,_),(38,_),(39,_),(40,_),(41,_)],(1,_) :: (4,_) :: (5,_) :: (8,_) :: (33,_) :: ((pvB 1003 40 (M5 L0))),t12,⟨rfl,rfl,rfl,rfl,rfl,(hbT [_,_,_,_,_] (tPv (L:=L0)) rfl)⟩,?_⟩
   refine R1 ?_
   refine j2 rfl (fun he=>?_) (fun he=>?_)
   ·have he:=dt he
    have hk2:k<pv.length:=by omega
    have hpk:=hplt _ (d6 hk2)
    have hq:=h0c (i:=k) (j:=f) hEB H.b0
    refine U1 (xq ?_)
    refine R1 (V1 (exr (mV L rfl (sw (ixJ un27 sz3 (j:=k) rO oM sM L) t2 t0 ?_))))
    refine sw (d4 ag3 (G1p hk2) L) t1 t0 (aV L rfl (aV L rfl ?_))
    refine O1 ⟨[(1,_),(4,_),(5,_),(7,_),(8,_),(9,_),(10,_),(11,_),(22,_),(23,_),(38,_),(39,_),(40,_)],(1,_) :: (4,_) :: (5,_) :: (8,_) :: (33,_) :: ((pvB 1003 40 (M5 L0))),t13,⟨rfl,rfl,rfl,rfl,rfl,(hbT [_,_,_,_,_] (tPv (L:=L0)) rfl)⟩,?_⟩
    refine b0z rF ?_
    refine mV L rfl (mV L rfl (sw (i2 un24 rfl sz22 dC rX L) t1 t1 ?_))
    refine sw (Y1 ag22 rF rF L) t1 t1 ?_
    refine mV L rfl (sw (ixJ un22 sz40 (j:=k) rO oM sM L) t2 t0 ?_)
    refine sw (d4 ag40 (b7 oM) L) t1 t0 (sw (Y1 ag3 rF rF L) t1 t1 ?_)
    refine sw (Z1 un40 sz47 oM (by rw [hEr k hk2]; omega) sM dC L) t2 t0 ?_
    refine sw (L6 ag47 sz47 (M6 (by rw [hEr k hk2]; exact hfc)) rfl L) t1 t0 ?_
    refine cK hG hX cl56 hN (y0j (ent E' k f) oM) L t1 (sw (n0j (sz:=4) un40 sz47 (by exact sM) (j:=pv.getD k 0) rO (by simpa using hpk) L) t2 t1 ?_)
    refine sb (B0v (n:=4) sz47 (by exact sM) rfl oM) t2 t1 ?_
    refine O1 ⟨h0n [⟨[9],[],[45],[]⟩,⟨[11],[],[46],[]⟩,⟨[4],[4],[47],[]⟩,⟨[47],[4],[48],[]⟩,⟨[10],[],[49],[]⟩,⟨[48,49],[],[50],[]⟩,⟨[50],[],[51],[]⟩,⟨[8],[8],[52],[]⟩,⟨[51,52],[],[53],[]⟩,⟨[53],[],[54],[]⟩,⟨[54],[],[55],[]⟩,⟨[45,46],[33],[56],[]⟩,⟨[56,55],[33],[],[33]⟩] (.cons (cf0 rfl) (.cons (cf0 rfl) (.cons (cf0 rfl) (.cons (cf0 rfl) (.cons (cf0 rfl) (.cons (cf0 rfl) (.cons (cf0 rfl) (.cons (cf0 rfl) (.cons (cf0 rfl) (.cons (cf0 rfl) (.cons (cf0 rfl) (.cons (cf0 rfl) (.cons (cf0 rfl)  .nil))))))))))))) rfl (frS [] [_,_,_,_,_] (tPv (L:=L0)) rfl (by simp [J3,X2,Cells.free,PV.freeL,PV.free,X3,i3])) dC,(show n4 _ _ _ _ _ from exw (sl:=[(1,_),(4,_),(5,_),(7,_),(8,_),(9,_),(22,_),(23,_),(38,_),(39,_),(40,_)]) (hb:=(1,_) :: (4,_) :: (5,_) :: (8,_) :: (33,_) :: ((pvB 1003 40 (M5 L0)))) t11 ⟨rfl,rfl,rfl,rfl,rfl,(hbT [_,_,_,_,_,_] (tPv (L:=L0)) rfl)⟩ ?_)⟩
    refine j3 (sw (B3 L (w64 oM oM)) t2 t0 (mV L rfl (O1 ?_)))
    exact ⟨k+1,oM,by omega,l3 ⟨oR,rfl,rfl,rfl,rfl,rfl,rfl,rfl,rfl,rfl,rfl,trivial⟩ ⟨obl rfl ((k0c _ (by simpa using hpk)).trans (by rw [q1p hk2])),rfl,rfl,rfl,rfl,(hbT [_,_,_,_,_] (tPv (L:=L0)) rfl)⟩⟩
   ·have he:=df he
    have hkp:k=pv.length:=by omega
    subst hkp
    refine G2 (xq ?_)
    refine s4 [33] (sl:=[(1,_),(4,_),(5,_),(7,_),(9,.p (pV (f0f c pv E' f))),(22,_),(23,_)]) (hb:=[(1,_),(4,_),(5,_)]++pvB 1003 40 (M5 L0)) (g0y (by simp [G.lo])) ⟨⟨_,rfl,.same⟩,⟨_,rfl,.same⟩,⟨_,rfl,.same⟩,⟨_,rfl,.same⟩,⟨_,rfl,?_⟩,⟨_,rfl,.same⟩,⟨_,rfl,.same⟩,trivial⟩ (K1p (pre:=[_,_,_,_,_]) tPv rfl t3 rfl rfl) ?_
    ·exact (Q1x rF rF D1x)
    refine j3 (mV L rfl (mV L rfl (sw (q4 (vs:=[_]) un22 ti40 rfl rfl dC dC rfl (K2 (.cons rfl .nil) rfl) rfl (.cons rfl .sl rfl pu1 .nil) (.cons .nil) L) t1 t0 (swA (M0h (k:=1003) un22 un22 ti40 rfl rfl rfl (by first | (simp [Tryz.t40]; done) | (simp [Tryz.t40]; omega)) sO hpin3 L) t2 ((W1d (pre:=[_,_,_]) rfl)) (Y1m (pre:=[_,_,_]) rfl (fun e=>by rw [e]; rfl)) ?_))))
    refine aV L rfl ?_
    refine O1 (show n4 _ _ _ _ _ from exw (sl:=[(1,_),(4,_),(5,_),(7,pvV 1003 (M5 (L0++[f0f c pv E' f]))),(22,_),(23,_)]) (hb:=(1,_) :: (4,_) :: (5,_) :: ((pvB 1003 40 (M5 (L0++[f0f c pv E' f]))))) ⟨rfl,rfl,rfl,(by rw [g0b]; rfl),rfl,rfl,trivial⟩ ⟨(h1r (pre:=[_,_,_]) dC rfl),(h1r (pre:=[_,_,_]) dC rfl),(h1r (pre:=[_,_,_]) dC rfl),(by rw [g0b]; exact b2j)⟩ ?_)
    refine j3 (sw (B3 L (w64 oM oM)) t2 t0 (mV L rfl (O1 ?_)))
    exact ⟨f+1,oM,by omega,l3 ⟨oR,(by rw [hstep]; rfl),rfl,rfl,rfl,rfl,trivial⟩ ⟨rfl,rfl,rfl,(by rw [hstep]; exact hbT [_,_,_] tPv rfl)⟩⟩
 ·have hc:=df hc
  have hfc:f=c:=by omega
  subst hfc
  obtain ⟨L0,hL0⟩:∃ L0,L0=(W8 f pv).map (f0f f pv E'):=⟨_,rfl⟩
  have hk:f1s f pv E'=L0:=by rw [hL0]; rfl
  rw [← hL0,hk]
  refine G2 (xq ?_)
  refine exr (mV L rfl (aV L rfl (aV L rfl ?_)))
  refine O1 ⟨[(2,_),(3,_)],((pvB 1003 40 (M5 L0))),t2,(hbT [_,_,_] (tPv (L:=L0)) rfl),?_⟩
  refine s4 [1003] (sl:=[(2,.p (.sl (M5 L0).length (M5 L0))),(3,_)]) (hb:=[]) (g0y (by simp [G.lo])) ⟨⟨_,rfl,Y1z (pre:=[]) rfl⟩,⟨_,rfl,.same⟩,trivial⟩ t0 ?_
  refine X1 ?_
  exact ⟨.inr rfl,.cons (.tmp (by rw [← G5 L0]; rfl)) (.cons (.tmp rfl) .nil),trivial⟩
end Go.Proofs.YtjagfionflbjbaaGreat.N
namespace Go.Proofs.YtjagfionflbjbaaGreat.SH
open Go Go.RowKit
def swN (a b k:Nat):Nat:=if k=a then b else if k=b then a else k
theorem D0p (a b k:Nat):swN a b (swN a b k)=k:=by
 unfold swN
 by_cases h1:k=a
 ·rw [if_pos h1]
  by_cases h2:b=a
  ·rw [if_pos h2,h1,h2]
  ·rw [if_neg h2,if_pos rfl,h1]
 ·rw [if_neg h1]
  by_cases h2:k=b
  ·rw [if_pos h2,if_pos rfl,h2]
  ·rw [if_neg h2,if_neg h1,if_neg h2]
theorem F1m {P:Program}{F:Fr}{c:Code}{Q:Exit→St→Prop}{S S':St}(a b:Nat)(hpa:F.pin a=none)(hpb:F.pin b=none)(hlo:F.lo a=F.lo b)
  (hs:∀ t v',S'.slot t=some v'→∃ v,S.slot t=some v∧v'=v.ren (swN a b)) (hb:∀ k B',S'.blk k=some B'→∃ B,S.blk (swN a b k)=some B∧B'=B.ren (swN a b)) (hn:n4 P F c S' Q):n4 P F c S Q:=by
 refine ⟨fun n a' w hS=>hn.run n a' w ?_⟩
 obtain ⟨ρ,h⟩:=hS
 have hne:∀ k,S'.blk k≠none→S.blk (swN a b k)≠none:=fun k hk=>by
  obtain ⟨B',hB'⟩:=j1.1 hk
  obtain ⟨B,h1,_⟩:=hb k B' hB'
  rw [h1]; simp
 have hcar:Carry (okI F S.blk ρ) (okI F S'.blk fun k=>ρ (swN a b k)) (hp w) (hp w):=fun x hx _=>⟨⟨hx.1,fun k hk e=>hx.2 _ (hne k hk) e⟩,rfl⟩
 have hre:∀ (v:PV) (u:Value),M2 S.blk ρ (okI F S.blk ρ) (hp w) v u→M2 S'.blk (fun k=>ρ (swN a b k)) (okI F S'.blk fun k=>ρ (swN a b k)) (hp w) (v.ren (swN a b)) u:=fun v u hr=>by
  have h1:=G0w (β:=S'.blk) (β0:=S.blk) (ρ:=fun k=>ρ (swN a b k)) (ρ0:=ρ) (ok:=okI F S.blk ρ) (Hp:=hp w) (κ:=swN a b) (K:=fun _=>True) (fun j _ B' hB'=>by
   obtain ⟨B,h2,h3⟩:=hb _ B' hB'
   rw [D0p] at h2
   refine ⟨B,h2,by rw [h3]; rfl,by rw [h3]; exact Cells.ren_len _ _,by simp only [D0p]⟩) v u (fun _ _=>trivial) hr
  exact M2.mono (K:=fun _=>True) hcar (fun k _ B hB=>⟨B,hB,rfl,Nat.le_refl _,fun _=>⟨rfl,fun c T fr hc=>⟨c,T,fr,hc,rfl⟩⟩⟩) _ u (fun _ _=>trivial) h1
 refine ⟨fun k=>ρ (swN a b k),fun t v' ht=>?_,fun k B' hk=>?_,fun k k' h1 h2 e=>?_,h.frame,h.nt,h.df,fun j x n hj hS=>?_⟩
 ·obtain ⟨v,hv,rfl⟩:=hs t v' ht
  obtain ⟨u,hu,hr⟩:=h.slots t v hv
  exact ⟨u,hu,hre v u hr⟩
 ·obtain ⟨B,h1,rfl⟩:=hb k B' hk
  obtain ⟨c,g1,g2,g3,g4⟩:=h.blks _ B h1
  refine ⟨c,g1,?_,by rw [show (B.ren (swN a b)).cs.len=B.cs.len from Cells.ren_len _ _]; exact g3,fun i x hx=>?_⟩
  ·rcases g2 with ⟨e1,e2⟩ | e1
   ·refine .inl ⟨e1,?_⟩
    unfold swN at e2
    split at e2
    ·rename_i e; rw [e,hlo]; exact e2
    ·split at e2
     ·rename_i e; rw [e,← hlo]; exact e2
     ·exact e2
   ·exact .inr e1
  ·have hx:(B.cs.ren (swN a b)).get i=some x:=hx
   rw [Cells.ren_get,M0] at hx
   obtain ⟨y,hy,rfl⟩:=hx
   obtain ⟨u,hu,ho,hr⟩:=g4 i y hy
   exact ⟨u,hu,ho,hre y u hr⟩
 ·have:=h.inj _ _ (hne k h1) (hne k' h2) e
  rw [← D0p a b k,this,D0p]
 ·have hja:j≠a:=fun e=>by rw [e,hpa] at hj; cases hj
  have hjb:j≠b:=fun e=>by rw [e,hpb] at hj; cases hj
  have e:swN a b j=j:=by rw [swN,if_neg hja,if_neg hjb]
  have:=h.pin j x n hj (by have:=hne j hS; rwa [e] at this)
  simp only [e]; exact this
end Go.Proofs.YtjagfionflbjbaaGreat.SH
set_option maxRecDepth 100000
set_option maxHeartbeats 4000000
namespace Go.Proofs.YtjagfionflbjbaaGreat.SH
open Go Go.RowKit
mutual
theorem PV.ren_only {κ:Nat→Nat}{ks:List Nat}(hk:∀ k∈ks,κ k=k):∀ x:PV,x.only ks=true→x.ren κ=x
 | .p _,_=>rfl
 | .at_ j _ _,h=>by
  have h:ks.contains j=true:=h
  rw [PV.ren,hk j (by simpa using h)]
 | .im _ _,_=>rfl
 | .ref j _ _ _,h=>by
  have h:ks.contains j=true:=h
  rw [PV.ren,hk j (by simpa using h)]
 | .agg xs,h=>by
  simp only [PV.only] at h
  rw [PV.ren,PV.renL_only hk xs h]
 | .tup xs,h=>by
  simp only [PV.only] at h
  rw [PV.ren,PV.renL_only hk xs h]
 | .clo f a b,h=>by
  simp only [PV.only,j0] at h
  rw [PV.ren,PV.renL_only hk a h.1,PV.renL_only hk b h.2]
 | .ifc t x,h=>by
  simp only [PV.only] at h
  rw [PV.ren,PV.ren_only hk x h]
 | .dead,_=>rfl
theorem PV.renL_only {κ:Nat→Nat}{ks:List Nat}(hk:∀ k∈ks,κ k=k):∀ xs:List PV,PV.onlyL ks xs=true→PV.renL κ xs=xs
 | [],_=>rfl
 | x :: xs,h=>by
  simp only [PV.onlyL,j0] at h
  rw [PV.renL,PV.ren_only hk x h.1,PV.renL_only hk xs h.2]
end
theorem Blk.ren_only {κ:Nat→Nat}{ks:List Nat}(hk:∀ k∈ks,κ k=k)(B:Blk)(h:B.cs.only ks=true):B.ren κ=B:=by
 obtain ⟨T,sz,cs⟩:=B
 cases cs with
 | pure xs=>rfl
 | mix vs =>
  have h:PV.onlyL ks vs=true:=h
  have:vs.map (PV.ren κ)=vs:=by rw [← f0p]; exact PV.renL_only hk vs h
  simp only [Blk.ren,Cells.ren,this]
end Go.Proofs.YtjagfionflbjbaaGreat.SH
namespace Go.Proofs.YtjagfionflbjbaaGreat.N
open Go Go.Proofs.YtjagfionflbjbaaGreat.SH Go.Proofs.YtjagfionflbjbaaGreat.NumA
theorem F1x {s:Nat}{m:List (List Rat)}{v:List Rat}:I2 s (m++[v])=(s+1001,⟨40,1,.mix (V4 s 0 m++[.ref (I3 s m.length) 0 v.length (v.length*4)])⟩) :: (d7 s 0 m++[(I3 s m.length,T3 v)]):=by
 rw [I2,hdB,k0s,v0z,F1]
theorem V1g {P:Program}{F:Fr}{c:Code}{Q:Exit→St→Prop}{S:St}{sl:List (Nat×PV)}{pre:List (Nat×Blk)}{m:List (List Rat)}{s a:Nat}{v:List Rat}(ks:List Nat)(hs2:s<9)(ha:a<1000)(hpa:F.pin a=none)(hpb:F.pin (I3 s m.length)=none)(hlo:F.lo a=F.lo (I3 s m.length))(hks:(ks.all fun k=>Nat.blt k 1100 && k != a)=true)
  (hS:q7 S sl) (hSo:(sl.all fun p=>p.2.only ks)=true) (hB:O5 S pre) (hBo:(pre.all fun p=>p.2.cs.only ks)=true) (hBk:(pre.all fun p=>Nat.blt p.1 1000 && p.1 != a)=true)
  (h1:S.blk (s+1001)=some ⟨40,1,.mix (V4 s 0 m++[.ref a 0 v.length (v.length*4)])⟩) (h2:S.blk a=some (T3 v)) (h3:∀ k B,(d7 s 0 m).lookup k=some B→S.blk k=some B)
  (hn:n4 P F c ⟨sl,pre++I2 s (m++[v])⟩ Q):n4 P F c S Q:=by
 have hfix:∀ k∈ks,swN a (I3 s m.length) k=k:=fun k hk=>by
  rw [s0] at hks
  have:=hks k hk
  simp only [j0,Nat.blt_eq,bne_iff_ne] at this
  rw [swN,if_neg this.2,if_neg (by unfold I3; omega)]
 rw [s0] at hSo hBo hBk
 refine F1m a (I3 s m.length) hpa hpb hlo (fun t v' ht=>?_) (fun k B' hk=>?_) hn
 ·have h4:=s8 (show sl.lookup t=some v' from ht)
  exact ⟨v',hS.all t v' ht,(PV.ren_only hfix v' (hSo _ h4)).symm⟩
 ·have hk:(pre++I2 s (m++[v])).lookup k=some B':=hk
  rw [T1] at hk
  cases e:pre.lookup k with
  | some C =>
   rw [e,K0] at hk
   injection hk with hk
   subst hk
   have h5:=hBk _ (L3 e)
   simp only [j0,Nat.blt_eq,bne_iff_ne] at h5
   refine ⟨C,?_,(Blk.ren_only hfix C (hBo _ (L3 e))).symm⟩
   rw [swN,if_neg h5.2,if_neg (by unfold I3; omega)]
   exact hB.all k C e
  | none =>
   rw [e,l0,F1x,i0] at hk
   have hrow:∀ j,j<m.length→swN a (I3 s m.length) (I3 s j)=I3 s j:=fun j hj=>by rw [swN,if_neg (by unfold I3; omega),if_neg (by unfold I3; omega)]
   by_cases e1:k=s+1001
   ·subst e1
    simp only [BEq.rfl,U0] at hk
    subst hk
    refine ⟨⟨40,1,.mix (V4 s 0 m++[.ref a 0 v.length (v.length*4)])⟩,by rw [swN,if_neg oM,if_neg (by unfold I3; omega)]; exact h1,?_⟩
    have hr:∀ (i:Nat) (q:List (List Rat)),i+q.length≤m.length→(V4 s i q).map (PV.ren (swN a (I3 s m.length)))=V4 s i q:=by
     intro i q
     induction q generalizing i with
     | nil=>intro _; rfl
     | cons w q ih =>
      intro hq
      simp only [D1] at hq
      simp only [V4,R0,PV.ren,hrow i oM,ih (i+1) oM]
    simp only [Blk.ren,Cells.ren,List.map_append,hr 0 m oM,R0,List.map_nil,PV.ren,swN,if_true]
   ·rw [show (k == s+1001)=false by simpa using e1,T1] at hk
    cases e2:(d7 s 0 m).lookup k with
    | some C =>
     rw [e2,K0] at hk
     injection hk with hk
     subst hk
     obtain ⟨j,hj,h6⟩:=D9 (G0.2 ⟨_,L3 e2,rfl⟩)
     simp only [F1] at h6
     refine ⟨C,by rw [h6,hrow j hj,← h6]; exact h3 k C e2,?_⟩
     rw [h6] at e2
     rw [W0r,M0] at e2
     obtain ⟨w,_,rfl⟩:=e2
     rfl
    | none =>
     rw [e2,l0,i0] at hk
     by_cases e3:k=I3 s m.length
     ·subst e3
      simp only [BEq.rfl,U0] at hk
      subst hk
      refine ⟨T3 v,by rw [swN,if_neg (by unfold I3; omega),if_pos rfl]; exact h2,rfl⟩
     ·rw [show (k == I3 s m.length)=false by simpa using e3] at hk; cases hk
end Go.Proofs.YtjagfionflbjbaaGreat.N
namespace Go.Proofs.YtjagfionflbjbaaGreat.SH
open Go Go.RowKit
theorem D1m {P:Program}{F:Fr}{c:Code}{Q:Exit→St→Prop}{S S':St}(hs:∀ t v,S'.slot t=some v→S.slot t=some v)(hb:∀ k B',S'.blk k=some B'→∃ B,S.blk k=some B∧B'.T=B.T∧B'.sz=B.sz∧B'.cs.len=B.cs.len∧∀ i,B'.cs.get i=B.cs.get i)(hn:n4 P F c S' Q):n4 P F c S Q:=by
 refine ⟨fun n a w ⟨ρ,h⟩=>hn.run n a w ⟨ρ,?_⟩⟩
 have hn':∀ j,S'.blk j≠none→S.blk j≠none:=fun j hj=>by
  obtain ⟨B,hB⟩:=j1.1 hj
  obtain ⟨B0,h0,_⟩:=hb j B hB
  rw [h0]; simp
 have hcar:Carry (okI F S.blk ρ) (okI F S'.blk ρ) (hp w) (hp w):=fun b hb _=>⟨⟨hb.1,fun j hj=>hb.2 j (hn' j hj)⟩,rfl⟩
 have hkp:∀ K:Nat→Prop,b0y K S.blk S'.blk ρ ρ (hp w) (hp w):=fun K j _ B hB=>by
  obtain ⟨B0,h0,h1,h2,h3,_⟩:=hb j B hB
  exact ⟨B0,h0,h2,by omega,fun _=>⟨rfl,fun c T fr hc=>⟨c,T,fr,hc,rfl⟩⟩⟩
 refine ⟨fun t v ht=>?_,fun j B hB=>?_,fun j j' h1 h2 e=>h.inj j j' (hn' j h1) (hn' j' h2) e,h.frame,h.nt,h.df,fun j b n hj hS=>h.pin j b n hj (hn' j hS)⟩
 ·obtain ⟨u,hu,hr⟩:=h.slots t v (hs t v ht)
  exact ⟨u,hu,M2.mono (K:=fun _=>True) hcar (hkp _) v u (fun _ _=>trivial) hr⟩
 ·obtain ⟨B0,h0,h1,h2,h3,h4⟩:=hb j B hB
  obtain ⟨c,c1,c2,c3,c4⟩:=h.blks j B0 h0
  refine ⟨c,by rw [h1]; exact c1,c2,by omega,fun i x hx=>?_⟩
  obtain ⟨u,hu,ho,hr⟩:=c4 i x (by rw [← h4]; exact hx)
  exact ⟨u,hu,ho,M2.mono (K:=fun _=>True) hcar (hkp _) x u (fun _ _=>trivial) hr⟩
section
variable {P:Program} {F:Fr} {d:Nat} {T:TypeId} {pos:String} {aft:Array Edge} {g:Option (Nat×Bool)} {t tx:TypeId}
theorem p1b {x y:Operand}{k j n:Nat}{e:TypeId}{ie:TypeInfo}{z:Value}{cs:List PV}{u:PV}(hu:P.underlying t=some (.slice e))(hux:P.underlying tx=some (.slice e))(hi:∀ w,(typeInfo e).run P w = .ok ie w)(hz:ie.zero=some z)(hsz:ie.size=1)
  (hzl:z.cells.size=1) (hn:cs.length=n) (hby:2*(n+1)*ie.bytes≤281474976710656) (h63:n+1≤9223372036854775807) (hpk:F.pin k=none) (hlt:d<F.nt) :
  O2 P F ⟨some d,.call ⟨.builtin .append,#[x,y],#[t,tx]⟩,T,pos,aft,g⟩ ⟨[(x,.ref k 0 n n),(y,.ref j 0 1 1)],[(k,⟨e,1,.mix cs⟩),(j,⟨e,1,.mix [u]⟩)],none,[(d,.ref k 0 (n+1) (n+1))],[(k,⟨e,1,.mix (cs++[u])⟩)]⟩ :=
 J0b (m:=1) (sz:=1) (cs:=.mix cs) (us:=[u]) hu hi hz hsz hzl (by omega) hn (by simp) (Q1p (B:=⟨e,1,.mix [u]⟩) (k:=j) (o:=0) hux rfl rfl rfl) rfl .mix rfl hby h63 hpk hlt
end
end Go.Proofs.YtjagfionflbjbaaGreat.SH
set_option maxRecDepth 100000
set_option maxHeartbeats 4000000
namespace Go.Proofs.YtjagfionflbjbaaGreat.N
open Go Go.Proofs.YtjagfionflbjbaaGreat.SH Go.Proofs.YtjagfionflbjbaaGreat.NumA
open Go.Proofs.Tryz renaming call103→cl103,call104→cl104,call132→cl132,call133→cl133,call15→cl15,call16→cl16,call19→cl19,call22→cl22,call23→cl23,call24→cl24,call27→cl27,call29→cl29,call33→cl33,call34→cl34,call36→cl36,call37→cl37,call40→cl40,call49→cl49,call50→cl50,call51→cl51,call52→cl52,call54→cl54,call55→cl55,call57→cl57,call58→cl58,call59→cl59,call60→cl60,call61→cl61,call62→cl62,call63→cl63,call64→cl64,call65→cl65,call66→cl66,call67→cl67,call68→cl68,call69→cl69,call70→cl70,call71→cl71,call72→cl72,call73→cl73,call74→cl74,call75→cl75,call76→cl76,call84→cl84,isAgg119→ag119,isAgg22→ag22,isAgg24→ag24,isAgg3→ag3,isAgg40→ag40,isAgg43→ag43,isAgg45→ag45,isAgg47→ag47,isAgg4→ag4,isAgg77→ag77,sizeOf119→sz119,sizeOf22→sz22,sizeOf24→sz24,sizeOf3→sz3,sizeOf40→sz40,sizeOf43→sz43,sizeOf45→sz45,sizeOf47→sz47,sizeOf4→sz4,sizeOf77→sz77,typeInfo3→ti3,typeInfo40→ti40,typeInfo47→ti47,underlying22→un22,underlying24→un24,underlying27→un27,underlying40→un40,underlying43→un43,underlying45→un45,underlying47→un47,underlying4→un4,underlying77→un77,underlying79→un79,zeroValue24→zv24,zeroValue47→zv47
theorem J1m {P:Program}{F:Fr}{c:Code}{Q:Exit→St→Prop}{S:St}{sl:List (Nat×PV)}{pre:List (Nat×Blk)}{s a t:Nat}(ks:List Nat)(hs2:s<9)(ha:a<1000)(hpa:F.pin a=none)(hpb:F.pin (s+1001)=none)(hlo:F.lo a=F.lo (s+1001))(hks:(ks.all fun k=>Nat.blt k 1000 && k != a)=true)
  (hS:q7 S sl) (hSo:(sl.all fun p=>p.2.only ks && p.1 != t)=true) (ht:S.slot t=some (.ref a 0 0 0)) (hB:O5 S pre) (hBo:(pre.all fun p=>p.2.cs.only ks)=true) (hBk:(pre.all fun p=>Nat.blt p.1 1000 && p.1 != a)=true)
  (h1:S.blk a=some ⟨40,1,.pure []⟩) (hn:n4 P F c ⟨(t,.ref (s+1001) 0 0 0) :: sl,pre++I2 s []⟩ Q):n4 P F c S Q:=by
 have hfix:∀ k∈ks,swN a (s+1001) k=k:=fun k hk=>by
  rw [s0] at hks
  have:=hks k hk
  simp only [j0,Nat.blt_eq,bne_iff_ne] at this
  rw [swN,if_neg this.2,if_neg oM]
 rw [s0] at hSo hBo hBk
 refine F1m (S':=⟨(t,.ref (s+1001) 0 0 0) :: sl,pre++[(s+1001,⟨40,1,.pure []⟩)]⟩) a (s+1001) hpa hpb hlo (fun t' v' ht'=>?_) (fun k B' hk=>?_) (D1m (S':=⟨(t,.ref (s+1001) 0 0 0) :: sl,pre++I2 s []⟩) (fun t v h=>h) (fun k B' hk=>?_) hn)
 ·have h2:List.lookup t' ((t,.ref (s+1001) 0 0 0) :: sl)=some v':=ht'
  rw [i0] at h2
  by_cases e:t'=t
  ·subst e
   simp only [BEq.rfl,U0] at h2
   subst h2
   exact ⟨_,ht,(by simp [PV.ren,swN])⟩
  ·rw [show (t' == t)=false by simpa using e] at h2
   have h4:=hSo _ (s8 h2)
   simp only [j0] at h4
   exact ⟨v',hS.all t' v' h2,(PV.ren_only hfix v' h4.1).symm⟩
 ·have hk:(pre++([(s+1001,⟨40,1,.pure []⟩)]:List (Nat×Blk))).lookup k=some B':=hk
  rw [T1] at hk
  cases e:pre.lookup k with
  | some C =>
   rw [e,K0] at hk
   injection hk with hk
   subst hk
   have h5:=hBk _ (L3 e)
   simp only [j0,Nat.blt_eq,bne_iff_ne] at h5
   refine ⟨C,?_,(Blk.ren_only hfix C (hBo _ (L3 e))).symm⟩
   rw [swN,if_neg h5.2,if_neg oM]
   exact hB.all k C e
  | none =>
   rw [e,l0,i0] at hk
   by_cases e1:k=s+1001
   ·subst e1
    simp only [BEq.rfl,U0] at hk
    subst hk
    exact ⟨_,(by rw [swN,if_neg oM,if_pos rfl]; exact h1),rfl⟩
   ·rw [show (k == s+1001)=false by simpa using e1] at hk; cases hk
 ·have hk:(pre++I2 s []).lookup k=some B':=hk
  show ∃ B,(pre++([(s+1001,⟨40,1,.pure []⟩)]:List (Nat×Blk))).lookup k=some B∧_
  rw [T1] at hk ⊢
  cases e:pre.lookup k with
  | some C =>
   rw [e,K0] at hk
   injection hk with hk
   subst hk
   exact ⟨C,rfl,rfl,rfl,rfl,fun _=>rfl⟩
  | none =>
   rw [e,l0,I2,i0] at hk
   by_cases e1:k=s+1001
   ·subst e1
    simp only [BEq.rfl,U0] at hk
    subst hk
    exact ⟨⟨40,1,.pure []⟩,(by rw [l0,List.lookup_cons_self]),rfl,rfl,rfl,fun _=>rfl⟩
   ·rw [show (k == s+1001)=false by simpa using e1] at hk; cases hk
theorem p1y {b:List Rat}{i:Nat}(h:i<b.length):(Y3 b).take (i+1)=(Y3 b).take i++[((zsQ (b.length+1)).set 0 (b.getD i 0)).set (i+1) 1]:=by
 rw [D0z (by simpa [Y3] using h),W0s h]
theorem d0y {B:Nat}{b:List Rat}(hB:∀ a∈b,qw a≤B)(hb:B<1000000000)(hl:b.length<1000000000):v3 E 64 [pV b] (bZ true):=by
 have:=K7 (b.map RQ.of) (by simpa using hl) (fun r hr=>by
  obtain ⟨a,ha,rfl⟩:=G0.1 hr
  have:=hB a ha
  exact RQ.sm_of oM)
 rwa [P0x,v0p] at this
theorem M1d {v:List Rat}{a c:Rat}{j:Nat}(h0:0<v.length)(hj:j<v.length):(⟨47,4,.pure ((((L5 v).take (0*4)++cQ a++(L5 v).drop (0*4+4)).take (j*4))++cQ c++(((L5 v).take (0*4)++cQ a++(L5 v).drop (0*4+4)).drop (j*4+4)))⟩:Blk)=T3 ((v.set 0 a).set j c):=by rw [P1q a h0,k0c c (by simpa using hj)]
theorem v1j {m:List (List Rat)}{k:Nat}:(M5 m).drop k=M5 (m.drop k):=by simp [M5,List.map_drop]
theorem F1f {p:Nat→Prop}{i:Nat}(h:∀ k,k<i→p k)(hi:p i):∀ k,k<i+1→p k:=fun k hk=>by
 by_cases e:k=i
 ·rw [e]; exact hi
 ·exact h k oM
theorem N0b:∀ {v:List Rat}{k:Nat},(L5 v).drop (k*4)=L5 (v.drop k)
 | v,0=>by simp
 | [],k+1=>by simp [L5]
 | a :: v,k+1=>by
  rw [show (k+1)*4=k*4+1+1+1+1 by omega]
  simp only [L5,cQ,L1,List.nil_append,List.drop_succ_cons]
  exact N0b
theorem G1y {u:List Rat}{a:Rat}{k:Nat}(h:k<u.length):(u.take (k+1)).map (· / a)=(u.take k).map (· / a)++[u.getD k 0 / a]:=by
 rw [I1,List.map_append]; congr 1; simp [f0,h]
def B0q (r:List Rat):List Rat:=(r.drop 1).map (· / r.getD 0 0)
theorem K0x {p:Nat→Bool}:∀ {n a i:Nat},(∀ k,k<i→p (a+k)=false)→p (a+i)=true→i<n→l4 p a n=((a+i:Nat):Int)
 | 0,_,_,_,_,h=>by omega
 | n+1,a,0,_,h1,_=>by rw [l4,if_pos (by simpa using h1)]; simp
 | n+1,a,i+1,h0,h1,h=>by
  have h2:=h0 0 oM
  rw [Nat.add_zero] at h2
  rw [l4,if_neg (by rw [h2]; simp),K0x (a:=a+1) (i:=i) (fun k hk=>by rw [Nat.add_assoc,Nat.add_comm 1 k]; exact h0 (k+1) oM) (by rw [Nat.add_assoc,Nat.add_comm 1 i]; exact h1) oM]
  rw [Nat.add_assoc,Nat.add_comm 1 i]
theorem N0q {p:Nat→Bool}:∀ {n a:Nat},(∀ k,k<n→p (a+k)=false)→l4 p a n = -1
 | 0,_,_=>rfl
 | n+1,a,h=>by
  have h2:=h 0 oM
  rw [Nat.add_zero] at h2
  rw [l4,if_neg (by rw [h2]; simp)]
  exact N0q fun k hk=>by rw [Nat.add_assoc,Nat.add_comm 1 k]; exact h (k+1) oM
def B0z (t:ESt)(n:Nat):Int:=l4 (nzI t.b 0) t.pv.length (n - t.pv.length)
def y0f (c:Nat)(t:ESt)(n:Nat):List Rat:=if B0z t n<0 then d0a c t.pv (fun i=>ent t.b i 0) else []
def j0m (t:ESt)(n:Nat):List Rat:=if B0z t n<0 then [] else B0q (t.b.getD (B0z t n).toNat [])
def n0r (t:ESt)(n:Nat):Int:=if B0z t n<0 then 0 else 4
theorem b1s (n c B DB:Nat)(M:List (List Rat))(b:List Rat)(h:MOk c M)(hB1:MB B M)(hbB:∀ a∈b,qw a≤B)(hn:M.length=n)(hbn:b.length=n)(H:EU n c (n+1) B DB M (Y3 b)):R4 E (fun _=>true) 24 [.p (pMq c M),.p (pV b)] ([]) ([]) (.p (.tup [pV (y0f c (ech M (Y3 b) c) n),pV (j0m (ech M (Y3 b) c) n),vZ (n0r (ech M (Y3 b) c) n)])):=by
 refine v4 (xs:=[pV (y0f c (ech M (Y3 b) c) n),pV (j0m (ech M (Y3 b) c) n),vZ (n0r (ech M (Y3 b) c) n)]) Tryz.func24 rfl Tryz.ntmps24 Tryz.results24 sM fun F G=>?_
 have L:=@lti _ _ G.nt
 have hG:=G.g
 have hX:=G.x
 have hN:=Y5 hG
 have P0:∀ k,Nat.blt k 1000=true→F.pin k=none:=fun k hk=>G.p0 k (I6.low k hk)
 have hb:=H.bl
 have hcl:=H.cl
 have hnl:=H.nl
 have hsp:=v6 H.rc H.rb c (Nat.le_refl _)
 subst hbn
 have hpin:∀ k,F.pin k=none:=fun k=>G.p0 k rfl
 have hlo:∀ k,F.lo k=true:=fun k=>by rw [G.lo]; rfl
 refine exr (swb (U3 (k:=2) (n:=2) pa2 rfl rfl (P0 _ rfl) L) t1 t0 (frT [] I6 rfl rfl rfl) (aV L rfl (aV L rfl (aV L rfl ?_))))
 refine O1 ⟨[(1,_),(2,_),(5,_)],(2,_) :: (([]:List (Nat×Blk))),t3,⟨rfl,(hbT [_] I6 rfl)⟩,?_⟩
 refine R1 (exr (lp2 ag24 sz24 L rfl rfl (cK hG hX cl40 hN (Z9 h hB1 oM) L t1 (sw (C4 L) t1 t0 (mV L rfl (gV (g:=25) rfl rfl L rfl rfl (swg (g:=25) rfl rfl (c_c hG hX cl64 rfl hN (d0y hbB oM oM) L) rfl t1 t0 (swg (g:=25) rfl rfl (C4 L) rfl t1 t0 (sw (y4 rfl L) t2 t0 ?_)))))))))
 refine O1 ⟨[(1,_),(2,_),(5,_),(29,_)],(2,_) :: (([]:List (Nat×Blk))),t4,⟨rfl,(hbT [_] I6 rfl)⟩,?_⟩
 refine Z3 rfl rfl ?_
 refine U1 (xq ?_)
 refine R1 (exr (mV L rfl (sw (R2 un40 L) t1 t0 (sw (i2 un24 rfl sz22 dC rX L) t1 t1 ?_))))
 refine sw (Y1 ag22 rF rF L) t1 t1 ?_
 refine sw (R2 un22 L) t1 t0 (sw (c_n L) t2 t0 ?_)
 refine O1 ⟨[(1,_),(2,_),(5,_),(35,_)],(2,_) :: (([]:List (Nat×Blk))),t4,⟨rfl,(hbT [_] I6 rfl)⟩,?_⟩
 refine Z3 rfl sO ?_
 refine U1 (xq ?_)
 refine exr (mV L rfl (sw (R2 un40 L) t1 t0 (swb (v0a (k:=38) un77 ti40 rfl rfl rfl rfl (show (0:Int)=((0:Nat):Int) from rfl) rfl (Nat.zero_le _) (by simp [Tryz.t40]; omega) oM (P0 _ rfl) L) t2 t0 (frT [_] I6 rfl rfl rfl) ?_)))
 refine aV L rfl ?_
 refine O1 ⟨[(1,_),(2,_),(5,_),(7,_)],(2,_) :: (38,_) :: (([]:List (Nat×Blk))),t4,⟨rfl,rfl,(hbT [_,_] I6 rfl)⟩,?_⟩
 refine J1m (s:=1) (a:=38) (t:=7) [2] (sl:=[(1,_),(2,_),(5,_)]) (pre:=[(2,_)]) dC dC (hpin _) (hpin _) (by rw [hlo,hlo]) rfl t3 rfl rfl t1 rfl rfl rfl ?_
 refine R1 (exr (mV L rfl (sw (R2 un40 L) t1 t0 (mV L rfl ?_))))
 refine O1 ⟨[(1,_),(2,_),(5,_),(7,_),(39,_),(40,_),(41,_)],(2,_) :: ((I2 1 [])),t7,⟨rfl,(hbT [_] (y2 (s:=1) dC []) rfl)⟩,?_⟩
 refine V1 ?_
 refine J0n (α:=Nat) (fun i=>[(41,vi (i:Int)),(7,.ref 1002 0 i i)]) (fun i=>[]) (fun i=>(I2 1 ((Y3 b).take i))) (fun i=>i≤b.length) (fun i=>b.length - i) (0) (sl:=[(1,_),(2,_),(5,_),(39,_),(40,_)]) (hb:=[(2,_)]) ?_ ⟨oR,oR,rfl,rfl,rfl,rfl,rfl,trivial⟩ ⟨rfl,(hbT [_] (y2 (s:=1) dC []) rfl)⟩ ?_
 ·exact Nat.zero_le _
 intro i hi
 have hbsl:(Y3 b).length=b.length:=by simp [Y3]
 have htl:((Y3 b).take i).length=i:=by rw [J0]; omega
 refine exr (sw (P3 L) t2 t0 ?_)
 refine O1 ⟨[(1,_),(2,_),(5,_),(7,_),(39,_),(40,_),(41,_),(42,_)],(2,_) :: ((I2 1 ((Y3 b).take i))),t8,⟨rfl,(hbT [_] (y2 (s:=1) dC ((Y3 b).take i)) rfl)⟩,?_⟩
 refine R1 ?_
 refine j2 rfl (fun hc=>?_) (fun hc=>?_)
 ·have hc:=dt hc
  have hib:i<b.length:=by omega
  have hst:=p1y hib
  have hqb:=hbB _ (j4 hib)
  refine U1 (xq ?_)
  refine R1 (V1 (exr (mV L rfl (sw (Z1 un40 sz47 oM oM sM dC L) t2 t0 ?_))))
  refine sw (L6 ag47 sz47 (M6 hib) rfl L) t1 t0 (swb (R3 (k:=9) (n:=4) zv47 (.cons rfl (.cons rfl (.cons rfl (.cons rfl .nil)))) rfl (P0 _ rfl) L) t0 t0 (frT [_] (y2 (s:=1) dC ((Y3 b).take i)) rfl rfl (by simp [J3,X2,Cells.free,PV.freeL,PV.free,X3,i3])) ?_)
  refine aV L rfl (sb (U2 sz47 rF pa4 rfl pu4) t2 t1 ?_)
  refine O1 ⟨[(1,_),(2,_),(5,_),(7,_),(8,_),(9,_),(39,_),(40,_),(41,_)],(2,_) :: (9,_) :: ((I2 1 ((Y3 b).take i))),t9,⟨rfl,rfl,(hbT [_,_,_] (y2 (s:=1) dC ((Y3 b).take i)) rfl)⟩,?_⟩
  refine exr (mV L rfl (sw (R2 un40 L) t1 t0 (sw (B3 L (w64 oM oM)) t2 t0 (swb (d1z (k:=49) hG hX cl54 rfl hN (m0x (b.length+1) oM) (P0 _ rfl) L) t1 t0 (frT [_,_] (y2 (s:=1) dC ((Y3 b).take i)) rfl rfl (by simp [J3,X2,Cells.free,PV.freeL,PV.free,X3,i3])) ?_))))
  refine aV L rfl ?_
  refine O1 ⟨[(1,_),(2,_),(5,_),(7,_),(8,_),(9,_),(10,_),(39,_),(40,_),(41,_)],(2,_) :: (9,_) :: (49,_) :: ((I2 1 ((Y3 b).take i))),t10,⟨rfl,rfl,rfl,(hbT [_,_,_] (y2 (s:=1) dC ((Y3 b).take i)) rfl)⟩,?_⟩
  refine exd rF ?_
  refine mV L rfl (mV L rfl (mV L rfl (sw (B3 L (w64 oM oM)) t2 t0 (lp4 ag47 sz47 L rfl rfl (cK hG hX cl55 hN (l7 1 dC dC) L t1 (sw (b0s un40 sz47 (by exact sM) dC oM L) t2 t1 ?_))))))
  refine sb (B0v (n:=4) sz47 (by exact sM) rfl sO) t2 t1 ?_
  refine sw (n0j (sz:=4) un40 sz47 (by exact (by first | (simp; done) | (simp; omega))) (j:=i+1) rO oM L) t2 t1 ?_
  refine sb (B0v (n:=4) sz47 (by exact (by first | (simp; done) | (simp; omega))) rfl oM) t2 t1 ?_
  refine O1 ⟨h0n [⟨[10],[],[50],[]⟩,⟨[10],[],[51],[]⟩,⟨[8],[],[52],[]⟩,⟨[52],[],[53],[]⟩,⟨[9],[9],[54],[]⟩,⟨[],[],[55],[]⟩,⟨[50],[49],[56],[]⟩,⟨[56,54],[49],[],[49]⟩,⟨[51,53],[49],[57],[]⟩,⟨[57,55],[49],[],[49]⟩] (.cons (cf0 rfl) (.cons (cf0 rfl) (.cons (cf0 rfl) (.cons (cf0 rfl) (.cons (cf0 rfl) (.cons (cf0 rfl) (.cons (cf0 rfl) (.cons (cf0 rfl) (.cons (cf0 rfl) (.cons (cf0 rfl)  .nil)))))))))) rfl (frS [] [_,_,_] (y2 (s:=1) dC ((Y3 b).take i)) rfl (by simp [J3,X2,Cells.free,PV.freeL,PV.free,X3,i3])) dC,[(1,_),(2,_),(5,_),(7,_),(10,_),(39,_),(40,_),(41,_)],(2,_) :: (49,T3 (((zsQ (b.length+1)).set 0 (b.getD i 0)).set (i+1) 1)) :: ((I2 1 ((Y3 b).take i))),t8,⟨rfl,obl rfl (M1d (v:=zq (b.length+1)) sM sO),(hbT [_,_,_,_,_] (y2 (s:=1) dC ((Y3 b).take i)) rfl)⟩,?_⟩
  obtain ⟨ln,hln⟩:∃ ln,ln=((zsQ (b.length+1)).set 0 (b.getD i 0)).set (i+1) 1:=⟨_,rfl⟩
  have hlnl:ln.length=b.length+1:=by rw [hln]; simp
  rw [← hln] at hst ⊢
  rw [← hlnl]
  refine j3 (mV L rfl (mV L rfl (swb (Y1d (k:=60) (vs:=[_]) un77 ti40 rfl rfl dC dC rfl (K2 (.cons rfl .nil) rfl) rfl (.cons rfl .ref rfl pu1 .nil) rfl rfl (P0 _ rfl) L) t1 t0 (frT [_,_] (y2 (s:=1) dC ((Y3 b).take i)) rfl rfl rfl) ?_)))
  refine swb (p1b (k:=1002) (j:=60) (cs:=V4 1 0 ((Y3 b).take i)) un77 un77 ti40 rfl rfl rfl (by rw [E2,htl]) (by simp [Tryz.t40]; omega) oM (hpin _) L) t2 ⟨?_,rfl,trivial⟩ t0 ?_
  ·exact rdT [_,_,_] (y2 (s:=1) dC _) rfl hdL
  refine aV L rfl ?_
  refine O1 (xq ?_)
  refine V1g (s:=1) (a:=49) (m:=(Y3 b).take i) (v:=ln) [2,1002] (sl:=[(1,_),(2,_),(5,_),(7,.ref 1002 0 (i+1) (i+1)),(39,_),(40,_),(41,_)]) (pre:=[(2,_)]) dC dC (hpin _) (hpin _) (by rw [hlo,hlo]) rfl t7 rfl t1 rfl rfl rfl rfl (fun k B hk=>?_) ?_
  ·obtain ⟨j,_,hj⟩:=D9 (G0.2 ⟨_,L3 hk,rfl⟩)
   have hj:k=I3 1 (0+j):=hj
   have hk9:k≠1002∧k≠60∧k≠2∧k≠49:=by rw [hj]; unfold I3; omega
   show List.lookup k ((1002,_) :: (60,_) :: (2,_) :: (49,_) :: I2 1 ((Y3 b).take i))=some B
   rw [M8 hk9.1,M8 hk9.2.1,M8 hk9.2.2.1,M8 hk9.2.2.2,I2,M8 hk9.1]; exact hk
  rw [← hst]
  refine j3 (sw (B3 L (w64 oM oM)) t2 t0 (mV L rfl (O1 ?_)))
  exact ⟨i+1,oM,by omega,l3 ⟨oR,oR,rfl,rfl,rfl,rfl,rfl,trivial⟩ ⟨rfl,(hbT [_] (y2 (s:=1) dC ((Y3 b).take (i+1))) rfl)⟩⟩
 ·have hc:=df hc
  have hib:i=b.length:=by omega
  subst hib
  rw [show (Y3 b).take b.length=Y3 b from C0 oM]
  obtain ⟨t,ht⟩:∃ t,t=ech M (Y3 b) c:=⟨_,rfl⟩
  have hech:=w0b true b.length c (b.length+1) B DB M (Y3 b) H
  rw [← ht] at hech hsp
  obtain ⟨r1,r2,r3,-⟩:=hsp
  have hbe:=H.be c (Nat.le_refl _)
  rw [← ht] at hbe
  have hbeg:R4 E (fun _=>false) 50 [.p (.agg [vZ c,.sl M.length (M5 M)]),bv true b.length] (bsT true (Y3 b)) ([wU c M (bv true b.length)]++s5 true M (Y3 b)) (.at_ 999 0 3):=by rw [hn]; exact n0k true b.length c M (Y3 b) H.rc H.nl H.cl
  refine G2 (xq ?_)
  refine p0r (nsw (R6 ag24 sz24 rF (by exact al2) rfl L) t1 t1 ?_)
  refine nsw (c_m L) t1 t0 (nsU (pre:=[_]) (H:=bsT true (Y3 b)) G hN [2] [(1,_),(2,_),(5,_)] [(2,_)] hbeg L (K4 (ys:=[_,_]) cl50 rfl rfl) t2 d1s v0g (y5 _ _).nd v0d q1m g1y (fun h=>by cases h) rfl t1 rfl t3 rfl rfl rfl rfl ?_)
  refine nsw (c_a L) t1 t0 ?_
  refine .nil ⟨[(2,_),(5,_),(11,_)],(2,_) :: (999,_) :: (s5 true M (Y3 b)),t3,⟨rfl,rfl,(hbT [_,_] (J6 true M (Y3 b)) rfl)⟩,?_⟩
  refine p0r (nsw (c_m L) t1 t0 (nsU (pre:=[_]) (H:=[wU c M (bv true b.length)]++s5 true M (Y3 b)) G hN [2,999] [(2,_),(5,_),(11,.at_ 999 0 3)] [(2,_)] hech L (K4 (ys:=[_]) cl51 rfl rfl) t1 v0g v0g v0d v0d q1m (fun q h=>by cases h) b2d rfl t1 rfl t3 rfl rfl rfl rfl ?_))
  refine nsw (c_m L) t1 t0 (nsw (O3 rfl L) t1 t0 (nsw (O3 rfl L) t1 t0 (V1k (R3 (k:=13) (n:=4) zv47 (.cons rfl (.cons rfl (.cons rfl (.cons rfl .nil)))) rfl (P0 _ rfl) L) t0 t0 (frT [_,_] (J6 true t.m t.b) rfl rfl (by simp [J3,X2,Cells.free,PV.freeL,PV.free,X3,i3])) ?_)))
  refine nsw (c_a L) t1 t0 (nsb (U2 sz47 rF pa4 rfl pu4) t2 t1 ?_)
  refine .nil ⟨[(2,_),(5,_),(11,_),(12,_)],(2,_) :: (999,_) :: (s5 true t.m t.b),t4,⟨rfl,rfl,(hbT [_,_,_,_] (J6 true t.m t.b) rfl)⟩,?_⟩
  refine D1s (pre:=[_]) hlo rfl sM (fun _=>r2.1) ⟨⟨_,rfl,.same⟩,⟨_,rfl,.same⟩,⟨_,rfl,.same⟩,⟨_,rfl,.same⟩,trivial⟩ ?_
  have hle:=r3.le
  obtain ⟨q,hq⟩:∃ q,q=t.pv.length:=⟨_,rfl⟩
  have hdl:(t.b.drop q).length=b.length - q:=by rw [List.length_drop,r2.1]
  show n4 _ _ _ ⟨_,[_]++[(999,⟨79,3,.mix [.p (.sl t.m.length (M5 t.m)),.p (vZ c),.p (.sl t.b.length (M5 t.b))]⟩)]⟩ _
  refine R1 (exr (mV L rfl (sw (Z2 rX L) t1 t1 ?_)))
  refine sw (i2 un79 rfl sz77 dC rX L) t1 t1 ?_
  refine sw (Y1 ag77 rF rF L) t1 t1 ?_
  refine mV L rfl (sw (R2 un27 L) t1 t0 (sw (D1p un77 sz40 (l:=q) rO (by have:=r2.1; omega) (show t.b.length - q=(t.b.drop q).length by simp) sM (by rw [Nat.mul_one,v1j]) L) t2 t0 ?_))
  refine sw (R2 un77 L) t1 t0 (mV L rfl (zn [(2,_),(5,_),(11,_),(12,_),(77,_),(78,_),(79,_)] [(2,_),(999,_)] t7 t2 ?_))
  obtain ⟨D',hD⟩:∃ D',D'=t.b.drop q:=⟨_,rfl⟩
  rw [← hD] at hdl ⊢
  have hDg:∀ j,D'.getD j []=t.b.getD (q+j) []:=fun j=>by rw [hD,f0,f0,List.getElem?_drop]
  have hDl:∀ j,j<D'.length→(D'.getD j []).length=b.length+1:=fun j hj=>by rw [hDg]; exact r2.get oM
  have hDB:∀ j,∀ a∈D'.getD j [],qw a≤B:=fun j a ha=>by
   rw [hDg] at ha
   obtain ⟨k,rfl⟩:=g0r ha
   exact h0c hbe H.b0
  refine V1 ?_
  refine exl (α:=Nat) (fun i=>[(79,vi (i:Int))]) (fun i=>[]) (fun i=>i≤D'.length∧∀ k,k<i→(D'.getD k []).getD 0 0=0) (fun i=>D'.length - i) (0) (sl:=[(2,_),(5,_),(11,_),(12,_),(77,_),(78,_)]) (hb:=[(2,_),(999,_)]) ?_ ⟨oR,rfl,rfl,rfl,rfl,rfl,rfl,trivial⟩ t2 ?_
  ·exact ⟨Nat.zero_le _,fun k hk=>by omega⟩
  intro i hi
  obtain ⟨hi,hz⟩:=hi
  refine exr (sw (P3 L) t2 t0 (zn [(2,_),(5,_),(11,_),(12,_),(77,_),(78,_),(79,_),(80,_)] [(2,_),(999,_)] t8 t2 (R1 ?_)))
  refine j2 rfl (fun hc2=>?_) (fun hc2=>?_)
  ·have hc2:=dt hc2
   have hid:i<D'.length:=by omega
   have hl:=hDl i hid
   have hlB:=hDB i
   obtain ⟨r,hr⟩:∃ r,r=D'.getD i []:=⟨_,rfl⟩
   rw [← hr] at hl hlB
   have h0l:0<r.length:=by omega
   have hqa:=hlB _ (j4 h0l)
   refine U1 (xq ?_)
   refine R1 (V1 (exr (sw (ixJ un77 sz40 (j:=i) rO oM sM L) t2 t0 ?_)))
   refine sw (d4 ag40 (by rw [b7 hid,← hr]) L) t1 t0 ?_
   refine aV L rfl (zn [(2,_),(5,_),(11,_),(12,_),(15,_),(77,_),(78,_),(79,_)] [(2,_),(999,_)] t8 t2 (R1 (exr (mV L rfl (sw (Z1 un40 sz47 dC oM sM dC L) t2 t0 ?_)))))
   refine sw (L6 ag47 sz47 (M6 (v:=r) (i:=0) h0l) rfl L) t1 t0 (cK hG hX cl65 hN (T6 (r.getD 0 0) oM) L t1 (zn [(2,_),(5,_),(11,_),(12,_),(15,_),(77,_),(78,_),(79,_),(86,_)] [(2,_),(999,_)] t9 t2 ?_))
   refine j2 rfl (fun hz0=>?_) (fun hz0=>?_)
   ·have hz0:=dt hz0
    refine G2 (xq ?_)
    refine j3 (sw (B3 L (w64 oM oM)) t2 t0 (mV L rfl (O1 ?_)))
    exact ⟨i+1,⟨by omega,F1f hz (by rw [← hr]; exact hz0)⟩,by omega,l3 ⟨oR,rfl,rfl,rfl,rfl,rfl,rfl,trivial⟩ t2⟩
   ·have hz0:=df hz0
    obtain ⟨r',hr'⟩:∃ r',r'=r.drop 1:=⟨_,rfl⟩
    have hl1:r'.length=b.length:=by rw [hr',List.length_drop,hl]; omega
    have hnb:0<b.length:=by omega
    have hB1':∀ a∈r',qw a≤B:=fun a ha=>hlB a (List.mem_of_mem_drop (by rw [hr'] at ha; exact ha))
    have hsy:∀ k,k<r'.length→(r'.take (k+1)).map (· / r.getD 0 0)=(r'.take k).map (· / r.getD 0 0)++[r'.getD k 0 / r.getD 0 0]:=fun k hk=>G1y hk
    refine U1 (xq ?_)
    refine R1 (exr (mV L rfl (sw (D1p un40 sz47 (l:=1) rfl oM (show r.length - 1=r'.length by rw [hl1,hl]; omega) sM (show (L5 r).drop (1*4)=L5 r' by rw [hr']; exact N0b) L) t2 t0 ?_)))
    refine sw (R2 un40 L) t1 t0 (mV L rfl (zn [(5,_),(15,_),(88,_),(89,_),(90,_)] [] t5 trivial (V1 ?_)))
    refine M1j (α:=Nat) (fun k=>[(90,vi (k:Int)),(5,.ref 105 0 k (k*4))]) (fun k=>[(105,T3 ((r'.take k).map (· / r.getD 0 0)))]) (fun k=>0<k∧k≤r'.length) (fun k=>r'.length - k) (r'.length+1) (sl:=[(15,_),(88,_),(89,_)]) (hb:=[]) t3 t0 ?_ ?_
    ·refine exr (sw (P3 L) t2 t0 (zn [(5,_),(15,_),(88,_),(89,_),(90,_),(91,_)] [] t6 trivial (R1 (P8 rfl sO ?_))))
     have hk0:0<r'.length:=by omega
     have hqk:=hB1' _ (j4 hk0)
     refine U1 (xq ?_)
     refine R1 (V1 (exr (sw (Z1 un40 sz47 dC oM sM dC L) t2 t0 ?_)))
     refine sw (L6 ag47 sz47 (M6 (v:=r') (i:=0) hk0) rfl L) t1 t0 (swb (R3 (k:=17) (n:=4) zv47 (.cons rfl (.cons rfl (.cons rfl (.cons rfl .nil)))) rfl (P0 _ rfl) L) t0 t0 ⟨rfl,rfl⟩ (sb (U2 sz47 rF pa4 rfl pu4) t2 t1 ?_))
     refine zn [(5,_),(15,_),(17,_),(88,_),(89,_),(90,_)] [(17,_)] t6 t1 (exd rF ?_)
     refine lp4 ag47 sz47 L rfl rfl (mV L rfl (sw (Z1 un40 sz47 dC oM sM dC L) t2 t0 ?_))
     refine sw (L6 ag47 sz47 (M6 (v:=r) (i:=0) h0l) rfl L) t1 t0 (cK hG hX cl66 hN (w0v (r'.getD 0 0) (r.getD 0 0) oM oM hz0) L t2 (mV L rfl (sw (O3 rfl L) t1 t0 (sw (O3 rfl L) t1 t0 (swb (R3 (k:=18) (n:=4) zv47 (.cons rfl (.cons rfl (.cons rfl (.cons rfl .nil)))) rfl (P0 _ rfl) L) t0 t0 ⟨rfl,rfl⟩ (sb (U2 sz47 rF pa4 rfl pu4) t2 t1 ?_))))))
     refine aV L rfl ?_
     refine O1 ⟨aok rfl rfl,[(5,_),(15,_),(18,_),(88,_),(89,_),(90,_)],[(18,_)],t6,t1,?_⟩
     refine j3 (mV L rfl (lp4 ag47 sz47 L rfl rfl (sw (q4 (vs:=[_]) un40 ti47 rfl rfl dC dC rfl (K2 (.cons rfl (.cons rfl (.cons rfl (.cons rfl .nil)))) rfl) rfl (.cons rfl pa4 rfl pu4 .nil) (.cons (.cons (.cons (.cons .nil)))) L) t1 t0 (swb (apN (k:=105) (sz:=4) un40 un40 ti47 rfl rfl rfl dC sM rfl (by first | (simp [Tryz.t47]; done) | (simp [Tryz.t47]; omega)) oM (P0 _ rfl) L) t2 t0 ⟨rfl,rfl⟩ ?_))))
     refine aV L rfl (O1 (j3 (sw (B3 L (w64 oM oM)) t2 t0 (mV L rfl (O1 ?_)))))
     exact ⟨1,⟨by omega,by omega⟩,oM,l3 ⟨oR,oR,rfl,rfl,rfl,trivial⟩ ⟨obl rfl (by rw [hsy 0 hk0]; rfl),trivial⟩⟩
    ·intro k hk
     obtain ⟨hk0,hk1⟩:=hk
     refine exr (sw (P3 L) t2 t0 (zn [(5,_),(15,_),(88,_),(89,_),(90,_),(91,_)] [(105,_)] t6 t1 (R1 ?_)))
     refine j2 rfl (fun hk2=>?_) (fun hk2=>?_)
     ·have hk2:=dt hk2
      have hkl:k<r'.length:=by omega
      have hqk:=hB1' _ (j4 hkl)
      refine U1 (xq ?_)
      refine R1 (V1 (exr (sw (Z1 un40 sz47 oM oM sM dC L) t2 t0 ?_)))
      refine sw (L6 ag47 sz47 (M6 hkl) rfl L) t1 t0 (swb (R3 (k:=17) (n:=4) zv47 (.cons rfl (.cons rfl (.cons rfl (.cons rfl .nil)))) rfl (P0 _ rfl) L) t0 t0 ⟨rfl,rfl⟩ (sb (U2 sz47 rF pa4 rfl pu4) t2 t1 ?_))
      refine zn [(5,_),(15,_),(17,_),(88,_),(89,_),(90,_)] [(17,_),(105,_)] t6 t2 (exd rF ?_)
      refine lp4 ag47 sz47 L rfl rfl (mV L rfl (sw (Z1 un40 sz47 dC oM sM dC L) t2 t0 ?_))
      refine sw (L6 ag47 sz47 (M6 (v:=r) (i:=0) h0l) rfl L) t1 t0 (cK hG hX cl66 hN (w0v (r'.getD k 0) (r.getD 0 0) oM oM hz0) L t2 (mV L rfl (sw (O3 rfl L) t1 t0 (sw (O3 rfl L) t1 t0 (swb (R3 (k:=18) (n:=4) zv47 (.cons rfl (.cons rfl (.cons rfl (.cons rfl .nil)))) rfl (P0 _ rfl) L) t0 t0 ⟨rfl,rfl⟩ (sb (U2 sz47 rF pa4 rfl pu4) t2 t1 ?_))))))
      refine aV L rfl ?_
      refine O1 ⟨aok rfl rfl,[(5,_),(15,_),(18,_),(88,_),(89,_),(90,_)],[(18,_),(105,_)],t6,t2,?_⟩
      refine j3 (mV L rfl (lp4 ag47 sz47 L rfl rfl (sw (q4 (vs:=[_]) un40 ti47 rfl rfl dC dC rfl (K2 (.cons rfl (.cons rfl (.cons rfl (.cons rfl .nil)))) rfl) rfl (.cons rfl pa4 rfl pu4 .nil) (.cons (.cons (.cons (.cons .nil)))) L) t1 t0 (swb (apP (sz:=4) un40 un40 ti47 rfl rfl rfl dC (by exact (by first | (simp; done) | (simp; omega))) oF sM rfl rfl rfl (by first | (simp [Tryz.t47]; done) | (simp [Tryz.t47]; omega)) oM (P0 _ rfl) L) t2 t1 t0 ?_))))
      refine aV L rfl (O1 (j3 (sw (B3 L (w64 oM oM)) t2 t0 (mV L rfl (O1 ?_)))))
      exact ⟨k+1,⟨by omega,by omega⟩,by omega,l3 ⟨oR,(ov rfl sO),rfl,rfl,rfl,trivial⟩ ⟨obl rfl ((L9 _ _).trans (by rw [hsy k hkl])),trivial⟩⟩
     ·have hk2:=df hk2
      have hkl:k=r'.length:=by omega
      subst hkl
      rw [I0]
      refine G2 (xq ?_)
      refine exr (mV L rfl (aV L rfl (aV L rfl (aV L rfl (zn [(4,_),(5,_),(6,_)] [(105,_)] t3 t1 ?_)))))
      have hF:B0z t b.length=((q+i:Nat):Int):=by
       rw [B0z,← hq]
       refine K0x (fun k hk=>?_) ?_ oM
       ·have:=hz k hk
        rw [hDg] at this
        rw [nzI,this]; rfl
       ·have h1:=hDg i
        rw [← hr] at h1
        simp only [nzI,← h1,Bool.not_eq_true',decide_eq_false_iff_not]
        exact hz0
      have hneg:¬ (((q+i:Nat):Int)<0):=by omega
      rw [← ht,y0f,j0m,n0r,hF,if_neg hneg,if_neg hneg,if_neg hneg,Int.toNat_natCast,← hDg,← hr,B0q,← hr']
      refine s4 [105] (sl:=[(4,_),(5,_),(6,_)]) (hb:=[]) (g0y (by simp [hlo])) ⟨⟨_,rfl,(.p .nil)⟩,⟨_,rfl,(.ref rfl rfl (by exact (by first | (simp; done) | (simp; omega))) (by first | rfl | omega))⟩,⟨_,rfl,.same⟩,trivial⟩ t0 ?_
      refine X1 ?_
      refine ⟨.inr rfl,X4.cast (.cons (.tmp rfl) (.cons (.tmp rfl) (.cons (.tmp rfl) .nil))) ?_,trivial⟩
      rw [pV,pV,O0]; rfl
  ·have hc2:=df hc2
   have hid:i=D'.length:=by omega
   refine G2 (xq ?_)
   refine exr (sw (i2 un24 rfl sz3 dC rX L) t1 t1 ?_)
   refine sw (Y1 ag3 rF rF L) t1 t1 ?_
   refine swb (d1z (k:=111) hG hX cl54 rfl hN (m0x c oM) (P0 _ rfl) L) t1 t0 ⟨rfl,rfl⟩ (aV L rfl (zn [(4,_),(11,_),(12,_)] [(111,_),(999,_)] t3 t2 (R1 (exr (mV L rfl (sw (R2 un27 L) t1 t0 (mV L rfl (zn [(4,_),(11,_),(112,_),(113,_),(114,_)] [(111,_),(999,_)] t5 t2 (V1 ?_)))))))))
   refine exl (α:=Nat) (fun k=>[(114,vi (k:Int))]) (fun k=>[(111,T3 (n0y t.pv (fun j=>ent t.b j 0) (zsQ c) k))]) (fun k=>k≤t.pv.length) (fun k=>t.pv.length - k) (0) (sl:=[(4,_),(11,_),(112,_),(113,_)]) (hb:=[(999,_)]) ?_ ⟨oR,rfl,rfl,rfl,rfl,trivial⟩ t2 ?_
   ·exact Nat.zero_le _
   intro k hk
   refine exr (sw (P3 L) t2 t0 (zn [(4,_),(11,_),(112,_),(113,_),(114,_),(115,_)] [(111,_),(999,_)] t6 t2 (R1 ?_)))
   refine j2 rfl (fun hk2=>?_) (fun hk2=>?_)
   ·have hk2:=dt hk2
    have hkp:k<t.pv.length:=by have:=v8 t.pv; omega
    have hpk:=r3.lt _ (d6 hkp)
    have hkb:k<t.b.length:=by rw [r2.1]; omega
    have hkl:=r2.get (i:=k) oM
    refine U1 (xq ?_)
    refine R1 (V1 (exr (mV L rfl (sw (ixJ un27 sz3 (j:=k) rO oM sM L) t2 t0 ?_))))
    refine sw (d4 ag3 (G1p hkp) L) t1 t0 (aV L rfl (aV L rfl (zn [(4,_),(11,_),(20,_),(21,_),(112,_),(113,_),(114,_)] [(111,_),(999,_)] t7 t2 (j3 (mV L rfl (mV L rfl (mV L rfl (sw (Z2 rX L) t1 t1 ?_))))))))
    refine sw (i2 un79 rfl sz77 dC rX L) t1 t1 ?_
    refine sw (Y1 ag77 rF rF L) t1 t1 ?_
    refine mV L rfl (sw (ixJ un77 sz40 (j:=k) rO oM sM L) t2 t0 ?_)
    refine sw (d4 ag40 (b7 hkb) L) t1 t0 (sw (Z1 un40 sz47 dC oM sM dC L) t2 t0 ?_)
    refine sw (L6 ag47 sz47 (M6 (v:=t.b.getD k []) (i:=0) oM) rfl L) t1 t0 (sw (n0j (sz:=4) un40 sz47 (by exact sM) (j:=t.pv.getD k 0) rO (by simpa using hpk) L) t2 t1 ?_)
    refine sb (B0v (n:=4) sz47 (by exact sM) rfl oM) t2 t1 ?_
    refine O1 (j3 (sw (B3 L (w64 oM oM)) t2 t0 (mV L rfl (O1 ?_))))
    exact ⟨k+1,oM,by omega,l3 ⟨oR,rfl,rfl,rfl,rfl,trivial⟩ ⟨obl rfl ((k0c _ (by simpa using hpk)).trans (by rw [y8]; rfl)),rfl,trivial⟩⟩
   ·have hk2:=df hk2
    have hkp:k=t.pv.length:=by have:=v8 t.pv; omega
    subst hkp
    refine G2 (xq ?_)
    refine exr (mV L rfl (aV L rfl (aV L rfl (aV L rfl (zn [(4,_),(5,_),(6,_)] [(111,_)] t3 t1 ?_)))))
    have hF:B0z t b.length = -1:=by
     rw [B0z,← hq]
     refine N0q fun k hk=>?_
     have:=hz k oM
     rw [hDg] at this
     rw [nzI,this]; rfl
    rw [← ht,y0f,j0m,n0r,hF,if_pos dC,if_pos dC,if_pos dC,d0a]
    refine s4 [111] (sl:=[(4,_),(5,_),(6,_)]) (hb:=[]) (g0y (by simp [hlo])) ⟨⟨_,rfl,(.ref rfl rfl (by exact sM) (by first | rfl | omega))⟩,⟨_,rfl,(.p .nil)⟩,⟨_,rfl,.same⟩,trivial⟩ t0 ?_
    refine X1 ?_
    refine ⟨.inr rfl,X4.cast (.cons (.tmp rfl) (.cons (.tmp rfl) (.cons (.tmp rfl) .nil))) ?_,trivial⟩
    rw [pV,C9,F0r]; rfl

def p0d (M:List (List Rat))(y:List Rat)(j k:Nat):List Rat:=(List.range k).map fun i=>y.getD i 0*ent M i j
theorem N0v {M:List (List Rat)}{y:List Rat}{j k:Nat}:p0d M y j (k+1)=p0d M y j k++[y.getD k 0*ent M k j]:=by simp [p0d,List.range_succ]
@[simp] theorem N1y {M:List (List Rat)}{y:List Rat}{j k:Nat}:(p0d M y j k).length=k:=by simp [p0d]
def Q0k (M:List (List Rat))(y:List Rat)(c:Nat):Bool:=(List.range c).all fun j=>decide (H8 (p0d M y j M.length)=0)
def G0p (c:Nat)(M:List (List Rat))(b y:List Rat):Bool:=Q0k M y c && decide (O9 y b=1)
theorem Q1n {a b:Rat}:n0b a b=0↔a=b:=by
 unfold n0b
 constructor
 ·intro h
  split at h
  ·cases h
  ·split at h
   ·cases h
   ·rename_i h1 h2; exact Rat.le_antisymm (Rat.not_lt.1 h2) (Rat.not_lt.1 h1)
 ·rintro rfl; simp [Rat.lt_irrefl]
theorem g1h {B C:Nat}{u v:List Rat}(hB:∀ a∈u,qw a≤B)(hC:∀ a∈v,qw a≤C):qw (O9 u v)≤u.length*(B+C+1)+1:=by
 have:=g1c (V0c hB hC)
 have h2:=V0 (B+C+1) (k0r (u:=u) (v:=v))
 rw [O9]; omega
theorem K1k {B:Nat}{M:List (List Rat)}{y:List Rat}{j k:Nat}(hB:MB B M)(hy:∀ a∈y,qw a≤B)(h0:0<B)(hk:k≤y.length):∀ a∈p0d M y j k,qw a≤B+B:=by
 intro a ha
 simp only [p0d,G0,List.mem_range] at ha
 obtain ⟨i,hi,rfl⟩:=ha
 have:=d9 (y.getD i 0) (ent M i j)
 have:=hy _ (j4 (show i<y.length by omega))
 have:=h0c (i:=i) (j:=j) hB h0
 omega
theorem y0g {M:List (List Rat)}{y:List Rat}{c:Nat}:Q0k M y (c+1)=(Q0k M y c && decide (H8 (p0d M y c M.length)=0)):=by
 simp [Q0k,List.range_succ]
theorem H0v {M:List (List Rat)}{y:List Rat}{j c:Nat}(hj:j<c)(h:¬ H8 (p0d M y j M.length)=0):Q0k M y c=false:=by
 rw [Q0k,List.all_eq_false]
 exact ⟨j,by simpa using hj,by simpa using h⟩
theorem h1d (c B:Nat)(M:List (List Rat))(b y:List Rat)(h:MOk c M)(hB:MB B M)(hbB:∀ a∈b,qw a≤B)(hyB:∀ a∈y,qw a≤B)(hbl:b.length=M.length)(hyl:y.length=M.length)(h0:0<B)(hs:M.length*(B+B+1)+1<900000000)(hbb:B<100000000):v3 E 25 [pMq c M,pV b,pV y] (bZ (G0p c M b y)):=by
 refine D2 (xs:=[bZ (G0p c M b y)]) Tryz.func25 rfl Tryz.ntmps25 Tryz.results25 sM fun F hG hX0 hnt hdf P0=>?_
 obtain ⟨L,hX,hN⟩:=pro hnt hX0 hG
 have hr4:=h.rows
 have hc60:=h.cols
 refine exr (swb (U3 (k:=3) (n:=2) pa2 rfl rfl (P0 _ rfl) L) t1 t0 ⟨rfl,rfl⟩ (aV L rfl (zn [(1,_),(2,_),(3,_)] [(3,_)] t3 t1 (R1 (exr (lp2 ag24 sz24 L rfl rfl (cK hG hX cl40 hN (Z9 h hB oM) L t1 (sw (C4 L) t1 t0 (mV L rfl (gV (g:=14) rfl rfl L rfl rfl (swg (g:=14) rfl rfl (c_c hG hX cl64 rfl hN (d0y hbB oM oM) L) rfl t1 t0 ?_)))))))))))
 refine swg (g:=14) rfl rfl (C4 L) rfl t1 t0 (sw (y4 rfl L) t2 t0 (mV L rfl (gV (g:=19) rfl rfl L rfl rfl (swg (g:=19) rfl rfl (c_c hG hX cl64 rfl hN (d0y hyB oM oM) L) rfl t1 t0 (swg (g:=19) rfl rfl (C4 L) rfl t1 t0 (sw (y4 rfl L) t2 t0 (mV L rfl (gV (g:=24) rfl rfl L rfl rfl (swg (g:=24) rfl rfl (R2 un40 L) rfl t1 t0 (swg (g:=24) rfl rfl (i2 un24 rfl sz22 dC rX L) rfl t1 t1 ?_))))))))))
 refine swg (g:=24) rfl rfl (Y1 ag22 rF rF L) rfl t1 t1 ?_
 refine swg (g:=24) rfl rfl (R2 un22 L) rfl t1 t0 (swg (g:=24) rfl rfl (c_n L) rfl t2 t0 (sw (y4 rfl L) t2 t0 (mV L rfl (gV (g:=32) rfl sO L rfl rfl (swg (g:=32) rfl sO (R2 un40 L) rfl t1 t0 (swg (g:=32) rfl sO (i2 un24 rfl sz22 dC rX L) rfl t1 t1 ?_))))))
 refine swg (g:=32) rfl sO (Y1 ag22 rF rF L) rfl t1 t1 ?_
 refine swg (g:=32) rfl sO (R2 un22 L) rfl t1 t0 (swg (g:=32) rfl sO (c_n L) rfl t2 t0 (sw (y4 sO L) t2 t0 (zn [(1,_),(2,_),(3,_),(39,_)] [(3,_)] t4 t1 (Z3 rfl sO ?_))))
 refine U1 (xq ?_)
 refine R1 (exr (sw (i2 un24 rfl sz3 dC rX L) t1 t1 ?_))
 refine sw (Y1 ag3 rF rF L) t1 t1 ?_
 refine mV L rfl (zn [(1,_),(2,_),(3,_),(41,_),(42,_)] [(3,_)] t5 t1 (V1 ?_))
 refine exl (α:=Nat) (fun j=>[(42,vi (j:Int))]) (fun j=>[]) (fun j=>j≤c∧Q0k M y j=true) (fun j=>c - j) (0) (sl:=[(1,_),(2,_),(3,_),(41,_)]) (hb:=[(3,_)]) ?_ ⟨oR,rfl,rfl,rfl,rfl,trivial⟩ t1 ?_
 ·exact ⟨Nat.zero_le _,rfl⟩
 intro j hj
 obtain ⟨hj,hch⟩:=hj
 refine exr (sw (P3 L) t2 t0 (zn [(1,_),(2,_),(3,_),(41,_),(42,_),(43,_)] [(3,_)] t6 t1 (R1 ?_)))
 refine j2 rfl (fun hc=>?_) (fun hc=>?_)
 ·have hc:=dt hc
  have hjc:j<c:=by omega
  refine U1 (xq ?_)
  refine R1 (V1 (exr (mV L rfl (aV L rfl (zn [(1,_),(2,_),(3,_),(7,_),(41,_),(42,_)] [(3,_)] t6 t1 (exr (aV L rfl (zn [(1,_),(2,_),(3,_),(7,_),(8,_),(41,_),(42,_)] [(3,_)] t7 t1 (R1 (exr (sw (i2 un24 rfl sz22 dC rX L) t1 t1 ?_)))))))))))
  refine sw (Y1 ag22 rF rF L) t1 t1 ?_
  refine sw (R2 un22 L) t1 t0 (mV L rfl (zn [(1,_),(2,_),(3,_),(7,_),(8,_),(41,_),(42,_),(46,_),(47,_),(48,_)] [(3,_)] t10 t1 (V1 ?_)))
  refine exl (α:=(Nat×List Rat)) (fun x=>[(48,vi (x.1:Int)),(8,q1y 64 x.2)]) (fun x=>[]++q1k 64 x.2) (fun x=>x.1≤M.length∧p0d M y j x.1=x.2) (fun x=>M.length - x.1) ((0,[])) (sl:=[(1,_),(2,_),(3,_),(7,_),(41,_),(42,_),(46,_),(47,_)]) (hb:=[(3,_)]) ?_ ⟨oR,oR,rfl,rfl,rfl,rfl,rfl,rfl,rfl,rfl,trivial⟩ (hbI (l':=[(3,_)]) rfl t1) ?_
  ·exact ⟨Nat.zero_le _,rfl⟩
  intro x hk
  obtain ⟨k,T⟩:=x
  obtain ⟨hk,hT⟩:=hk
  simp only at hk hT
  rcases T with _ | ⟨q,T⟩
  ·dsimp only [q1y,q1k,List.append_nil]
   refine exr (sw (P3 L) t2 t0 (zn [(1,_),(2,_),(3,_),(7,_),(8,_),(41,_),(42,_),(46,_),(47,_),(48,_),(49,_)] [(3,_)] t11 t1 (R1 ?_)))
   refine j2 rfl (fun hd=>?_) (fun hd=>?_)
   ·have hd:=dt hd
    have hkl:k<M.length:=by omega
    have hrl:=h.get hkl
    have ht:=N0v (M:=M) (y:=y) (j:=j) (k:=k)
    rw [hT] at ht
    have hq1:=hyB _ (j4 (show k<y.length by omega))
    have hq2:=h0c (i:=k) (j:=j) hB h0
    refine U1 (xq ?_)
    refine R1 (V1 (exr (mV L rfl (sw (ixJ un22 sz40 (j:=k) rO oM sM L) t2 t0 ?_))))
    refine sw (d4 ag40 (b7 hkl) L) t1 t0 (aV L rfl (aV L rfl (zn [(1,_),(2,_),(3,_),(7,_),(8,_),(9,_),(10,_),(41,_),(42,_),(46,_),(47,_),(48,_)] [(3,_)] t12 t1 (b0z rF ?_))))
    refine mV L rfl (mV L rfl (mV L rfl (sw (Z1 un40 sz47 oM oM sM dC L) t2 t0 ?_)))
    refine sw (L6 ag47 sz47 (M6 (show k<y.length by omega)) rfl L) t1 t0 ?_
    refine mV L rfl (mV L rfl (sw (Z1 un40 sz47 oM oM sM dC L) t2 t0 ?_))
    refine sw (L6 ag47 sz47 (M6 (show j<(M.getD k []).length by omega)) rfl L) t1 t0 ?_
    refine cK hG hX cl67 hN (q8 (y.getD k 0) (ent M k j) oM oM) L t2 (sw (q4 (vs:=[_]) un40 ti47 rfl rfl dC dC rfl (K2 (.cons rfl (.cons rfl (.cons rfl (.cons rfl .nil)))) rfl) rfl (.cons rfl pa4 rfl pu4 .nil) (.cons (.cons (.cons (.cons .nil)))) L) t1 t0 (swb (apN (k:=64) (sz:=4) un40 un40 ti47 rfl rfl rfl dC sM rfl (by simp [Tryz.t47]) oM (P0 _ rfl) L) t2 t0 ⟨rfl,rfl⟩ ?_))
    refine aV L rfl ?_
    refine O1 ⟨aok rfl rfl,?_⟩
    refine j3 (sw (B3 L (w64 oM oM)) t2 t0 (mV L rfl (O1 ?_)))
    exact ⟨(k+1,[y.getD k 0*ent M k j]),⟨by simp only; omega,ht⟩,(by simp only; omega),l3 ⟨oR,oR,rfl,rfl,rfl,rfl,rfl,rfl,rfl,rfl,trivial⟩ (hbI (l':=[(64,_),(3,_)]) rfl t2)⟩
   ·have hd:=df hd
    have hkl:k=M.length:=by omega
    rw [hkl] at hT
    refine G2 (xq ?_)
    refine s4 [] (sl:=[(1,_),(2,_),(3,_),(8,_),(41,_),(42,_)]) (hb:=[(3,_)]) (F3 hX0) ⟨⟨_,rfl,.same⟩,⟨_,rfl,.same⟩,⟨_,rfl,.same⟩,⟨_,rfl,(.p .nil)⟩,⟨_,rfl,.same⟩,⟨_,rfl,.same⟩,trivial⟩ ⟨⟨rfl,_,rfl,.same⟩,trivial⟩ (exr (mV L rfl (cK hG hX cl68 hN (q0w [] (B+B) sM sM sM) L t1 ?_)))
    refine cK hG hX cl65 hN (T6 (H8 []) (by rw [show H8 []=0 from rfl,d0m]; decide)) L t1 ?_
    refine sw (C4 L) t1 t0 (zn [(1,_),(2,_),(3,_),(41,_),(42,_),(69,_)] [(3,_)] t6 t1 (Z3 rfl (by rw [show H8 []=0 from rfl]; rfl) ?_))
    refine U1 (xq ?_)
    refine j3 (sw (B3 L (w64 oM oM)) t2 t0 (mV L rfl (O1 ?_)))
    exact ⟨j+1,⟨by omega,by rw [y0g,hch,hT]; rfl⟩,by omega,l3 ⟨oR,rfl,rfl,rfl,rfl,trivial⟩ t1⟩
  ·dsimp only [q1y,q1k]
   have hTl:(q :: T).length=k:=by rw [← hT]; simp
   have hTl2:T.length+1=k:=hTl
   refine exr (sw (P3 L) t2 t0 (zn [(1,_),(2,_),(3,_),(7,_),(8,_),(41,_),(42,_),(46,_),(47,_),(48,_),(49,_)] [(3,_),(64,_)] t11 t2 (R1 ?_)))
   refine j2 rfl (fun hd=>?_) (fun hd=>?_)
   ·have hd:=dt hd
    have hkl:k<M.length:=by omega
    have hrl:=h.get hkl
    have ht:=N0v (M:=M) (y:=y) (j:=j) (k:=k)
    rw [hT] at ht
    have hq1:=hyB _ (j4 (show k<y.length by omega))
    have hq2:=h0c (i:=k) (j:=j) hB h0
    refine U1 (xq ?_)
    refine R1 (V1 (exr (mV L rfl (sw (ixJ un22 sz40 (j:=k) rO oM sM L) t2 t0 ?_))))
    refine sw (d4 ag40 (b7 hkl) L) t1 t0 (aV L rfl (aV L rfl (zn [(1,_),(2,_),(3,_),(7,_),(8,_),(9,_),(10,_),(41,_),(42,_),(46,_),(47,_),(48,_)] [(3,_),(64,_)] t12 t2 (b0z rF ?_))))
    refine mV L rfl (mV L rfl (mV L rfl (sw (Z1 un40 sz47 oM oM sM dC L) t2 t0 ?_)))
    refine sw (L6 ag47 sz47 (M6 (show k<y.length by omega)) rfl L) t1 t0 ?_
    refine mV L rfl (mV L rfl (sw (Z1 un40 sz47 oM oM sM dC L) t2 t0 ?_))
    refine sw (L6 ag47 sz47 (M6 (show j<(M.getD k []).length by omega)) rfl L) t1 t0 ?_
    refine cK hG hX cl67 hN (q8 (y.getD k 0) (ent M k j) oM oM) L t2 (sw (q4 (vs:=[_]) un40 ti47 rfl rfl dC dC rfl (K2 (.cons rfl (.cons rfl (.cons rfl (.cons rfl .nil)))) rfl) rfl (.cons rfl pa4 rfl pu4 .nil) (.cons (.cons (.cons (.cons .nil)))) L) t1 t0 (swb (apP (sz:=4) un40 un40 ti47 rfl rfl rfl dC (by exact sM) oF sM rfl rfl rfl (by simp [Tryz.t47]; omega) oM (P0 _ rfl) L) t2 t1 t0 ?_))
    refine aV L rfl ?_
    refine O1 ⟨d5 [⟨[8],[],[53],[]⟩,⟨[2],[],[54],[]⟩,⟨[9],[],[55],[]⟩,⟨[54,55],[],[56],[]⟩,⟨[56],[],[57],[]⟩,⟨[10],[],[58],[]⟩,⟨[7],[],[59],[]⟩,⟨[58,59],[],[60],[]⟩,⟨[60],[],[61],[]⟩,⟨[57,61],[],[62],[]⟩,⟨[62],[],[63],[]⟩,⟨[53,63],[64],[64],[64]⟩,⟨[64],[],[8],[]⟩] rF rF dC,?_⟩
    refine j3 (sw (B3 L (w64 oM oM)) t2 t0 (mV L rfl (O1 ?_)))
    exact ⟨(k+1,q :: T++[y.getD k 0*ent M k j]),⟨by simp only; omega,ht⟩,(by simp only; omega),l3 ⟨oR,(by exact ov rfl sO),rfl,rfl,rfl,rfl,rfl,rfl,rfl,rfl,trivial⟩ (hbI (l':=[(64,_),(3,_)]) rfl ⟨(obl rfl (L9 (q :: T) _)),rfl,trivial⟩)⟩
   ·have hd:=df hd
    have hkl:k=M.length:=by omega
    rw [hkl] at hT hTl
    have hbd:=K1k (M:=M) (y:=y) (j:=j) (k:=M.length) hB hyB h0 oM
    rw [hT] at hbd
    have hsq:=g1c hbd
    rw [hTl] at hsq
    refine G2 (xq ?_)
    refine s4 [64] (sl:=[(1,_),(2,_),(3,_),(8,_),(41,_),(42,_)]) (hb:=[(3,_)]) (F3 hX0) ⟨⟨_,rfl,.same⟩,⟨_,rfl,.same⟩,⟨_,rfl,.same⟩,⟨_,rfl,(.ref rfl rfl (by exact sM) (by first | rfl | omega))⟩,⟨_,rfl,.same⟩,⟨_,rfl,.same⟩,trivial⟩ ⟨⟨rfl,_,rfl,.same⟩,trivial⟩ ?_
    refine exr (mV L rfl (cK hG hX cl68 hN (q0w (q :: T) (B+B) (by rw [hTl]; omega) hbd (by rw [hTl]; exact hs)) L t1 ?_))
    refine cK hG hX cl65 hN (T6 (H8 (q :: T)) oM) L t1 (sw (C4 L) t1 t0 (zn [(1,_),(2,_),(3,_),(41,_),(42,_),(69,_)] [(3,_)] t6 t1 ?_))
    refine j2 rfl (fun hz=>?_) (fun hz=>?_)
    ·have hz:¬ H8 (p0d M y j M.length)=0:=by rw [hT]; simpa using hz
     refine exr (aV L rfl (zn [(6,_)] [] t1 trivial (X1 ?_)))
     refine Q0 (.tmp rfl) ?_
     rw [G0p,H0v hjc hz]; rfl
    ·have hz:H8 (p0d M y j M.length)=0:=by rw [hT]; simpa using hz
     refine U1 (xq ?_)
     refine j3 (sw (B3 L (w64 oM oM)) t2 t0 (mV L rfl (O1 ?_)))
     exact ⟨j+1,⟨by omega,by rw [y0g,hch,hz]; rfl⟩,by omega,l3 ⟨oR,rfl,rfl,rfl,rfl,trivial⟩ t1⟩
 ·have hc:=df hc
  have hjc:j=c:=by omega
  subst hjc
  have hq:=g1h (u:=y) (v:=b) hyB hbB
  have hmul:y.length*(B+B+1)=M.length*(B+B+1):=by rw [hyl]
  refine G2 (xq ?_)
  refine exr (mV L rfl (mV L rfl (cK hG hX cl70 hN (G0x y b B B oM oM hyB hbB oM oM oM) L t2 (cK hG hX cl55 hN (l7 1 dC dC) L t1 (cK hG hX cl69 hN (q1x (O9 y b) 1 oM (by rw [H0g]; decide)) L t2 ?_)))))
  refine sw (c_e L) t2 t0 (aV L rfl (zn [(6,_)] [] t1 trivial (X1 ?_)))
  refine Q0 (.tmp rfl) ?_
  rw [G0p,hch,Bool.true_and,show decide (n0b (O9 y b) 1=0)=decide (O9 y b=1) from decide_eq_decide.2 Q1n]
theorem n0c (n c B DB:Nat)(M:List (List Rat))(b:List Rat)(h:MOk c M)(hB1:MB B M)(hbB:∀ a∈b,qw a≤B)(hn:M.length=n)(hbn:b.length=n)(H:EU n c (n+1) B DB M (Y3 b)):v3 E 24 [pMq c M,pV b] (.tup [pV (y0f c (ech M (Y3 b) c) n),pV (j0m (ech M (Y3 b) c) n),vZ (n0r (ech M (Y3 b) c) n)]):=q0g (b1s n c B DB M b h hB1 hbB hn hbn H)
@[reducible] def b2 (vs:List (List RQ)):List (Nat×Blk):=[(2,⟨22,1,.mix [.p (.sl vs.length (b0f vs))]⟩)]
@[reducible] def b3 (vs:List (List RQ))(w:List RQ):List (Nat×Blk):=[(2,⟨22,1,.mix [.p (.sl vs.length (b0f vs))]⟩),(3,⟨40,1,.mix [.p (pVR w)]⟩)]
theorem y0h (vs:List (List RQ))(i:Nat)(hi:i<vs.length)(hm:MSm vs):R4 E (fun _=>true) 72 [.p (vZ i),.at_ 2 0 1] (b2 vs) (b2 vs) (.p (bZ (!(vs.getD i []).all RQ.is))):=by
 refine v4 (xs:=[bZ (!(vs.getD i []).all RQ.is)]) Tryz.func72 rfl Tryz.ntmps72 Tryz.results72 sM fun F G=>?_
 have L:=@lti _ _ G.nt
 have hG:=G.g
 have hX:=G.x
 have hN:=Y5 hG
 have P0:=G.p0
 have hr:=hm.2 _ (gDL hi)
 refine exr (aV L rfl (zn [(0,_),(1,_)] [(2,_)] t2 t1 (exr (sw (Y1 ag22 rF rF L) t1 t1 ?_))))
 refine mV L rfl (sw (ixJ un22 sz40 (j:=i) rO oM sM L) t2 t0 ?_)
 refine sw (d4 ag40 (d0h hi) L) t1 t0 (cK hG hX cl64 hN (K7 (vs.getD i []) hr.1 hr.2) L t1 (sw (C4 L) t1 t0 (aV L rfl (zn [(3,_)] [(2,_)] t1 t1 (X1 ?_)))))
 refine ⟨.inr rfl,X4.cast (.cons (.tmp rfl) .nil) ?_,t1⟩
 rfl
theorem N0y (vs:List (List RQ))(w:List RQ)(i:Nat)(hi:i<vs.length):R4 E (fun _=>true) 73 [.p (vZ i),.at_ 2 0 1,.at_ 3 0 1] (b3 vs w) (b3 vs w) (.p (bZ (!decide ((vs.getD i []).length=w.length)))):=by
 refine v4 (xs:=[bZ (!decide ((vs.getD i []).length=w.length))]) Tryz.func73 rfl Tryz.ntmps73 Tryz.results73 sM fun F G=>?_
 have L:=@lti _ _ G.nt
 have hG:=G.g
 have hX:=G.x
 have hN:=Y5 hG
 have P0:=G.p0
 refine exr (aV L rfl (zn [(0,_),(1,_),(2,_)] [(2,_),(3,_)] t3 t2 (exd rF ?_)))
 refine sw (Y1 ag22 rF rF L) t1 t1 ?_
 refine mV L rfl (sw (ixJ un22 sz40 (j:=i) rO oM sM L) t2 t0 ?_)
 refine sw (d4 ag40 (d0h hi) L) t1 t0 (sw (R2 un40 L) t1 t0 (sw (Y1 ag40 rF rF L) t1 t1 ?_))
 refine sw (R2 un40 L) t1 t0 (sw (c_n L) t2 t0 (aV L rfl ?_))
 refine O1 ⟨d5 [⟨[1],[2],[5],[]⟩,⟨[0],[],[6],[]⟩,⟨[5,6],[],[7],[]⟩,⟨[7],[],[8],[]⟩,⟨[8],[],[9],[]⟩,⟨[2],[3],[10],[]⟩,⟨[10],[],[11],[]⟩,⟨[9,11],[],[12],[]⟩,⟨[12],[],[4],[]⟩] rF rF dC,[(4,_)],[(2,_),(3,_)],t1,t2,?_⟩
 refine X1 ?_
 refine ⟨.inr rfl,X4.cast (.cons (.tmp rfl) .nil) ?_,t2⟩
 rw [show decide (((vs.getD i []).length:Int)=w.length)=decide ((vs.getD i []).length=w.length) from decide_eq_decide.2 oM]
theorem K0m {p:Nat→Bool}{n:Nat}:0≤l4 p 0 (n - 0)↔∃ i,i<n∧p i=true:=by
 constructor
 ·intro h
  obtain ⟨h1,h2,h3,h4⟩:=i9 (show ¬ l4 p 0 (n - 0)<0 by omega)
  exact ⟨_,by omega,h3⟩
 ·rintro ⟨i,hi,h⟩
  apply Classical.byContradiction
  intro hn
  have:=o9 (show l4 p 0 (n - 0)<0 by omega) i (Nat.zero_le _) oM
  rw [h] at this; cases this
@[reducible] def pMs (vs:List (List RQ)):L2:=.sl vs.length (b0f vs)
def N0g (vs:List (List RQ))(w:List RQ):Bool:=(vs.all fun r=>r.all RQ.is) && w.all RQ.is
theorem n0m {vs:List (List RQ)}:decide (0≤l4 (fun i=>!(vs.getD i []).all RQ.is) 0 (vs.length - 0)) = !(vs.all fun r=>r.all RQ.is):=by
 rw [Bool.eq_iff_iff,decide_eq_true_iff,K0m,Bool.not_eq_true',List.all_eq_false]
 constructor
 ·rintro ⟨i,hi,h⟩
  exact ⟨_,gDL hi,by simpa using h⟩
 ·rintro ⟨r,hr,h⟩
  obtain ⟨i,hi,rfl⟩:=List.getElem_of_mem hr
  refine ⟨i,hi,?_⟩
  have e:vs.getD i []=vs[i]:=by simp [f0,hi]
  rw [e]; simpa using h
theorem K0j {vs:List (List RQ)}{n:Nat}:decide (0≤l4 (fun i=>!decide ((vs.getD i []).length=n)) 0 (vs.length - 0)) = !(vs.all fun r=>decide (r.length=n)):=by
 rw [Bool.eq_iff_iff,decide_eq_true_iff,K0m,Bool.not_eq_true',List.all_eq_false]
 constructor
 ·rintro ⟨i,hi,h⟩
  exact ⟨_,gDL hi,by simpa using h⟩
 ·rintro ⟨r,hr,h⟩
  obtain ⟨i,hi,rfl⟩:=List.getElem_of_mem hr
  refine ⟨i,hi,?_⟩
  have e:vs.getD i []=vs[i]:=by simp [f0,hi]
  rw [e]; simpa using h
theorem f1m (vs:List (List RQ))(w:List RQ)(hm:MSm vs)(hwl:w.length<1000000000)(hw:∀ r∈w,r.sm)(h:N0g vs w=false):v3 E 30 [pMs vs,pVR w] (.tup [.sl 0 [],.sl 0 [],vZ 3]):=by
 refine D2 (xs:=[.sl 0 [],.sl 0 [],vZ 3]) Tryz.func30 rfl Tryz.ntmps30 Tryz.results30 sM fun F hG hX0 hnt hdf P0=>?_
 obtain ⟨L,hX,hN⟩:=pro hnt hX0 hG
 have f1:=n7 72 [.at_ 2 0 1] (b2 vs) sM (m6 rfl) cl72 (fun i=>!(vs.getD i []).all RQ.is) 0 vs.length (by have:=hm.1; omega) (fun i _ hi=>y0h vs i hi hm)
 have ff:=n0m (vs:=vs)
 refine exr (swb (U3 (k:=2) (n:=1) .sl rfl rfl (P0 _ rfl) L) t1 t0 ⟨rfl,rfl⟩ (swb (U3 (k:=3) (n:=1) .sl rfl rfl (P0 _ rfl) L) t1 t0 ⟨rfl,rfl⟩ (aV L rfl (aV L rfl (aV L rfl (zn [(2,_),(3,_)] [(2,_),(3,_)] t2 t2 (R1 ?_)))))))
 refine exm (sl:=[(21,vb true)]) (sl0:=[(2,_),(3,_)]) (hb:=[]) (hb0:=[(2,_),(3,_)]) t2 t2 ?_ ?_
 ·rcases (by cases h1:(vs.all fun r=>r.all RQ.is); exact .inl rfl; rw [N0g,h1] at h; exact .inr ⟨rfl,h⟩:(vs.all fun r=>r.all RQ.is)=false∨((vs.all fun r=>r.all RQ.is)=true∧w.all RQ.is=false)) with h1 | ⟨h1,h2⟩
  ·refine sw (Y1 ag22 rF rF L) t1 t1 ?_
   refine sw (R2 un22 L) t1 t0 (sw (j0k (vs:=[]) (us:=[_]) rfl rfl L) t1 t0 (sw (o5 hG hX hN f1 rfl L (K4 (ys:=[_,_,_]) cl52 rfl rfl) sM (m6 rfl) (fun q h=>by cases h)) t3 t1 ?_))
   refine sw (d0b L) t2 t0 (mV L rfl (swn (g:=17) rfl (by rw [ff,h1] <;> rfl) L rfl ?_))
   refine swn (g:=17) rfl (by rw [ff,h1] <;> rfl) L rfl ?_
   refine swn (g:=17) rfl (by rw [ff,h1] <;> rfl) L rfl ?_
   refine sw (O4 (by rw [ff,h1] <;> rfl) L) t2 t0 ?_
   exact O1 ⟨t3,t2⟩
  ·refine sw (Y1 ag22 rF rF L) t1 t1 ?_
   refine sw (R2 un22 L) t1 t0 (sw (j0k (vs:=[]) (us:=[_]) rfl rfl L) t1 t0 (sw (o5 hG hX hN f1 rfl L (K4 (ys:=[_,_,_]) cl52 rfl rfl) sM (m6 rfl) (fun q h=>by cases h)) t3 t1 ?_))
   refine sw (d0b L) t2 t0 (mV L rfl (swg (g:=17) rfl (by rw [ff,h1] <;> rfl) (Y1 ag40 rF rF L) rfl t1 t1 ?_))
   refine swg (g:=17) rfl (by rw [ff,h1] <;> rfl) (c_c hG hX cl64 rfl hN (K7 w hwl hw) L) rfl t1 t0 ?_
   refine swg (g:=17) rfl (by rw [ff,h1] <;> rfl) (C4 L) rfl t1 t0 ?_
   refine sw (y4 (by rw [ff,h1] <;> rfl) L) t2 t0 ?_
   exact O1 ⟨⟨ob rfl (by rw [h2]; rfl),rfl,rfl,trivial⟩,t2⟩
 refine P8 rfl rfl (exr (aV L rfl (aV L rfl (aV L rfl (zn [(4,_),(5,_),(6,_)] [] t3 trivial (s4 [] (sl:=[(4,_),(5,_),(6,_)]) (hb:=[]) (F3 hX0) ⟨⟨_,rfl,(.p .nil)⟩,⟨_,rfl,(.p .nil)⟩,⟨_,rfl,.same⟩,trivial⟩ t0 (X1 ?_)))))))
 refine P1 (.tmp rfl) (.tmp rfl) (.tmp rfl) ?_
 rfl
theorem d1q (vs:List (List RQ))(w:List RQ)(hm:MSm vs)(hwl:w.length<1000000000)(hw:∀ r∈w,r.sm)(h:N0g vs w=true)(h2:(vs.all fun r=>decide (r.length=w.length))=false):v3 E 30 [pMs vs,pVR w] (.tup [.sl 0 [],.sl 0 [],vZ 1]):=by
 refine D2 (xs:=[.sl 0 [],.sl 0 [],vZ 1]) Tryz.func30 rfl Tryz.ntmps30 Tryz.results30 sM fun F hG hX0 hnt hdf P0=>?_
 obtain ⟨L,hX,hN⟩:=pro hnt hX0 hG
 have f1:=n7 72 [.at_ 2 0 1] (b2 vs) sM (m6 rfl) cl72 (fun i=>!(vs.getD i []).all RQ.is) 0 vs.length (by have:=hm.1; omega) (fun i _ hi=>y0h vs i hi hm)
 have f2:=n7 73 [.at_ 2 0 1,.at_ 3 0 1] (b3 vs w) sM (m6 rfl) cl73 (fun i=>!decide ((vs.getD i []).length=w.length)) 0 vs.length (by have:=hm.1; omega) (fun i _ hi=>N0y vs w i hi)
 have ff:=n0m (vs:=vs)
 have fg:=K0j (vs:=vs) (n:=w.length)
 rw [N0g,j0] at h
 obtain ⟨h1,h3⟩:=h
 refine exr (swb (U3 (k:=2) (n:=1) .sl rfl rfl (P0 _ rfl) L) t1 t0 ⟨rfl,rfl⟩ (swb (U3 (k:=3) (n:=1) .sl rfl rfl (P0 _ rfl) L) t1 t0 ⟨rfl,rfl⟩ (aV L rfl (aV L rfl (aV L rfl (zn [(2,_),(3,_)] [(2,_),(3,_)] t2 t2 (R1 (exr (sw (Y1 ag22 rF rF L) t1 t1 ?_)))))))))
 refine sw (R2 un22 L) t1 t0 (sw (j0k (vs:=[]) (us:=[_]) rfl rfl L) t1 t0 (sw (o5 hG hX hN f1 rfl L (K4 (ys:=[_,_,_]) cl52 rfl rfl) sM (m6 rfl) (fun q h=>by cases h)) t3 t1 ?_))
 refine sw (d0b L) t2 t0 (mV L rfl (swg (g:=17) rfl (by rw [ff,h1] <;> rfl) (Y1 ag40 rF rF L) rfl t1 t1 ?_))
 refine swg (g:=17) rfl (by rw [ff,h1] <;> rfl) (c_c hG hX cl64 rfl hN (K7 w hwl hw) L) rfl t1 t0 ?_
 refine swg (g:=17) rfl (by rw [ff,h1] <;> rfl) (C4 L) rfl t1 t0 ?_
 refine sw (y4 (by rw [ff,h1] <;> rfl) L) t2 t0 ?_
 refine zn [(2,_),(3,_),(21,_)] [(2,_),(3,_)] t3 t2 (Z3 rfl (by rw [h3]; rfl) ?_)
 refine U1 (xq ?_)
 refine R1 (exr (sw (Y1 ag22 rF rF L) t1 t1 ?_))
 refine sw (R2 un22 L) t1 t0 (sw (j0k (vs:=[]) (us:=[_,_]) rfl rfl L) t2 t0 (sw (o5 hG hX hN f2 rfl L (K4 (ys:=[_,_,_]) cl52 rfl rfl) sM (m6 rfl) (fun q h=>by cases h)) t3 t2 ?_))
 refine sw (d0b L) t2 t0 (zn [(2,_),(3,_),(26,_)] [(2,_),(3,_)] t3 t2 (P8 rfl (by rw [fg,h2] <;> rfl) ?_))
 refine exr (aV L rfl (aV L rfl (aV L rfl (zn [(4,_),(5,_),(6,_)] [] t3 trivial (s4 [] (sl:=[(4,_),(5,_),(6,_)]) (hb:=[]) (F3 hX0) ⟨⟨_,rfl,(.p .nil)⟩,⟨_,rfl,(.p .nil)⟩,⟨_,rfl,.same⟩,trivial⟩ t0 (X1 ?_))))))
 refine P1 (.tmp rfl) (.tmp rfl) (.tmp rfl) ?_
 rfl
@[reducible] def pMl (V:List (List Rat)):L2:=.sl V.length (M5 V)
theorem P1z (V:List (List Rat)):pMs (V.map (List.map RQ.of))=pMl V:=by rw [pMs,pMl,h0v,O0]
theorem b2v (V:List (List Rat)):((V.map (List.map RQ.of)).all fun r=>r.all RQ.is)=true:=by
 rw [s0]; intro r hr
 obtain ⟨v,_,rfl⟩:=G0.1 hr
 exact P0x v
theorem Y1b {B:Nat}{V:List (List Rat)}(hB:MB B V)(hb:B<1000000000)(h1:V.length<1000000000)(h2:∀ r∈V,r.length<1000000000):MSm (V.map (List.map RQ.of)):=by
 refine ⟨by simpa using h1,fun r hr=>?_⟩
 obtain ⟨v,hv,rfl⟩:=G0.1 hr
 refine ⟨by simpa using h2 v hv,fun a ha=>?_⟩
 obtain ⟨q,hq,rfl⟩:=G0.1 ha
 have:=hB v hv q hq
 exact RQ.sm_of oM
theorem p0g (B DB:Nat)(V:List (List Rat))(w:List Rat)(hV:∀ r∈V,r.length=w.length)(hk:V.length≤60)(hwl:w.length≤400)(hB:MB B V)(hwB:∀ a∈w,qw a≤B)(H:EU w.length V.length (w.length+1) B DB (trM w.length V) (Y3 w)):v3 E 30 [pMl V,pV w] (.tup [pV (y0f V.length (ech (trM w.length V) (Y3 w) V.length) w.length),pV (j0m (ech (trM w.length V) (Y3 w) V.length) w.length),vZ (n0r (ech (trM w.length V) (Y3 w) V.length) w.length)]):=by
 refine D2 (xs:=[pV (y0f V.length (ech (trM w.length V) (Y3 w) V.length) w.length),pV (j0m (ech (trM w.length V) (Y3 w) V.length) w.length),vZ (n0r (ech (trM w.length V) (Y3 w) V.length) w.length)]) Tryz.func30 rfl Tryz.ntmps30 Tryz.results30 sM fun F hG hX0 hnt hdf P0=>?_
 obtain ⟨L,hX,hN⟩:=pro hnt hX0 hG
 have hb:=H.bl
 have hms:=Y1b hB oM oM (fun r hr=>by rw [hV r hr]; omega)
 have f1:=n7 72 [.at_ 2 0 1] (b2 (V.map (List.map RQ.of))) sM (m6 rfl) cl72 (fun i=>!((V.map (List.map RQ.of)).getD i []).all RQ.is) 0 (V.map (List.map RQ.of)).length sO (fun i _ hi=>y0h _ i hi hms)
 have f2:=n7 73 [.at_ 2 0 1,.at_ 3 0 1] (b3 (V.map (List.map RQ.of)) (w.map RQ.of)) sM (m6 rfl) cl73 (fun i=>!decide (((V.map (List.map RQ.of)).getD i []).length=(w.map RQ.of).length)) 0 (V.map (List.map RQ.of)).length sO (fun i _ hi=>N0y _ (w.map RQ.of) i hi)
 have ff:=n0m (vs:=V.map (List.map RQ.of))
 have fg:=K0j (vs:=V.map (List.map RQ.of)) (n:=(w.map RQ.of).length)
 have fv:((V.map (List.map RQ.of)).all fun r=>decide (r.length=(w.map RQ.of).length))=true:=by
  rw [s0]; intro r hr
  obtain ⟨v,hv,rfl⟩:=G0.1 hr
  simp [hV v hv]
 have hst:=n0c w.length V.length B DB (trM w.length V) w ⟨by simpa using hwl,hk,fun r hr=>by simp only [trM,G0] at hr; obtain ⟨j,_,rfl⟩:=hr; simp⟩ (fun r hr a ha=>by
  simp only [trM,G0,List.mem_range] at hr
  obtain ⟨j,hj,rfl⟩:=hr
  exact p1p hB hj hV a ha) hwB sM rfl H
 rw [b2v] at ff
 rw [fv] at fg
 obtain ⟨p1,hp1⟩:∃ p1,p1=l4 (fun i=>!((V.map (List.map RQ.of)).getD i []).all RQ.is) 0 ((V.map (List.map RQ.of)).length - 0):=⟨_,rfl⟩
 obtain ⟨p2,hp2⟩:∃ p2,p2=l4 (fun i=>!decide (((V.map (List.map RQ.of)).getD i []).length=(w.map RQ.of).length)) 0 ((V.map (List.map RQ.of)).length - 0):=⟨_,rfl⟩
 rw [← hp1] at f1 ff
 rw [← hp2] at f2 fg
 simp only [b2,b3,h0v,O0,v0p] at f1 f2
 refine exr (swb (U3 (k:=2) (n:=1) .sl rfl rfl (P0 _ rfl) L) t1 t0 ⟨rfl,rfl⟩ (swb (U3 (k:=3) (n:=1) .sl rfl rfl (P0 _ rfl) L) t1 t0 ⟨rfl,rfl⟩ (aV L rfl (aV L rfl (aV L rfl (zn [(2,_),(3,_)] [(2,_),(3,_)] t2 t2 (R1 (exr (sw (Y1 ag22 rF rF L) t1 t1 ?_)))))))))
 refine sw (R2 un22 L) t1 t0 (sw (j0k (vs:=[]) (us:=[_]) rfl rfl L) t1 t0 (sw (o5 hG hX hN f1 rfl L (K4 (ys:=[_,_,_]) cl52 rfl rfl) sM (m6 rfl) (fun q h=>by cases h)) t3 t1 ?_))
 refine sw (d0b L) t2 t0 (mV L rfl (swg (g:=17) rfl (by rw [ff] <;> rfl) (Y1 ag40 rF rF L) rfl t1 t1 ?_))
 refine swg (g:=17) rfl (by rw [ff] <;> rfl) (c_c hG hX cl64 rfl hN (d0y hwB oM oM) L) rfl t1 t0 ?_
 refine swg (g:=17) rfl (by rw [ff] <;> rfl) (C4 L) rfl t1 t0 ?_
 refine sw (y4 (by rw [ff] <;> rfl) L) t2 t0 ?_
 refine zn [(2,_),(3,_),(21,_)] [(2,_),(3,_)] t3 t2 (Z3 rfl rfl ?_)
 refine U1 (xq ?_)
 refine R1 (exr (sw (Y1 ag22 rF rF L) t1 t1 ?_))
 refine sw (R2 un22 L) t1 t0 (sw (j0k (vs:=[]) (us:=[_,_]) rfl rfl L) t2 t0 (sw (o5 hG hX hN f2 rfl L (K4 (ys:=[_,_,_]) cl52 rfl rfl) sM (m6 rfl) (fun q h=>by cases h)) t3 t2 ?_))
 refine sw (d0b L) t2 t0 (zn [(2,_),(3,_),(26,_)] [(2,_),(3,_)] t3 t2 (Z3 rfl (by rw [fg] <;> rfl) ?_))
 refine U1 (xq ?_)
 refine R1 (exr (sw (Y1 ag22 rF rF L) t1 t1 ?_))
 refine sw (R2 un22 L) t1 t0 (sw (i7 L) t2 t0 (mV L rfl (swg (g:=30) rfl sO (Y1 ag40 rF rF L) rfl t1 t1 ?_)))
 refine swg (g:=30) rfl sO (R2 un40 L) rfl t1 t0 (swg (g:=30) rfl sO (i7 L) rfl t2 t0 (sw (y4 sO L) t2 t0 (zn [(2,_),(3,_),(34,_)] [(2,_),(3,_)] t3 t2 (Z3 rfl sO ?_))))
 refine U1 (xq ?_)
 refine exr (sw (Y1 ag22 rF rF L) t1 t1 ?_)
 refine sw (R2 un22 L) t1 t0 (sw (G7 (vs:=[_]) un24 zv24 (.cons rfl (.cons rfl .nil)) ((J2.cons sz3 (J2.cons sz22 J2.nil))).to rfl (.cons rfl (.atom rfl) rfl pu1 .nil) (.cons (.cons .nil)) L) t1 t0 (swb (R3 (k:=7) (n:=2) zv24 (.cons rfl (.cons rfl .nil)) rfl (P0 _ rfl) L) t0 t0 ⟨rfl,rfl⟩ (sb (U2 sz24 rF pa2 rfl pu2) t2 t1 ?_)))
 refine zn [(2,_),(3,_),(7,_)] [(2,_),(3,_),(7,_)] t3 t3 (R1 (exr (sw (Y1 ag40 rF rF L) t1 t1 ?_)))
 refine sw (R2 un40 L) t1 t0 (mV L rfl (zn [(2,_),(3,_),(7,_),(39,_),(40,_)] [(2,_),(3,_),(7,_)] t5 t3 (V1 ?_)))
 refine exl (α:=(Nat×List (List Rat))) (fun x=>[(40,vi (x.1:Int))]) (fun x=>[(7,⟨24,2,.mix [.p (vZ V.length),D0a 64 x.2]⟩)]++D0c 64 x.2) (fun x=>x.1≤w.length∧trM x.1 V=x.2) (fun x=>w.length - x.1) ((0,[])) (sl:=[(2,_),(3,_),(7,_),(39,_)]) (hb:=[(2,_),(3,_)]) ?_ ⟨oR,rfl,rfl,rfl,rfl,trivial⟩ (hbI (l':=[(7,_),(2,_),(3,_)]) rfl t3) ?_
 ·exact ⟨Nat.zero_le _,rfl⟩
 intro x hx
 obtain ⟨j,T⟩:=x
 obtain ⟨hj,hT⟩:=hx
 simp only at hj hT
 rcases T with _ | ⟨q,T⟩
 ·dsimp only [D0a,D0c,List.append_nil]
  refine exr (sw (P3 L) t2 t0 (zn [(2,_),(3,_),(7,_),(39,_),(40,_),(41,_)] [(2,_),(3,_),(7,_)] t6 t3 (R1 ?_)))
  refine j2 rfl (fun hc=>?_) (fun hc=>?_)
  ·have hc:=dt hc
   have hjc:j<w.length:=by omega
   have ht:=p0y j V
   rw [hT] at ht
   refine U1 (xq ?_)
   refine R1 (V1 (exr (mV L rfl (aV L rfl (zn [(2,_),(3,_),(7,_),(8,_),(39,_),(40,_)] [(2,_),(3,_),(7,_)] t6 t3 (exr (sw (Y1 ag22 rF rF L) t1 t1 ?_)))))))
   refine sw (R2 un22 L) t1 t0 (swb (o6 (sz:=4) (k:=45) un40 ti47 rfl rfl dC rfl rfl rfl (show (0:Int)=((0:Nat):Int) from rfl) rfl (Nat.zero_le _) (by simp [Tryz.t47]; omega) oM (P0 _ rfl) L) t2 t0 ⟨rfl,rfl⟩ ?_)
   refine aV L rfl ?_
   refine O1 ⟨[(2,_),(3,_),(7,_),(8,_),(9,.ref 45 0 0 0),(39,_),(40,_)],[(2,_),(3,_),(7,_),(45,T3 [])],t7,t4,?_⟩
   refine R1 (exr (sw (Y1 ag22 rF rF L) t1 t1 ?_))
   refine sw (R2 un22 L) t1 t0 (mV L rfl (zn [(2,_),(3,_),(7,_),(8,_),(9,_),(39,_),(40,_),(46,_),(47,_),(48,_)] [(2,_),(3,_),(7,_),(45,_)] t10 t4 (V1 ?_)))
   refine exl (α:=Nat) (fun k=>[(48,vi (k:Int)),(9,.ref 45 0 k (k*4))]) (fun k=>[(45,T3 (K6 (V.take k) j))]) (fun k=>k≤V.length) (fun k=>V.length - k) (0) (sl:=[(2,_),(3,_),(7,_),(8,_),(39,_),(40,_),(46,_),(47,_)]) (hb:=[(2,_),(3,_),(7,_)]) ?_ ⟨oR,oR,rfl,rfl,rfl,rfl,rfl,rfl,rfl,rfl,trivial⟩ t4 ?_
   ·exact Nat.zero_le _
   intro k hk
   refine exr (sw (P3 L) t2 t0 (zn [(2,_),(3,_),(7,_),(8,_),(9,_),(39,_),(40,_),(46,_),(47,_),(48,_),(49,_)] [(2,_),(3,_),(7,_),(45,_)] t11 t4 (R1 ?_)))
   refine j2 rfl (fun he=>?_) (fun he=>?_)
   ·have he:=dt he
    have hk2:k<V.length:=by omega
    have hrl:=hV _ (gDL hk2)
    refine U1 (xq ?_)
    refine R1 (V1 (exr (sw (ixJ un22 sz40 (j:=k) rO oM sM L) t2 t0 ?_)))
    refine sw (d4 ag40 (b7 hk2) L) t1 t0 (aV L rfl (zn [(2,_),(3,_),(7,_),(8,_),(9,_),(11,_),(39,_),(40,_),(46,_),(47,_),(48,_)] [(2,_),(3,_),(7,_),(45,_)] t11 t4 (j3 (mV L rfl (mV L rfl (mV L rfl (sw (Z1 un40 sz47 oM oM sM dC L) t2 t0 ?_)))))))
    refine sw (L6 ag47 sz47 (M6 (show j<(V.getD k []).length by omega)) rfl L) t1 t0 ?_
    refine sw (q4 (vs:=[_]) un40 ti47 rfl rfl dC dC rfl (K2 (.cons rfl (.cons rfl (.cons rfl (.cons rfl .nil)))) rfl) rfl (.cons rfl pa4 rfl pu4 .nil) (.cons (.cons (.cons (.cons .nil)))) L) t1 t0 (swb (apP (sz:=4) un40 un40 ti47 rfl rfl rfl dC (by exact (by first | (simp; done) | (simp; omega))) oF sM rfl rfl rfl (by first | (simp [Tryz.t47]; done) | (simp [Tryz.t47]; omega)) oM (P0 _ rfl) L) t2 t1 t0 ?_)
    refine aV L rfl (O1 (j3 (sw (B3 L (w64 oM oM)) t2 t0 (mV L rfl (O1 ?_)))))
    exact ⟨k+1,oM,by omega,l3 ⟨oR,ov rfl sO,rfl,rfl,rfl,rfl,rfl,rfl,rfl,rfl,trivial⟩ ⟨obl rfl ((L9 _ _).trans (by rw [g9 hk2])),rfl,rfl,rfl,trivial⟩⟩
   ·have he:=df he
    have hkM:k=V.length:=by omega
    subst hkM
    rw [I0]
    refine G2 (xq ?_)
    refine s4 [45] (sl:=[(2,_),(3,_),(7,_),(9,_),(39,_),(40,_)]) (hb:=[(2,_),(3,_),(7,_)]) (F3 hX0) ⟨⟨_,rfl,.same⟩,⟨_,rfl,.same⟩,⟨_,rfl,.same⟩,⟨_,rfl,(.ref rfl rfl (by exact (by first | (simp; done) | (simp; omega))) (by first | rfl | omega))⟩,⟨_,rfl,.same⟩,⟨_,rfl,.same⟩,trivial⟩ ⟨⟨rfl,_,rfl,.same⟩,⟨rfl,_,rfl,.same⟩,⟨rfl,_,rfl,.same⟩,trivial⟩ ?_
    refine j3 (sw (i2 un24 rfl sz22 dC rX L) t1 t1 ?_)
    refine sw (Y1 ag22 rF rF L) t1 t1 ?_
    refine mV L rfl (sw (q4 (vs:=[_]) un22 ti40 rfl rfl dC dC rfl (K2 (.cons rfl .nil) rfl) rfl (.cons rfl .sl rfl pu1 .nil) (.cons .nil) L) t1 t0 (swb (apN (k:=64) (sz:=1) un22 un22 ti40 rfl rfl rfl dC sM rfl (by first | (simp [Tryz.t40]; done) | (simp [Tryz.t40]; omega)) oM (P0 _ rfl) L) t2 t0 ⟨rfl,rfl⟩ ?_))
    refine sw (i2 un24 rfl sz22 dC rX L) t1 t1 ?_
    refine sb (U2 sz22 rF .ref rfl (.skip pu1)) t2 t1 ?_
    refine O1 (j3 (sw (B3 L (w64 oM oM)) t2 t0 (mV L rfl (O1 ?_))))
    exact ⟨(j+1,[K6 V j]),⟨by simp only; omega,ht⟩,(by simp only; omega),l3 ⟨oR,rfl,rfl,rfl,rfl,trivial⟩ (hbI (l':=[(7,_),(64,_),(2,_),(3,_)]) rfl ⟨rfl,obl rfl (by simp [M5]),rfl,rfl,trivial⟩)⟩
  ·have hc:=df hc
   have hjc:j=w.length:=by omega
   rw [hjc] at hT
   rw [hT] at hst ⊢
   refine G2 (xq ?_)
   refine s4 [] (sl:=[(3,_),(7,_)]) (hb:=[(3,_),(7,_)]) (F3 hX0) ⟨⟨_,rfl,.same⟩,⟨_,rfl,.same⟩,trivial⟩ ⟨⟨rfl,_,rfl,.same⟩,⟨rfl,_,rfl,(.mix (.cons .same (.cons (.p .nil) .nil)))⟩,trivial⟩ (exr (lp2 ag24 sz24 L rfl rfl (sw (Y1 ag40 rF rF L) t1 t1 ?_)))
   refine cK hG hX cl24 hN hst L t2 (sw (O3 rfl L) t1 t0 (sw (O3 rfl L) t1 t0 (sw (O3 rfl L) t1 t0 (aV L rfl (aV L rfl (aV L rfl (zn [(4,_),(5,_),(6,_)] [] t3 trivial (X1 ?_))))))))
   refine P1 (.tmp rfl) (.tmp rfl) (.tmp rfl) ?_
   rfl
 ·dsimp only [D0a,D0c]
  have hTl:(q :: T).length=j:=by rw [← hT,G0k]
  have hTl2:T.length+1=j:=hTl
  refine exr (sw (P3 L) t2 t0 (zn [(2,_),(3,_),(7,_),(39,_),(40,_),(41,_)] [(2,_),(3,_),(7,_),(64,_)] t6 t4 (R1 ?_)))
  refine j2 rfl (fun hc=>?_) (fun hc=>?_)
  ·have hc:=dt hc
   have hjc:j<w.length:=by omega
   have ht:=p0y j V
   rw [hT] at ht
   refine U1 (xq ?_)
   refine R1 (V1 (exr (mV L rfl (aV L rfl (zn [(2,_),(3,_),(7,_),(8,_),(39,_),(40,_)] [(2,_),(3,_),(7,_),(64,_)] t6 t4 (exr (sw (Y1 ag22 rF rF L) t1 t1 ?_)))))))
   refine sw (R2 un22 L) t1 t0 (swb (o6 (sz:=4) (k:=45) un40 ti47 rfl rfl dC rfl rfl rfl (show (0:Int)=((0:Nat):Int) from rfl) rfl (Nat.zero_le _) (by simp [Tryz.t47]; omega) oM (P0 _ rfl) L) t2 t0 ⟨rfl,rfl⟩ ?_)
   refine aV L rfl ?_
   refine O1 ⟨[(2,_),(3,_),(7,_),(8,_),(9,.ref 45 0 0 0),(39,_),(40,_)],[(2,_),(3,_),(7,_),(45,T3 []),(64,_)],t7,t5,?_⟩
   refine R1 (exr (sw (Y1 ag22 rF rF L) t1 t1 ?_))
   refine sw (R2 un22 L) t1 t0 (mV L rfl (zn [(2,_),(3,_),(7,_),(8,_),(9,_),(39,_),(40,_),(46,_),(47,_),(48,_)] [(2,_),(3,_),(7,_),(45,_),(64,_)] t10 t5 (V1 ?_)))
   refine exl (α:=Nat) (fun k=>[(48,vi (k:Int)),(9,.ref 45 0 k (k*4))]) (fun k=>[(45,T3 (K6 (V.take k) j))]) (fun k=>k≤V.length) (fun k=>V.length - k) (0) (sl:=[(2,_),(3,_),(7,_),(8,_),(39,_),(40,_),(46,_),(47,_)]) (hb:=[(2,_),(3,_),(7,_),(64,_)]) ?_ ⟨oR,oR,rfl,rfl,rfl,rfl,rfl,rfl,rfl,rfl,trivial⟩ t5 ?_
   ·exact Nat.zero_le _
   intro k hk
   refine exr (sw (P3 L) t2 t0 (zn [(2,_),(3,_),(7,_),(8,_),(9,_),(39,_),(40,_),(46,_),(47,_),(48,_),(49,_)] [(2,_),(3,_),(7,_),(45,_),(64,_)] t11 t5 (R1 ?_)))
   refine j2 rfl (fun he=>?_) (fun he=>?_)
   ·have he:=dt he
    have hk2:k<V.length:=by omega
    have hrl:=hV _ (gDL hk2)
    refine U1 (xq ?_)
    refine R1 (V1 (exr (sw (ixJ un22 sz40 (j:=k) rO oM sM L) t2 t0 ?_)))
    refine sw (d4 ag40 (b7 hk2) L) t1 t0 (aV L rfl (zn [(2,_),(3,_),(7,_),(8,_),(9,_),(11,_),(39,_),(40,_),(46,_),(47,_),(48,_)] [(2,_),(3,_),(7,_),(45,_),(64,_)] t11 t5 (j3 (mV L rfl (mV L rfl (mV L rfl (sw (Z1 un40 sz47 oM oM sM dC L) t2 t0 ?_)))))))
    refine sw (L6 ag47 sz47 (M6 (show j<(V.getD k []).length by omega)) rfl L) t1 t0 ?_
    refine sw (q4 (vs:=[_]) un40 ti47 rfl rfl dC dC rfl (K2 (.cons rfl (.cons rfl (.cons rfl (.cons rfl .nil)))) rfl) rfl (.cons rfl pa4 rfl pu4 .nil) (.cons (.cons (.cons (.cons .nil)))) L) t1 t0 (swb (apP (sz:=4) un40 un40 ti47 rfl rfl rfl dC (by exact (by first | (simp; done) | (simp; omega))) oF sM rfl rfl rfl (by first | (simp [Tryz.t47]; done) | (simp [Tryz.t47]; omega)) oM (P0 _ rfl) L) t2 t1 t0 ?_)
    refine aV L rfl (O1 (j3 (sw (B3 L (w64 oM oM)) t2 t0 (mV L rfl (O1 ?_)))))
    exact ⟨k+1,oM,by omega,l3 ⟨oR,ov rfl sO,rfl,rfl,rfl,rfl,rfl,rfl,rfl,rfl,trivial⟩ ⟨obl rfl ((L9 _ _).trans (by rw [g9 hk2])),rfl,rfl,rfl,rfl,trivial⟩⟩
   ·have he:=df he
    have hkM:k=V.length:=by omega
    subst hkM
    rw [I0]
    refine G2 (xq ?_)
    refine s4 [45] (sl:=[(2,_),(3,_),(7,_),(9,_),(39,_),(40,_)]) (hb:=[(2,_),(3,_),(7,_),(64,_)]) (F3 hX0) ⟨⟨_,rfl,.same⟩,⟨_,rfl,.same⟩,⟨_,rfl,.same⟩,⟨_,rfl,(.ref rfl rfl (by exact (by first | (simp; done) | (simp; omega))) (by first | rfl | omega))⟩,⟨_,rfl,.same⟩,⟨_,rfl,.same⟩,trivial⟩ ⟨⟨rfl,_,rfl,.same⟩,⟨rfl,_,rfl,.same⟩,⟨rfl,_,rfl,.same⟩,⟨rfl,_,rfl,.same⟩,trivial⟩ ?_
    refine j3 (sw (i2 un24 rfl sz22 dC rX L) t1 t1 ?_)
    refine sw (Y1 ag22 rF rF L) t1 t1 ?_
    refine mV L rfl (sw (q4 (vs:=[_]) un22 ti40 rfl rfl dC dC rfl (K2 (.cons rfl .nil) rfl) rfl (.cons rfl .sl rfl pu1 .nil) (.cons .nil) L) t1 t0 (swb (apP (sz:=1) un22 un22 ti40 rfl rfl rfl dC (by exact (G5 _)) oF sM rfl rfl rfl (by first | (simp [Tryz.t40]; done) | (simp [Tryz.t40]; omega)) oM (P0 _ rfl) L) t2 t1 t0 ?_))
    refine sw (i2 un24 rfl sz22 dC rX L) t1 t1 ?_
    refine sb (U2 sz22 rF .ref rfl (.skip pu1)) t2 t1 ?_
    refine O1 (j3 (sw (B3 L (w64 oM oM)) t2 t0 (mV L rfl (O1 ?_))))
    exact ⟨(j+1,q :: T++[K6 V j]),⟨by simp only; omega,ht⟩,(by simp only; omega),l3 ⟨oR,rfl,rfl,rfl,rfl,trivial⟩ (hbI (l':=[(7,_),(64,_),(2,_),(3,_)]) rfl ⟨obl rfl sM,obl rfl (y1s V.length (q :: T) (K6 V j) (X6 _ _)),rfl,rfl,trivial⟩)⟩
  ·have hc:=df hc
   have hjc:j=w.length:=by omega
   rw [hjc] at hT
   rw [hT] at hst ⊢
   refine G2 (xq ?_)
   refine s4 [64] (sl:=[(3,_),(7,_)]) (hb:=[(3,_),(7,_)]) (F3 hX0) ⟨⟨_,rfl,.same⟩,⟨_,rfl,.same⟩,trivial⟩ ⟨⟨rfl,_,rfl,.same⟩,⟨rfl,_,rfl,(.mix (.cons .same (.cons (.ref rfl rfl (by exact (G5 _)) (by first | rfl | omega)) .nil)))⟩,trivial⟩ ?_
   refine exr (lp2 ag24 sz24 L rfl rfl (sw (Y1 ag40 rF rF L) t1 t1 ?_))
   refine cK hG hX cl24 hN hst L t2 (sw (O3 rfl L) t1 t0 (sw (O3 rfl L) t1 t0 (sw (O3 rfl L) t1 t0 (aV L rfl (aV L rfl (aV L rfl (zn [(4,_),(5,_),(6,_)] [] t3 trivial (X1 ?_))))))))
   refine P1 (.tmp rfl) (.tmp rfl) (.tmp rfl) ?_
   rfl
theorem G1m {a:Rat}:((y3 a.num.natAbs).length:Int)=0↔a=0:=by
 have:=j1k (a:=a.num)
 unfold nw at this
 rw [← Rat.num_eq_zero,← this]; omega
theorem j1j (a:Rat):v3 E 22 [pQ a] (bZ (decide (a=0))):=by
 refine D2 (xs:=[bZ (decide (a=0))]) Tryz.func22 rfl Tryz.ntmps22 Tryz.results22 sM fun F hG hX0 hnt hdf P0=>?_
 obtain ⟨L,hX,hN⟩:=pro hnt hX0 hG
 refine exr (swb (U3 (k:=1) (n:=4) pa4 rfl rfl (P0 _ rfl) L) t1 t0 ⟨rfl,rfl⟩ (aV L rfl (zn [(1,_)] [(1,_)] t1 t1 (exr (sw (i2 un47 rfl sz45 dC rX L) t1 t1 ?_)))))
 refine sw (i2 un45 rfl sz43 dC rX L) t1 t1 ?_
 refine sw (Y1 ag43 rF rF L) t1 t1 ?_
 refine sw (R2 un43 L) t1 t0 (sw (c_e L) t2 t0 (aV L rfl (zn [(2,_)] [] t1 trivial (X1 ?_))))
 refine Q0 (.tmp rfl) ?_
 rw [decide_eq_decide.2 (G1m (a:=a))]
theorem dnt {p:Prop}[Decidable p](h:(!decide p)=true):¬ p:=by simpa using h
theorem dnf {p:Prop}[Decidable p](h:(!decide p)=false):p:=by simpa using h
theorem Q0a {p:Nat→Prop}{k:Nat}(h:∀ i,i<k→p i)(hk:p k):∀ i,i<k+1→p i:=fun i hi=>(Nat.lt_or_eq_of_le (Nat.le_of_lt_succ hi)).elim (h i) (fun e=>e ▸ hk)
theorem y1d {ws vs:List Int}(hl:ws.length=vs.length)(h:∀ k,k<ws.length→ws.getD k 0=vs.getD k 0):ws=vs:=by
 refine List.ext_getElem hl fun i h1 h2=>?_
 have:=h i h1
 simpa [f0,h1,h2] using this
theorem j0a (m n:Bool)(ws vs:List Int)(h1:ws.length<1000000000)(h2:vs.length<1000000000):v3 E 74 [.agg [.a (.bool m),.sl ws.length (J4 ws)],.agg [.a (.bool n),.sl vs.length (J4 vs)]] (bZ (decide (m=n∧ws=vs))):=by
 refine D2 (xs:=[bZ (decide (m=n∧ws=vs))]) Tryz.func74 rfl Tryz.ntmps74 Tryz.results74 sM fun F hG hX0 hnt hdf P0=>?_
 obtain ⟨L,hX,hN⟩:=pro hnt hX0 hG
 refine exr (swb (U3 (k:=2) (n:=2) pa2 rfl rfl (P0 _ rfl) L) t1 t0 ⟨rfl,rfl⟩ (swb (U3 (k:=3) (n:=2) pa2 rfl rfl (P0 _ rfl) L) t1 t0 ⟨rfl,rfl⟩ (aV L rfl (zn [(2,_),(3,_)] [(2,_),(3,_)] t2 t2 (R1 ?_)))))
 refine exm (sl:=[(19,vb (decide (¬ (m=n∧ws.length=vs.length))))]) (sl0:=[(2,_),(3,_)]) (hb:=[]) (hb0:=[(2,_),(3,_)]) t2 t2 ?_ ?_
 ·by_cases h:m=n
  ·refine sw (i2 un45 rfl sz4 dC rX L) t1 t1 ?_
   refine sw (Y1 ag4 rF rF L) t1 t1 ?_
   refine sw (i2 un45 rfl sz4 dC rX L) t1 t1 ?_
   refine sw (Y1 ag4 rF rF L) t1 t1 ?_
   refine sw (y0n un4 L) t2 t0 (mV L rfl (swg (g:=11) rfl (by rw [h]; cases n <;> rfl) (i2 un45 rfl sz43 dC rX L) rfl t1 t1 ?_))
   refine swg (g:=11) rfl (by rw [h]; cases n <;> rfl) (Y1 ag43 rF rF L) rfl t1 t1 ?_
   refine swg (g:=11) rfl (by rw [h]; cases n <;> rfl) (R2 un43 L) rfl t1 t0 ?_
   refine swg (g:=11) rfl (by rw [h]; cases n <;> rfl) (i2 un45 rfl sz43 dC rX L) rfl t1 t1 ?_
   refine swg (g:=11) rfl (by rw [h]; cases n <;> rfl) (Y1 ag43 rF rF L) rfl t1 t1 ?_
   refine swg (g:=11) rfl (by rw [h]; cases n <;> rfl) (R2 un43 L) rfl t1 t0 ?_
   refine swg (g:=11) rfl (by rw [h]; cases n <;> rfl) (c_n L) rfl t2 t0 ?_
   refine sw (y4 (by rw [h]; cases n <;> rfl) L) t2 t0 ?_
   exact O1 ⟨⟨ob rfl (by simp [h]; omega),rfl,rfl,trivial⟩,t2⟩
  ·refine sw (i2 un45 rfl sz4 dC rX L) t1 t1 ?_
   refine sw (Y1 ag4 rF rF L) t1 t1 ?_
   refine sw (i2 un45 rfl sz4 dC rX L) t1 t1 ?_
   refine sw (Y1 ag4 rF rF L) t1 t1 ?_
   refine sw (y0n un4 L) t2 t0 (mV L rfl (swn (g:=11) rfl (by revert h; cases m <;> cases n <;> simp) L rfl ?_))
   refine swn (g:=11) rfl (by revert h; cases m <;> cases n <;> simp) L rfl ?_
   refine swn (g:=11) rfl (by revert h; cases m <;> cases n <;> simp) L rfl ?_
   refine swn (g:=11) rfl (by revert h; cases m <;> cases n <;> simp) L rfl ?_
   refine swn (g:=11) rfl (by revert h; cases m <;> cases n <;> simp) L rfl ?_
   refine swn (g:=11) rfl (by revert h; cases m <;> cases n <;> simp) L rfl ?_
   refine swn (g:=11) rfl (by revert h; cases m <;> cases n <;> simp) L rfl ?_
   refine sw (O4 (by revert h; cases m <;> cases n <;> simp) L) t2 t0 ?_
   exact O1 ⟨⟨ob rfl (by simp [h]),rfl,rfl,trivial⟩,t2⟩
 refine j2 rfl (fun hc=>?_) (fun hc=>?_)
 ·have hc:=dt hc
  refine exr (aV L rfl (zn [(4,_)] [] t1 trivial (X1 ?_)))
  refine Q0 (.tmp rfl) ?_
  rw [decide_eq_false (fun h=>hc ⟨h.1,by rw [h.2]⟩)]
 ·have hc:=df hc
  have hc:m=n∧ws.length=vs.length:=Classical.not_not.1 hc
  obtain ⟨rfl,hl⟩:=hc
  refine U1 (xq ?_)
  refine R1 (exr (aV L rfl (zn [(2,_),(3,_),(5,_)] [(2,_),(3,_)] t3 t2 (V1 ?_))))
  refine exl (α:=Nat) (fun k=>[(5,vi (k:Int))]) (fun k=>[]) (fun k=>k≤ws.length∧∀ i,i<k→ws.getD i 0=vs.getD i 0) (fun k=>ws.length - k) (0) (sl:=[(2,_),(3,_)]) (hb:=[(2,_),(3,_)]) ?_ ⟨oR,rfl,rfl,trivial⟩ t2 ?_
  ·exact ⟨Nat.zero_le _,fun i h=>absurd h (Nat.not_lt_zero i)⟩
  intro k hk
  obtain ⟨hk,hw⟩:=hk
  refine R1 (exr (mV L rfl (sw (i2 un45 rfl sz43 dC rX L) t1 t1 ?_)))
  refine sw (Y1 ag43 rF rF L) t1 t1 ?_
  refine sw (R2 un43 L) t1 t0 (sw (P3 L) t2 t0 (zn [(2,_),(3,_),(5,_),(24,_)] [(2,_),(3,_)] t4 t2 ?_))
  refine j2 rfl (fun hc=>?_) (fun hc=>?_)
  ·have hc:=dt hc
   have hk2:k<ws.length:=by omega
   have hk3:k<vs.length:=by omega
   refine U1 (xq ?_)
   refine R1 (V1 (exd rF ?_))
   refine sw (i2 un45 rfl sz43 dC rX L) t1 t1 ?_
   refine sw (Y1 ag43 rF rF L) t1 t1 ?_
   refine mV L rfl (sw (ixJ un43 sz119 (j:=k) rO oM sM L) t2 t0 ?_)
   refine sw (d4 ag119 (b6 hk2) L) t1 t0 (sw (i2 un45 rfl sz43 dC rX L) t1 t1 ?_)
   refine sw (Y1 ag43 rF rF L) t1 t1 ?_
   refine mV L rfl (sw (ixJ un43 sz119 (j:=k) rO oM sM L) t2 t0 ?_)
   refine sw (d4 ag119 (b6 hk3) L) t1 t0 (sw (c_n L) t2 t0 ?_)
   refine O1 ⟨d5 [⟨[2],[2],[27],[]⟩,⟨[27],[2],[28],[]⟩,⟨[5],[],[29],[]⟩,⟨[28,29],[],[30],[]⟩,⟨[30],[],[31],[]⟩,⟨[3],[3],[32],[]⟩,⟨[32],[3],[33],[]⟩,⟨[5],[],[34],[]⟩,⟨[33,34],[],[35],[]⟩,⟨[35],[],[36],[]⟩,⟨[31,36],[],[37],[]⟩] rF rF dC,[(2,_),(3,_),(5,_),(37,_)],[(2,_),(3,_)],t4,t2,?_⟩
   refine j2 rfl (fun he=>?_) (fun he=>?_)
   ·have he:=dnt he
    refine exr (aV L rfl (zn [(4,_)] [] t1 trivial (X1 ?_)))
    refine Q0 (.tmp rfl) ?_
    rw [decide_eq_false (fun h=>he (by rw [h.2]))]
   ·have he:=dnf he
    refine U1 (xq ?_)
    refine j3 (mV L rfl (sw (B3 L (w64 oM oM)) t2 t0 (aV L rfl (O1 ?_))))
    exact ⟨k+1,⟨by omega,Q0a hw he⟩,by omega,l3 ⟨oR,rfl,rfl,trivial⟩ t2⟩
  ·have hc:=df hc
   refine G2 (xq ?_)
   refine exr (aV L rfl (zn [(4,_)] [] t1 trivial (X1 ?_)))
   refine Q0 (.tmp rfl) ?_
   rw [decide_eq_true (⟨rfl,y1d hl (fun i hi=>hw i oM)⟩:m=m∧ws=vs)]
deriving instance DecidableEq for RQ
theorem M0a {α:Type}{d:α}{u v:List α}(hl:u.length=v.length)(h:∀ k,k<u.length→u.getD k d=v.getD k d):u=v:=by
 refine List.ext_getElem hl fun i h1 h2=>?_
 have:=h i h1
 simpa [f0,h1,h2] using this
theorem B0a (a b:RQ)(ha:a.sm)(hb:b.sm):v3 E 33 [.agg (cR a),.agg (cR b)] (bZ (decide (a=b))):=by
 refine D2 (xs:=[bZ (decide (a=b))]) Tryz.func33 rfl Tryz.ntmps33 Tryz.results33 sM fun F hG hX0 hnt hdf P0=>?_
 obtain ⟨L,hX,hN⟩:=pro hnt hX0 hG
 have e:(a=b)=((a.m=b.m∧a.ws=b.ws)∧(a.n=b.n∧a.vs=b.vs)):=by
  cases a; cases b; simp only [RQ.mk.injEq,and_assoc]
 refine exr (swb (U3 (k:=2) (n:=4) pa4 rfl rfl (P0 _ rfl) L) t1 t0 ⟨rfl,rfl⟩ (swb (U3 (k:=3) (n:=4) pa4 rfl rfl (P0 _ rfl) L) t1 t0 ⟨rfl,rfl⟩ (aV L rfl (zn [(2,_),(3,_)] [(2,_),(3,_)] t2 t2 ?_))))
 refine exm (sl:=[(4,vb (decide (a=b)))]) (sl0:=[]) (hb:=[]) (hb0:=[]) t0 t0 ?_ ?_
 ·by_cases h:a.m=b.m∧a.ws=b.ws
  ·refine sw (i2 un47 rfl sz45 dC rX L) t1 t1 ?_
   refine lp2 ag45 sz45 L rfl rfl (sw (i2 un47 rfl sz45 dC rX L) t1 t1 ?_)
   refine lp2 ag45 sz45 L rfl rfl (cK hG hX cl74 hN (j0a a.m b.m a.ws b.ws ha.2.1 hb.2.1) L t2 (mV L rfl (swg (g:=10) rfl (by rw [decide_eq_true h] <;> rfl) (i2 un47 rfl sz45 dC rX L) rfl t1 t1 ?_)))
   refine swg (g:=10) rfl (by rw [decide_eq_true h] <;> rfl) (R6 ag45 sz45 rF (by exact al2) rfl L) rfl t1 t1 ?_
   refine swg (g:=10) rfl (by rw [decide_eq_true h] <;> rfl) (i2 un47 rfl sz45 dC rX L) rfl t1 t1 ?_
   refine swg (g:=10) rfl (by rw [decide_eq_true h] <;> rfl) (R6 ag45 sz45 rF (by exact al2) rfl L) rfl t1 t1 ?_
   refine swg (g:=10) rfl (by rw [decide_eq_true h] <;> rfl) (c_c hG hX cl74 rfl hN (j0a a.n b.n a.vs b.vs ha.2.2 hb.2.2) L) rfl t2 t0 ?_
   refine sw (O4 (by rw [decide_eq_true h] <;> rfl) L) t2 t0 ?_
   refine aV L rfl ?_
   exact O1 ⟨⟨ob rfl (by simp only [e,h,true_and,and_self]),trivial⟩,trivial⟩
  ·refine sw (i2 un47 rfl sz45 dC rX L) t1 t1 ?_
   refine lp2 ag45 sz45 L rfl rfl (sw (i2 un47 rfl sz45 dC rX L) t1 t1 ?_)
   refine lp2 ag45 sz45 L rfl rfl (cK hG hX cl74 hN (j0a a.m b.m a.ws b.ws ha.2.1 hb.2.1) L t2 (mV L rfl (swn (g:=10) rfl (by rw [decide_eq_false h] <;> rfl) L rfl ?_)))
   refine swn (g:=10) rfl (by rw [decide_eq_false h] <;> rfl) L rfl ?_
   refine swn (g:=10) rfl (by rw [decide_eq_false h] <;> rfl) L rfl ?_
   refine swn (g:=10) rfl (by rw [decide_eq_false h] <;> rfl) L rfl ?_
   refine swn (g:=10) rfl (by rw [decide_eq_false h] <;> rfl) L rfl ?_
   refine sw (y4 (by rw [decide_eq_false h] <;> rfl) L) t2 t0 ?_
   refine aV L rfl ?_
   exact O1 ⟨⟨ob rfl (by simp only [e,h,false_and,decide_false]),trivial⟩,trivial⟩
 refine X1 ?_
 refine Q0 (.tmp rfl) ?_
 rfl
theorem y0p (u v:List RQ)(hu:u.length<1000000000)(su:∀ r∈u,r.sm)(sv:∀ r∈v,r.sm):v3 E 29 [pVR u,pVR v] (bZ (decide (u=v))):=by
 refine D2 (xs:=[bZ (decide (u=v))]) Tryz.func29 rfl Tryz.ntmps29 Tryz.results29 sM fun F hG hX0 hnt hdf P0=>?_
 obtain ⟨L,hX,hN⟩:=pro hnt hX0 hG
 refine exr (aV L rfl (zn [(0,_),(1,_)] [] t2 trivial (R1 (exr (mV L rfl (sw (R2 un40 L) t1 t0 (mV L rfl (sw (R2 un40 L) t1 t0 (sw (c_n L) t2 t0 (zn [(0,_),(1,_),(10,_)] [] t3 trivial ?_))))))))))
 refine j2 rfl (fun hc=>?_) (fun hc=>?_)
 ·have hc:=dnt hc
  refine exr (aV L rfl (zn [(4,_)] [] t1 trivial (X1 ?_)))
  refine Q0 (.tmp rfl) ?_
  rw [decide_eq_false (fun h=>hc (by rw [h]))]
 ·have hc:=dnf hc
  have hl:u.length=v.length:=by omega
  refine U1 (xq ?_)
  refine R1 (exr (aV L rfl (zn [(0,_),(1,_),(5,_)] [] t3 trivial (V1 ?_))))
  refine exl (α:=Nat) (fun k=>[(5,vi (k:Int))]) (fun k=>[]) (fun k=>k≤u.length∧∀ i,i<k→u.getD i default=v.getD i default) (fun k=>u.length - k) (0) (sl:=[(0,_),(1,_)]) (hb:=[]) ?_ ⟨oR,rfl,rfl,trivial⟩ t0 ?_
  ·exact ⟨Nat.zero_le _,fun i h=>absurd h (Nat.not_lt_zero i)⟩
  intro k hk
  obtain ⟨hk,hw⟩:=hk
  refine R1 (exr (mV L rfl (mV L rfl (sw (R2 un40 L) t1 t0 (sw (P3 L) t2 t0 (zn [(0,_),(1,_),(5,_),(14,_)] [] t4 trivial ?_))))))
  refine j2 rfl (fun hc=>?_) (fun hc=>?_)
  ·have hc:=dt hc
   have hk2:k<u.length:=by omega
   have hk3:k<v.length:=by omega
   refine U1 (xq ?_)
   refine R1 (V1 (exd rF ?_))
   refine mV L rfl (mV L rfl (sw (Z1 un40 sz47 oM oM sM dC L) t2 t0 ?_))
   refine sw (L6 ag47 sz47 (n1c hk2) rfl L) t1 t0 (mV L rfl (mV L rfl (sw (Z1 un40 sz47 oM oM sM dC L) t2 t0 ?_)))
   refine sw (L6 ag47 sz47 (n1c hk3) rfl L) t1 t0 (cK hG hX cl33 hN (B0a _ _ (su _ (gD hk2)) (sv _ (gD hk3))) L t2 (sw (C4 L) t1 t0 ?_))
   refine O1 ⟨d5 [⟨[0],[],[17],[]⟩,⟨[5],[],[18],[]⟩,⟨[17,18],[],[19],[]⟩,⟨[19],[],[20],[]⟩,⟨[1],[],[21],[]⟩,⟨[5],[],[22],[]⟩,⟨[21,22],[],[23],[]⟩,⟨[23],[],[24],[]⟩,⟨[20,24],[],[25],[]⟩,⟨[25],[],[26],[]⟩] rF rF dC,[(0,_),(1,_),(5,_),(26,_)],[],t4,trivial,?_⟩
   refine j2 rfl (fun he=>?_) (fun he=>?_)
   ·have he:=dnt he
    refine exr (aV L rfl (zn [(4,_)] [] t1 trivial (X1 ?_)))
    refine Q0 (.tmp rfl) ?_
    rw [decide_eq_false (fun h=>he (by rw [h]))]
   ·have he:=dnf he
    refine U1 (xq ?_)
    refine j3 (mV L rfl (sw (B3 L (w64 oM oM)) t2 t0 (aV L rfl (O1 ?_))))
    exact ⟨k+1,⟨by omega,Q0a hw he⟩,by omega,l3 ⟨oR,rfl,rfl,trivial⟩ trivial⟩
  ·have hc:=df hc
   refine G2 (xq ?_)
   refine exr (aV L rfl (zn [(4,_)] [] t1 trivial (X1 ?_)))
   refine Q0 (.tmp rfl) ?_
   rw [decide_eq_true (M0a hl (fun i hi=>hw i oM))]
theorem y0y (u v:List (List RQ))(hu:MSm u)(hv:MSm v):v3 E 19 [.sl u.length (b0f u),.sl v.length (b0f v)] (bZ (decide (u=v))):=by
 refine D2 (xs:=[bZ (decide (u=v))]) Tryz.func19 rfl Tryz.ntmps19 Tryz.results19 sM fun F hG hX0 hnt hdf P0=>?_
 obtain ⟨L,hX,hN⟩:=pro hnt hX0 hG
 have hul:=hu.1
 have hvl:=hv.1
 refine exr (aV L rfl (zn [(0,_),(1,_)] [] t2 trivial (R1 (exr (mV L rfl (sw (R2 un22 L) t1 t0 (mV L rfl (sw (R2 un22 L) t1 t0 (sw (c_n L) t2 t0 (zn [(0,_),(1,_),(10,_)] [] t3 trivial ?_))))))))))
 refine j2 rfl (fun hc=>?_) (fun hc=>?_)
 ·have hc:=dnt hc
  refine exr (aV L rfl (zn [(4,_)] [] t1 trivial (X1 ?_)))
  refine Q0 (.tmp rfl) ?_
  rw [decide_eq_false (fun h=>hc (by rw [h]))]
 ·have hc:=dnf hc
  have hl:u.length=v.length:=by omega
  refine U1 (xq ?_)
  refine R1 (exr (aV L rfl (zn [(0,_),(1,_),(5,_)] [] t3 trivial (V1 ?_))))
  refine exl (α:=Nat) (fun k=>[(5,vi (k:Int))]) (fun k=>[]) (fun k=>k≤u.length∧∀ i,i<k→u.getD i []=v.getD i []) (fun k=>u.length - k) (0) (sl:=[(0,_),(1,_)]) (hb:=[]) ?_ ⟨oR,rfl,rfl,trivial⟩ t0 ?_
  ·exact ⟨Nat.zero_le _,fun i h=>absurd h (Nat.not_lt_zero i)⟩
  intro k hk
  obtain ⟨hk,hw⟩:=hk
  refine R1 (exr (mV L rfl (mV L rfl (sw (R2 un22 L) t1 t0 (sw (P3 L) t2 t0 (zn [(0,_),(1,_),(5,_),(14,_)] [] t4 trivial ?_))))))
  refine j2 rfl (fun hc=>?_) (fun hc=>?_)
  ·have hc:=dt hc
   have hk2:k<u.length:=by omega
   have hk3:k<v.length:=by omega
   have m1:=hu.2 _ (gDL hk2)
   have m2:=hv.2 _ (gDL hk3)
   refine U1 (xq ?_)
   refine R1 (V1 (exd rF ?_))
   refine mV L rfl (mV L rfl (sw (ixJ un22 sz40 (j:=k) rO oM sM L) t2 t0 ?_))
   refine sw (d4 ag40 (d0h hk2) L) t1 t0 (mV L rfl (mV L rfl (sw (ixJ un22 sz40 (j:=k) rO oM sM L) t2 t0 ?_)))
   refine sw (d4 ag40 (d0h hk3) L) t1 t0 (cK hG hX cl29 hN (y0p _ _ m1.1 m1.2 m2.2) L t2 (sw (C4 L) t1 t0 ?_))
   refine O1 ⟨d5 [⟨[0],[],[17],[]⟩,⟨[5],[],[18],[]⟩,⟨[17,18],[],[19],[]⟩,⟨[19],[],[20],[]⟩,⟨[1],[],[21],[]⟩,⟨[5],[],[22],[]⟩,⟨[21,22],[],[23],[]⟩,⟨[23],[],[24],[]⟩,⟨[20,24],[],[25],[]⟩,⟨[25],[],[26],[]⟩] rF rF dC,[(0,_),(1,_),(5,_),(26,_)],[],t4,trivial,?_⟩
   refine j2 rfl (fun he=>?_) (fun he=>?_)
   ·have he:=dnt he
    refine exr (aV L rfl (zn [(4,_)] [] t1 trivial (X1 ?_)))
    refine Q0 (.tmp rfl) ?_
    rw [decide_eq_false (fun h=>he (by rw [h]))]
   ·have he:=dnf he
    refine U1 (xq ?_)
    refine j3 (mV L rfl (sw (B3 L (w64 oM oM)) t2 t0 (aV L rfl (O1 ?_))))
    exact ⟨k+1,⟨by omega,Q0a hw he⟩,by omega,l3 ⟨oR,rfl,rfl,trivial⟩ trivial⟩
  ·have hc:=df hc
   refine G2 (xq ?_)
   refine exr (aV L rfl (zn [(4,_)] [] t1 trivial (X1 ?_)))
   refine Q0 (.tmp rfl) ?_
   rw [decide_eq_true (M0a hl (fun i hi=>hw i oM))]
theorem b1b (c d:Int)(u v:List (List RQ))(hu:MSm u)(hv:MSm v):v3 E 17 [pMR c u,pMR d v] (bZ (decide (c=d∧u=v))):=by
 refine D2 (xs:=[bZ (decide (c=d∧u=v))]) Tryz.func17 rfl Tryz.ntmps17 Tryz.results17 sM fun F hG hX0 hnt hdf P0=>?_
 obtain ⟨L,hX,hN⟩:=pro hnt hX0 hG
 refine exr (swb (U3 (k:=2) (n:=2) pa2 rfl rfl (P0 _ rfl) L) t1 t0 ⟨rfl,rfl⟩ (swb (U3 (k:=3) (n:=2) pa2 rfl rfl (P0 _ rfl) L) t1 t0 ⟨rfl,rfl⟩ (aV L rfl (zn [(2,_),(3,_)] [(2,_),(3,_)] t2 t2 ?_))))
 refine exm (sl:=[(4,vb (decide (c=d∧u=v)))]) (sl0:=[]) (hb:=[]) (hb0:=[]) t0 t0 ?_ ?_
 ·by_cases h:c=d
  ·refine sw (i2 un24 rfl sz3 dC rX L) t1 t1 ?_
   refine sw (Y1 ag3 rF rF L) t1 t1 ?_
   refine sw (i2 un24 rfl sz3 dC rX L) t1 t1 ?_
   refine sw (Y1 ag3 rF rF L) t1 t1 ?_
   refine sw (c_e L) t2 t0 (mV L rfl (swg (g:=10) rfl (by simp [h]) (i2 un24 rfl sz22 dC rX L) rfl t1 t1 ?_))
   refine swg (g:=10) rfl (by simp [h]) (Y1 ag22 rF rF L) rfl t1 t1 ?_
   refine swg (g:=10) rfl (by simp [h]) (i2 un24 rfl sz22 dC rX L) rfl t1 t1 ?_
   refine swg (g:=10) rfl (by simp [h]) (Y1 ag22 rF rF L) rfl t1 t1 ?_
   refine swg (g:=10) rfl (by simp [h]) (c_c hG hX cl19 rfl hN (y0y u v hu hv) L) rfl t2 t0 ?_
   refine sw (O4 (by simp [h]) L) t2 t0 ?_
   refine aV L rfl ?_
   exact O1 ⟨⟨ob rfl (by simp only [h,true_and]),trivial⟩,trivial⟩
  ·refine sw (i2 un24 rfl sz3 dC rX L) t1 t1 ?_
   refine sw (Y1 ag3 rF rF L) t1 t1 ?_
   refine sw (i2 un24 rfl sz3 dC rX L) t1 t1 ?_
   refine sw (Y1 ag3 rF rF L) t1 t1 ?_
   refine sw (c_e L) t2 t0 (mV L rfl (swn (g:=10) rfl (by rw [decide_eq_false h] <;> rfl) L rfl ?_))
   refine swn (g:=10) rfl (by rw [decide_eq_false h] <;> rfl) L rfl ?_
   refine swn (g:=10) rfl (by rw [decide_eq_false h] <;> rfl) L rfl ?_
   refine swn (g:=10) rfl (by rw [decide_eq_false h] <;> rfl) L rfl ?_
   refine swn (g:=10) rfl (by rw [decide_eq_false h] <;> rfl) L rfl ?_
   refine sw (y4 (by rw [decide_eq_false h] <;> rfl) L) t2 t0 ?_
   refine aV L rfl ?_
   exact O1 ⟨⟨ob rfl (by simp only [h,false_and,decide_false]),trivial⟩,trivial⟩
 refine X1 ?_
 refine Q0 (.tmp rfl) ?_
 rfl
theorem j0r {α:Type}{p:α→Bool}{v:List α}{k:Nat}{d:α}(h:k<v.length)(h1:(v.take k).all p=true)(h2:p (v.getD k d)=true):(v.take (k+1)).all p=true:=by
 rw [I1,List.all_append,h1]
 simpa [f0,h] using h2
theorem g1q {α:Type}{p:α→Bool}{v:List α}{a:α}(h:a∈v)(h2:p a=false):v.all p=false:=by
 rw [Bool.eq_false_iff]; intro hh
 rw [s0] at hh
 rw [hh a h] at h2; cases h2
theorem k0p (v:List RQ)(hl:v.length<1000000000)(hs:∀ r∈v,r.sm):v3 E 27 [pVR v] (bZ (v.all RQ.is)):=by
 refine D2 (xs:=[bZ (v.all RQ.is)]) Tryz.func27 rfl Tryz.ntmps27 Tryz.results27 sM fun F hG hX0 hnt hdf P0=>?_
 obtain ⟨L,hX,hN⟩:=pro hnt hX0 hG
 refine exr (aV L rfl (zn [(0,_)] [] t1 trivial (R1 (exr (aV L rfl (zn [(0,_),(3,_)] [] t2 trivial (V1 ?_)))))))
 refine exl (α:=Nat) (fun k=>[(3,vi (k:Int))]) (fun k=>[]) (fun k=>k≤v.length∧(v.take k).all RQ.is=true) (fun k=>v.length - k) (0) (sl:=[(0,_)]) (hb:=[]) ?_ ⟨oR,rfl,trivial⟩ t0 ?_
 ·exact ⟨Nat.zero_le _,rfl⟩
 intro k hk
 obtain ⟨hk,hw⟩:=hk
 refine R1 (exr (mV L rfl (mV L rfl (sw (R2 un40 L) t1 t0 (sw (P3 L) t2 t0 (zn [(0,_),(3,_),(7,_)] [] t3 trivial ?_))))))
 refine j2 rfl (fun hc=>?_) (fun hc=>?_)
 ·have hc:=dt hc
  have hk2:k<v.length:=by omega
  have hr:=hs _ (gD hk2)
  refine U1 (xq ?_)
  refine R1 (V1 (exr (mV L rfl (mV L rfl (sw (Z1 un40 sz47 oM oM sM dC L) t2 t0 ?_)))))
  refine sw (L6 ag47 sz47 (n1c hk2) rfl L) t1 t0 (cK hG hX cl36 hN (n1p hr.1 hr.2.1 hr.2.2) L t1 (sw (C4 L) t1 t0 (zn [(0,_),(3,_),(15,_)] [] t3 trivial ?_)))
  refine j2 rfl (fun he=>?_) (fun he=>?_)
  ·have he:(v.getD k default).is=false:=by simpa using he
   refine exr (aV L rfl (zn [(2,_)] [] t1 trivial (X1 ?_)))
   refine Q0 (.tmp rfl) ?_
   rw [g1q (gD hk2) he]
  ·have he:(v.getD k default).is=true:=by simpa using he
   refine U1 (xq ?_)
   refine j3 (mV L rfl (sw (B3 L (w64 oM oM)) t2 t0 (aV L rfl (O1 ?_))))
   exact ⟨k+1,⟨by omega,j0r hk2 hw he⟩,by omega,l3 ⟨oR,rfl,trivial⟩ trivial⟩
 ·have hc:=df hc
  refine G2 (xq ?_)
  refine exr (aV L rfl (zn [(2,_)] [] t1 trivial (X1 ?_)))
  refine Q0 (.tmp rfl) ?_
  rw [show k=v.length by omega,I0] at hw; rw [hw]
theorem v1n (c:Int)(m:List (List RQ))(hm:MSm m):v3 E 15 [pMR c m] (bZ (isM c m)):=by
 refine D2 (xs:=[bZ (isM c m)]) Tryz.func15 rfl Tryz.ntmps15 Tryz.results15 sM fun F hG hX0 hnt hdf P0=>?_
 obtain ⟨L,hX,hN⟩:=pro hnt hX0 hG
 have hl:=hm.1
 refine exr (swb (U3 (k:=1) (n:=2) pa2 rfl rfl (P0 _ rfl) L) t1 t0 ⟨rfl,rfl⟩ (aV L rfl (zn [(1,_)] [(1,_)] t1 t1 (R1 ?_))))
 refine exm (sl:=[(17,vb (!decide (m.length≤400∧0≤c∧c≤60)))]) (sl0:=[(1,_)]) (hb:=[]) (hb0:=[(1,_)]) t1 t1 ?_ ?_
 ·rcases (by omega:c<0∨0≤c∧60<c∨0≤c∧c≤60) with h | h | h
  ·refine sw (i2 un24 rfl sz3 dC rX L) t1 t1 ?_
   refine sw (Y1 ag3 rF rF L) t1 t1 ?_
   refine sw (P3 L) t2 t0 (mV L rfl (swn (g:=7) rfl sO L rfl (swn (g:=7) rfl sO L rfl (swn (g:=7) rfl sO L rfl (sw (O4 sO L) t2 t0 (mV L rfl (swn (g:=12) rfl rfl L rfl (swn (g:=12) rfl rfl L rfl (swn (g:=12) rfl rfl L rfl (swn (g:=12) rfl rfl L rfl (sw (O4 rfl L) t2 t0 ?_)))))))))))
   exact O1 ⟨⟨ob rfl sO,rfl,trivial⟩,t1⟩
  ·refine sw (i2 un24 rfl sz3 dC rX L) t1 t1 ?_
   refine sw (Y1 ag3 rF rF L) t1 t1 ?_
   refine sw (P3 L) t2 t0 (mV L rfl (swg (g:=7) rfl sO (i2 un24 rfl sz3 dC rX L) rfl t1 t1 ?_))
   refine swg (g:=7) rfl sO (Y1 ag3 rF rF L) rfl t1 t1 ?_
   refine swg (g:=7) rfl sO (i7 L) rfl t2 t0 (sw (y4 sO L) t2 t0 (mV L rfl (swn (g:=12) rfl sO L rfl (swn (g:=12) rfl sO L rfl (swn (g:=12) rfl sO L rfl (swn (g:=12) rfl sO L rfl (sw (O4 sO L) t2 t0 ?_)))))))
   exact O1 ⟨⟨ob rfl sO,rfl,trivial⟩,t1⟩
  ·refine sw (i2 un24 rfl sz3 dC rX L) t1 t1 ?_
   refine sw (Y1 ag3 rF rF L) t1 t1 ?_
   refine sw (P3 L) t2 t0 (mV L rfl (swg (g:=7) rfl sO (i2 un24 rfl sz3 dC rX L) rfl t1 t1 ?_))
   refine swg (g:=7) rfl sO (Y1 ag3 rF rF L) rfl t1 t1 ?_
   refine swg (g:=7) rfl sO (i7 L) rfl t2 t0 (sw (y4 sO L) t2 t0 (mV L rfl (swg (g:=12) rfl sO (i2 un24 rfl sz22 dC rX L) rfl t1 t1 ?_)))
   refine swg (g:=12) rfl sO (Y1 ag22 rF rF L) rfl t1 t1 ?_
   refine swg (g:=12) rfl sO (R2 un22 L) rfl t1 t0 (swg (g:=12) rfl sO (i7 L) rfl t2 t0 (sw (y4 sO L) t2 t0 ?_))
   exact O1 ⟨⟨ob rfl (by rw [Bool.eq_iff_iff]; simp; omega),rfl,trivial⟩,t1⟩
 refine j2 rfl (fun hc=>?_) (fun hc=>?_)
 ·refine exr (aV L rfl (zn [(2,_)] [] t1 trivial (X1 ?_)))
  refine Q0 (.tmp rfl) ?_
  simp only [isM]; rw [show decide (m.length≤400∧0≤c∧c≤60)=false by simpa only [Bool.not_eq_true'] using hc]; rfl
 ·have hd:decide (m.length≤400∧0≤c∧c≤60)=true:=by simpa only [Bool.not_eq_false'] using hc
  refine U1 (xq ?_)
  refine R1 (exr (aV L rfl (zn [(1,_),(3,_)] [(1,_)] t2 t1 (V1 ?_))))
  refine exl (α:=Nat) (fun k=>[(3,vi (k:Int))]) (fun k=>[]) (fun k=>k≤m.length∧(m.take k).all (g0c c)=true) (fun k=>m.length - k) (0) (sl:=[(1,_)]) (hb:=[(1,_)]) ?_ ⟨oR,rfl,trivial⟩ t1 ?_
  ·exact ⟨Nat.zero_le _,rfl⟩
  intro k hk
  obtain ⟨hk,hw⟩:=hk
  refine R1 (exr (mV L rfl (sw (i2 un24 rfl sz22 dC rX L) t1 t1 ?_)))
  refine sw (Y1 ag22 rF rF L) t1 t1 ?_
  refine sw (R2 un22 L) t1 t0 (sw (P3 L) t2 t0 (zn [(1,_),(3,_),(22,_)] [(1,_)] t3 t1 ?_))
  refine j2 rfl (fun hc=>?_) (fun hc=>?_)
  ·have hc:=dt hc
   have hk2:k<m.length:=by omega
   have hr:=hm.2 _ (gDL hk2)
   refine U1 (xq ?_)
   refine R1 (V1 ?_)
   refine b2p (sl:=[(42,vb (!g0c c (m.getD k [])))]) (sl0:=[(1,_),(3,_)]) (hb:=[]) (hb0:=[(1,_)]) rF t2 t1 ?_ ?_
   ·by_cases h:((m.getD k []).length:Int)=c
    ·refine sw (i2 un24 rfl sz22 dC rX L) t1 t1 ?_
     refine sw (Y1 ag22 rF rF L) t1 t1 ?_
     refine mV L rfl (sw (ixJ un22 sz40 (j:=k) rO oM sM L) t2 t0 ?_)
     refine sw (d4 ag40 (d0h hk2) L) t1 t0 (sw (R2 un40 L) t1 t0 (sw (i2 un24 rfl sz3 dC rX L) t1 t1 ?_))
     refine sw (Y1 ag3 rF rF L) t1 t1 ?_
     refine sw (c_n L) t2 t0 (mV L rfl (swg (g:=34) rfl (by rw [h]; simp) (i2 un24 rfl sz22 dC rX L) rfl t1 t1 ?_))
     refine swg (g:=34) rfl (by rw [h]; simp) (Y1 ag22 rF rF L) rfl t1 t1 ?_
     refine gV (g:=34) rfl (by rw [h]; simp) L rfl rfl ?_
     refine swg (g:=34) rfl (by rw [h]; simp) (ixJ un22 sz40 (j:=k) rO oM sM L) rfl t2 t0 ?_
     refine swg (g:=34) rfl (by rw [h]; simp) (d4 ag40 (d0h hk2) L) rfl t1 t0 ?_
     refine swg (g:=34) rfl (by rw [h]; simp) (c_c hG hX cl27 rfl hN (k0p (m.getD k []) hr.1 hr.2) L) rfl t1 t0 ?_
     refine swg (g:=34) rfl (by rw [h]; simp) (C4 L) rfl t1 t0 ?_
     refine sw (y4 (by rw [h]; simp) L) t2 t0 ?_
     exact O1 ⟨d5 [⟨[1],[1],[25],[]⟩,⟨[25],[1],[26],[]⟩,⟨[3],[],[27],[]⟩,⟨[26,27],[],[28],[]⟩,⟨[28],[],[29],[]⟩,⟨[29],[],[30],[]⟩,⟨[1],[1],[31],[]⟩,⟨[31],[1],[32],[]⟩,⟨[30,32],[],[33],[]⟩,⟨[33],[],[34],[]⟩,⟨[34,1],[1],[35],[]⟩,⟨[34,35],[1],[36],[]⟩,⟨[34,3],[],[37],[]⟩,⟨[34,36,37],[],[38],[]⟩,⟨[34,38],[],[39],[]⟩,⟨[34,39],[],[40],[]⟩,⟨[34,40],[],[41],[]⟩,⟨[34,41],[],[42],[]⟩] rF rF dC,⟨ob rfl (by rw [g0c,h]; simp),rfl,rfl,trivial⟩,t1⟩
    ·refine sw (i2 un24 rfl sz22 dC rX L) t1 t1 ?_
     refine sw (Y1 ag22 rF rF L) t1 t1 ?_
     refine mV L rfl (sw (ixJ un22 sz40 (j:=k) rO oM sM L) t2 t0 ?_)
     refine sw (d4 ag40 (d0h hk2) L) t1 t0 (sw (R2 un40 L) t1 t0 (sw (i2 un24 rfl sz3 dC rX L) t1 t1 ?_))
     refine sw (Y1 ag3 rF rF L) t1 t1 ?_
     refine sw (c_n L) t2 t0 (mV L rfl (swn (g:=34) rfl (by rw [decide_eq_false h] <;> rfl) L rfl ?_))
     refine swn (g:=34) rfl (by rw [decide_eq_false h] <;> rfl) L rfl ?_
     refine swn (g:=34) rfl (by rw [decide_eq_false h] <;> rfl) L rfl ?_
     refine swn (g:=34) rfl (by rw [decide_eq_false h] <;> rfl) L rfl ?_
     refine swn (g:=34) rfl (by rw [decide_eq_false h] <;> rfl) L rfl ?_
     refine swn (g:=34) rfl (by rw [decide_eq_false h] <;> rfl) L rfl ?_
     refine swn (g:=34) rfl (by rw [decide_eq_false h] <;> rfl) L rfl ?_
     refine sw (O4 (by rw [decide_eq_false h] <;> rfl) L) t2 t0 ?_
     exact O1 ⟨d5 [⟨[1],[1],[25],[]⟩,⟨[25],[1],[26],[]⟩,⟨[3],[],[27],[]⟩,⟨[26,27],[],[28],[]⟩,⟨[28],[],[29],[]⟩,⟨[29],[],[30],[]⟩,⟨[1],[1],[31],[]⟩,⟨[31],[1],[32],[]⟩,⟨[30,32],[],[33],[]⟩,⟨[33],[],[34],[]⟩,⟨[34],[],[35],[]⟩,⟨[34],[],[36],[]⟩,⟨[34],[],[37],[]⟩,⟨[34],[],[38],[]⟩,⟨[34],[],[39],[]⟩,⟨[34],[],[40],[]⟩,⟨[34],[],[41],[]⟩,⟨[34],[],[42],[]⟩] rF rF dC,⟨ob rfl (by rw [g0c,decide_eq_false h]; rfl),rfl,rfl,trivial⟩,t1⟩
   refine j2 rfl (fun he=>?_) (fun he=>?_)
   ·have he:g0c c (m.getD k [])=false:=by simpa using he
    refine exr (aV L rfl (zn [(2,_)] [] t1 trivial (X1 ?_)))
    refine Q0 (.tmp rfl) ?_
    rw [isM,hd,g1q (gDL hk2) he]; rfl
   ·have he:g0c c (m.getD k [])=true:=by simpa using he
    refine U1 (xq ?_)
    refine j3 (mV L rfl (sw (B3 L (w64 oM oM)) t2 t0 (aV L rfl (O1 ?_))))
    exact ⟨k+1,⟨by omega,j0r hk2 hw he⟩,by omega,l3 ⟨oR,rfl,trivial⟩ t1⟩
  ·have hc:=df hc
   refine G2 (xq ?_)
   refine exr (aV L rfl (zn [(2,_)] [] t1 trivial (X1 ?_)))
   refine Q0 (.tmp rfl) ?_
   rw [show k=m.length by omega,I0] at hw; rw [isM,hd,hw]; rfl
def dtF (u v:List Rat)(k:Nat):Rat:=H8 ((List.zipWith (· * ·) u v).take k)
theorem H1r {u v:List Rat}{k:Nat}(h:k<u.length)(hv:u.length=v.length):(List.zipWith (· * ·) u v).getD k 0=u.getD k 0*v.getD k 0:=by
 have h2:k<v.length:=by omega
 simp [f0,List.getElem?_zipWith,h,h2]
theorem W0f {u v:List Rat}{k:Nat}(h:k<u.length)(hv:u.length=v.length):dtF u v (k+1)=dtF u v k+u.getD k 0*v.getD k 0:=by
 rw [dtF,N0c sO,H1r h hv]; rfl
theorem K1q {B C:Nat}{u v:List Rat}(hB:∀ a∈u,qw a≤B)(hC:∀ a∈v,qw a≤C):∀ a∈List.zipWith (· * ·) u v,qw a≤B+C:=by
 intro a ha
 rw [← List.map_uncurry_zip_eq_zipWith] at ha
 obtain ⟨p,h1,rfl⟩:=G0.1 ha
 have h2:=List.of_mem_zip (a:=p.1) (b:=p.2) h1
 have:=d9 p.1 p.2
 have:=hB _ h2.1
 have:=hC _ h2.2
 simp only [Function.uncurry]; omega
def dtR (u v:List Rat):Rat:=H8 (List.zipWith (· * ·) u v)
theorem v0y (c:Rat):∀ v:List Rat,v.foldl (· + ·) c=c+v.foldl (· + ·) 0
 | []=>by simp [Rat.add_zero]
 | a :: v=>by
  rw [List.foldl_cons,List.foldl_cons,v0y (c+a),v0y (0+a),Rat.zero_add,Rat.add_assoc]
theorem M0r (a:Rat)(v:List Rat):H8 (a :: v)=a+H8 v:=by
 rw [H8,List.foldl_cons,v0y,Rat.zero_add]; rfl
theorem q0h:∀ u v:List Rat,O9 u v=dtR u v
 | [],_=>rfl
 | _ :: _,[]=>rfl
 | a :: u,b :: v=>by
  have ih:=q0h u v
  rw [dtR,List.zipWith_cons_cons,M0r,← dtR,← ih,O9,J0p,List.zip_cons_cons]
  by_cases h:a≠0∧b≠0
  ·rw [List.filter_cons_of_pos (by simpa using h),R0,M0r]; rfl
  ·rw [List.filter_cons_of_neg (by simpa using h)]
   have e:a*b=0:=by
    rcases Classical.em (a=0) with h1 | h1
    ·rw [h1,Rat.zero_mul]
    ·rcases Classical.em (b=0) with h2 | h2
     ·rw [h2,Rat.mul_zero]
     ·exact absurd ⟨h1,h2⟩ h
   rw [e,Rat.zero_add]; rfl
theorem P1m {B C:Nat}{u v:List Rat}{k:Nat}(hv:u.length=v.length)(hB:∀ a∈u,qw a≤B)(hC:∀ a∈v,qw a≤C):qw (dtF u v k)≤u.length*(B+C+1)+1:=by
 have:=y0v (k:=k) (K1q hB hC)
 rwa [List.length_zipWith,hv,Nat.min_self,← hv] at this
theorem N0f (u v:List Rat)(B C:Nat)(huv:u.length=v.length)(hl:u.length<1000000000)(hB:∀ a∈u,qw a≤B)(hC:∀ a∈v,qw a≤C)(hBl:B<500000000)(hCl:C<500000000)(hb:u.length*(B+C+1)+1<900000000):v3 E 63 [pV u,pV v] (pQ (O9 u v)):=by
 refine D2 (xs:=[pQ (O9 u v)]) Tryz.func63 rfl Tryz.ntmps63 Tryz.results63 sM fun F hG hX0 hnt hdf P0=>?_
 obtain ⟨L,hX,hN⟩:=pro hnt hX0 hG
 refine exr (swb (R3 (k:=4) (n:=4) zv47 (.cons rfl (.cons rfl (.cons rfl (.cons rfl .nil)))) rfl (P0 _ rfl) L) t0 t0 ⟨rfl,rfl⟩ (zn [(0,_),(1,_),(4,_)] [(4,_)] t3 t1 (exr (cK hG hX cl60 hN (n0h) L t0 (swb (R3 (k:=5) (n:=4) zv47 (.cons rfl (.cons rfl (.cons rfl (.cons rfl .nil)))) rfl (P0 _ rfl) L) t0 t0 ⟨rfl,rfl⟩ (sb (U2 sz47 rF pa4 rfl pu4) t2 t1 ?_))))))
 refine zn [(0,_),(1,_),(4,_),(5,_)] [(4,_),(5,_)] t4 t2 (R1 (exr (aV L rfl (zn [(0,_),(1,_),(4,_),(5,_),(6,_)] [(4,_),(5,_)] t5 t2 (V1 ?_)))))
 refine exl (α:=Nat) (fun k=>[(6,vi (k:Int))]) (fun k=>[(5,bQ (dtF u v k))]) (fun k=>k≤u.length) (fun k=>u.length - k) (0) (sl:=[(0,_),(1,_),(4,_),(5,_)]) (hb:=[(4,_)]) ?_ ⟨oR,rfl,rfl,rfl,rfl,trivial⟩ t2 ?_
 ·exact Nat.zero_le _
 intro k hk
 refine R1 (exr (mV L rfl (mV L rfl (sw (R2 un40 L) t1 t0 (sw (P3 L) t2 t0 (zn [(0,_),(1,_),(4,_),(5,_),(6,_),(12,_)] [(4,_),(5,_)] t6 t2 ?_))))))
 refine j2 rfl (fun hc=>?_) (fun hc=>?_)
 ·have hc:=dt hc
  have hk2:k<u.length:=by omega
  have hk3:k<v.length:=by omega
  have b1:qw (u.getD k 0)≤B:=hB _ (j4 hk2)
  have b2:qw (v.getD k 0)≤C:=hC _ (j4 hk3)
  have b3:=P1m (k:=k) huv hB hC
  have b4:=d9 (u.getD k 0) (v.getD k 0)
  refine U1 (xq ?_)
  refine R1 (V1 (exd rF ?_))
  refine mV L rfl (mV L rfl (sw (Z1 un40 sz47 oM oM sM dC L) t2 t0 ?_))
  refine sw (L6 ag47 sz47 (M6 hk2) rfl L) t1 t0 (mV L rfl (mV L rfl (sw (Z1 un40 sz47 oM oM sM dC L) t2 t0 ?_)))
  refine sw (L6 ag47 sz47 (M6 hk3) rfl L) t1 t0 (cK hG hX cl37 hN (D0y (u.getD k 0) (v.getD k 0) oM oM) L t2 (swb (R3 (k:=7) (n:=4) zv47 (.cons rfl (.cons rfl (.cons rfl (.cons rfl .nil)))) rfl (P0 _ rfl) L) t0 t0 ⟨rfl,rfl⟩ (sb (U2 sz47 rF pa4 rfl pu4) t2 t1 ?_)))
  refine O1 ⟨aok rfl rfl,[(0,_),(1,_),(4,_),(5,_),(6,_),(7,_)],[(4,_),(5,_),(7,_)],t6,t3,?_⟩
  refine j3 (lp4 ag47 sz47 L rfl rfl (lp4 ag47 sz47 L rfl rfl (cK hG hX cl76 hN (G0r (dtF u v k) (u.getD k 0*v.getD k 0) oM oM) L t2 (sb (U2 sz47 rF pa4 rfl pu4) t2 t1 ?_))))
  refine O1 (j3 (mV L rfl (sw (B3 L (w64 oM oM)) t2 t0 (aV L rfl (O1 ?_)))))
  exact ⟨k+1,oM,by omega,l3 ⟨oR,rfl,rfl,rfl,rfl,trivial⟩ ⟨obl rfl (by rw [W0f hk2 huv]),rfl,trivial⟩⟩
 ·have hc:=df hc
  refine G2 (xq ?_)
  refine exr (lp4 ag47 sz47 L rfl rfl (sb (U2 sz47 rF pa4 rfl pu4) t2 t1 ?_))
  refine zn [(4,_)] [(4,_)] t1 t1 (X1 ?_)
  refine Q0 (.agg rfl rfl rfl ag47 sz47 (.cons (.cons (.cons (.cons .nil))))) ?_
  rw [dtF,C0 sO,← dtR,← q0h]
theorem n1d (c j:Nat)(M:List (List Rat))(hl:M.length<1000000000)(hr:∀ r∈M,r.length=c)(hj:j<c)(hc:c<1000000000):v3 E 84 [pMq c M,vZ j] (pV (K6 M j)):=by
 refine D2 (xs:=[pV (K6 M j)]) Tryz.func84 rfl Tryz.ntmps84 Tryz.results84 sM fun F hG hX0 hnt hdf P0=>?_
 obtain ⟨L,hX,hN⟩:=pro hnt hX0 hG
 refine exr (swb (U3 (k:=2) (n:=2) pa2 rfl rfl (P0 _ rfl) L) t1 t0 ⟨rfl,rfl⟩ (aV L rfl (zn [(1,_),(2,_)] [(2,_)] t2 t1 (exr (sw (i2 un24 rfl sz22 dC rX L) t1 t1 ?_)))))
 refine sw (Y1 ag22 rF rF L) t1 t1 ?_
 refine sw (R2 un22 L) t1 t0 (swb (o6 (sz:=4) (k:=10) un40 ti47 rfl rfl dC rfl rfl rfl (show (0:Int)=((0:Nat):Int) from rfl) rfl (Nat.zero_le _) (by simp [Tryz.t47]; omega) oM (P0 _ rfl) L) t2 t0 ⟨rfl,rfl⟩ ?_)
 refine aV L rfl ?_
 refine O1 ⟨[(1,_),(2,_),(5,.ref 10 0 0 0)],[(2,_),(10,T3 [])],t3,t2,?_⟩
 refine R1 (exr (aV L rfl (zn [(1,_),(2,_),(5,_),(6,_)] [(2,_),(10,_)] t4 t2 (V1 ?_))))
 refine exl (α:=Nat) (fun k=>[(6,vi (k:Int)),(5,.ref 10 0 k (k*4))]) (fun k=>[(10,T3 (K6 (M.take k) j))]) (fun k=>k≤M.length) (fun k=>M.length - k) (0) (sl:=[(1,_),(2,_)]) (hb:=[(2,_)]) ?_ ⟨oR,oR,rfl,rfl,trivial⟩ t2 ?_
 ·exact Nat.zero_le _
 intro k hk
 refine R1 (exr (mV L rfl (sw (i2 un24 rfl sz22 dC rX L) t1 t1 ?_)))
 refine sw (Y1 ag22 rF rF L) t1 t1 ?_
 refine sw (R2 un22 L) t1 t0 (sw (P3 L) t2 t0 (zn [(1,_),(2,_),(5,_),(6,_),(15,_)] [(2,_),(10,_)] t5 t2 ?_))
 refine j2 rfl (fun he=>?_) (fun he=>?_)
 ·have he:=dt he
  have hk2:k<M.length:=by omega
  have hrl:=hr _ (gDL hk2)
  refine U1 (xq ?_)
  refine R1 (V1 (j3 (mV L rfl (sw (i2 un24 rfl sz22 dC rX L) t1 t1 ?_))))
  refine sw (Y1 ag22 rF rF L) t1 t1 ?_
  refine mV L rfl (sw (ixJ un22 sz40 (j:=k) rO oM sM L) t2 t0 ?_)
  refine sw (d4 ag40 (b7 hk2) L) t1 t0 (mV L rfl (sw (Z1 un40 sz47 oM oM sM dC L) t2 t0 ?_))
  refine sw (L6 ag47 sz47 (M6 (show j<(M.getD k []).length by omega)) rfl L) t1 t0 ?_
  refine sw (q4 (vs:=[_]) un40 ti47 rfl rfl dC dC rfl (K2 (.cons rfl (.cons rfl (.cons rfl (.cons rfl .nil)))) rfl) rfl (.cons rfl pa4 rfl pu4 .nil) (.cons (.cons (.cons (.cons .nil)))) L) t1 t0 (swb (apP (sz:=4) un40 un40 ti47 rfl rfl rfl dC (by exact (by first | (simp; done) | (simp; omega))) oF sM rfl rfl rfl (by first | (simp [Tryz.t47]; done) | (simp [Tryz.t47]; omega)) oM (P0 _ rfl) L) t2 t1 t0 ?_)
  refine aV L rfl (O1 (j3 (mV L rfl (sw (B3 L (w64 oM oM)) t2 t0 (aV L rfl (O1 ?_))))))
  exact ⟨k+1,oM,by omega,l3 ⟨oR,ov rfl sO,rfl,rfl,trivial⟩ ⟨obl rfl ((L9 _ _).trans (by rw [g9 hk2])),rfl,trivial⟩⟩
 ·have he:=df he
  have hkM:k=M.length:=by omega
  subst hkM
  rw [I0]
  refine G2 (xq ?_)
  refine s4 [10] (sl:=[(5,_)]) (hb:=[]) (F3 hX0) ⟨⟨_,rfl,(.ref rfl rfl (by exact (by first | (simp; done) | (simp; omega))) (by first | rfl | omega))⟩,trivial⟩ t0 ?_
  refine exr (mV L rfl (aV L rfl (zn [(4,_)] [] t1 trivial (X1 ?_))))
  refine Q0 (.tmp rfl) ?_
  simp
theorem W0m (c B C:Nat)(y:List Rat)(M:List (List Rat))(hl:M.length<1000000000)(hr:∀ r∈M,r.length=c)(hy:y.length=M.length)(hc:c<1000000000)(hB:MB B M)(hC:∀ a∈y,qw a≤C)(hBl:B<500000000)(hCl:C<500000000)(hb:M.length*(C+B+1)+1<900000000):v3 E 71 [pV y,pMq c M] (pV (f0g y M c)):=by
 refine D2 (xs:=[pV (f0g y M c)]) Tryz.func71 rfl Tryz.ntmps71 Tryz.results71 sM fun F hG hX0 hnt hdf P0=>?_
 obtain ⟨L,hX,hN⟩:=pro hnt hX0 hG
 refine exr (swb (U3 (k:=3) (n:=2) pa2 rfl rfl (P0 _ rfl) L) t1 t0 ⟨rfl,rfl⟩ (aV L rfl (zn [(0,_),(3,_)] [(3,_)] t2 t1 (exr (sw (i2 un24 rfl sz3 dC rX L) t1 t1 ?_)))))
 refine sw (Y1 ag3 rF rF L) t1 t1 ?_
 refine swb (o6 (sz:=4) (k:=9) un40 ti47 rfl rfl dC rfl rfl rfl (show (0:Int)=((0:Nat):Int) from rfl) rfl (Nat.zero_le _) (by simp [Tryz.t47]; omega) oM (P0 _ rfl) L) t2 t0 ⟨rfl,rfl⟩ ?_
 refine aV L rfl ?_
 refine O1 ⟨[(0,_),(3,_),(5,.ref 9 0 0 0)],[(3,_),(9,T3 [])],t3,t2,?_⟩
 refine R1 (exr (aV L rfl (zn [(0,_),(3,_),(5,_),(6,_)] [(3,_),(9,_)] t4 t2 (V1 ?_))))
 refine exl (α:=Nat) (fun k=>[(6,vi (k:Int)),(5,.ref 9 0 k (k*4))]) (fun k=>[(9,T3 (f0g y M k))]) (fun k=>k≤c) (fun k=>c - k) (0) (sl:=[(0,_),(3,_)]) (hb:=[(3,_)]) ?_ ⟨oR,oR,rfl,rfl,trivial⟩ t2 ?_
 ·exact Nat.zero_le _
 intro k hk
 refine R1 (exr (mV L rfl (sw (i2 un24 rfl sz3 dC rX L) t1 t1 ?_)))
 refine sw (Y1 ag3 rF rF L) t1 t1 ?_
 refine sw (P3 L) t2 t0 (zn [(0,_),(3,_),(5,_),(6,_),(13,_)] [(3,_),(9,_)] t5 t2 ?_)
 refine j2 rfl (fun he=>?_) (fun he=>?_)
 ·have he:=dt he
  have hk2:k<c:=by omega
  refine U1 (xq ?_)
  refine R1 (V1 (j3 (mV L rfl (mV L rfl (lp2 ag24 sz24 L rfl rfl (mV L rfl (cK hG hX cl84 hN (n1d c k M hl hr hk2 hc) L t2 (cK hG hX cl63 hN (N0f y (K6 M k) C B (by rw [X6]; exact hy) oM hC (p1p hB hk2 hr) hCl hBl (by rw [hy]; exact hb)) L t2 ?_))))))))
  refine sw (q4 (vs:=[_]) un40 ti47 rfl rfl dC dC rfl (K2 (.cons rfl (.cons rfl (.cons rfl (.cons rfl .nil)))) rfl) rfl (.cons rfl pa4 rfl pu4 .nil) (.cons (.cons (.cons (.cons .nil)))) L) t1 t0 (swb (apP (sz:=4) un40 un40 ti47 rfl rfl rfl dC (by exact (by first | (simp; done) | (simp; omega))) oF sM rfl rfl rfl (by first | (simp [Tryz.t47]; done) | (simp [Tryz.t47]; omega)) oM (P0 _ rfl) L) t2 t1 t0 ?_)
  refine aV L rfl (O1 (j3 (mV L rfl (sw (B3 L (w64 oM oM)) t2 t0 (aV L rfl (O1 ?_))))))
  exact ⟨k+1,oM,by omega,l3 ⟨oR,ov rfl sO,rfl,rfl,trivial⟩ ⟨obl rfl ((L9 _ _).trans (by rw [w0g])),rfl,trivial⟩⟩
 ·have he:=df he
  have hkM:k=c:=by omega
  subst hkM
  refine G2 (xq ?_)
  refine s4 [9] (sl:=[(5,_)]) (hb:=[]) (F3 hX0) ⟨⟨_,rfl,(.ref rfl rfl (by exact (by first | (simp; done) | (simp; omega))) (by first | rfl | omega))⟩,trivial⟩ t0 ?_
  refine exr (mV L rfl (aV L rfl (zn [(4,_)] [] t1 trivial (X1 ?_))))
  refine Q0 (.tmp rfl) ?_
  simp
theorem h1a {c B:Nat}{M:List (List Rat)}(h:MOk c M)(hB:MB B M)(hb:B<1000000000):v3 E 15 [pMq c M] (bZ true):=by
 have:=v1n c _ (y1a h hB hb)
 rwa [F1p h,B1s] at this
@[simp] theorem J1j {u v:List Rat}{c:Rat}(h:v.length=u.length):(D6 u v c).length=u.length:=C6 h
theorem f1f {u v:List Rat}{c:Rat}{k:Nat}(h:k<u.length)(hv:v.length=u.length):(D6 u v c).take (k+1)=(D6 u v c).take k++[u.getD k 0 - c*v.getD k 0]:=by
 have h2:k<(D6 u v c).length:=by rw [C6 hv]; exact h
 rw [I1,show (D6 u v c)[k]?.toList=[(D6 u v c).getD k 0] by simp [f0,h2],T7 hv]
theorem n0n (u v:List Rat)(c:Rat)(B C D:Nat)(hv:v.length=u.length)(hl:u.length<1000000000)(hB:∀ a∈u,qw a≤B)(hC:∀ a∈v,qw a≤C)(hD:qw c≤D)(hb:B<400000000∧C<400000000∧D<400000000):v3 E 103 [pV u,pV v,pQ c] (pV (D6 u v c)):=by
 refine D2 (xs:=[pV (D6 u v c)]) Tryz.func103 rfl Tryz.ntmps103 Tryz.results103 sM fun F hG hX0 hnt hdf P0=>?_
 obtain ⟨L,hX,hN⟩:=pro hnt hX0 hG
 obtain ⟨hb1,hb2,hb3⟩:=hb
 refine exr (swb (U3 (k:=5) (n:=4) pa4 rfl rfl (P0 _ rfl) L) t1 t0 ⟨rfl,rfl⟩ (aV L rfl (zn [(0,_),(1,_),(5,_)] [(5,_)] t3 t1 (exr (mV L rfl (sw (R2 un40 L) t1 t0 (swb (o6 (sz:=4) (k:=12) un40 ti47 rfl rfl dC rfl rfl rfl (show (0:Int)=((0:Nat):Int) from rfl) rfl (Nat.zero_le _) (by simp [Tryz.t47]; omega) oM (P0 _ rfl) L) t2 t0 ⟨rfl,rfl⟩ ?_)))))))
 refine aV L rfl ?_
 refine O1 ⟨[(0,_),(1,_),(5,_),(7,.ref 12 0 0 0)],[(5,_),(12,T3 [])],t4,t2,?_⟩
 refine R1 (exr (aV L rfl (zn [(0,_),(1,_),(5,_),(7,_),(8,_)] [(5,_),(12,_)] t5 t2 (V1 ?_))))
 refine exl (α:=Nat) (fun k=>[(8,vi (k:Int)),(7,.ref 12 0 k (k*4))]) (fun k=>[(12,T3 ((D6 u v c).take k))]) (fun k=>k≤u.length) (fun k=>u.length - k) (0) (sl:=[(0,_),(1,_),(5,_)]) (hb:=[(5,_)]) ?_ ⟨oR,oR,rfl,rfl,rfl,trivial⟩ t2 ?_
 ·exact Nat.zero_le _
 intro k hk
 refine R1 (exr (mV L rfl (mV L rfl (sw (R2 un40 L) t1 t0 (sw (P3 L) t2 t0 (zn [(0,_),(1,_),(5,_),(7,_),(8,_),(16,_)] [(5,_),(12,_)] t6 t2 ?_))))))
 refine j2 rfl (fun he=>?_) (fun he=>?_)
 ·have he:=dt he
  have hk2:k<u.length:=by omega
  have hk3:k<v.length:=by omega
  have b1:qw (u.getD k 0)≤B:=hB _ (j4 hk2)
  have b2:qw (v.getD k 0)≤C:=hC _ (j4 hk3)
  have b3:=d9 c (v.getD k 0)
  refine U1 (xq ?_)
  refine R1 (V1 (exd rF ?_))
  refine lp4 ag47 sz47 L rfl rfl (mV L rfl (mV L rfl (sw (Z1 un40 sz47 oM oM sM dC L) t2 t0 ?_)))
  refine sw (L6 ag47 sz47 (M6 hk3) rfl L) t1 t0 (cK hG hX cl37 hN (D0y c (v.getD k 0) oM oM) L t2 (swb (R3 (k:=9) (n:=4) zv47 (.cons rfl (.cons rfl (.cons rfl (.cons rfl .nil)))) rfl (P0 _ rfl) L) t0 t0 ⟨rfl,rfl⟩ (sb (U2 sz47 rF pa4 rfl pu4) t2 t1 ?_)))
  refine O1 ⟨aok rfl rfl,[(0,_),(1,_),(5,_),(7,_),(8,_),(9,_)],[(5,_),(9,_),(12,_)],t6,t3,?_⟩
  refine b0z rF ?_
  refine mV L rfl (mV L rfl (mV L rfl (sw (Z1 un40 sz47 oM oM sM dC L) t2 t0 ?_)))
  refine sw (L6 ag47 sz47 (M6 hk2) rfl L) t1 t0 (lp4 ag47 sz47 L rfl rfl (cK hG hX cl132 hN (h1x (u.getD k 0) (c*v.getD k 0) oM oM) L t2 (sw (q4 (vs:=[_]) un40 ti47 rfl rfl dC dC rfl (K2 (.cons rfl (.cons rfl (.cons rfl (.cons rfl .nil)))) rfl) rfl (.cons rfl pa4 rfl pu4 .nil) (.cons (.cons (.cons (.cons .nil)))) L) t1 t0 (swb (apP (sz:=4) un40 un40 ti47 rfl rfl rfl dC (by exact (by first | rw [Y2,J0,C6 hv,G1 hk] | rw [Y2,C6 hv])) oF sM rfl rfl rfl (by first | (simp [Tryz.t47]; done) | (simp [Tryz.t47]; omega)) oM (P0 _ rfl) L) t2 t1 t0 ?_))))
  refine aV L rfl ?_
  refine O1 ⟨d5 [⟨[7],[],[25],[]⟩,⟨[0],[],[26],[]⟩,⟨[8],[],[27],[]⟩,⟨[26,27],[],[28],[]⟩,⟨[28],[],[29],[]⟩,⟨[9],[9],[30],[]⟩,⟨[29,30],[],[31],[]⟩,⟨[31],[],[32],[]⟩,⟨[25,32],[12],[33],[12]⟩,⟨[33],[],[7],[]⟩] rF rF dC,?_⟩
  refine j3 (mV L rfl (sw (B3 L (w64 oM oM)) t2 t0 (aV L rfl (O1 ?_))))
  exact ⟨k+1,oM,by omega,l3 ⟨oR,ov rfl sO,rfl,rfl,rfl,trivial⟩ ⟨obl rfl ((L9 _ _).trans (by rw [f1f hk2 hv])),rfl,trivial⟩⟩
 ·have he:=df he
  have hkM:k=u.length:=by omega
  rw [C0 (by rw [C6 hv]; omega),hkM]
  refine G2 (xq ?_)
  refine s4 [12] (sl:=[(7,_)]) (hb:=[]) (F3 hX0) ⟨⟨_,rfl,(.ref rfl rfl (by exact (by first | rw [Y2,J0,C6 hv,G1 hk] | rw [Y2,C6 hv])) (by first | rfl | omega))⟩,trivial⟩ t0 ?_
  refine exr (mV L rfl (aV L rfl (zn [(6,_)] [] t1 trivial (X1 ?_))))
  refine Q0 (.tmp rfl) ?_
  rw [pV,C6 hv]
theorem v1h {u:List Rat}{c:Rat}{k:Nat}(h:k<u.length):(u.map (· / c)).take (k+1)=(u.map (· / c)).take k++[u.getD k 0 / c]:=by
 rw [I1]; simp [f0,h]
theorem P0f (u:List Rat)(c:Rat)(B:Nat)(hl:u.length<1000000000)(hB:∀ a∈u,qw a≤B)(hD:qw c≤B)(hb:B<400000000)(h0:c≠0):v3 E 104 [pV u,pQ c] (pV (u.map (· / c))):=by
 refine D2 (xs:=[pV (u.map (· / c))]) Tryz.func104 rfl Tryz.ntmps104 Tryz.results104 sM fun F hG hX0 hnt hdf P0=>?_
 obtain ⟨L,hX,hN⟩:=pro hnt hX0 hG
 refine exr (swb (U3 (k:=3) (n:=4) pa4 rfl rfl (P0 _ rfl) L) t1 t0 ⟨rfl,rfl⟩ (aV L rfl (zn [(0,_),(3,_)] [(3,_)] t2 t1 (exr (mV L rfl (sw (R2 un40 L) t1 t0 (swb (o6 (sz:=4) (k:=11) un40 ti47 rfl rfl dC rfl rfl rfl (show (0:Int)=((0:Nat):Int) from rfl) rfl (Nat.zero_le _) (by simp [Tryz.t47]; omega) oM (P0 _ rfl) L) t2 t0 ⟨rfl,rfl⟩ ?_)))))))
 refine aV L rfl ?_
 refine O1 ⟨[(0,_),(3,_),(5,.ref 11 0 0 0)],[(3,_),(11,T3 [])],t3,t2,?_⟩
 refine R1 (exr (aV L rfl (zn [(0,_),(3,_),(5,_),(6,_)] [(3,_),(11,_)] t4 t2 (V1 ?_))))
 refine exl (α:=Nat) (fun k=>[(6,vi (k:Int)),(5,.ref 11 0 k (k*4))]) (fun k=>[(11,T3 ((u.map (· / c)).take k))]) (fun k=>k≤u.length) (fun k=>u.length - k) (0) (sl:=[(0,_),(3,_)]) (hb:=[(3,_)]) ?_ ⟨oR,oR,rfl,rfl,trivial⟩ t2 ?_
 ·exact Nat.zero_le _
 intro k hk
 refine R1 (exr (mV L rfl (mV L rfl (sw (R2 un40 L) t1 t0 (sw (P3 L) t2 t0 (zn [(0,_),(3,_),(5,_),(6,_),(15,_)] [(3,_),(11,_)] t5 t2 ?_))))))
 refine j2 rfl (fun he=>?_) (fun he=>?_)
 ·have he:=dt he
  have hk2:k<u.length:=by omega
  have b1:qw (u.getD k 0)≤B:=hB _ (j4 hk2)
  refine U1 (xq ?_)
  refine R1 (V1 (exd rF ?_))
  refine mV L rfl (mV L rfl (sw (Z1 un40 sz47 oM oM sM dC L) t2 t0 ?_))
  refine sw (L6 ag47 sz47 (M6 hk2) rfl L) t1 t0 (lp4 ag47 sz47 L rfl rfl (cK hG hX cl133 hN (g1w (u.getD k 0) c oM oM h0) L t2 (mV L rfl (sw (O3 rfl L) t1 t0 (sw (O3 rfl L) t1 t0 (swb (R3 (k:=7) (n:=4) zv47 (.cons rfl (.cons rfl (.cons rfl (.cons rfl .nil)))) rfl (P0 _ rfl) L) t0 t0 ⟨rfl,rfl⟩ (sb (U2 sz47 rF pa4 rfl pu4) t2 t1 ?_)))))))
  refine aV L rfl ?_
  refine O1 ⟨aok rfl rfl,[(0,_),(3,_),(5,_),(6,_),(7,_)],[(3,_),(7,_),(11,_)],t5,t3,?_⟩
  refine j3 (mV L rfl (lp4 ag47 sz47 L rfl rfl (sw (q4 (vs:=[_]) un40 ti47 rfl rfl dC dC rfl (K2 (.cons rfl (.cons rfl (.cons rfl (.cons rfl .nil)))) rfl) rfl (.cons rfl pa4 rfl pu4 .nil) (.cons (.cons (.cons (.cons .nil)))) L) t1 t0 (swb (apP (sz:=4) un40 un40 ti47 rfl rfl rfl dC (by exact (by first | rw [Y2,J0,O0,G1 hk] | rw [Y2,O0])) oF sM rfl rfl rfl (by first | (simp [Tryz.t47]; done) | (simp [Tryz.t47]; omega)) oM (P0 _ rfl) L) t2 t1 t0 ?_))))
  refine aV L rfl (O1 (j3 (mV L rfl (sw (B3 L (w64 oM oM)) t2 t0 (aV L rfl (O1 ?_))))))
  exact ⟨k+1,oM,by omega,l3 ⟨oR,ov rfl sO,rfl,rfl,trivial⟩ ⟨obl rfl ((L9 _ _).trans (by rw [v1h hk2])),rfl,trivial⟩⟩
 ·have he:=df he
  have hkM:k=u.length:=by omega
  rw [C0 (by rw [O0]; omega),hkM]
  refine G2 (xq ?_)
  refine s4 [11] (sl:=[(5,_)]) (hb:=[]) (F3 hX0) ⟨⟨_,rfl,(.ref rfl rfl (by exact (by first | rw [Y2,J0,O0,G1 hk] | rw [Y2,O0])) (by first | rfl | omega))⟩,trivial⟩ t0 ?_
  refine exr (mV L rfl (aV L rfl (zn [(4,_)] [] t1 trivial (X1 ?_))))
  refine Q0 (.tmp rfl) ?_
  rw [pV,O0]
theorem v1q {v:List Rat}{k:Nat}(h:k≤s3 v)(hk:k<v.length):(v.getD k 0=0)↔k<s3 v:=by
 constructor
 ·intro h0
  rcases Nat.lt_or_ge k (s3 v) with h1 | h1
  ·exact h1
  ·have e:s3 v=k:=by omega
   exact absurd (by rw [e]; exact h0) (h0s (r:=v) oM)
 ·exact fun h1=>B9 h1
theorem h0h (v:List Rat)(hl:v.length<1000000000):v3 E 58 [pV v] (vZ (s3 v)):=by
 refine D2 (xs:=[vZ (s3 v)]) Tryz.func58 rfl Tryz.ntmps58 Tryz.results58 sM fun F hG hX0 hnt hdf P0=>?_
 obtain ⟨L,hX,hN⟩:=pro hnt hX0 hG
 have hle:=q0x v
 refine exr (aV L rfl (zn [(0,_)] [] t1 trivial (exr (aV L rfl (zn [(0,_),(3,_)] [] t2 trivial (R1 (V1 ?_)))))))
 refine exl (α:=Nat) (fun k=>[(3,vi (k:Int))]) (fun k=>[]) (fun k=>k≤s3 v) (fun k=>s3 v - k) (0) (sl:=[(0,_)]) (hb:=[]) ?_ ⟨oR,rfl,trivial⟩ t0 ?_
 ·exact Nat.zero_le _
 intro k hk
 refine R1 ?_
 refine exm (sl:=[(14,vb (decide (k<s3 v)))]) (sl0:=[(0,_),(3,_)]) (hb:=[]) (hb0:=[]) t2 t0 ?_ ?_
 ·by_cases h:k<v.length
  ·refine mV L rfl (mV L rfl (sw (R2 un40 L) t1 t0 (sw (P3 L) t2 t0 (mV L rfl (gV (g:=8) rfl (by simp [h]) L rfl rfl ?_)))))
   refine gV (g:=8) rfl (by simp [h]) L rfl rfl ?_
   refine swg (g:=8) rfl (by simp [h]) (Z1 un40 sz47 oM oM sM dC L) rfl t2 t0 ?_
   refine swg (g:=8) rfl (by simp [h]) (L6 ag47 sz47 (M6 h) rfl L) rfl t1 t0 ?_
   refine swg (g:=8) rfl (by simp [h]) (c_c hG hX cl22 rfl hN (j1j (v.getD k 0)) L) rfl t1 t0 ?_
   refine sw (O4 (by simp [h]) L) t2 t0 ?_
   exact O1 ⟨⟨ob rfl (by rw [decide_eq_decide.2 (v1q hk h)]),rfl,rfl,trivial⟩,trivial⟩
  ·refine mV L rfl (mV L rfl (sw (R2 un40 L) t1 t0 (sw (P3 L) t2 t0 (mV L rfl (swn (g:=8) rfl sO L rfl (swn (g:=8) rfl sO L rfl (swn (g:=8) rfl sO L rfl (swn (g:=8) rfl sO L rfl (swn (g:=8) rfl sO L rfl (sw (y4 sO L) t2 t0 ?_))))))))))
   exact O1 ⟨⟨ob rfl sO,rfl,rfl,trivial⟩,trivial⟩
 refine j2 rfl (fun hc=>?_) (fun hc=>?_)
 ·have hc:=dt hc
  refine U1 (xq ?_)
  refine V1 (j3 (mV L rfl (sw (B3 L (w64 oM oM)) t2 t0 (aV L rfl (O1 ?_)))))
  exact ⟨k+1,oM,by omega,l3 ⟨oR,rfl,trivial⟩ trivial⟩
 ·have hc:=df hc
  refine G2 (xq ?_)
  refine exr (mV L rfl (aV L rfl (zn [(2,_)] [] t1 trivial (X1 ?_))))
  refine Q0 (.tmp rfl) ?_
  rw [show k=s3 v by omega]
@[reducible] def pMr (m:List (List Rat)):L2:=.sl m.length (M5 m)
def B0m (row:List Rat)(p:Nat)(s:List (List Rat)×Bool)(q:List Rat):List (List Rat)×Bool :=
 if (!s.2 && decide (p<s3 q))=true then (s.1++[row]++[D6 q row (q.getD p 0)],true) else (s.1++[D6 q row (q.getD p 0)],s.2)
def F1q (row:List Rat)(s:List (List Rat)×Bool):List (List Rat):=if s.2=true then s.1 else s.1++[row]
theorem M0j {row:List Rat}{p:Nat}:∀ (l:List (List Rat)) (o:List (List Rat)),l.foldl (B0m row p) (o,true)=(o++l.map fun z=>D6 z row (z.getD p 0),true)
 | [],o=>by simp
 | q :: l,o=>by
  rw [List.foldl_cons,B0m,if_neg sM,M0j l]; simp
theorem F0p {row:List Rat}{p:Nat}:∀ (l:List (List Rat)) (o:List (List Rat)),F1q row (l.foldl (B0m row p) (o,false))=o++m0m row p l
 | [],o=>by simp [F1q,m0m]
 | q :: l,o=>by
  rw [List.foldl_cons,B0m,m0m]
  by_cases h:p<s3 q
  ·rw [if_pos (by simp [h]),if_pos h,M0j,F1q]; simp
  ·rw [if_neg (by simp [h]),if_neg h]; simp only; rw [F0p l]; simp
theorem n0d {α β:Type}{f:β→α→β}{b:β}{l:List α}{d:α}{k:Nat}(h:k<l.length):(l.take (k+1)).foldl f b=f ((l.take k).foldl f b) (l.getD k d):=by
 rw [I1,List.foldl_append]; simp [f0,h]
theorem b1z {row:List Rat}{p:Nat}:∀ (l:List (List Rat)) (s:List (List Rat)×Bool),(l.foldl (B0m row p) s).1.length≤s.1.length+2*l.length
 | [],s=>by simp
 | q :: l,s=>by
  have:=b1z (row:=row) (p:=p) l (B0m row p s q)
  rw [List.foldl_cons,D1]
  have h:(B0m row p s q).1.length≤s.1.length+2:=by
   unfold B0m; split <;> simp
  omega
theorem w0q {rows:List (List Rat)}{row:List Rat}{k:Nat}(h:k<rows.length):j8 (rows.take (k+1)) row=D6 (j8 (rows.take k) row) (rows.getD k []) ((j8 (rows.take k) row).getD (s3 (rows.getD k [])) 0):=by
 rw [j8,n0d (d:=[]) h]; rfl
theorem Y0n {c:Nat}:∀ {rows:List (List Rat)} {row:List Rat},(∀ q∈rows,q.length=c)→row.length=c→(j8 rows row).length=c
 | [],_,_,h=>h
 | q :: l,row,hr,h=>by
  rw [j8,List.foldl_cons]
  have h2:(D6 row q (row.getD (s3 q) 0)).length=c:=by rw [C6 (by rw [hr q sM,h])]; exact h
  exact Y0n (rows:=l) (fun q hq=>hr q (by simp [hq])) h2
theorem K0q {c:Nat}{rows:List (List Rat)}{row:List Rat}(h:∀ q∈rows,q.length=c)(hr:row.length=c)(k:Nat):(j8 (rows.take k) row).length=c:=Y0n (fun q hq=>h q (List.mem_of_mem_take hq)) hr
@[reducible] def n1a (m:List (List Rat)):Blk:=⟨40,1,.pure (M5 m)⟩
theorem Q0b (c B C:Nat)(rows:List (List Rat))(row:List Rat)(hl:rows.length<100000000)(hc:c<1000000000)(hq:∀ q∈rows,q.length=c)(hq2:∀ q∈rows,s3 q<c)(hr:row.length=c)(hB:MB B rows)(hC:∀ k,k≤rows.length→∀ a∈j8 (rows.take k) row,qw a≤C)(hb:B<200000000∧C<200000000):v3 E 57 [pMr rows,pV row] (pMr (m0h rows row)):=by
 refine D2 (xs:=[pMr (m0h rows row)]) Tryz.func57 rfl Tryz.ntmps57 Tryz.results57 sM fun F hG hX0 hnt hdf P0=>?_
 obtain ⟨L,hX,hN⟩:=pro hnt hX0 hG
 obtain ⟨hb1,hb2⟩:=hb
 have hlen:=K0q hq hr
 refine exr (aV L rfl (zn [(0,_),(1,_)] [] t2 trivial (R1 (exr (aV L rfl (zn [(0,_),(1,_),(5,_)] [] t3 trivial (V1 ?_)))))))
 refine exl (α:=Nat) (fun k=>[(5,vi (k:Int)),(1,.p (pV (j8 (rows.take k) row)))]) (fun k=>[]) (fun k=>k≤rows.length) (fun k=>rows.length - k) (0) (sl:=[(0,_)]) (hb:=[]) ?_ ⟨oR,oR,rfl,trivial⟩ t0 ?_
 ·exact Nat.zero_le _
 intro k hk
 have hlk:=hlen k
 refine R1 (exr (mV L rfl (mV L rfl (sw (R2 un22 L) t1 t0 (sw (P3 L) t2 t0 (zn [(0,_),(1,_),(5,_),(14,_)] [] t4 trivial ?_))))))
 refine j2 rfl (fun hc=>?_) (fun hc=>?_)
 ·have hc:=dt hc
  have hk2:k<rows.length:=by omega
  have hqk:=hq _ (gDL hk2)
  have hqk2:=hq2 _ (gDL hk2)
  have hq3:s3 (rows.getD k [])<(j8 (rows.take k) row).length:=by omega
  refine U1 (xq ?_)
  refine R1 (V1 (exr (mV L rfl (mV L rfl (sw (ixJ un22 sz40 (j:=k) rO oM sM L) t2 t0 ?_)))))
  refine sw (d4 ag40 (b7 hk2) L) t1 t0 (cK hG hX cl58 hN (h0h (rows.getD k []) oM) L t1 (aV L rfl (zn [(0,_),(1,_),(5,_),(6,_)] [] t4 trivial (b0z rF ?_))))
  refine mV L rfl (mV L rfl (mV L rfl (sw (ixJ un22 sz40 (j:=k) rO oM sM L) t2 t0 ?_)))
  refine sw (d4 ag40 (b7 hk2) L) t1 t0 (mV L rfl (mV L rfl (sw (Z1 un40 sz47 oM oM sM dC L) t2 t0 ?_)))
  refine sw (L6 ag47 sz47 (M6 hq3) rfl L) t1 t0 (cK hG hX cl103 hN (n0n (j8 (rows.take k) row) (rows.getD k []) ((j8 (rows.take k) row).getD (s3 (rows.getD k [])) 0) C B C oM oM (hC k hk) (hB _ (gDL hk2)) (hC k hk _ (j4 hq3)) ⟨by omega,by omega,by omega⟩) L t3 ?_)
  refine aV L rfl ?_
  refine O1 ⟨d5 [⟨[1],[],[22],[]⟩,⟨[0],[],[23],[]⟩,⟨[5],[],[24],[]⟩,⟨[23,24],[],[25],[]⟩,⟨[25],[],[26],[]⟩,⟨[1],[],[27],[]⟩,⟨[6],[],[28],[]⟩,⟨[27,28],[],[29],[]⟩,⟨[29],[],[30],[]⟩,⟨[22,26,30],[],[31],[]⟩,⟨[31],[],[1],[]⟩] rF rF dC,?_⟩
  refine j3 (mV L rfl (sw (B3 L (w64 oM oM)) t2 t0 (aV L rfl (O1 ?_))))
  exact ⟨k+1,oM,by omega,l3 ⟨oR,ov rfl (by rw [w0q hk2]),rfl,trivial⟩ trivial⟩
 ·have hc:=df hc
  have hkM:k=rows.length:=by omega
  subst hkM
  rw [I0] at hlk ⊢
  have hCC:=hC rows.length (Nat.le_refl _)
  rw [I0] at hCC
  obtain ⟨r1,hr1⟩:∃ r1,r1=j8 rows row:=⟨_,rfl⟩
  rw [← hr1] at hlk hCC ⊢
  have hle:=q0x r1
  refine G2 (xq ?_)
  refine exr (mV L rfl (cK hG hX cl58 hN (h0h r1 oM) L t1 (aV L rfl (zn [(0,_),(1,_),(7,_)] [] t3 trivial (R1 (exr (mV L rfl (mV L rfl (sw (R2 un40 L) t1 t0 (sw (c_e L) t2 t0 (zn [(0,_),(1,_),(7,_),(37,_)] [] t4 trivial ?_)))))))))))
  refine j2 rfl (fun he=>?_) (fun he=>?_)
  ·have he:=dt he
   refine exr (mV L rfl (aV L rfl (zn [(4,_)] [] t1 trivial (X1 ?_))))
   refine Q0 (.tmp rfl) ?_
   rw [m0h,← hr1,if_pos oM]
  ·have he:=df he
   have hp:s3 r1<r1.length:=by omega
   have hne:=h0s hp
   refine U1 (xq ?_)
   refine exr (mV L rfl (mV L rfl (mV L rfl (sw (Z1 un40 sz47 oM oM sM dC L) t2 t0 ?_))))
   refine sw (L6 ag47 sz47 (M6 hp) rfl L) t1 t0 (cK hG hX cl104 hN (P0f r1 (r1.getD (s3 r1) 0) C oM hCC (hCC _ (j4 hp)) oM hne) L t2 (aV L rfl (zn [(0,_),(1,_),(7,_)] [] t3 trivial ?_)))
   obtain ⟨w,hw⟩:∃ w,w=r1.map (· / r1.getD (s3 r1) 0):=⟨_,rfl⟩
   obtain ⟨p,hp0⟩:∃ p,p=s3 r1:=⟨_,rfl⟩
   have hwl:w.length=c:=by rw [hw,O0]; exact hlk
   have hwB:∀ a∈w,qw a≤2*C:=by
    intro a ha
    rw [hw] at ha
    obtain ⟨z,hz,rfl⟩:=G0.1 ha
    have h1:=f1r (a:=z) hne
    have h2:=hCC _ hz
    have h3:=hCC _ (j4 hp)
    omega
   have hfin:m0h rows row=m0m w p rows:=by rw [m0h,← hr1,if_neg oM,← hw,← hp0]
   rw [← hw,← hp0]
   refine exr (mV L rfl (sw (R2 un22 L) t1 t0 (sw (B3 L (w64 oM oM)) t2 t0 (swb (v0a (k:=48) un22 ti40 rfl rfl rfl rfl (show (0:Int)=((0:Nat):Int) from rfl) (show (rows.length:Int)+1=((rows.length+1:Nat):Int) from rfl) (Nat.zero_le _) (by simp [Tryz.t40]; omega) oM (P0 _ rfl) L) t2 t0 ⟨rfl,rfl⟩ ?_))))
   refine aV L rfl ?_
   refine O1 ⟨[(0,_),(1,_),(7,_),(8,.ref 48 0 0 0)],[(48,n1a [])],t4,t1,?_⟩
   refine exr (aV L rfl (zn [(0,_),(1,_),(7,_),(8,_),(9,_)] [(48,_)] t5 t1 (R1 (exr (aV L rfl (zn [(0,_),(1,_),(7,_),(8,_),(9,_),(10,_)] [(48,_)] t6 t1 (V1 ?_)))))))
   refine exl (α:=(Nat×List (List Rat)×Bool)) (fun x=>[(10,vi (x.1:Int)),(8,.ref 48 0 x.2.1.length x.2.1.length),(9,vb x.2.2)]) (fun x=>[(48,n1a x.2.1)]) (fun x=>x.1≤rows.length∧(rows.take x.1).foldl (B0m w p) ([],false)=x.2) (fun x=>rows.length - x.1) ((0,[],false)) (sl:=[(0,_),(1,_),(7,_)]) (hb:=[]) ?_ ⟨oR,oR,oR,rfl,rfl,rfl,trivial⟩ t1 ?_
   ·exact ⟨Nat.zero_le _,rfl⟩
   intro x hx
   obtain ⟨k,T,b⟩:=x
   obtain ⟨hk,hT⟩:=hx
   simp only at hk hT
   have hTl:T.length≤2*rows.length:=by
    have:=b1z (row:=w) (p:=p) (rows.take k) ([],false)
    rw [hT,J0] at this
    simp only [List.length_nil] at this; omega
   dsimp only
   refine R1 (exr (mV L rfl (mV L rfl (sw (R2 un22 L) t1 t0 (sw (P3 L) t2 t0 (zn [(0,_),(1,_),(7,_),(8,_),(9,_),(10,_),(52,_)] [(48,_)] t7 t1 ?_))))))
   refine j2 rfl (fun hc2=>?_) (fun hc2=>?_)
   ·have hc2:=dt hc2
    have hk2:k<rows.length:=by omega
    have hqk:=hq _ (gDL hk2)
    have hpk:p<(rows.getD k []).length:=by omega
    have hst:=n0d (f:=B0m w p) (b:=([],false)) (d:=[]) hk2
    rw [hT] at hst
    refine U1 (xq ?_)
    refine R1 (V1 (R1 ?_))
    refine exm (sl:=[(65,vb (!b && decide (p<s3 (rows.getD k []))))]) (sl0:=[(0,_),(1,_),(7,_),(8,_),(9,_),(10,_)]) (hb:=[]) (hb0:=[(48,_)]) t6 t1 ?_ ?_
    ·by_cases h:b=true
     ·refine mV L rfl (sw (C4 L) t1 t0 (mV L rfl (swn (g:=57) rfl (by rw [h] <;> rfl) L rfl ?_)))
      refine swn (g:=57) rfl (by rw [h] <;> rfl) L rfl ?_
      refine swn (g:=57) rfl (by rw [h] <;> rfl) L rfl ?_
      refine swn (g:=57) rfl (by rw [h] <;> rfl) L rfl ?_
      refine swn (g:=57) rfl (by rw [h] <;> rfl) L rfl ?_
      refine swn (g:=57) rfl (by rw [h] <;> rfl) L rfl ?_
      refine swn (g:=57) rfl (by rw [h] <;> rfl) L rfl ?_
      refine sw (y4 (by rw [h] <;> rfl) L) t2 t0 ?_
      exact O1 ⟨⟨ob rfl (by rw [h] <;> rfl),rfl,rfl,rfl,rfl,rfl,rfl,trivial⟩,t1⟩
     ·refine mV L rfl (sw (C4 L) t1 t0 (mV L rfl (gV (g:=57) rfl (by simp [h]) L rfl rfl ?_)))
      refine gV (g:=57) rfl (by simp [h]) L rfl rfl ?_
      refine swg (g:=57) rfl (by simp [h]) (ixJ un22 sz40 (j:=k) rO oM sM L) rfl t2 t0 ?_
      refine swg (g:=57) rfl (by simp [h]) (d4 ag40 (b7 hk2) L) rfl t1 t0 ?_
      refine swg (g:=57) rfl (by simp [h]) (c_c hG hX cl58 rfl hN (h0h (rows.getD k []) oM) L) rfl t1 t0 ?_
      refine gV (g:=57) rfl (by simp [h]) L rfl rfl ?_
      refine swg (g:=57) rfl (by simp [h]) (i7 L) rfl t2 t0 ?_
      refine sw (O4 (by simp [h]) L) t2 t0 ?_
      exact O1 ⟨⟨ob rfl (by simp [h]),rfl,rfl,rfl,rfl,rfl,rfl,trivial⟩,t1⟩
    refine j2 rfl (fun hz=>?_) (fun hz=>?_)
    ·rw [B0m,if_pos hz] at hst
     refine exr (mV L rfl (mV L rfl (sw (q4 (vs:=[_]) un22 ti40 rfl rfl dC dC rfl (K2 (.cons rfl .nil) rfl) rfl (.cons rfl .sl rfl pu1 .nil) (.cons .nil) L) t1 t0 (swb (apP (sz:=1) un22 un22 ti40 rfl rfl rfl dC (by exact (G5 _)) oF sM rfl rfl rfl (by first | (simp [Tryz.t40]; done) | (simp [Tryz.t40]; omega)) oM (P0 _ rfl) L) t2 t1 t0 ?_))))
     refine aV L rfl (zn [(0,_),(1,_),(7,_),(8,_),(10,_)] [(48,_)] t5 t1 (j3 (aV L rfl (O1 (b0z rF ?_)))))
     refine mV L rfl (mV L rfl (mV L rfl (sw (ixJ un22 sz40 (j:=k) rO oM sM L) t2 t0 ?_)))
     refine sw (d4 ag40 (b7 hk2) L) t1 t0 (mV L rfl (mV L rfl (mV L rfl (sw (ixJ un22 sz40 (j:=k) rO oM sM L) t2 t0 ?_))))
     refine sw (d4 ag40 (b7 hk2) L) t1 t0 (mV L rfl (sw (Z1 un40 sz47 oM oM sM dC L) t2 t0 ?_))
     refine sw (L6 ag47 sz47 (M6 hpk) rfl L) t1 t0 (cK hG hX cl103 hN (n0n (rows.getD k []) w ((rows.getD k []).getD p 0) B (2*C) B oM oM (hB _ (gDL hk2)) hwB (hB _ (gDL hk2) _ (j4 hpk)) ⟨by omega,by omega,by omega⟩) L t3 ?_)
     refine sw (q4 (vs:=[_]) un22 ti40 rfl rfl dC dC rfl (K2 (.cons rfl .nil) rfl) rfl (.cons rfl .sl rfl pu1 .nil) (.cons .nil) L) t1 t0 (swb (apP (sz:=1) un22 un22 ti40 rfl rfl rfl dC (by exact sM) oF sM rfl rfl rfl (by first | (simp [Tryz.t40]; done) | (simp [Tryz.t40]; omega)) oM (P0 _ rfl) L) t2 t1 t0 ?_)
     refine aV L rfl ?_
     refine O1 ⟨d5 [⟨[8],[],[70],[]⟩,⟨[0],[],[71],[]⟩,⟨[10],[],[72],[]⟩,⟨[71,72],[],[73],[]⟩,⟨[73],[],[74],[]⟩,⟨[1],[],[75],[]⟩,⟨[0],[],[76],[]⟩,⟨[10],[],[77],[]⟩,⟨[76,77],[],[78],[]⟩,⟨[78],[],[79],[]⟩,⟨[7],[],[80],[]⟩,⟨[79,80],[],[81],[]⟩,⟨[81],[],[82],[]⟩,⟨[74,75,82],[],[83],[]⟩,⟨[83],[],[84],[]⟩,⟨[70,84],[48],[85],[48]⟩,⟨[85],[],[8],[]⟩] rF rF dC,?_⟩
     refine j3 (mV L rfl (sw (B3 L (w64 oM oM)) t2 t0 (aV L rfl (O1 ?_))))
     exact ⟨(k+1,T++[w]++[D6 (rows.getD k []) w ((rows.getD k []).getD p 0)],true),⟨by simp only; omega,hst⟩,(by simp only; omega),l3 ⟨oR,ov rfl sM,oR,rfl,rfl,rfl,trivial⟩ ⟨obl rfl (by simp only [n1a,g0b]; rfl),trivial⟩⟩
    ·rw [B0m,if_neg (by rw [hz]; decide)] at hst
     refine U1 (xq ?_)
     refine b0z rF ?_
     refine mV L rfl (mV L rfl (mV L rfl (sw (ixJ un22 sz40 (j:=k) rO oM sM L) t2 t0 ?_)))
     refine sw (d4 ag40 (b7 hk2) L) t1 t0 (mV L rfl (mV L rfl (mV L rfl (sw (ixJ un22 sz40 (j:=k) rO oM sM L) t2 t0 ?_))))
     refine sw (d4 ag40 (b7 hk2) L) t1 t0 (mV L rfl (sw (Z1 un40 sz47 oM oM sM dC L) t2 t0 ?_))
     refine sw (L6 ag47 sz47 (M6 hpk) rfl L) t1 t0 (cK hG hX cl103 hN (n0n (rows.getD k []) w ((rows.getD k []).getD p 0) B (2*C) B oM oM (hB _ (gDL hk2)) hwB (hB _ (gDL hk2) _ (j4 hpk)) ⟨by omega,by omega,by omega⟩) L t3 ?_)
     refine sw (q4 (vs:=[_]) un22 ti40 rfl rfl dC dC rfl (K2 (.cons rfl .nil) rfl) rfl (.cons rfl .sl rfl pu1 .nil) (.cons .nil) L) t1 t0 (swb (apP (sz:=1) un22 un22 ti40 rfl rfl rfl dC (by exact (G5 _)) oF sM rfl rfl rfl (by first | (simp [Tryz.t40]; done) | (simp [Tryz.t40]; omega)) oM (P0 _ rfl) L) t2 t1 t0 ?_)
     refine aV L rfl ?_
     refine O1 ⟨d5 [⟨[8],[],[70],[]⟩,⟨[0],[],[71],[]⟩,⟨[10],[],[72],[]⟩,⟨[71,72],[],[73],[]⟩,⟨[73],[],[74],[]⟩,⟨[1],[],[75],[]⟩,⟨[0],[],[76],[]⟩,⟨[10],[],[77],[]⟩,⟨[76,77],[],[78],[]⟩,⟨[78],[],[79],[]⟩,⟨[7],[],[80],[]⟩,⟨[79,80],[],[81],[]⟩,⟨[81],[],[82],[]⟩,⟨[74,75,82],[],[83],[]⟩,⟨[83],[],[84],[]⟩,⟨[70,84],[48],[85],[48]⟩,⟨[85],[],[8],[]⟩] rF rF dC,?_⟩
     refine j3 (mV L rfl (sw (B3 L (w64 oM oM)) t2 t0 (aV L rfl (O1 ?_))))
     exact ⟨(k+1,T++[D6 (rows.getD k []) w ((rows.getD k []).getD p 0)],b),⟨by simp only; omega,hst⟩,(by simp only; omega),l3 ⟨oR,ov rfl sM,oR,rfl,rfl,rfl,trivial⟩ ⟨obl rfl (by simp only [n1a,g0b]; rfl),trivial⟩⟩
   ·have hc2:=df hc2
    have hkM:k=rows.length:=by omega
    subst hkM
    have hfin2:=F0p (row:=w) (p:=p) rows []
    rw [I0] at hT
    rw [hT,List.nil_append,← hfin] at hfin2
    refine G2 (xq ?_)
    refine R1 (exr (mV L rfl (sw (C4 L) t1 t0 (zn [(1,_),(8,_),(87,_)] [(48,_)] t3 t1 ?_))))
    refine j2 rfl (fun hn=>?_) (fun hn=>?_)
    ·have hn:b=false:=by simpa using hn
     subst hn
     refine j3 (mV L rfl (mV L rfl (sw (q4 (vs:=[_]) un22 ti40 rfl rfl dC dC rfl (K2 (.cons rfl .nil) rfl) rfl (.cons rfl .sl rfl pu1 .nil) (.cons .nil) L) t1 t0 (swb (apP (sz:=1) un22 un22 ti40 rfl rfl rfl dC (by exact (G5 _)) oF sM rfl rfl rfl (by first | (simp [Tryz.t40]; done) | (simp [Tryz.t40]; omega)) oM (P0 _ rfl) L) t2 t1 t0 ?_))))
     refine aV L rfl (O1 (s4 [48] (sl:=[(8,_)]) (hb:=[]) (F3 hX0) ⟨⟨_,rfl,(.ref rfl rfl (by exact sM) (by first | rfl | omega))⟩,trivial⟩ t0 ?_))
     refine exr (mV L rfl (aV L rfl (zn [(4,_)] [] t1 trivial (X1 ?_))))
     refine Q0 (.tmp rfl) ?_
     rw [← hfin2,F1q,if_neg Bool.false_ne_true]; simp [M5]
    ·have hn:b=true:=by simpa using hn
     subst hn
     refine U1 (xq ?_)
     refine s4 [48] (sl:=[(8,_)]) (hb:=[]) (F3 hX0) ⟨⟨_,rfl,(.ref rfl rfl (by exact (G5 _)) (by first | rfl | omega))⟩,trivial⟩ t0 ?_
     refine exr (mV L rfl (aV L rfl (zn [(4,_)] [] t1 trivial (X1 ?_))))
     refine Q0 (.tmp rfl) ?_
     rw [← hfin2,F1q,if_pos rfl]
theorem b1n {row:List Rat}{p:Nat}:∀ l:List (List Rat),(m0m row p l).length=l.length+1
 | []=>rfl
 | q :: l=>by
  simp only [m0m]; split
  ·simp
  ·rw [D1,b1n l,D1]
theorem w1s (rows:List (List Rat))(row:List Rat):(m0h rows row).length≤rows.length+1:=by
 unfold m0h; split
 ·omega
 ·rw [b1n]; omega
theorem Y0y:∀ (m rows:List (List Rat)),(m.foldl m0h rows).length≤rows.length+m.length
 | [],rows=>by simp
 | r :: m,rows=>by
  rw [List.foldl_cons,D1]
  have h1:=w1s rows r
  have h2:=Y0y m (m0h rows r)
  omega
theorem p0a (m:List (List Rat)):(m4 m).length≤m.length:=by
 have:=Y0y m []
 simpa [m4] using this
theorem Y0r {M:List (List Rat)}{k:Nat}(h:k<M.length):m4 (M.take (k+1))=m0h (m4 (M.take k)) (M.getD k []):=by
 rw [m4,n0d (d:=[]) h]; rfl
structure RE (c B C:Nat) (M:List (List Rat)):Prop where
 len:∀ r∈M,r.length=c
 rl:M.length<1000000
 cl:c<1000000
 bd:∀ i,i≤M.length→MB B (m4 (M.take i))
 rd:∀ i,i<M.length→∀ k,∀ a∈j8 ((m4 (M.take i)).take k) (M.getD i []),qw a≤C
 hb:B<200000000∧C<200000000
theorem RE.rows {c B C:Nat}{M:List (List Rat)}(h:RE c B C M)(k:Nat):(∀ q∈m4 (M.take k),q.length=c)∧∀ q∈m4 (M.take k),s3 q<c:=by
 have h1:=(B8 (c:=c) (m:=M.take k) fun r hr=>h.len r (List.mem_of_mem_take hr)).1
 exact ⟨fun q hq=>h1.len (s3 q,q) (j6.2 ⟨hq,rfl⟩),fun q hq=>h1.lt (s3 q,q) (j6.2 ⟨hq,rfl⟩)⟩
@[reducible] def j1d (l:List Nat):Blk:=⟨3,1,.pure (V6 l)⟩
theorem d2n (l:List Nat)(n:Nat):(⟨3,1,.pure (V6 l++[vZ n])⟩:Blk)=j1d (l++[n]):=by simp [j1d,V6]
theorem v1y {m:List (List Rat)}{k:Nat}(h:k<m.length):(m.map s3).take (k+1)=(m.map s3).take k++[s3 (m.getD k [])]:=by
 rw [I1]; simp [f0,h]
theorem K0b (c B C:Nat)(M:List (List Rat))(h:RE c B C M):v3 E 16 [pMq c M] (.tup [pMq c (m4 M),pIs ((m4 M).map s3)]):=by
 refine D2 (xs:=[pMq c (m4 M),pIs ((m4 M).map s3)]) Tryz.func16 rfl Tryz.ntmps16 Tryz.results16 sM fun F hG hX0 hnt hdf P0=>?_
 obtain ⟨L,hX,hN⟩:=pro hnt hX0 hG
 have hrl:=h.rl
 have hcl:=h.cl
 have hb:=h.hb
 refine exr (swb (U3 (k:=1) (n:=2) pa2 rfl rfl (P0 _ rfl) L) t1 t0 ⟨rfl,rfl⟩ (swb (R3 (k:=2) (n:=2) zv24 (.cons rfl (.cons rfl .nil)) rfl (P0 _ rfl) L) t0 t0 ⟨rfl,rfl⟩ (aV L rfl (zn [(1,_),(2,_)] [(1,_),(2,_)] t2 t2 (exr (sw (i2 un24 rfl sz3 dC rX L) t1 t1 ?_))))))
 refine sw (Y1 ag3 rF rF L) t1 t1 ?_
 refine sw (b0d (G7 (vs:=[_]) un24 zv24 (.cons rfl (.cons rfl .nil)) ((J2.cons sz3 (J2.cons sz22 J2.nil))).to rfl (.cons rfl (.atom rfl) rfl pu1 .nil) (.cons (.cons .nil)) L) (.agg (.cons .same (.cons .nil .nil)))) t1 t0 (swb (R3 (k:=4) (n:=2) zv24 (.cons rfl (.cons rfl .nil)) rfl (P0 _ rfl) L) t0 t0 ⟨rfl,rfl⟩ (sb (U2 sz24 rF pa2 rfl pu2) t2 t1 ?_))
 refine zn [(1,_),(2,_),(4,_)] [(1,_),(2,_),(4,_)] t3 t3 (R1 (exr (aV L rfl (zn [(1,_),(2,_),(4,_),(5,_)] [(1,_),(2,_),(4,_)] t4 t3 (V1 ?_)))))
 refine exl (α:=Nat) (fun k=>[(5,vi (k:Int))]) (fun k=>[(4,⟨24,2,.mix [.p (vZ c),.p (pMr (m4 (M.take k)))]⟩)]) (fun k=>k≤M.length) (fun k=>M.length - k) (0) (sl:=[(1,_),(2,_),(4,_)]) (hb:=[(1,_),(2,_)]) ?_ ⟨oR,rfl,rfl,rfl,trivial⟩ t3 ?_
 ·exact Nat.zero_le _
 intro k hk
 have hle:=p0a (M.take k)
 rw [J0] at hle
 refine R1 (exr (mV L rfl (sw (i2 un24 rfl sz22 dC rX L) t1 t1 ?_)))
 refine sw (Y1 ag22 rF rF L) t1 t1 ?_
 refine sw (R2 un22 L) t1 t0 (sw (P3 L) t2 t0 (zn [(1,_),(2,_),(4,_),(5,_),(15,_)] [(1,_),(2,_),(4,_)] t5 t3 ?_))
 refine j2 rfl (fun hc=>?_) (fun hc=>?_)
 ·have hc:=dt hc
  have hk2:k<M.length:=by omega
  have hr:=h.rows k
  refine U1 (xq ?_)
  refine R1 (V1 (b0z rF ?_))
  refine sw (i2 un24 rfl sz22 dC rX L) t1 t1 ?_
  refine sw (Y1 ag22 rF rF L) t1 t1 ?_
  refine sw (i2 un24 rfl sz22 dC rX L) t1 t1 ?_
  refine sw (Y1 ag22 rF rF L) t1 t1 ?_
  refine mV L rfl (sw (ixJ un22 sz40 (j:=k) rO oM sM L) t2 t0 ?_)
  refine sw (d4 ag40 (b7 hk2) L) t1 t0 (cK hG hX cl57 hN (Q0b c B C (m4 (M.take k)) (M.getD k []) oM oM hr.1 hr.2 (h.len _ (gDL hk2)) (h.bd k hk) (fun j _=>h.rd k hk2 j) hb) L t2 ?_)
  refine sw (i2 un24 rfl sz22 dC rX L) t1 t1 ?_
  refine sb (U2 sz22 rF .sl rfl (.skip pu1)) t2 t1 ?_
  refine O1 ⟨d5 [⟨[4],[4],[18],[]⟩,⟨[18],[4],[19],[]⟩,⟨[1],[1],[20],[]⟩,⟨[20],[1],[21],[]⟩,⟨[5],[],[22],[]⟩,⟨[21,22],[],[23],[]⟩,⟨[23],[],[24],[]⟩,⟨[19,24],[],[25],[]⟩,⟨[4],[4],[26],[]⟩,⟨[26,25],[4],[],[4]⟩] rF rF dC,?_⟩
  refine j3 (mV L rfl (sw (B3 L (w64 oM oM)) t2 t0 (aV L rfl (O1 ?_))))
  exact ⟨k+1,oM,by omega,l3 ⟨oR,rfl,rfl,rfl,trivial⟩ ⟨obl rfl (by rw [Y0r hk2]),rfl,rfl,trivial⟩⟩
 ·have hc:=df hc
  have hkM:k=M.length:=by omega
  subst hkM
  rw [I0]
  have hr:=h.rows M.length
  rw [I0] at hr hle
  obtain ⟨m,hm⟩:∃ m,m=m4 M:=⟨_,rfl⟩
  rw [← hm] at hr hle ⊢
  refine G2 (xq ?_)
  refine exr (sw (i2 un24 rfl sz22 dC rX L) t1 t1 ?_)
  refine sw (Y1 ag22 rF rF L) t1 t1 ?_
  refine sw (R2 un22 L) t1 t0 (swb (v0a (k:=30) un27 ti3 rfl rfl rfl rfl (show (0:Int)=((0:Nat):Int) from rfl) rfl (Nat.zero_le _) (by simp [Tryz.t3]; omega) oM (P0 _ rfl) L) t2 t0 ⟨rfl,rfl⟩ ?_)
  refine aV L rfl ?_
  refine O1 ⟨[(2,_),(4,_),(6,.ref 30 0 0 0)],[(2,_),(4,_),(30,j1d [])],t3,t3,?_⟩
  refine R1 (exr (aV L rfl (zn [(2,_),(4,_),(6,_),(7,_)] [(2,_),(4,_),(30,_)] t4 t3 (V1 ?_))))
  refine exl (α:=Nat) (fun k=>[(7,vi (k:Int)),(6,.ref 30 0 k k)]) (fun k=>[(30,j1d ((m.map s3).take k))]) (fun k=>k≤m.length) (fun k=>m.length - k) (0) (sl:=[(2,_),(4,_)]) (hb:=[(2,_),(4,_)]) ?_ ⟨oR,oR,rfl,rfl,trivial⟩ t3 ?_
  ·exact Nat.zero_le _
  intro k hk
  refine R1 (exr (mV L rfl (sw (i2 un24 rfl sz22 dC rX L) t1 t1 ?_)))
  refine sw (Y1 ag22 rF rF L) t1 t1 ?_
  refine sw (R2 un22 L) t1 t0 (sw (P3 L) t2 t0 (zn [(2,_),(4,_),(6,_),(7,_),(35,_)] [(2,_),(4,_),(30,_)] t5 t3 ?_))
  refine j2 rfl (fun hc=>?_) (fun hc=>?_)
  ·have hc:=dt hc
   have hk2:k<m.length:=by omega
   have hq1:=hr.1 _ (gDL hk2)
   refine U1 (xq ?_)
   refine R1 (V1 (j3 (mV L rfl (sw (i2 un24 rfl sz22 dC rX L) t1 t1 ?_))))
   refine sw (Y1 ag22 rF rF L) t1 t1 ?_
   refine mV L rfl (sw (ixJ un22 sz40 (j:=k) rO oM sM L) t2 t0 ?_)
   refine sw (d4 ag40 (b7 hk2) L) t1 t0 (cK hG hX cl58 hN (h0h (m.getD k []) oM) L t1 (sw (q4 (vs:=[_]) un27 ti3 rfl rfl dC dC rfl (K2 (.cons rfl .nil) rfl) rfl (.cons rfl (.atom rfl) rfl pu1 .nil) (.cons .nil) L) t1 t0 (swb (apP (sz:=1) un27 un27 ti3 rfl rfl rfl dC (by exact (by first | (simp; done) | (simp; omega))) oF sM rfl rfl rfl (by first | (simp [Tryz.t3]; done) | (simp [Tryz.t3]; omega)) oM (P0 _ rfl) L) t2 t1 t0 ?_)))
   refine aV L rfl (O1 (j3 (mV L rfl (sw (B3 L (w64 oM oM)) t2 t0 (aV L rfl (O1 ?_))))))
   exact ⟨k+1,oM,by omega,l3 ⟨oR,oR,rfl,rfl,trivial⟩ ⟨obl rfl ((d2n _ _).trans (by rw [v1y hk2])),rfl,rfl,trivial⟩⟩
  ·have hc:=df hc
   have hkm:k=m.length:=by omega
   rw [C0 sO,hkm]
   refine G2 (xq ?_)
   refine s4 [30] (sl:=[(2,_),(4,_),(6,_)]) (hb:=[(2,_),(4,_)]) (F3 hX0) ⟨⟨_,rfl,.same⟩,⟨_,rfl,.same⟩,⟨_,rfl,(.ref rfl rfl (by exact (by first | (simp; done) | (simp; omega))) (by first | rfl | omega))⟩,trivial⟩ ⟨⟨rfl,_,rfl,.same⟩,⟨rfl,_,rfl,.same⟩,trivial⟩ ?_
   refine exr (lp2 ag24 sz24 L rfl rfl (mV L rfl (sb (U2 sz24 rF pa2 rfl pu2) t2 t1 ?_)))
   refine aV L rfl (zn [(2,_),(3,_)] [(2,_)] t2 t1 (X1 ?_))
   refine Y0 (.agg rfl rfl rfl ag24 sz24 (.cons (.cons .nil))) (.tmp rfl) ?_
   simp
theorem J0w {l:List Nat}{n k:Nat}(h:k<l.length):(l.take (k+1)).contains n=((l.take k).contains n || decide (l.getD k 0=n)):=by
 rw [I1,show l[k]?.toList=[l.getD k 0] by simp [f0,h],Bool.eq_iff_iff]
 simp only [List.contains_iff_mem,List.mem_append,List.mem_singleton,Bool.or_eq_true,decide_eq_true_eq]
 exact or_congr Iff.rfl eq_comm
theorem d1g {l:List Nat}{k:Nat}(h:k<l.length):(V6 l)[k]? = some (vZ (l.getD k 0)):=by simp [V6,f0,h]
theorem K0y (l:List Nat)(n:Nat)(hl:l.length<1000000000):v3 E 59 [pIs l,vZ n] (bZ (l.contains n)):=by
 refine D2 (xs:=[bZ (l.contains n)]) Tryz.func59 rfl Tryz.ntmps59 Tryz.results59 sM fun F hG hX0 hnt hdf P0=>?_
 obtain ⟨L,hX,hN⟩:=pro hnt hX0 hG
 refine exr (aV L rfl (zn [(0,_),(1,_)] [] t2 trivial (R1 (exr (aV L rfl (zn [(0,_),(1,_),(5,_)] [] t3 trivial (V1 ?_)))))))
 refine exl (α:=Nat) (fun k=>[(5,vi (k:Int))]) (fun k=>[]) (fun k=>k≤l.length∧(l.take k).contains n=false) (fun k=>l.length - k) (0) (sl:=[(0,_),(1,_)]) (hb:=[]) ?_ ⟨oR,rfl,rfl,trivial⟩ t0 ?_
 ·exact ⟨Nat.zero_le _,by simp⟩
 intro k hk
 obtain ⟨hk,hw⟩:=hk
 refine R1 (exr (mV L rfl (mV L rfl (sw (R2 un27 L) t1 t0 (sw (P3 L) t2 t0 (zn [(0,_),(1,_),(5,_),(9,_)] [] t4 trivial ?_))))))
 refine j2 rfl (fun hc=>?_) (fun hc=>?_)
 ·have hc:=dt hc
  have hk2:k<l.length:=by omega
  have hst:=J0w (n:=n) hk2
  rw [hw,Bool.false_or] at hst
  refine U1 (xq ?_)
  refine R1 (V1 (exr (mV L rfl (mV L rfl (sw (ixJ un27 sz3 (j:=k) rO oM sM L) t2 t0 ?_)))))
  refine sw (d4 ag3 (d1g hk2) L) t1 t0 (mV L rfl (sw (c_e L) t2 t0 (zn [(0,_),(1,_),(5,_),(17,_)] [] t4 trivial ?_)))
  refine j2 rfl (fun he=>?_) (fun he=>?_)
  ·have he:=dt he
   have he2:l.getD k 0=n:=by omega
   refine exr (aV L rfl (zn [(4,_)] [] t1 trivial (X1 ?_)))
   refine Q0 (.tmp rfl) ?_
   rw [List.contains_iff_mem.2 (by rw [← he2]; exact d6 hk2)]
  ·have he:=df he
   have he2:¬ l.getD k 0=n:=by omega
   rw [decide_eq_false he2] at hst
   refine U1 (xq ?_)
   refine j3 (mV L rfl (sw (B3 L (w64 oM oM)) t2 t0 (aV L rfl (O1 ?_))))
   exact ⟨k+1,⟨by omega,hst⟩,by omega,l3 ⟨oR,rfl,rfl,trivial⟩ trivial⟩
 ·have hc:=df hc
  rw [C0 oM] at hw
  refine G2 (xq ?_)
  refine exr (aV L rfl (zn [(4,_)] [] t1 trivial (X1 ?_)))
  refine Q0 (.tmp rfl) ?_
  rw [hw]
theorem M1x (n:Nat):zq n=zsQ n:=rfl
@[simp] theorem s7 (M:List (List Rat))(b:List Rat):(J5 M b).length=M.length:=by simp [J5]
theorem H1g {M:List (List Rat)}{b:List Rat}{k:Nat}(h:k<M.length):(J5 M b).getD k []=M.getD k []++[b.getD k 0]:=by
 simp [J5,f0,h]
theorem M0s {M:List (List Rat)}{b:List Rat}{k:Nat}(h:k<M.length):(J5 M b).take (k+1)=(J5 M b).take k++[M.getD k []++[b.getD k 0]]:=by
 have h2:k<(J5 M b).length:=by rw [s7]; exact h
 rw [I1,show (J5 M b)[k]?.toList=[(J5 M b).getD k []] by simp [f0,h],H1g h]
theorem N1r (n:Nat)(T:List (List Rat))(v:List Rat)(a:Rat)(h:v.length+1=n):(⟨40,1,.pure (M5 T++[.sl n (L5 v++cQ a)])⟩:Blk)=n1a (T++[v++[a]]):=by subst h; rw [n1a,g0b]; simp [M5,q0c,L5]
def w0p (c:Nat)(M:List (List Rat))(b:List Rat):Bool:=!((m4 (J5 M b)).map s3).contains c
theorem h1q (c B C:Nat)(M:List (List Rat))(b:List Rat)(hr:∀ r∈M,r.length=c)(hb:b.length=M.length)(h:RE (c+1) B C (J5 M b)):v3 E 28 [pMq c M,pV b] (.tup [pV (if w0p c M b=true then X7 c M b else []),bZ (w0p c M b)]):=by
 refine D2 (xs:=[pV (if w0p c M b=true then X7 c M b else []),bZ (w0p c M b)]) Tryz.func28 rfl Tryz.ntmps28 Tryz.results28 sM fun F hG hX0 hnt hdf P0=>?_
 obtain ⟨L,hX,hN⟩:=pro hnt hX0 hG
 have hrl:=h.rl
 have hcl:=h.cl
 rw [s7] at hrl
 have hB:=h.hb
 have hr2:=h.rows (J5 M b).length
 have hBm:=h.bd (J5 M b).length (Nat.le_refl _)
 have hle:=p0a (J5 M b)
 rw [s7] at hle
 rw [I0] at hr2 hBm
 have hE:=K0b (c+1) B C (J5 M b) h
 refine exr (swb (U3 (k:=2) (n:=2) pa2 rfl rfl (P0 _ rfl) L) t1 t0 ⟨rfl,rfl⟩ (aV L rfl (aV L rfl (zn [(1,_),(2,_)] [(2,_)] t2 t1 (exr (sw (i2 un24 rfl sz3 dC rX L) t1 t1 ?_))))))
 refine sw (Y1 ag3 rF rF L) t1 t1 ?_
 refine sw (B3 L (w64 oM oM)) t2 t0 (sw (G7 (vs:=[_]) un24 zv24 (.cons rfl (.cons rfl .nil)) ((J2.cons sz3 (J2.cons sz22 J2.nil))).to rfl (.cons rfl (.atom rfl) rfl pu1 .nil) (.cons (.cons .nil)) L) t1 t0 (swb (R3 (k:=6) (n:=2) zv24 (.cons rfl (.cons rfl .nil)) rfl (P0 _ rfl) L) t0 t0 ⟨rfl,rfl⟩ (sb (U2 sz24 rF pa2 rfl pu2) t2 t1 ?_)))
 refine zn [(1,_),(2,_),(6,_)] [(2,_),(6,_)] t3 t2 (R1 (exr (aV L rfl (zn [(1,_),(2,_),(6,_),(7,_)] [(2,_),(6,_)] t4 t2 (V1 ?_)))))
 refine exl (α:=(Nat×List (List Rat))) (fun x=>[(7,vi (x.1:Int))]) (fun x=>[(6,⟨24,2,.mix [.p (vZ (c+1:Nat)),D0a 43 x.2]⟩)]++D0c 43 x.2) (fun x=>x.1≤M.length∧(J5 M b).take x.1=x.2) (fun x=>M.length - x.1) ((0,[])) (sl:=[(1,_),(2,_),(6,_)]) (hb:=[(2,_)]) ?_ ⟨oR,rfl,rfl,rfl,trivial⟩ (hbI (l':=[(6,_),(2,_)]) rfl t2) ?_
 ·exact ⟨Nat.zero_le _,rfl⟩
 intro x hx
 obtain ⟨k,T⟩:=x
 obtain ⟨hk,hT⟩:=hx
 simp only at hk hT
 rcases T with _ | ⟨q,T⟩
 ·dsimp only [D0a,D0c,List.append_nil]
  refine R1 (exr (mV L rfl (sw (i2 un24 rfl sz22 dC rX L) t1 t1 ?_)))
  refine sw (Y1 ag22 rF rF L) t1 t1 ?_
  refine sw (R2 un22 L) t1 t0 (sw (P3 L) t2 t0 (zn [(1,_),(2,_),(6,_),(7,_),(22,_)] [(2,_),(6,_)] t5 t2 ?_))
  refine j2 rfl (fun hc=>?_) (fun hc=>?_)
  ·have hc:=dt hc
   have hk2:k<M.length:=by omega
   have hk3:k<b.length:=by omega
   have ht:=M0s (b:=b) hk2
   rw [hT] at ht
   have hlen:=hr _ (gDL hk2)
   have hld:=b7 hk2
   obtain ⟨r,hr0⟩:∃ r,r=M.getD k []:=⟨_,rfl⟩
   rw [← hr0] at hlen ht hld
   refine U1 (xq ?_)
   refine R1 (V1 (exr (swb (f9 (k:=25) (sz:=4) un40 ti47 (P0 _ rfl) L) t0 t0 ⟨rfl,rfl⟩ (sw (i2 un24 rfl sz22 dC rX L) t1 t1 ?_))))
   refine sw (Y1 ag22 rF rF L) t1 t1 ?_
   refine mV L rfl (sw (ixJ un22 sz40 (j:=k) rO oM sM L) t2 t0 ?_)
   refine sw (d4 ag40 hld L) t1 t0 (swb (apP (sz:=4) un40 un40 ti47 rfl rfl rfl dC rX oF sM rfl rfl rfl (by first | (simp [Tryz.t47]; done) | (simp [Tryz.t47]; omega)) oM (P0 _ rfl) L) t2 t1 t0 ?_)
   refine aV L rfl ?_
   refine O1 ⟨[(1,_),(2,_),(6,_),(7,_),(8,.ref 25 0 r.length (r.length*4))],[(2,_),(6,_),(25,T3 r)],⟨rfl,rfl,rfl,rfl,ov rfl sM,trivial⟩,t3,?_⟩
   refine exr (mV L rfl (mV L rfl (mV L rfl (sw (Z1 un40 sz47 oM oM sM dC L) t2 t0 ?_))))
   refine sw (L6 ag47 sz47 (M6 hk3) rfl L) t1 t0 (sw (q4 (vs:=[_]) un40 ti47 rfl rfl dC dC rfl (K2 (.cons rfl (.cons rfl (.cons rfl (.cons rfl .nil)))) rfl) rfl (.cons rfl pa4 rfl pu4 .nil) (.cons (.cons (.cons (.cons .nil)))) L) t1 t0 (swb (apP (sz:=4) un40 un40 ti47 rfl rfl rfl dC (by exact sM) oF sM rfl rfl rfl (by first | (simp [Tryz.t47]; done) | (simp [Tryz.t47]; omega)) oM (P0 _ rfl) L) t2 t1 t0 ?_))
   refine aV L rfl (zn [(1,_),(2,_),(6,_),(7,_),(8,_)] [(2,_),(6,_),(25,_)] t5 t3 (s4 [25] (sl:=[(1,_),(2,_),(6,_),(7,_),(8,_)]) (hb:=[(2,_),(6,_)]) (F3 hX0) ⟨⟨_,rfl,.same⟩,⟨_,rfl,.same⟩,⟨_,rfl,.same⟩,⟨_,rfl,.same⟩,⟨_,rfl,(.ref rfl rfl (by exact sM) (by first | rfl | omega))⟩,trivial⟩ ⟨⟨rfl,_,rfl,.same⟩,⟨rfl,_,rfl,.same⟩,trivial⟩ ?_))
   refine j3 (sw (i2 un24 rfl sz22 dC rX L) t1 t1 ?_)
   refine sw (Y1 ag22 rF rF L) t1 t1 ?_
   refine mV L rfl (sw (q4 (vs:=[_]) un22 ti40 rfl rfl dC dC rfl (K2 (.cons rfl .nil) rfl) rfl (.cons rfl .sl rfl pu1 .nil) (.cons .nil) L) t1 t0 (swb (apN (k:=43) (sz:=1) un22 un22 ti40 rfl rfl rfl dC sM rfl (by first | (simp [Tryz.t40]; done) | (simp [Tryz.t40]; omega)) oM (P0 _ rfl) L) t2 t0 ⟨rfl,rfl⟩ ?_))
   refine sw (i2 un24 rfl sz22 dC rX L) t1 t1 ?_
   refine sb (U2 sz22 rF .ref rfl (.skip pu1)) t2 t1 ?_
   refine O1 (j3 (mV L rfl (sw (B3 L (w64 oM oM)) t2 t0 (aV L rfl (O1 ?_)))))
   exact ⟨(k+1,[r++[b.getD k 0]]),⟨by simp only; omega,ht⟩,(by simp only; omega),l3 ⟨oR,rfl,rfl,rfl,trivial⟩ (hbI (l':=[(6,_),(43,_),(2,_)]) rfl ⟨rfl,obl rfl (N1r _ [] _ _ rfl),rfl,trivial⟩)⟩
  ·have hc:=df hc
   have hkM:k=M.length:=by omega
   rw [C0 (by rw [s7]; omega)] at hT
   rw [hT] at hE hr2 hBm hle
   refine G2 (xq ?_)
   refine s4 [] (sl:=[(2,_),(6,_)]) (hb:=[(2,_),(6,_)]) (F3 hX0) ⟨⟨_,rfl,.same⟩,⟨_,rfl,.same⟩,trivial⟩ ⟨⟨rfl,_,rfl,.same⟩,⟨rfl,_,rfl,(.mix (.cons .same (.cons (.p .nil) .nil)))⟩,trivial⟩ (exr (lp2 ag24 sz24 L rfl rfl (cK hG hX cl16 hN hE L t1 (mV L rfl (sw (O3 rfl L) t1 t0 (sw (O3 rfl L) t1 t0 (swb (R3 (k:=9) (n:=2) zv24 (.cons rfl (.cons rfl .nil)) rfl (P0 _ rfl) L) t0 t0 ⟨rfl,rfl⟩ (sb (U2 sz24 rF pa2 rfl pu2) t2 t1 ?_))))))))
   refine aV L rfl (zn [(2,_),(9,_),(10,_)] [(2,_),(9,_)] t3 t2 ?_)
   have hcan:w0p c M b = !((m4 ([])).map s3).contains c:=by rw [w0p,hT]
   have hwant:X7 c M b=d0a c ((m4 ([])).map s3) fun i=>ent (m4 ([])) i c:=by rw [X7,hT]
   obtain ⟨m,hm⟩:∃ m,m=m4 ([]):=⟨_,rfl⟩
   rw [← hm] at hr2 hBm hle hcan hwant ⊢
   obtain ⟨pv,hpv⟩:∃ pv,pv=m.map s3:=⟨_,rfl⟩
   have hpl:pv.length=m.length:=by rw [hpv,O0]
   have hpc:∀ i,i<pv.length→pv.getD i 0<c+1:=fun i hi=>by
    have h1:=d6 hi
    obtain ⟨q,hq,e⟩:=G0.1 (by rw [← hpv]; exact h1)
    have:=hr2.2 q hq
    omega
   rw [← hpv] at hcan hwant ⊢
   rw [hcan,hwant]
   refine R1 (exr (mV L rfl (sw (i2 un24 rfl sz3 dC rX L) t1 t1 ?_)))
   refine sw (Y1 ag3 rF rF L) t1 t1 ?_
   refine cK hG hX cl59 hN (K0y pv c oM) L t2 (zn [(2,_),(9,_),(10,_),(53,_)] [(2,_),(9,_)] t4 t2 ?_)
   refine j2 rfl (fun hh=>?_) (fun hh=>?_)
   ·refine exr (aV L rfl (aV L rfl (zn [(4,_),(5,_)] [] t2 trivial (s4 [] (sl:=[(4,_),(5,_)]) (hb:=[]) (F3 hX0) ⟨⟨_,rfl,(.p .nil)⟩,⟨_,rfl,.same⟩,trivial⟩ t0 (X1 ?_)))))
    refine Y0 (.tmp rfl) (.tmp rfl) ?_
    rw [hh,Bool.not_true,if_neg Bool.false_ne_true]; rfl
   ·rw [hh,Bool.not_false,if_pos rfl]
    have hpc2:∀ i,i<pv.length→pv.getD i 0<c:=fun i hi=>by
     have h1:=hpc i hi
     have h2:pv.getD i 0≠c:=fun e=>by
      have h3:=d6 hi
      rw [e,← List.contains_iff_mem,hh] at h3
      cases h3
     omega
    refine U1 (xq ?_)
    refine exr (sw (i2 un24 rfl sz3 dC rX L) t1 t1 ?_)
    refine sw (Y1 ag3 rF rF L) t1 t1 ?_
    refine swb (o6 (sz:=4) (k:=56) un40 ti47 rfl rfl dC rfl rfl rfl (show (0:Int)=((0:Nat):Int) from rfl) rfl (Nat.zero_le _) (by simp [Tryz.t47]; omega) oM (P0 _ rfl) L) t2 t0 ⟨rfl,rfl⟩ ?_
    refine aV L rfl ?_
    refine O1 ⟨[(2,_),(9,_),(10,_),(11,.ref 56 0 0 0)],[(2,_),(9,_),(56,T3 [])],t4,t3,?_⟩
    refine R1 (exr (aV L rfl (zn [(2,_),(9,_),(10,_),(11,_),(12,_)] [(2,_),(9,_),(56,_)] t5 t3 (V1 ?_))))
    refine exl (α:=Nat) (fun j=>[(12,vi (j:Int)),(11,.ref 56 0 j (j*4))]) (fun j=>[(56,T3 (zq j))]) (fun j=>j≤c) (fun j=>c - j) (0) (sl:=[(2,_),(9,_),(10,_)]) (hb:=[(2,_),(9,_)]) ?_ ⟨oR,oR,rfl,rfl,rfl,trivial⟩ t3 ?_
    ·exact Nat.zero_le _
    intro j hj
    refine R1 (exr (mV L rfl (sw (i2 un24 rfl sz3 dC rX L) t1 t1 ?_)))
    refine sw (Y1 ag3 rF rF L) t1 t1 ?_
    refine sw (P3 L) t2 t0 (zn [(2,_),(9,_),(10,_),(11,_),(12,_),(60,_)] [(2,_),(9,_),(56,_)] t6 t3 ?_)
    refine j2 rfl (fun he=>?_) (fun he=>?_)
    ·have he:=dt he
     refine U1 (xq ?_)
     refine R1 (V1 (j3 (mV L rfl (cK hG hX cl60 hN (n0h) L t0 (sw (q4 (vs:=[_]) un40 ti47 rfl rfl dC dC rfl (K2 (.cons rfl (.cons rfl (.cons rfl (.cons rfl .nil)))) rfl) rfl (.cons rfl pa4 rfl pu4 .nil) (.cons (.cons (.cons (.cons .nil)))) L) t1 t0 (swb (apP (sz:=4) un40 un40 ti47 rfl rfl rfl dC (by exact sM) oF sM rfl rfl rfl (by first | (simp [Tryz.t47]; done) | (simp [Tryz.t47]; omega)) oM (P0 _ rfl) L) t2 t1 t0 ?_))))))
     refine aV L rfl (O1 (j3 (mV L rfl (sw (B3 L (w64 oM oM)) t2 t0 (aV L rfl (O1 ?_))))))
     exact ⟨j+1,oM,by omega,l3 ⟨oR,ov rfl sO,rfl,rfl,rfl,trivial⟩ ⟨obl rfl ((L9 _ _).trans (by rw [P0j])),rfl,rfl,trivial⟩⟩
    ·have he:=df he
     have hjc:j=c:=by omega
     subst hjc
     refine G2 (xq ?_)
     refine R1 (exr (aV L rfl (zn [(2,_),(9,_),(10,_),(11,_),(13,_)] [(2,_),(9,_),(56,_)] t5 t3 (V1 ?_))))
     refine exl (α:=Nat) (fun i=>[(13,vi (i:Int))]) (fun i=>[(56,T3 (n0y pv (fun i=>ent m i j) (zq j) i))]) (fun i=>i≤pv.length) (fun i=>pv.length - i) (0) (sl:=[(2,_),(9,_),(10,_),(11,_)]) (hb:=[(2,_),(9,_)]) ?_ ⟨oR,rfl,rfl,rfl,rfl,trivial⟩ t3 ?_
     ·exact Nat.zero_le _
     intro i hi
     refine R1 (exr (mV L rfl (mV L rfl (sw (R2 un27 L) t1 t0 (sw (P3 L) t2 t0 (zn [(2,_),(9,_),(10,_),(11,_),(13,_),(70,_)] [(2,_),(9,_),(56,_)] t6 t3 ?_))))))
     refine j2 rfl (fun hq=>?_) (fun hq=>?_)
     ·have hq:=dt hq
      have hi2:i<pv.length:=by omega
      have hi3:i<m.length:=by omega
      have hml:=hr2.1 _ (gDL hi3)
      have hfl:j<(m.getD i []).length:=by omega
      have hpi:=hpc2 i hi2
      refine U1 (xq ?_)
      refine R1 (V1 (b0z rF ?_))
      refine mV L rfl (mV L rfl (mV L rfl (sw (ixJ un27 sz3 (j:=i) rO oM sM L) t2 t0 ?_)))
      refine sw (d4 ag3 (d1g hi2) L) t1 t0 (sw (i2 un24 rfl sz22 dC rX L) t1 t1 ?_)
      refine sw (Y1 ag22 rF rF L) t1 t1 ?_
      refine mV L rfl (sw (ixJ un22 sz40 (j:=i) rO oM sM L) t2 t0 ?_)
      refine sw (d4 ag40 (b7 hi3) L) t1 t0 (sw (i2 un24 rfl sz3 dC rX L) t1 t1 ?_)
      refine sw (Y1 ag3 rF rF L) t1 t1 ?_
      refine sw (Z1 un40 sz47 oM oM sM dC L) t2 t0 ?_
      refine sw (L6 ag47 sz47 (M6 hfl) rfl L) t1 t0 (sw (n0j (sz:=4) un40 sz47 (by exact sM) (j:=pv.getD i 0) rO oM L) t2 t1 ?_)
      refine sb (B0v (n:=4) sz47 (by exact sM) rfl oM) t2 t1 ?_
      refine O1 ⟨d5 [⟨[11],[],[73],[]⟩,⟨[10],[],[74],[]⟩,⟨[13],[],[75],[]⟩,⟨[74,75],[],[76],[]⟩,⟨[76],[],[77],[]⟩,⟨[9],[9],[78],[]⟩,⟨[78],[9],[79],[]⟩,⟨[13],[],[80],[]⟩,⟨[79,80],[],[81],[]⟩,⟨[81],[],[82],[]⟩,⟨[2],[2],[83],[]⟩,⟨[83],[2],[84],[]⟩,⟨[82,84],[],[85],[]⟩,⟨[85],[],[86],[]⟩,⟨[73,77],[56],[87],[]⟩,⟨[87,86],[56],[],[56]⟩] rF rF dC,?_⟩
      refine j3 (mV L rfl (sw (B3 L (w64 oM oM)) t2 t0 (aV L rfl (O1 ?_))))
      exact ⟨i+1,oM,by omega,l3 ⟨oR,rfl,rfl,rfl,rfl,trivial⟩ ⟨obl rfl ((k0c _ (by rw [C9,b0b]; exact hpi)).trans (by rw [y8]; rfl)),rfl,rfl,trivial⟩⟩
     ·have hq:=df hq
      have hip:i=pv.length:=by omega
      subst hip
      refine G2 (xq ?_)
      refine s4 [56] (sl:=[(11,_)]) (hb:=[]) (F3 hX0) ⟨⟨_,rfl,(.ref rfl rfl (by exact sM) (by first | rfl | omega))⟩,trivial⟩ t0 ?_
      refine exr (mV L rfl (aV L rfl (aV L rfl (zn [(4,_),(5,_)] [] t2 trivial (X1 ?_)))))
      refine Y0 (.tmp rfl) (.tmp rfl) ?_
      rw [d0a,M1x]; simp
 ·dsimp only [D0a,D0c]
  have hTl:(q :: T).length=k:=by rw [← hT,J0,s7]; omega
  have hTl2:T.length+1=k:=hTl
  refine R1 (exr (mV L rfl (sw (i2 un24 rfl sz22 dC rX L) t1 t1 ?_)))
  refine sw (Y1 ag22 rF rF L) t1 t1 ?_
  refine sw (R2 un22 L) t1 t0 (sw (P3 L) t2 t0 (zn [(1,_),(2,_),(6,_),(7,_),(22,_)] [(2,_),(6,_),(43,_)] t5 t3 ?_))
  refine j2 rfl (fun hc=>?_) (fun hc=>?_)
  ·have hc:=dt hc
   have hk2:k<M.length:=by omega
   have hk3:k<b.length:=by omega
   have ht:=M0s (b:=b) hk2
   rw [hT] at ht
   have hlen:=hr _ (gDL hk2)
   have hld:=b7 hk2
   obtain ⟨r,hr0⟩:∃ r,r=M.getD k []:=⟨_,rfl⟩
   rw [← hr0] at hlen ht hld
   refine U1 (xq ?_)
   refine R1 (V1 (exr (swb (f9 (k:=25) (sz:=4) un40 ti47 (P0 _ rfl) L) t0 t0 ⟨rfl,rfl⟩ (sw (i2 un24 rfl sz22 dC rX L) t1 t1 ?_))))
   refine sw (Y1 ag22 rF rF L) t1 t1 ?_
   refine mV L rfl (sw (ixJ un22 sz40 (j:=k) rO oM sM L) t2 t0 ?_)
   refine sw (d4 ag40 hld L) t1 t0 (swb (apP (sz:=4) un40 un40 ti47 rfl rfl rfl dC rX oF sM rfl rfl rfl (by first | (simp [Tryz.t47]; done) | (simp [Tryz.t47]; omega)) oM (P0 _ rfl) L) t2 t1 t0 ?_)
   refine aV L rfl ?_
   refine O1 ⟨[(1,_),(2,_),(6,_),(7,_),(8,.ref 25 0 r.length (r.length*4))],[(2,_),(6,_),(25,T3 r),(43,_)],⟨rfl,rfl,rfl,rfl,ov rfl sM,trivial⟩,t4,?_⟩
   refine exr (mV L rfl (mV L rfl (mV L rfl (sw (Z1 un40 sz47 oM oM sM dC L) t2 t0 ?_))))
   refine sw (L6 ag47 sz47 (M6 hk3) rfl L) t1 t0 (sw (q4 (vs:=[_]) un40 ti47 rfl rfl dC dC rfl (K2 (.cons rfl (.cons rfl (.cons rfl (.cons rfl .nil)))) rfl) rfl (.cons rfl pa4 rfl pu4 .nil) (.cons (.cons (.cons (.cons .nil)))) L) t1 t0 (swb (apP (sz:=4) un40 un40 ti47 rfl rfl rfl dC (by exact sM) oF sM rfl rfl rfl (by first | (simp [Tryz.t47]; done) | (simp [Tryz.t47]; omega)) oM (P0 _ rfl) L) t2 t1 t0 ?_))
   refine aV L rfl (zn [(1,_),(2,_),(6,_),(7,_),(8,_)] [(2,_),(6,_),(25,_),(43,_)] t5 t4 (s4 [25] (sl:=[(1,_),(2,_),(6,_),(7,_),(8,_)]) (hb:=[(2,_),(6,_),(43,_)]) (F3 hX0) ⟨⟨_,rfl,.same⟩,⟨_,rfl,.same⟩,⟨_,rfl,.same⟩,⟨_,rfl,.same⟩,⟨_,rfl,(.ref rfl rfl (by exact sM) (by first | rfl | omega))⟩,trivial⟩ ⟨⟨rfl,_,rfl,.same⟩,⟨rfl,_,rfl,.same⟩,⟨rfl,_,rfl,.same⟩,trivial⟩ ?_))
   refine j3 (sw (i2 un24 rfl sz22 dC rX L) t1 t1 ?_)
   refine sw (Y1 ag22 rF rF L) t1 t1 ?_
   refine mV L rfl (sw (q4 (vs:=[_]) un22 ti40 rfl rfl dC dC rfl (K2 (.cons rfl .nil) rfl) rfl (.cons rfl .sl rfl pu1 .nil) (.cons .nil) L) t1 t0 (swb (apP (sz:=1) un22 un22 ti40 rfl rfl rfl dC (by exact (G5 _)) oF sM rfl rfl rfl (by first | (simp [Tryz.t40]; done) | (simp [Tryz.t40]; omega)) oM (P0 _ rfl) L) t2 t1 t0 ?_))
   refine sw (i2 un24 rfl sz22 dC rX L) t1 t1 ?_
   refine sb (U2 sz22 rF .ref rfl (.skip pu1)) t2 t1 ?_
   refine O1 (j3 (mV L rfl (sw (B3 L (w64 oM oM)) t2 t0 (aV L rfl (O1 ?_)))))
   exact ⟨(k+1,q :: T++[r++[b.getD k 0]]),⟨by simp only; omega,ht⟩,(by simp only; omega),l3 ⟨oR,rfl,rfl,rfl,trivial⟩ (hbI (l':=[(6,_),(43,_),(2,_)]) rfl ⟨obl rfl sM,obl rfl (N1r _ (q :: T) _ _ rfl),rfl,trivial⟩)⟩
  ·have hc:=df hc
   have hkM:k=M.length:=by omega
   rw [C0 (by rw [s7]; omega)] at hT
   rw [hT] at hE hr2 hBm hle
   refine G2 (xq ?_)
   refine s4 [43] (sl:=[(2,_),(6,_)]) (hb:=[(2,_),(6,_)]) (F3 hX0) ⟨⟨_,rfl,.same⟩,⟨_,rfl,.same⟩,trivial⟩ ⟨⟨rfl,_,rfl,.same⟩,⟨rfl,_,rfl,(.mix (.cons .same (.cons (.ref rfl rfl (by exact (G5 _)) (by first | rfl | omega)) .nil)))⟩,trivial⟩ ?_
   refine exr (lp2 ag24 sz24 L rfl rfl (cK hG hX cl16 hN hE L t1 (mV L rfl (sw (O3 rfl L) t1 t0 (sw (O3 rfl L) t1 t0 (swb (R3 (k:=9) (n:=2) zv24 (.cons rfl (.cons rfl .nil)) rfl (P0 _ rfl) L) t0 t0 ⟨rfl,rfl⟩ (sb (U2 sz24 rF pa2 rfl pu2) t2 t1 ?_)))))))
   refine aV L rfl (zn [(2,_),(9,_),(10,_)] [(2,_),(9,_)] t3 t2 ?_)
   have hcan:w0p c M b = !((m4 (q :: T)).map s3).contains c:=by rw [w0p,hT]
   have hwant:X7 c M b=d0a c ((m4 (q :: T)).map s3) fun i=>ent (m4 (q :: T)) i c:=by rw [X7,hT]
   obtain ⟨m,hm⟩:∃ m,m=m4 (q :: T):=⟨_,rfl⟩
   rw [← hm] at hr2 hBm hle hcan hwant ⊢
   obtain ⟨pv,hpv⟩:∃ pv,pv=m.map s3:=⟨_,rfl⟩
   have hpl:pv.length=m.length:=by rw [hpv,O0]
   have hpc:∀ i,i<pv.length→pv.getD i 0<c+1:=fun i hi=>by
    have h1:=d6 hi
    obtain ⟨q,hq,e⟩:=G0.1 (by rw [← hpv]; exact h1)
    have:=hr2.2 q hq
    omega
   rw [← hpv] at hcan hwant ⊢
   rw [hcan,hwant]
   refine R1 (exr (mV L rfl (sw (i2 un24 rfl sz3 dC rX L) t1 t1 ?_)))
   refine sw (Y1 ag3 rF rF L) t1 t1 ?_
   refine cK hG hX cl59 hN (K0y pv c oM) L t2 (zn [(2,_),(9,_),(10,_),(53,_)] [(2,_),(9,_)] t4 t2 ?_)
   refine j2 rfl (fun hh=>?_) (fun hh=>?_)
   ·refine exr (aV L rfl (aV L rfl (zn [(4,_),(5,_)] [] t2 trivial (s4 [] (sl:=[(4,_),(5,_)]) (hb:=[]) (F3 hX0) ⟨⟨_,rfl,(.p .nil)⟩,⟨_,rfl,.same⟩,trivial⟩ t0 (X1 ?_)))))
    refine Y0 (.tmp rfl) (.tmp rfl) ?_
    rw [hh,Bool.not_true,if_neg Bool.false_ne_true]; rfl
   ·rw [hh,Bool.not_false,if_pos rfl]
    have hpc2:∀ i,i<pv.length→pv.getD i 0<c:=fun i hi=>by
     have h1:=hpc i hi
     have h2:pv.getD i 0≠c:=fun e=>by
      have h3:=d6 hi
      rw [e,← List.contains_iff_mem,hh] at h3
      cases h3
     omega
    refine U1 (xq ?_)
    refine exr (sw (i2 un24 rfl sz3 dC rX L) t1 t1 ?_)
    refine sw (Y1 ag3 rF rF L) t1 t1 ?_
    refine swb (o6 (sz:=4) (k:=56) un40 ti47 rfl rfl dC rfl rfl rfl (show (0:Int)=((0:Nat):Int) from rfl) rfl (Nat.zero_le _) (by simp [Tryz.t47]; omega) oM (P0 _ rfl) L) t2 t0 ⟨rfl,rfl⟩ ?_
    refine aV L rfl ?_
    refine O1 ⟨[(2,_),(9,_),(10,_),(11,.ref 56 0 0 0)],[(2,_),(9,_),(56,T3 [])],t4,t3,?_⟩
    refine R1 (exr (aV L rfl (zn [(2,_),(9,_),(10,_),(11,_),(12,_)] [(2,_),(9,_),(56,_)] t5 t3 (V1 ?_))))
    refine exl (α:=Nat) (fun j=>[(12,vi (j:Int)),(11,.ref 56 0 j (j*4))]) (fun j=>[(56,T3 (zq j))]) (fun j=>j≤c) (fun j=>c - j) (0) (sl:=[(2,_),(9,_),(10,_)]) (hb:=[(2,_),(9,_)]) ?_ ⟨oR,oR,rfl,rfl,rfl,trivial⟩ t3 ?_
    ·exact Nat.zero_le _
    intro j hj
    refine R1 (exr (mV L rfl (sw (i2 un24 rfl sz3 dC rX L) t1 t1 ?_)))
    refine sw (Y1 ag3 rF rF L) t1 t1 ?_
    refine sw (P3 L) t2 t0 (zn [(2,_),(9,_),(10,_),(11,_),(12,_),(60,_)] [(2,_),(9,_),(56,_)] t6 t3 ?_)
    refine j2 rfl (fun he=>?_) (fun he=>?_)
    ·have he:=dt he
     refine U1 (xq ?_)
     refine R1 (V1 (j3 (mV L rfl (cK hG hX cl60 hN (n0h) L t0 (sw (q4 (vs:=[_]) un40 ti47 rfl rfl dC dC rfl (K2 (.cons rfl (.cons rfl (.cons rfl (.cons rfl .nil)))) rfl) rfl (.cons rfl pa4 rfl pu4 .nil) (.cons (.cons (.cons (.cons .nil)))) L) t1 t0 (swb (apP (sz:=4) un40 un40 ti47 rfl rfl rfl dC (by exact sM) oF sM rfl rfl rfl (by first | (simp [Tryz.t47]; done) | (simp [Tryz.t47]; omega)) oM (P0 _ rfl) L) t2 t1 t0 ?_))))))
     refine aV L rfl (O1 (j3 (mV L rfl (sw (B3 L (w64 oM oM)) t2 t0 (aV L rfl (O1 ?_))))))
     exact ⟨j+1,oM,by omega,l3 ⟨oR,ov rfl sO,rfl,rfl,rfl,trivial⟩ ⟨obl rfl ((L9 _ _).trans (by rw [P0j])),rfl,rfl,trivial⟩⟩
    ·have he:=df he
     have hjc:j=c:=by omega
     subst hjc
     refine G2 (xq ?_)
     refine R1 (exr (aV L rfl (zn [(2,_),(9,_),(10,_),(11,_),(13,_)] [(2,_),(9,_),(56,_)] t5 t3 (V1 ?_))))
     refine exl (α:=Nat) (fun i=>[(13,vi (i:Int))]) (fun i=>[(56,T3 (n0y pv (fun i=>ent m i j) (zq j) i))]) (fun i=>i≤pv.length) (fun i=>pv.length - i) (0) (sl:=[(2,_),(9,_),(10,_),(11,_)]) (hb:=[(2,_),(9,_)]) ?_ ⟨oR,rfl,rfl,rfl,rfl,trivial⟩ t3 ?_
     ·exact Nat.zero_le _
     intro i hi
     refine R1 (exr (mV L rfl (mV L rfl (sw (R2 un27 L) t1 t0 (sw (P3 L) t2 t0 (zn [(2,_),(9,_),(10,_),(11,_),(13,_),(70,_)] [(2,_),(9,_),(56,_)] t6 t3 ?_))))))
     refine j2 rfl (fun hq=>?_) (fun hq=>?_)
     ·have hq:=dt hq
      have hi2:i<pv.length:=by omega
      have hi3:i<m.length:=by omega
      have hml:=hr2.1 _ (gDL hi3)
      have hfl:j<(m.getD i []).length:=by omega
      have hpi:=hpc2 i hi2
      refine U1 (xq ?_)
      refine R1 (V1 (b0z rF ?_))
      refine mV L rfl (mV L rfl (mV L rfl (sw (ixJ un27 sz3 (j:=i) rO oM sM L) t2 t0 ?_)))
      refine sw (d4 ag3 (d1g hi2) L) t1 t0 (sw (i2 un24 rfl sz22 dC rX L) t1 t1 ?_)
      refine sw (Y1 ag22 rF rF L) t1 t1 ?_
      refine mV L rfl (sw (ixJ un22 sz40 (j:=i) rO oM sM L) t2 t0 ?_)
      refine sw (d4 ag40 (b7 hi3) L) t1 t0 (sw (i2 un24 rfl sz3 dC rX L) t1 t1 ?_)
      refine sw (Y1 ag3 rF rF L) t1 t1 ?_
      refine sw (Z1 un40 sz47 oM oM sM dC L) t2 t0 ?_
      refine sw (L6 ag47 sz47 (M6 hfl) rfl L) t1 t0 (sw (n0j (sz:=4) un40 sz47 (by exact sM) (j:=pv.getD i 0) rO oM L) t2 t1 ?_)
      refine sb (B0v (n:=4) sz47 (by exact sM) rfl oM) t2 t1 ?_
      refine O1 ⟨d5 [⟨[11],[],[73],[]⟩,⟨[10],[],[74],[]⟩,⟨[13],[],[75],[]⟩,⟨[74,75],[],[76],[]⟩,⟨[76],[],[77],[]⟩,⟨[9],[9],[78],[]⟩,⟨[78],[9],[79],[]⟩,⟨[13],[],[80],[]⟩,⟨[79,80],[],[81],[]⟩,⟨[81],[],[82],[]⟩,⟨[2],[2],[83],[]⟩,⟨[83],[2],[84],[]⟩,⟨[82,84],[],[85],[]⟩,⟨[85],[],[86],[]⟩,⟨[73,77],[56],[87],[]⟩,⟨[87,86],[56],[],[56]⟩] rF rF dC,?_⟩
      refine j3 (mV L rfl (sw (B3 L (w64 oM oM)) t2 t0 (aV L rfl (O1 ?_))))
      exact ⟨i+1,oM,by omega,l3 ⟨oR,rfl,rfl,rfl,rfl,trivial⟩ ⟨obl rfl ((k0c _ (by rw [C9,b0b]; exact hpi)).trans (by rw [y8]; rfl)),rfl,rfl,trivial⟩⟩
     ·have hq:=df hq
      have hip:i=pv.length:=by omega
      subst hip
      refine G2 (xq ?_)
      refine s4 [56] (sl:=[(11,_)]) (hb:=[]) (F3 hX0) ⟨⟨_,rfl,(.ref rfl rfl (by exact sM) (by first | rfl | omega))⟩,trivial⟩ t0 ?_
      refine exr (mV L rfl (aV L rfl (aV L rfl (zn [(4,_),(5,_)] [] t2 trivial (X1 ?_)))))
      refine Y0 (.tmp rfl) (.tmp rfl) ?_
      rw [d0a,M1x]; simp
theorem RQ.of_inj {a b:Rat}(h:RQ.of a=RQ.of b):a=b:=by
 have h1:=congrArg (fun r=>sg r.m (val r.ws)) h
 have h2:=congrArg (fun r=>sg r.n (val r.vs)) h
 simp only [RQ.of,M1z] at h1 h2
 exact Rat.ext h1 (by exact_mod_cast h2)
theorem RQ.of_iff {a b:Rat}:RQ.of a=RQ.of b↔a=b:=⟨RQ.of_inj,fun h=>by rw [h]⟩
theorem B0f (a b:Rat)(ha:qw a<1000000000)(hb:qw b<1000000000):v3 E 33 [pQ a,pQ b] (bZ (decide (a=b))):=by
 have:=B0a (RQ.of a) (RQ.of b) (RQ.sm_of ha) (RQ.sm_of hb)
 rwa [decide_eq_decide.2 RQ.of_iff] at this
theorem H0c {M:List (List Rat)}{y:List Rat}{j:Nat}(hy:y.length=M.length):H8 (p0d M y j M.length)=O9 y (K6 M j):=by
 rw [q0h,dtR]
 congr 1
 refine List.ext_getElem (by simp [hy]) fun i h1 h2=>?_
 have h3:i<y.length:=by simp at h1; omega
 have h4:i<M.length:=by omega
 simp [p0d,K6,ent,f0,h3,h4]
theorem V0g {B:Nat}{v:List Rat}(h:∀ a∈v,qw a≤B)(hb:B<1000000000):∀ r∈v.map RQ.of,r.sm:=fun r hr=>by
 obtain ⟨a,ha,rfl⟩:=G0.1 hr
 exact RQ.sm_of (Nat.lt_of_le_of_lt (h a ha) hb)
theorem H0r {B:Nat}{v:List Rat}(hl:v.length<1000000000)(h:∀ a∈v,qw a≤B)(hb:B<1000000000):v3 E 27 [pV v] (bZ true):=by
 have:=k0p (v.map RQ.of) (by rw [O0]; exact hl) (V0g h hb)
 rwa [P0x,v0p] at this
theorem M1r {c B C:Nat}{y:List Rat}{M:List (List Rat)}(hB:MB B M)(hC:∀ a∈y,qw a≤C)(hr:∀ r∈M,r.length=c){j:Nat}(hj:j<c):qw (O9 y (K6 M j))≤y.length*(C+B+1)+1:=g1h hC (p1p hB hj hr)
theorem n1z {r:List Rat}{N:List (List Rat)}{c j:Nat}(h:j<c):(f0g r N c).getD j 0=O9 r (K6 N j):=by
 simp [f0g,f0,h]
theorem b1d (c B C:Nat)(M:List (List Rat))(b y:List Rat)(h:MOk c M)(hB:MB B M)(hbB:∀ a∈b,qw a≤B)(hyB:∀ a∈y,qw a≤C)(hbl:b.length=M.length)(hyl:y.length=M.length)(hs:M.length*(C+B+1)+1<900000000)(hbb:B<100000000∧C<100000000):v3 E 26 [pMq c M,pV b,pV y] (bZ (G0p c M b y)):=by
 refine D2 (xs:=[bZ (G0p c M b y)]) Tryz.func26 rfl Tryz.ntmps26 Tryz.results26 sM fun F hG hX0 hnt hdf P0=>?_
 obtain ⟨L,hX,hN⟩:=pro hnt hX0 hG
 have hr4:=h.rows
 have hc6:=h.cols
 have hmul:y.length*(C+B+1)=M.length*(C+B+1):=by rw [hyl]
 obtain ⟨hbb,hcc⟩:=hbb
 refine exr (swb (U3 (k:=3) (n:=2) pa2 rfl rfl (P0 _ rfl) L) t1 t0 ⟨rfl,rfl⟩ (aV L rfl (zn [(1,_),(2,_),(3,_)] [(3,_)] t3 t1 (R1 (exr (lp2 ag24 sz24 L rfl rfl (cK hG hX cl15 hN (h1a h hB oM) L t1 (sw (C4 L) t1 t0 (mV L rfl (gV (g:=12) rfl rfl L rfl rfl (swg (g:=12) rfl rfl (c_c hG hX cl27 rfl hN (H0r oM hbB oM) L) rfl t1 t0 ?_)))))))))))
 refine swg (g:=12) rfl rfl (C4 L) rfl t1 t0 (sw (y4 rfl L) t2 t0 (mV L rfl (gV (g:=17) rfl rfl L rfl rfl (swg (g:=17) rfl rfl (c_c hG hX cl27 rfl hN (H0r oM hyB oM) L) rfl t1 t0 (swg (g:=17) rfl rfl (C4 L) rfl t1 t0 (sw (y4 rfl L) t2 t0 (mV L rfl (gV (g:=22) rfl rfl L rfl rfl (swg (g:=22) rfl rfl (R2 un40 L) rfl t1 t0 (swg (g:=22) rfl rfl (i2 un24 rfl sz22 dC rX L) rfl t1 t1 ?_))))))))))
 refine swg (g:=22) rfl rfl (Y1 ag22 rF rF L) rfl t1 t1 ?_
 refine swg (g:=22) rfl rfl (R2 un22 L) rfl t1 t0 (swg (g:=22) rfl rfl (c_n L) rfl t2 t0 (sw (y4 rfl L) t2 t0 (mV L rfl (gV (g:=30) rfl sO L rfl rfl (swg (g:=30) rfl sO (R2 un40 L) rfl t1 t0 (swg (g:=30) rfl sO (i2 un24 rfl sz22 dC rX L) rfl t1 t1 ?_))))))
 refine swg (g:=30) rfl sO (Y1 ag22 rF rF L) rfl t1 t1 ?_
 refine swg (g:=30) rfl sO (R2 un22 L) rfl t1 t0 (swg (g:=30) rfl sO (c_n L) rfl t2 t0 (sw (y4 sO L) t2 t0 (zn [(1,_),(2,_),(3,_),(37,_)] [(3,_)] t4 t1 (Z3 rfl sO ?_))))
 refine U1 (xq ?_)
 refine exr (mV L rfl (lp2 ag24 sz24 L rfl rfl (cK hG hX cl71 hN (W0m c B C y M oM h.len hyl oM hB hyB oM oM oM) L t2 (aV L rfl (zn [(1,_),(2,_),(7,_)] [] t3 trivial (R1 (exr (aV L rfl (zn [(1,_),(2,_),(7,_),(8,_)] [] t4 trivial (V1 ?_))))))))))
 refine exl (α:=Nat) (fun j=>[(8,vi (j:Int))]) (fun j=>[]) (fun j=>j≤c∧Q0k M y j=true) (fun j=>c - j) (0) (sl:=[(1,_),(2,_),(7,_)]) (hb:=[]) ?_ ⟨oR,rfl,rfl,rfl,trivial⟩ t0 ?_
 ·exact ⟨Nat.zero_le _,rfl⟩
 intro j hj
 obtain ⟨hj,hch⟩:=hj
 refine R1 (exr (mV L rfl (mV L rfl (sw (R2 un40 L) t1 t0 (sw (P3 L) t2 t0 (zn [(1,_),(2,_),(7,_),(8,_),(44,_)] [] t5 trivial ?_))))))
 refine j2 rfl (fun hc=>?_) (fun hc=>?_)
 ·have hc:=dt hc
  simp only [X5] at hc
  have hjc:j<c:=by omega
  have hjm:j<(f0g y M c).length:=by rw [X5]; exact hjc
  have hq:=M1r hB hyB h.len hjc
  have hld:=M6 hjm
  rw [n1z hjc] at hld
  refine U1 (xq ?_)
  refine R1 (V1 (exr (mV L rfl (mV L rfl (sw (Z1 un40 sz47 oM oM sM dC L) t2 t0 ?_)))))
  refine sw (L6 ag47 sz47 hld rfl L) t1 t0 (cK hG hX cl22 hN (j1j (O9 y (K6 M j))) L t1 (sw (C4 L) t1 t0 (zn [(1,_),(2,_),(7,_),(8,_),(52,_)] [] t5 trivial ?_)))
  refine j2 rfl (fun hz=>?_) (fun hz=>?_)
  ·have hz:=dnt hz
   refine exr (aV L rfl (zn [(6,_)] [] t1 trivial (X1 ?_)))
   refine Q0 (.tmp rfl) ?_
   rw [G0p,H0v hjc (by rw [H0c hyl]; exact hz)]; rfl
  ·have hz:=dnf hz
   refine U1 (xq ?_)
   refine j3 (mV L rfl (sw (B3 L (w64 oM oM)) t2 t0 (aV L rfl (O1 ?_))))
   exact ⟨j+1,⟨by omega,by rw [y0g,hch,H0c hyl,hz]; rfl⟩,by omega,l3 ⟨oR,rfl,rfl,rfl,trivial⟩ trivial⟩
 ·have hc:=df hc
  simp only [X5] at hc
  have hjc:j=c:=by omega
  subst hjc
  have hq:=g1h (u:=y) (v:=b) hyB hbB
  refine G2 (xq ?_)
  refine exr (mV L rfl (mV L rfl (cK hG hX cl63 hN (N0f y b C B oM oM hyB hbB oM oM oM) L t2 (cK hG hX cl61 hN (j1b) L t0 (cK hG hX cl33 hN (B0f (O9 y b) 1 oM (by rw [H0g]; decide)) L t2 ?_)))))
  refine aV L rfl (zn [(6,_)] [] t1 trivial (X1 ?_))
  refine Q0 (.tmp rfl) ?_
  rw [G0p,hch,Bool.true_and]


theorem w1h:∀ {v:List RQ}{i:Nat}(j:Nat),i<v.length→j<4→(p0z v)[i*4+j]? = (cR (v.getD i default))[j]?
 | [],i,j,h,_=>by simp at h
 | a :: v,0,j,_,h2=>by
  rw [p0z,Nat.zero_mul,F1,X0 (by simp [cR]; omega)]; rfl
 | a :: v,i+1,j,h,h2=>by
  have:=w1h (v:=v) (i:=i) j (by simpa using h) h2
  rw [p0z,D0 (by simp [cR]; omega),show (i+1)*4+j - (cR a).length=i*4+j by simp [cR]; omega,this]
  simp
theorem b2c {v:List RQ}{i:Nat}(h:i<v.length):(p0z v)[i*4+0+1]? = some (.sl (v.getD i default).ws.length (J4 (v.getD i default).ws)):=w1h 1 h dC
theorem W1n {v:List RQ}{i:Nat}(h:i<v.length):(p0z v)[i*4+2+1]? = some (.sl (v.getD i default).vs.length (J4 (v.getD i default).vs)):=w1h 3 h dC
def iV (l:List Int):List Rat:=l.map fun z:Int=>(z:Rat)
@[simp] theorem m0g (l:List Int):(iV l).length=l.length:=by simp [iV]
@[reducible] def pJ (l:List Int):L2:=.sl l.length (l.map vZ)
theorem b2w {l:List Int}{k:Nat}(h:k<l.length):(l.map vZ)[k]? = some (vZ (l.getD k 0)):=by simp [f0,h]
theorem K1z {l:List Int}{k:Nat}(h:k<l.length):iV (l.take (k+1))=iV (l.take k)++[((l.getD k 0:Int):Rat)]:=by
 rw [I1,iV,List.map_append]; simp [iV,f0,h]
theorem B1v (l:List Int)(hl:l.length<1000)(hb:∀ z∈l,-1000≤z∧z<1000):v3 E 48 [pJ l] (pV (iV l)):=by
 refine D2 (xs:=[pV (iV l)]) Tryz.func48 rfl Tryz.ntmps48 Tryz.results48 sM fun F hG hX0 hnt hdf P0=>?_
 obtain ⟨L,hX,hN⟩:=pro hnt hX0 hG
 refine exr (aV L rfl (zn [(0,_)] [] t1 trivial (exr (swb (f9 (k:=5) (sz:=4) un40 ti47 (P0 _ rfl) L) t0 t0 ⟨rfl,rfl⟩ (aV L rfl ?_)))))
 refine O1 ⟨[(0,_),(3,.ref 5 0 0 0)],[(5,T3 [])],t2,t1,?_⟩
 refine R1 (exr (aV L rfl (zn [(0,_),(3,_),(4,_)] [(5,_)] t3 t1 (V1 ?_))))
 refine exl (α:=Nat) (fun k=>[(4,vi (k:Int)),(3,.ref 5 0 k (k*4))]) (fun k=>[(5,T3 (iV (l.take k)))]) (fun k=>k≤l.length) (fun k=>l.length - k) (0) (sl:=[(0,_)]) (hb:=[]) ?_ ⟨oR,oR,rfl,trivial⟩ t1 ?_
 ·exact Nat.zero_le _
 intro k hk
 refine R1 (exr (mV L rfl (mV L rfl (sw (R2 un27 L) t1 t0 (sw (P3 L) t2 t0 (zn [(0,_),(3,_),(4,_),(9,_)] [(5,_)] t4 t1 ?_))))))
 refine j2 rfl (fun hc=>?_) (fun hc=>?_)
 ·have hc:=dt hc
  have hk2:k<l.length:=by omega
  have hz:=hb (l.getD k 0) (by simp [f0,hk2])
  refine U1 (xq ?_)
  refine R1 (V1 (j3 (mV L rfl (mV L rfl (mV L rfl (sw (ixJ un27 sz3 (j:=k) rO oM sM L) t2 t0 ?_))))))
  refine sw (d4 ag3 (b2w hk2) L) t1 t0 (cK hG hX cl49 hN (d0x (l.getD k 0) oM oM) L t1 (sw (q4 (vs:=[_]) un40 ti47 rfl rfl dC dC rfl (K2 (.cons rfl (.cons rfl (.cons rfl (.cons rfl .nil)))) rfl) rfl (.cons rfl pa4 rfl pu4 .nil) (.cons (.cons (.cons (.cons .nil)))) L) t1 t0 (swb (apP (sz:=4) un40 un40 ti47 rfl rfl rfl dC (by exact (by first | (simp; omega) | (simp; done))) oF sM rfl rfl rfl (by first | (simp [Tryz.t47]; done) | (simp [Tryz.t47]; omega)) oM (P0 _ rfl) L) t2 t1 t0 ?_)))
  refine aV L rfl (O1 (j3 (mV L rfl (sw (B3 L (w64 oM oM)) t2 t0 (aV L rfl (O1 ?_))))))
  exact ⟨k+1,oM,by omega,l3 ⟨oR,ov rfl sO,rfl,trivial⟩ ⟨obl rfl ((L9 _ _).trans (by rw [K1z hk2])),trivial⟩⟩
 ·have hc:=df hc
  have hkl:k=l.length:=by omega
  rw [C0 oM]
  subst hkl
  refine G2 (xq ?_)
  refine s4 [5] (sl:=[(3,_)]) (hb:=[]) (F3 hX0) ⟨⟨_,rfl,(.ref rfl rfl (by exact (by first | (simp; omega) | (simp; done))) (by first | rfl | omega))⟩,trivial⟩ t0 ?_
  refine exr (mV L rfl (aV L rfl (zn [(2,_)] [] t1 trivial (X1 ?_))))
  refine Q0 (.tmp rfl) ?_
  simp
theorem y1q (c:Int)(M:List (List Rat)):v3 E 47 [vZ c,pMr M] (.agg [vZ c,pMr M]):=by
 refine D2 (xs:=[.agg [vZ c,pMr M]]) Tryz.func47 rfl Tryz.ntmps47 Tryz.results47 sM fun F hG hX0 hnt hdf P0=>?_
 obtain ⟨L,hX,hN⟩:=pro hnt hX0 hG
 refine exr (swb (R3 (k:=4) (n:=2) zv24 (.cons rfl (.cons rfl .nil)) rfl (P0 _ rfl) L) t0 t0 ⟨rfl,rfl⟩ (zn [(0,_),(1,_),(4,_)] [(4,_)] t3 t1 (exr (mV L rfl (mV L rfl (sw (G7 (vs:=[_,_]) un24 zv24 (.cons rfl (.cons rfl .nil)) ((J2.cons sz3 (J2.cons sz22 J2.nil))).to rfl (.cons rfl (.atom rfl) rfl pu1 (.cons rfl .sl rfl (.skip pu1) .nil)) (.cons (.cons .nil)) L) t2 t0 (sb (U2 sz24 rF pa2 rfl pu2) t2 t1 ?_)))))))
 refine zn [(4,_)] [(4,_)] t1 t1 (X1 ?_)
 refine Q0 (.agg rfl rfl rfl ag24 sz24 (.cons (.cons .nil))) ?_
 rfl
def smW (k:Nat)(r:RQ):Bool:=decide (r.ws.length≤k∧r.vs.length≤k)
def smV (n:Nat)(v:List RQ):Bool:=decide (v.length≤n) && v.all (smW 6)
theorem or3 (p q:Prop):p∨(¬p∧q)∨(¬p∧¬q):=by
 rcases Classical.em p with h | h
 ·exact .inl h
 ·rcases Classical.em q with h2 | h2
  ·exact .inr (.inl ⟨h,h2⟩)
  ·exact .inr (.inr ⟨h,h2⟩)
theorem F0g (n:Nat)(v:List RQ)(hn:n<1000):v3 E 23 [pVR v,vZ n] (bZ (smV n v)):=by
 refine D2 (xs:=[bZ (smV n v)]) Tryz.func23 rfl Tryz.ntmps23 Tryz.results23 sM fun F hG hX0 hnt hdf P0=>?_
 obtain ⟨L,hX,hN⟩:=pro hnt hX0 hG
 refine exr (aV L rfl (zn [(0,_),(1,_)] [] t2 trivial (R1 (exr (mV L rfl (sw (R2 un40 L) t1 t0 (mV L rfl (sw (i7 L) t2 t0 (zn [(0,_),(9,_)] [] t2 trivial ?_)))))))))
 refine j2 rfl (fun hc=>?_) (fun hc=>?_)
 ·have hc:=dt hc
  refine exr (aV L rfl (zn [(4,_)] [] t1 trivial (X1 ?_)))
  refine Q0 (.tmp rfl) ?_
  rw [smV,decide_eq_false oM,Bool.false_and]
 ·have hc:=df hc
  have hl:v.length≤n:=by omega
  refine U1 (xq ?_)
  refine R1 (exr (aV L rfl (zn [(0,_),(5,_)] [] t2 trivial (V1 ?_))))
  refine exl (α:=Nat) (fun k=>[(5,vi (k:Int))]) (fun k=>[]) (fun k=>k≤v.length∧(v.take k).all (smW 6)=true) (fun k=>v.length - k) (0) (sl:=[(0,_)]) (hb:=[]) ?_ ⟨oR,rfl,trivial⟩ t0 ?_
  ·exact ⟨Nat.zero_le _,rfl⟩
  intro k hk
  obtain ⟨hk,hw⟩:=hk
  refine R1 (exr (mV L rfl (mV L rfl (sw (R2 un40 L) t1 t0 (sw (P3 L) t2 t0 (zn [(0,_),(5,_),(13,_)] [] t3 trivial ?_))))))
  refine j2 rfl (fun hc=>?_) (fun hc=>?_)
  ·have hc:=dt hc
   have hk2:k<v.length:=by omega
   have ha:=b2c hk2
   have hd:=W1n hk2
   obtain ⟨r,hr⟩:∃ r,r=v.getD k default:=⟨_,rfl⟩
   rw [← hr] at ha hd
   refine U1 (xq ?_)
   refine R1 (V1 ?_)
   refine exm (sl:=[(33,vb (!smW 6 r))]) (sl0:=[(0,_),(5,_)]) (hb:=[]) (hb0:=[]) t2 t0 ?_ ?_
   ·rcases or3 ((r.ws.length:Int) > 6) ((r.vs.length:Int) > 6) with h1 | ⟨h1,h2⟩ | ⟨h1,h2⟩
    ·refine mV L rfl (mV L rfl (sw (Z1 un40 sz47 oM oM sM dC L) t2 t0 ?_))
     refine sw (J0m un47 rfl sz45 dC L) t1 t0 (sw (J0m un45 rfl sz43 dC L) t1 t0 (sw (d4 ag43 ha L) t1 t0 (sw (R2 un43 L) t1 t0 (sw (i7 L) t2 t0 (mV L rfl (swn (g:=24) rfl (decide_eq_true h1) L rfl (swn (g:=24) rfl (decide_eq_true h1) L rfl (swn (g:=24) rfl (decide_eq_true h1) L rfl (swn (g:=24) rfl (decide_eq_true h1) L rfl (swn (g:=24) rfl (decide_eq_true h1) L rfl (swn (g:=24) rfl (decide_eq_true h1) L rfl ?_)))))))))))
     refine swn (g:=24) rfl (decide_eq_true h1) L rfl (swn (g:=24) rfl (decide_eq_true h1) L rfl (sw (O4 (decide_eq_true h1) L) t2 t0 ?_))
     exact O1 ⟨⟨ob rfl (by rw [smW,decide_eq_false oM] <;> rfl),rfl,rfl,trivial⟩,trivial⟩
    ·refine mV L rfl (mV L rfl (sw (Z1 un40 sz47 oM oM sM dC L) t2 t0 ?_))
     refine sw (J0m un47 rfl sz45 dC L) t1 t0 (sw (J0m un45 rfl sz43 dC L) t1 t0 (sw (d4 ag43 ha L) t1 t0 (sw (R2 un43 L) t1 t0 (sw (i7 L) t2 t0 (mV L rfl (gV (g:=24) rfl (decide_eq_false h1) L rfl rfl (gV (g:=24) rfl (decide_eq_false h1) L rfl rfl (swg (g:=24) rfl (decide_eq_false h1) (Z1 un40 sz47 oM oM sM dC L) rfl t2 t0 ?_))))))))
     refine swg (g:=24) rfl (decide_eq_false h1) (J0m un47 rfl sz45 dC L) rfl t1 t0 (swg (g:=24) rfl (decide_eq_false h1) (J0m un45 rfl sz43 dC L) rfl t1 t0 (swg (g:=24) rfl (decide_eq_false h1) (d4 ag43 hd L) rfl t1 t0 (swg (g:=24) rfl (decide_eq_false h1) (R2 un43 L) rfl t1 t0 (swg (g:=24) rfl (decide_eq_false h1) (i7 L) rfl t2 t0 (sw (y4 (decide_eq_false h1) L) t2 t0 ?_)))))
     exact O1 ⟨⟨ob rfl (by rw [smW,decide_eq_false (show ¬ (r.ws.length≤6∧r.vs.length≤6) by omega),decide_eq_true h2] <;> rfl),rfl,rfl,trivial⟩,trivial⟩
    ·refine mV L rfl (mV L rfl (sw (Z1 un40 sz47 oM oM sM dC L) t2 t0 ?_))
     refine sw (J0m un47 rfl sz45 dC L) t1 t0 (sw (J0m un45 rfl sz43 dC L) t1 t0 (sw (d4 ag43 ha L) t1 t0 (sw (R2 un43 L) t1 t0 (sw (i7 L) t2 t0 (mV L rfl (gV (g:=24) rfl (decide_eq_false h1) L rfl rfl (gV (g:=24) rfl (decide_eq_false h1) L rfl rfl (swg (g:=24) rfl (decide_eq_false h1) (Z1 un40 sz47 oM oM sM dC L) rfl t2 t0 ?_))))))))
     refine swg (g:=24) rfl (decide_eq_false h1) (J0m un47 rfl sz45 dC L) rfl t1 t0 (swg (g:=24) rfl (decide_eq_false h1) (J0m un45 rfl sz43 dC L) rfl t1 t0 (swg (g:=24) rfl (decide_eq_false h1) (d4 ag43 hd L) rfl t1 t0 (swg (g:=24) rfl (decide_eq_false h1) (R2 un43 L) rfl t1 t0 (swg (g:=24) rfl (decide_eq_false h1) (i7 L) rfl t2 t0 (sw (y4 (decide_eq_false h1) L) t2 t0 ?_)))))
     exact O1 ⟨⟨ob rfl (by rw [smW,decide_eq_true (show r.ws.length≤6∧r.vs.length≤6 by omega),decide_eq_false h2] <;> rfl),rfl,rfl,trivial⟩,trivial⟩
   refine j2 rfl (fun he=>?_) (fun he=>?_)
   ·have he:smW 6 r=false:=by simpa using he
    rw [hr] at he
    refine exr (aV L rfl (zn [(4,_)] [] t1 trivial (X1 ?_)))
    refine Q0 (.tmp rfl) ?_
    rw [smV,g1q (gD hk2) he,Bool.and_false]
   ·have he:smW 6 r=true:=by simpa using he
    rw [hr] at he
    refine U1 (xq ?_)
    refine j3 (mV L rfl (sw (B3 L (w64 oM oM)) t2 t0 (aV L rfl (O1 ?_))))
    exact ⟨k+1,⟨by omega,j0r hk2 hw he⟩,by omega,l3 ⟨oR,rfl,trivial⟩ trivial⟩
  ·have hc:=df hc
   refine G2 (xq ?_)
   refine exr (aV L rfl (zn [(4,_)] [] t1 trivial (X1 ?_)))
   refine Q0 (.tmp rfl) ?_
   rw [show k=v.length by omega,I0] at hw; rw [smV,hw,decide_eq_true hl]; rfl
theorem N0h (X:Nat):(2:Nat) ^ X<4294967296 ^ (X / 32+1):=by
 rw [show (4294967296:Nat)=2 ^ 32 from rfl,← Nat.pow_mul]
 exact Nat.pow_lt_pow_right dC oM
theorem p32 (k:Nat):((4294967296 ^ k:Nat):Int)=(4294967296:Int) ^ k:=Int.natCast_pow _ _
theorem M1y {X:Nat}{a:Rat}(h:hsz X a):qw a≤X / 32+1:=by
 have key:∀ z:Int,z.natAbs≤2 ^ X→nw z≤X / 32+1:=fun z hz=>D0v (by
  rw [← p32 (X / 32+1)]
  exact Int.ofNat_lt.2 (Nat.lt_of_le_of_lt hz (N0h X)))
 exact Nat.max_le.2 ⟨key _ h.1,key _ (by simpa using h.2)⟩
theorem N1n {k:Nat}{a:Rat}(h:qw a≤k):hsz (32*k) a:=by
 have key:∀ z:Int,nw z≤k→z.natAbs≤2 ^ (32*k):=fun z hz=>by
  have h1:=K0p (a:=z)
  have h2:(4294967296:Nat) ^ nw z≤4294967296 ^ k:=Nat.pow_le_pow_right dC hz
  rw [show (4294967296:Nat) ^ k=2 ^ (32*k) by rw [Nat.pow_mul]] at h2
  rw [← p32 (nw z)] at h1
  exact Nat.le_of_lt (Nat.lt_of_lt_of_le (Int.ofNat_lt.1 h1) h2)
 exact ⟨key _ (Nat.le_trans (L4 a) h),by simpa using key _ (Nat.le_trans (l5 a) h)⟩
theorem N1f {X:Nat}{m b:List (List Rat)}(h:CDM X m b):MB (X / 32+1) m∧MB (X / 32+1) b:=by
 have key:∀ {m:List (List Rat)},(∀ i j,hsz X (ent m i j))→MB (X / 32+1) m:=fun {m} hm r hr a ha=>by
  obtain ⟨i,hi,rfl⟩:=List.getElem_of_mem hr
  obtain ⟨j,hj,rfl⟩:=List.getElem_of_mem ha
  have:=M1y (hm i j)
  rwa [ent,show m.getD i []=m[i] by simp [f0,hi],show (m[i]).getD j 0=m[i][j] by simp [f0,hj]] at this
 exact ⟨key fun i j=>h.m i j,key fun i j=>h.b i j⟩
theorem H1m {n cc d B:Nat}{m b:List (List Rat)}(h:RC n cc m)(hb:RC n d b)(hB:∀ c,c≤cc→∀ i j,qw (ent (ech m b c).m i j)≤B):∀ c,c≤cc→qw (ech m b c).det≤1+(ech m b c).pv.length*B
 | 0,_=>by show qw 1≤_; rw [H0g]; omega
 | c+1,hc=>by
  have ih:=H1m h hb hB c oM
  rcases H1f h hb (show c<cc by omega) with e | ⟨_,e2,i,_,e | e⟩
  ·have hpv:(ech m b c).pv.length≤(ech m b (c+1)).pv.length:=by
    rw [q9]; unfold T9
    split
    ·split
     ·exact Nat.le_refl _
     ·rw [V0d,K1]; omega
    ·exact Nat.le_refl _
   have:=V0 B hpv
   rw [e]; omega
  ·have h1:=d9 (ech m b c).det (ent (ech m b c).m i c)
   have h2:=hB c oM i c
   rw [e,e2,Nat.add_mul]; omega
  ·have h1:=d9 (-(ech m b c).det) (ent (ech m b c).m i c)
   rw [G0m] at h1
   have h2:=hB c oM i c
   rw [e,e2,Nat.add_mul]; omega
@[reducible] def BB:Nat:=22000000
@[reducible] def DD:Nat:=310000000
theorem B1d {n c d X:Nat}{m b:List (List Rat)}(h:RC n c m)(hb:RC n d b)(hn:n≤14)(hc:c≤70)(hd:d≤70)(hC:CDM X m b)(hX:g0n X n≤700000000):EU n c d BB DD m b:=by
 have hB:∀ k,k≤c→CDM 700000000 (ech m b k).m (ech m b k).b:=fun k hk=>(k1v h hb hC hk (Nat.le_refl n)).mono hX
 have hM:=fun k hk=>N1f (hB k hk)
 refine ⟨h,hb,by omega,by omega,by omega,by decide,by decide,by decide,fun k hk r hr a ha=>Nat.le_trans ((hM k hk).1 r hr a ha) dC,fun k hk r hr a ha=>Nat.le_trans ((hM k hk).2 r hr a ha) dC,fun k hk=>?_⟩
 have h1:=H1m (B:=BB) h hb (fun k hk i j=>Nat.le_trans (M1y ((hB k hk).m i j)) dC) k hk
 have h2:(ech m b k).pv.length≤n:=(v6 h hb k hk).2.2.1.le
 have h3:(ech m b k).pv.length*BB≤14*BB:=V0 _ oM
 exact Nat.le_trans h1 (Nat.le_trans (Nat.add_le_add_left h3 1) dC)
theorem Q1g {k n c:Nat}{m b:List (List Rat)}{l:List Rat}(h:RC n c m)(hm:MB k m)(hl:∀ a∈l,qw a≤k)(hb:∀ i j,ent b i j=0∨ent b i j=1∨ent b i j∈l):CDM (32*k*(n*c+l.length)) m b:=by
 have h1:=cdl (b:=32*k) (l:=m.flatten++l) fun a ha=>by
  rcases List.mem_append.1 ha with ha | ha
  ·obtain ⟨r,hr,ha⟩:=List.mem_flatten.1 ha
   exact N1n (hm r hr a ha)
  ·exact N1n (hl a ha)
 rw [K1,G1s h] at h1
 refine Q1a h1 (fun i j=>?_) fun i j=>?_
 ·rcases v0h (m:=m) (i:=i) (j:=j) with e | ⟨r,hr,ha⟩
  ·exact .inl e
  ·exact .inr (.inr (List.mem_append_left _ (List.mem_flatten.2 ⟨r,hr,ha⟩)))
 ·rcases hb i j with e | e | e
  ·exact .inl e
  ·exact .inr (.inl e)
  ·exact .inr (.inr (List.mem_append_right _ e))
theorem W0n (n c B DB:Nat)(M:List (List Rat))(h:MOk c M)(hB1:MB B M)(hn:M.length=n)(H:EU n c 0 B DB M (nob n)):v3 E 14 [pMq c M] (.tup [pMr (f1s c (ech M (nob n) c).pv ((ech M (nob n) c).m.take (ech M (nob n) c).pv.length)),vZ 0]):=q0g (Q0n n c B DB M h hB1 hn H)
theorem j1n {n i j:Nat}:ent (nob n) i j=0:=by
 rcases v0h (m:=nob n) (i:=i) (j:=j) with e | ⟨r,hr,ha⟩
 ·exact e
 ·rw [Q0x.2 r hr |> E0] at ha; cases ha
theorem M1h {b:List Rat}{i j:Nat}:ent (Y3 b) i j=0∨ent (Y3 b) i j=1∨ent (Y3 b) i j∈b:=by
 rcases v0h (m:=Y3 b) (i:=i) (j:=j) with e | ⟨r,hr,ha⟩
 ·exact .inl e
 ·simp only [Y3,G0,List.mem_range] at hr
  obtain ⟨k,hk,rfl⟩:=hr
  rcases List.mem_or_eq_of_mem_set ha with h | h
  ·rcases List.mem_or_eq_of_mem_set h with h | h
   ·exact .inl (List.eq_of_mem_replicate h)
   ·exact .inr (.inr (h ▸ j4 hk))
  ·exact .inr (.inl h)
theorem g1r {n c k:Nat}{M:List (List Rat)}(h:RC n c M)(hB:MB k M)(hn:n≤14)(hc:c≤70)(hX:g0n (32*k*(n*c+0)) n≤700000000):EU n c 0 BB DD M (nob n) :=
 B1d h Q0x hn hc dC (Q1g (l:=[]) h hB sM fun _ _=>.inl j1n) hX
theorem V0n {n c k:Nat}{M:List (List Rat)}{b:List Rat}(h:RC n c M)(hB:MB k M)(hbn:b.length=n)(hb:∀ a∈b,qw a≤k)(hn:n≤14)(hc:c≤70)(hX:g0n (32*k*(n*c+n)) n≤700000000):EU n c (n+1) BB DD M (Y3 b) :=
 B1d h (D0g hbn) hn hc oM (Q1g (l:=b) h hB hb fun _ _=>M1h) (by rw [hbn]; exact hX)
theorem V0k {c:Nat}{M:List (List Rat)}:RC c M.length (trM c M):=by
 refine ⟨by simp,fun r hr=>?_⟩
 simp only [trM,G0] at hr
 obtain ⟨j,_,rfl⟩:=hr
 simp
theorem h1p {c B:Nat}{M:List (List Rat)}(hl:∀ r∈M,r.length=c)(h:MB B M):MB B (trM c M):=by
 intro r hr a ha
 simp only [trM,G0,List.mem_range] at hr
 obtain ⟨j,hj,rfl⟩:=hr
 exact p1p h hj hl a ha
theorem MB.mono {B C:Nat}{M:List (List Rat)}(h:MB B M)(hBC:B≤C):MB C M:=fun r hr a ha=>Nat.le_trans (h r hr a ha) hBC
def mI (L:List (List Int)):List (List Rat):=L.map iV
def sI (l:List Int):Bool:=l.all fun z=>decide (-1000≤z∧z<1000)
theorem V1c {z:Int}(h : -1000≤z∧z<1000):qw (z:Rat)≤1:=by
 unfold qw
 rw [Rat.num_intCast,Rat.den_intCast]
 exact Nat.max_le.2 ⟨D0v oM,by rw [show ((1:Nat):Int)=1 from rfl,n0w]; exact Nat.le_refl _⟩
theorem m0v {l:List Int}(h:sI l=true):∀ a∈iV l,qw a≤1:=fun a ha=>by
 obtain ⟨z,hz,rfl⟩:=G0.1 ha
 exact V1c (by simpa using s0.1 h z hz)
theorem s9 {L:List (List Int)}(h:L.all sI=true):MB 1 (mI L):=fun r hr=>by
 obtain ⟨l,hl,rfl⟩:=G0.1 hr
 exact m0v (s0.1 h l hl)
theorem n0a {c:Nat}{L:List (List Int)}(h:(L.all fun l=>decide (l.length=c))=true):∀ r∈mI L,r.length=c:=fun r hr=>by
 obtain ⟨l,hl,rfl⟩:=G0.1 hr
 rw [m0g]; simpa using s0.1 h l hl
theorem y0q {c:Nat}{L:List (List Int)}(h1:L.length≤400)(hc:c≤60)(h:(L.all fun l=>decide (l.length=c))=true):MOk c (mI L):=⟨by simpa [mI] using h1,hc,n0a h⟩
theorem m1n {B:Nat}{M:List (List Rat)}(hl:M.length<1000000000)(hr:∀ r∈M,r.length<1000000000)(hB:MB B M)(hb:B<1000000000):MSm (M.map (List.map RQ.of)) :=
 ⟨by simpa using hl,fun r hr2=>by
  obtain ⟨v,hv,rfl⟩:=G0.1 hr2
  exact ⟨by simpa using hr v hv,V0g (hB v hv) hb⟩⟩
theorem b1a {B:Nat}{u:List Rat}(hl:u.length<1000000000)(hB:∀ a∈u,qw a≤B)(hb:B<1000000000):v3 E 29 [pV u,pV u] (bZ true):=by
 have:=y0p (u.map RQ.of) (u.map RQ.of) (by simpa using hl) (V0g hB hb) (V0g hB hb)
 rwa [decide_eq_true rfl,v0p] at this
theorem p1s {B:Nat}{M:List (List Rat)}(hl:M.length<1000000000)(hr:∀ r∈M,r.length<1000000000)(hB:MB B M)(hb:B<1000000000):v3 E 19 [pMr M,pMr M] (bZ true):=by
 have:=y0y _ _ (m1n hl hr hB hb) (m1n hl hr hB hb)
 rwa [decide_eq_true rfl,h0v,O0] at this
theorem H1v {B:Nat}{c:Int}{M:List (List Rat)}(hl:M.length<1000000000)(hr:∀ r∈M,r.length<1000000000)(hB:MB B M)(hb:B<1000000000):v3 E 17 [pMq c M,pMq c M] (bZ true):=by
 have:=b1b c c _ _ (m1n hl hr hB hb) (m1n hl hr hB hb)
 rwa [decide_eq_true ⟨rfl,rfl⟩,pMR,h0v,O0] at this
theorem P1y:v3 E 13 [pMq 3 (mI [[0,2,4],[1,1,1],[1,2,3]])] (.tup [pMq 3 (mI [[1,0,-1],[0,1,2]]),pIs [0,1],vZ 0]):=by
 have h:=p0p 3 3 BB DD (mI [[0,2,4],[1,1,1],[1,2,3]]) (y0q dC dC dC) ((s9 dC).mono dC) rfl (g1r ⟨rfl,n0a dC⟩ (s9 dC) dC dC dC)
 have e1:(ech (mI [[0,2,4],[1,1,1],[1,2,3]]) (nob 3) 3).pv=[0,1]:=by decide +kernel
 have e2:(ech (mI [[0,2,4],[1,1,1],[1,2,3]]) (nob 3) 3).m.take 2=mI [[1,0,-1],[0,1,2]]:=by decide +kernel
 rw [e1,show [0,1].length=2 from rfl,e2] at h
 exact h
theorem P1v:v3 E 14 [pMq 3 (mI [[0,2,4],[1,1,1],[1,2,3]])] (.tup [pMr (mI [[1,-2,1]]),vZ 0]):=by
 have h:=W0n 3 3 BB DD (mI [[0,2,4],[1,1,1],[1,2,3]]) (y0q dC dC dC) ((s9 dC).mono dC) rfl (g1r ⟨rfl,n0a dC⟩ (s9 dC) dC dC dC)
 have e2:f1s 3 (ech (mI [[0,2,4],[1,1,1],[1,2,3]]) (nob 3) 3).pv ((ech (mI [[0,2,4],[1,1,1],[1,2,3]]) (nob 3) 3).m.take (ech (mI [[0,2,4],[1,1,1],[1,2,3]]) (nob 3) 3).pv.length)=mI [[1,-2,1]]:=by decide +kernel
 rw [e2] at h
 exact h
theorem V1s:v3 E 24 [pMq 2 (mI [[1,1],[1,-1]]),pV (iV [3,1])] (.tup [pV (iV [2,1]),pV [],vZ 0]):=by
 have h:=n0c 2 2 BB DD (mI [[1,1],[1,-1]]) (iV [3,1]) (y0q dC dC dC) ((s9 dC).mono dC) (fun a ha=>Nat.le_trans (m0v dC a ha) dC) rfl rfl (V0n ⟨rfl,n0a dC⟩ (s9 dC) rfl (m0v dC) dC dC dC)
 have e1:y0f 2 (ech (mI [[1,1],[1,-1]]) (Y3 (iV [3,1])) 2) 2=iV [2,1]:=by decide +kernel
 have e2:j0m (ech (mI [[1,1],[1,-1]]) (Y3 (iV [3,1])) 2) 2=[]:=by decide +kernel
 have e3:n0r (ech (mI [[1,1],[1,-1]]) (Y3 (iV [3,1])) 2) 2=0:=by decide +kernel
 rw [e1,e2,e3] at h
 exact h
theorem V1x:∃ x y,v3 E 24 [pMq 2 (mI [[1,1],[2,2]]),pV (iV [1,3])] (.tup [pV x,pV y,vZ 4]):=by
 have h:=n0c 2 2 BB DD (mI [[1,1],[2,2]]) (iV [1,3]) (y0q dC dC dC) ((s9 dC).mono dC) (fun a ha=>Nat.le_trans (m0v dC a ha) dC) rfl rfl (V0n ⟨rfl,n0a dC⟩ (s9 dC) rfl (m0v dC) dC dC dC)
 have e3:n0r (ech (mI [[1,1],[2,2]]) (Y3 (iV [1,3])) 2) 2=4:=by decide +kernel
 rw [e3] at h
 exact ⟨_,_,h⟩
theorem G1q (l:List Int)(v:Bool)(hl:l.length=2)(hs:sI l=true)(h:G0p 2 (mI [[1,1],[2,2]]) (iV [1,3]) (iV l)=v):v3 E 25 [pMq 2 (mI [[1,1],[2,2]]),pV (iV [1,3]),pV (iV l)] (bZ v):=by
 have:=h1d 2 1 (mI [[1,1],[2,2]]) (iV [1,3]) (iV l) (y0q dC dC dC) (s9 dC) (m0v dC) (m0v hs) rfl (by rw [m0g,hl]; rfl) dC dC dC
 rwa [h] at this
theorem Q1s:v3 E 41 [pMq 2 (mI [[1,2],[3,4]]),pMq 2 (mI [[0,1],[1,0]])] (.tup [pMq 2 (mI [[2,1],[4,3]]),vZ 0]):=by
 have h:=q1g 2 2 1 (mI [[1,2],[3,4]]) (mI [[0,1],[1,0]]) (y0q dC dC dC) (y0q dC dC dC) (s9 dC) (s9 dC) dC rfl
 have e:V0j 2 (mI [[1,2],[3,4]]) (mI [[0,1],[1,0]])=mI [[2,1],[4,3]]:=by decide +kernel
 rw [e] at h
 exact h
theorem P1w:v3 E 31 [pMq 2 (mI [[2,1],[4,3]])] (.tup [pQ ((2:Int):Rat),vZ 0]):=by
 have h:=w1y 2 BB DD (mI [[2,1],[4,3]]) (y0q dC dC dC) ((s9 dC).mono dC) rfl (g1r ⟨rfl,n0a dC⟩ (s9 dC) dC dC dC)
 have e:p1d 2 (mI [[2,1],[4,3]]) (nob 2)=((2:Int):Rat):=by decide +kernel
 rw [e] at h
 exact h
theorem V1h:∃ y,v3 E 30 [pMl (mI [[1,0,1],[2,0,2],[0,1,1]]),pV (iV [3,1,4])] (.tup [pV (iV [3,0,1]),pV y,vZ 0]):=by
 have hl:∀ r∈mI [[1,0,1],[2,0,2],[0,1,1]],r.length=3:=n0a dC
 have h:=p0g BB DD (mI [[1,0,1],[2,0,2],[0,1,1]]) (iV [3,1,4]) hl dC dC ((s9 dC).mono dC) (fun a ha=>Nat.le_trans (m0v dC a ha) dC) (V0n V0k (h1p hl (s9 dC)) rfl (m0v dC) dC dC dC)
 have e1:y0f 3 (ech (trM 3 (mI [[1,0,1],[2,0,2],[0,1,1]])) (Y3 (iV [3,1,4])) 3) 3=iV [3,0,1]:=by decide +kernel
 have e3:n0r (ech (trM 3 (mI [[1,0,1],[2,0,2],[0,1,1]])) (Y3 (iV [3,1,4])) 3) 3=0:=by decide +kernel
 rw [show (mI [[1,0,1],[2,0,2],[0,1,1]]).length=3 from rfl,show (iV [3,1,4]).length=3 from rfl,e1,e3] at h
 exact ⟨_,h⟩
end Go.Proofs.YtjagfionflbjbaaGreat.N
