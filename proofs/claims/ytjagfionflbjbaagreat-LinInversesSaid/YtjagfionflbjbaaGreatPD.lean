/- Part D of the proof: lemmas for the walks of the given functions. No statement of its own. -/
import Derived.Laws.Cover3
import Derived.RecoverIn
import Derived.LaidEql
import Derived.Test.YtjagfionflbjbaaGreatPC
set_option linter.unusedVariables false
set_option linter.unusedSimpArgs false
set_option linter.deprecated false
namespace Go.Proofs.YtjagfionflbjbaaGreat.SH
open Go Go.RowKit
mutual
theorem PV.ren_id:∀ x:PV,x.ren (fun j=>j)=x
 | .p _=>rfl
 | .at_ _ _ _=>rfl
 | .im _ _=>rfl
 | .ref _ _ _ _=>rfl
 | .agg xs=>by simp only [PV.ren]; rw [PV.renL_id xs]
 | .tup xs=>by simp only [PV.ren]; rw [PV.renL_id xs]
 | .clo _ a b=>by simp only [PV.ren]; rw [PV.renL_id a,PV.renL_id b]
 | .ifc _ x=>by simp only [PV.ren]; rw [PV.ren_id x]
 | .dead=>rfl
theorem PV.renL_id:∀ xs:List PV,PV.renL (fun j=>j) xs=xs
 | []=>rfl
 | x :: xs=>by simp only [PV.renL]; rw [PV.ren_id x,PV.renL_id xs]
end
theorem F0x (xs:List PV):xs.map (PV.ren fun j=>j)=xs:=by rw [← f0q,PV.renL_id]
theorem Blk.ren_id (B:Blk):B.ren (fun j=>j)=B:=by
 obtain ⟨T,sz,cs⟩:=B
 cases cs with
 | pure xs=>rfl
 | mix vs=>simp only [Blk.ren,Cells.ren,F0x]
theorem m0h.id:∀ H:List (Nat×Blk),m0h (fun j=>j) H H
 | []=>.nil
 | (j,B) :: H=>.cons rfl (Blk.ren_id B).symm (m0h.id H)
def Whole (H:List (Nat×Blk)):Prop:=∀ j B,H.lookup j=some B→∀ i x,B.cs.get i=some x→∀ q,x.free q=false→H.lookup q≠none
theorem m6 {E:Env}{F:Fr}(hG:E.G F.w0)(hX:∀ b,F.X b→E.ng≤b)(hng:E.ng≤F.w0.heap.size){d:Nat}{f:FuncId}{dst:Option Nat}{op:Op}{T:TypeId}{pos:String}{aft:Array Edge}{g:Option (Nat×Bool)}{rs:List (Operand×PV)}{xs:List PV}{H:List (Nat×Blk)}{r:PV}(hs:E4 E (fun _=>true) f xs H H r)(hd:dst=some d)(hlt:d<F.nt)
  (hargs:∀ ρ S a w,Z4 F ρ S a w→(∀ p∈rs,S.opd p.1=some p.2)→∃ vals:List Value,(execOp a.eval ⟨dst,op,T,pos,aft,g⟩).run E.P w = .ok (.enter f vals.toArray) w∧C3 S.blk ρ (okI F S.blk ρ) (hp w) xs vals)
  (nd:(H.map (·.1)).Nodup) (hw:Whole H) (hres:∀ q,r.free q=false→H.lookup q≠none):O2 E.P F ⟨dst,op,T,pos,aft,g⟩ ⟨rs,H,none,[(d,r)],[]⟩:=by
 intro S a w hS hA Q K hK
 refine h1k hG hX hng (fun j=>j) (fun _ _=>rfl) hs hd hlt (by rw [F0x]; exact hargs) ⟨m0h.id H,m0h.id H,fun _ _ _ _ h=>h,rfl,nd,fun j B B' h h'=>by rw [h] at h'; injection h' with h'; subst h'; exact ⟨rfl,rfl⟩,hw⟩ (PV.ren_id r).symm hres S a w hS ⟨hA.rs,hA.rb,hA.fresh⟩ Q K fun a' w' hS'=>hK a' w' (hS'.congr (fun t=>?_) fun k=>?_)
 ·rw [St.app_slot,St.app_slot]
 ·rw [St.app_blk,St.app_blk]
  cases e:H.lookup k with
  | none=>simp
  | some B=>rw [hA.rb (k,B) (L3 e)]; simp
theorem N1n {E:Env}{st:Nat→Bool}{F:Fr}(hG:E.G F.w0)(hX:∀ b,F.X b→E.ng≤b)(hng:E.ng≤F.w0.heap.size){ops:Array Oper}{d:Nat}{f:FuncId}{op:Op}{T:TypeId}{pos:String}{aft:Array Edge}{xs:List PV}{S:St}{H H':List (Nat×Blk)}{r:PV}{rs:List (Operand×PV)}(ks:List Nat)(slR:List (Nat×PV))(hbR:List (Nat×Blk))(hs:E4 E st f xs H H' r)(hlt:d<F.nt)
  (hargs:∀ ρ S a w,Z4 F ρ S a w→(∀ p∈rs,S.opd p.1=some p.2)→∃ vals:List Value,(execOp a.eval ⟨some d,op,T,pos,aft,none⟩).run E.P w = .ok (.enter f vals.toArray) w∧C3 S.blk ρ (okI F S.blk ρ) (hp w) xs vals)
  (hr:w8 S rs) (hH:O5 S H) (hsl:d7 S slR) (hR:O5 S hbR) (hd:slR.lookup d=none) (nd:(H.map (·.1)).Nodup) (nd':(H'.map (·.1)).Nodup) (dis:∀ k,hbR.lookup k≠none→H.lookup k=none∧H'.lookup k=none) (hw:Whole H') (hres:∀ q,r.free q=false→H'.lookup q≠none)
  (honly:(slR.all fun p=>p.2.only ks)=true) (hbonly:∀ k B,hbR.lookup k=some B→B.cs.only ks=true) (hks:∀ k∈ks,hbR.lookup k≠none∨∃ B0 B1,st k=true∧H.lookup k=some B0∧H'.lookup k=some B1∧B1.sz=B0.sz∧B1.cs.len=B0.cs.len)
  (hlo:∀ i j,H.lookup i≠none→H.lookup j≠none→st j=false→F.lo i=false→F.lo j=false) (hpin:∀ j,H'.lookup j≠none→F.pin j≠none→H.lookup j≠none∧st j=true):B0w E.P F ops ⟨some d,op,T,pos,aft,none⟩ S ⟨(d,r) :: slR,H'++hbR⟩:=by
 have hHl:∀ j B,H.lookup j=some B→S.blk j=some B:=fun j B hj=>hH.all j B hj
 have hb':∀ k,St.blk ⟨(d,r) :: slR,H'++hbR⟩ k=(H'.lookup k).or (hbR.lookup k):=fun k=>T1 _ _ _
 have hstay:∀ k∈ks,D0h st S ⟨(d,r) :: slR,H'++hbR⟩ (fun j=>j) H H' k:=fun k hk=>by
  rcases hks k hk with h | ⟨B0,B1,h⟩
  ·obtain ⟨h1,h2⟩:=dis k h
   obtain ⟨B,hB⟩:=G3 h
   refine .inr (.inl ⟨by rw [hb',h2,l0,hB,hR.all k B hB],fun j hj e=>?_⟩)
   subst e; exact hj.elim (fun h=>h h1) (fun h=>h h2)
  ·exact .inr (.inr ⟨k,B0,B1,rfl,h⟩)
 refine N1f hG hX hng (fun j=>j) hs rfl rfl hlt (fun ρ a w hS=>?_) ⟨fun j B hj=>by rw [Blk.ren_id]; exact hHl j B hj,fun _ _ _ _ h=>h,fun i j h1 h2 _ h4 h5=>hlo i j h1 h2 h4 h5,fun k B' hk=>?_,fun t v ht=>?_,hres,hw,hpin⟩
 ·rw [PV.renL_id]; exact hargs ρ S a w hS hr.all
 ·rw [hb'] at hk
  cases e:H'.lookup k with
  | some B=>rw [e,K0] at hk; injection hk with hk; subst hk; exact .inl ⟨k,B,rfl,e,(Blk.ren_id B).symm⟩
  | none =>
   rw [e,l0] at hk
   obtain ⟨h1,h2⟩:=dis k (by simp [hk])
   exact .inr ⟨hR.all k B' hk,fun j hj e2=>by subst e2; exact hj.elim (fun h=>h h1) (fun h=>h h2),fun i x hx q hq=>hstay q (PV.only_mem (Cells.only_get (hbonly k B' hk) hx) hq)⟩
 ·simp only [St.slot,i0] at ht
  by_cases e:t=d
  ·subst e; simp only [BEq.rfl,U0] at ht; exact .inl ⟨rfl,by rw [PV.ren_id]; exact ht.symm⟩
  ·rw [show (t == d)=false by simpa using e] at ht
   refine .inr ⟨e,hsl.all t v ht,fun q hq=>hstay q (PV.only_mem ?_ hq)⟩
   rw [s0] at honly
   have:(t,v)∈slR:=by
    have:∀ l:List (Nat×PV),l.lookup t=some v→(t,v)∈l:=by
     intro l
     induction l with
     | nil=>simp
     | cons p l ih =>
      obtain ⟨s,u⟩:=p
      intro h
      rw [i0] at h
      split at h
      ·rename_i e; injection h with h; subst h; simp [beq_iff_eq.1 e]
      ·simp [ih h]
    exact this slR ht
   exact honly _ this
structure K5 (T:List (Nat×Blk)):Prop where
 low:∀ k,Nat.blt k 1000=true→T.lookup k=none
 nd:(T.map (·.1)).Nodup
 free:∀ k,Nat.blt k 1000=true→U2 k T=true
 whole:Whole T
theorem v5:∀ {S:St}{l:List (Nat×Blk)},(l.map (·.1)).Nodup→(∀ k B,l.lookup k=some B→S.blk k=some B)→O5 S l
 | _,[],_,_=>trivial
 | S,(k,B) :: l,hn,h=>by
  rw [R0,List.nodup_cons] at hn
  refine ⟨h k B (by rw [i0]; simp),v5 hn.2 fun j C hj=>h j C ?_⟩
  have:j≠k:=fun e=>by subst e; exact hn.1 (G0.2 ⟨(j,C),L3 hj,rfl⟩)
  rw [i0,show (j == k)=false by simpa using this]; exact hj
theorem hbT {sl:List (Nat×PV)}{T:List (Nat×Blk)}(pre:List (Nat×Blk))(h:K5 T)(hp:(pre.all fun p=>Nat.blt p.1 1000)=true):O5 ⟨sl,pre++T⟩ T:=v5 h.nd fun k B hk=>by
 show (pre++T).lookup k=some B
 rw [T1]
 cases e:pre.lookup k with
 | none=>simpa using hk
 | some C =>
  rw [s0] at hp
  have:=hp _ (L3 e)
  rw [h.low k this] at hk; cases hk
theorem L4 {k:Nat}:∀ {l r:List (Nat×Blk)},U2 k (l++r)=(U2 k l && U2 k r)
 | [],r=>rfl
 | p :: l,r=>by simp only [L1,U2,L4,Bool.and_assoc]
theorem frT {sl:List (Nat×PV)}{T:List (Nat×Blk)}{d:Nat}(pre:List (Nat×Blk))(h:K5 T)(hd:Nat.blt d 1000=true)(h1:pre.lookup d=none)(h2:(D3 d sl && U2 d pre)=true):g0g ⟨sl,pre++T⟩ (some d):=by
 refine ⟨?_,?_⟩
 ·show (pre++T).lookup d=none
  rw [T1,h1,h.low d hd]; rfl
 ·simp only [j0] at h2
  show (D3 d sl && U2 d (pre++T))=true
  rw [L4,h2.1,h2.2,h.free d hd]; rfl
def cls (k:Nat):Nat:=if k<1000 then k else 1000
theorem o8 {xs ys:List Nat}:hit xs ys=false↔∀ x∈xs,x ∉ ys:=by simp [hit]
theorem g1y {cf:Nat→Nat}{l l':List (Nat×Blk)}{xs ys:List Nat}(h1:∀ p∈l,cf p.1∈xs)(h2:∀ p∈l',cf p.1∈ys)(h:hit xs ys=false):s7 l (l'.map (·.1))=false:=by
 rw [f0h,o8]
 intro x hx hy
 obtain ⟨p,hp,rfl⟩:=G0.1 hx
 obtain ⟨q,hq,e⟩:=G0.1 hy
 exact o8.1 h _ (h1 p hp) (e ▸ h2 q hq)
theorem B0y {P:Program}{F:Fr}{Q:Exit→St→Prop}{S:St}{c:Code}{α:Type}(ws:α→List (Nat×PV))(wb:α→List (Nat×Blk))(T:α→List (Nat×Blk))(ok:α→Prop)(μ:α→Nat)(x:α){sl:List (Nat×PV)}{hb:List (Nat×Blk)}(h0:ok x)(h1:d7 S (ws x++sl))(h2:O5 S (wb x++(hb++T x)))
  (round:∀ x,ok x→i4 P F c ⟨ws x++sl,wb x++(hb++T x)⟩ (J0b (fun S'=>∃ y,ok y∧μ y<μ x∧St.le ⟨ws y++sl,wb y++(hb++T y)⟩ S') Q)):i4 P F (.loop c) S Q :=
 N0k (fun x=>⟨ws x++sl,wb x++(hb++T x)⟩) ok μ x h0 (l3 h1 h2) round
end Go.Proofs.YtjagfionflbjbaaGreat.SH
namespace Go.Proofs.YtjagfionflbjbaaGreat.SH
open Go Go.RowKit
structure b1d (cf:Nat→Nat) (A:Ann) (sk:Sk):Prop where
 fresh:∀ k,A.fresh=some k→A.wb.any (fun p=>p.1 == k)=true
 rs:L7 A.rs=sk.rs
 rb:∀ p∈A.rb,cf p.1∈sk.rb
 ws:A.ws.map (·.1)=sk.ws
 wb:∀ p∈A.wb,cf p.1∈sk.wb
inductive b0f (cf:Nat→Nat):List Ann→List Sk→Prop
 | nil:b0f cf [] []
 | cons {A:Ann} {sk:Sk} {As:List Ann} {sks:List Sk}:b1d cf A sk→b0f cf As sks→b0f cf (A :: As) (sk :: sks)
theorem m1a {cf:Nat→Nat}{A B:Ann}{a b:Sk}(hA:b1d cf A a)(hB:b1d cf B b)(h1:hit a.wb b.rb=false)(h2:hit a.wb b.wb=false):s7 A.wb B.rbk=false:=by
 rw [f0h,o8]
 intro x hx hy
 obtain ⟨p,hp,rfl⟩:=G0.1 hx
 simp only [Ann.rbk,List.mem_append,Option.mem_toList] at hy
 rcases hy with hy | hy
 ·have:=hB.fresh _ hy
  rw [List.any_eq_true] at this
  obtain ⟨q,hq,e⟩:=this
  have e:q.1=p.1:=by simpa using e
  exact o8.1 h2 _ (hA.wb p hp) (e ▸ hB.wb q hq)
 ·obtain ⟨q,hq,e⟩:=G0.1 hy
  exact o8.1 h1 _ (hA.wb p hp) (e ▸ hB.rb q hq)
def w0j (A B:Ann):Bool:=(A.fresh.all fun k=>B.free k) && (B.fresh.all fun k=>A.free k)
theorem F0q {cf:Nat→Nat}{A B:Ann}{a b:Sk}(hA:b1d cf A a)(hB:b1d cf B b)(hf:w0j A B=true)(h:G0s a b=true):w7 A B=true:=by
 simp only [G0s,j0,Bool.not_eq_true'] at h
 obtain ⟨⟨⟨⟨⟨h1,h2⟩,h3⟩,h4⟩,h5⟩,h6⟩:=h
 simp only [w0j,j0] at hf
 simp only [w7,j0,Bool.not_eq_true']
 have h6':hit b.wb a.wb=false:=by rw [o8] at h6 ⊢; exact fun x hx hy=>h6 x hy hx
 refine ⟨⟨⟨⟨⟨⟨⟨?_,?_⟩,?_⟩,?_⟩,?_⟩,?_⟩,hf.1⟩,hf.2⟩
 ·rw [f0h,hA.ws,hB.rs]; exact h1
 ·rw [f0h,hB.ws,hA.rs]; exact h2
 ·rw [f0h,hA.ws,hB.ws]; exact h3
 ·exact m1a hA hB h4 h6
 ·exact m1a hB hA h5 h6'
 ·exact g1y hA.wb hB.wb h6
theorem J0n {cf:Nat→Nat}{As:List Ann}{sks:List Sk}(h:b0f cf As sks):∀ (i:Nat) (A:Ann),As[i]? = some A→∃ sk,sks[i]? = some sk∧b1d cf A sk:=by
 induction h with
 | nil=>intro i A h; simp at h
 | cons hc _ ih =>
  intro i A hA
  cases i with
  | zero =>
    obtain rfl := by simpa using hA
    exact ⟨_,rfl,hc⟩
  | succ i=>simpa using ih i A (by simpa using hA)
theorem M0g {cf:Nat→Nat}{As As':List Ann}{sks sks':List Sk}(h:b0f cf As sks)(h':b0f cf As' sks'):b0f cf (As++As') (sks++sks'):=by
 induction h with
 | nil=>exact h'
 | cons hc _ ih=>exact .cons hc ih
def G0h:List Ann→List Ann→Bool
 | [],_=>true
 | B :: As,done=>(done.all fun A=>w0j A B) && G0h As (done++[B])
theorem G0y {cf:Nat→Nat}:∀ (os:List Oper) (As:List Ann) (sks:List Sk) (ms:List Nat) (done:List Ann) (dsk:List Sk),b0f cf As sks→b0f cf done dsk→done.length=ms.length→G0h As done=true→U7 os sks ms dsk=true→R7 os As ms done=true
 | [],[],[],_,_,_,_,_,_,_,_=>rfl
 | o :: os,B :: As,b :: sks,ms,done,dsk,h,h',hl,hf,hh=>by
  cases h with
  | cons hB hAs =>
   simp only [U7,j0] at hh
   simp only [G0h,j0] at hf
   obtain ⟨⟨h1,h2⟩,h3⟩:=hh
   simp only [R7,j0]
   refine ⟨⟨h1,?_⟩,G0y os As sks _ _ _ hAs (M0g h' (.cons hB .nil)) (by simp [hl]) hf.2 h3⟩
   rw [s0] at h2 ⊢
   intro i hi
   have hi':i<done.length:=by simpa using hi
   have:=h2 i (by simpa [← hl] using hi')
   rw [Bool.or_eq_true] at this ⊢
   rcases this with h | h
   ·exact .inl h
   ·refine .inr ?_
    obtain ⟨A,hA⟩:∃ A,done[i]? = some A:=⟨done[i],by simp [hi']⟩
    obtain ⟨sk,hs,hc⟩:=J0n h' i A hA
    rw [hs] at h
    rw [hA]
    have hff:=hf.1
    rw [s0] at hff
    exact F0q hc hB (hff A (M1 hA)) h
 | [],_ :: _,_ :: _,_,_,_,_,_,_,_,hh=>by simp [U7] at hh
 | _ :: _,[],[],_,_,_,_,_,_,_,hh=>by simp [U7] at hh
 | _ :: _,_ :: _,[],_,_,_,h,_,_,_,_=>by cases h
 | _,[],_ :: _,_,_,_,h,_,_,_,_=>by cases h
 | [],_ :: _,[],_,_,_,h,_,_,_,_=>by cases h
def b7:List Ann→List Nat
 | []=>[]
 | A :: As=>A.fresh.toList++b7 As
theorem O9 {S:St}:∀ {As:List Ann},(∀ k∈b7 As,S.free k=true)→V5 S As=true
 | [],_=>rfl
 | A :: As,h=>by
  simp only [V5,j0]
  refine ⟨?_,O9 fun k hk=>h k (by simp [b7,hk])⟩
  cases e:A.fresh with
  | none=>rfl
  | some k=>exact h k (by simp [b7,e])
theorem frS {sl:List (Nat×PV)}{T:List (Nat×Blk)}{As:List Ann}(ns:List Nat)(pre:List (Nat×Blk))(h:K5 T)(hn:b7 As=ns)(h1:(ns.all fun k=>Nat.blt k 1000 && (D3 k sl && U2 k pre))=true):∀ k∈b7 As,St.free ⟨sl,pre++T⟩ k=true:=by
 subst hn
 intro k hk
 rw [s0] at h1
 have:=h1 k hk
 simp only [j0] at this
 show (D3 k sl && U2 k (pre++T))=true
 rw [L4,this.2.1,this.2.2,h.free k this.1]; rfl
theorem M1y (cf:Nat→Nat){os:List Oper}{As:List Ann}{S:St}(sks:List Sk)(h1:b0f cf As sks)(hf:G0h As []=true)(hS:∀ k∈b7 As,S.free k=true)(h2:U7 os sks [] []=true):(R7 os As [] [] && V5 S As)=true:=by
 rw [G0y os As sks [] [] [] h1 .nil rfl hf h2,O9 hS]; rfl
theorem h0j {os:List Oper}{As:List Ann}{S:St}(sks:List Sk)(h1:b0f cls As sks)(hf:G0h As []=true)(hS:∀ k∈b7 As,S.free k=true)(h2:U7 os sks [] []=true):(R7 os As [] [] && V5 S As)=true:=M1y cls sks h1 hf hS h2
theorem cf0 {cf:Nat→Nat}{A:Ann}{sk:Sk}(h:((A.fresh.all fun k=>A.wb.any fun p=>p.1 == k) && decide (L7 A.rs=sk.rs) && decide (A.ws.map (·.1)=sk.ws) && (A.rb.all fun p=>sk.rb.contains (cf p.1)) && (A.wb.all fun p=>sk.wb.contains (cf p.1)))=true):b1d cf A sk:=by
 simp only [j0,decide_eq_true_eq,s0,List.contains_eq_mem] at h
 refine ⟨fun k hk=>?_,h.1.1.1.2,fun p hp=>h.1.2 p hp,h.1.1.2,fun p hp=>h.2 p hp⟩
 have:=h.1.1.1.1
 rw [hk] at this
 simpa using this
theorem cfT {cf:Nat→Nat}{A:Ann}{sk:Sk}(h0:A.fresh=none)(hr:L7 A.rs=sk.rs)(h1:∀ p∈A.rb,cf p.1∈sk.rb)(hw:A.ws.map (·.1)=sk.ws)(h2:∀ p∈A.wb,cf p.1∈sk.wb):b1d cf A sk:=⟨fun k hk=>(by rw [h0] at hk; cases hk),hr,h1,hw,h2⟩
theorem F0p {k:Nat}(h:1000≤k):cls k=1000:=by unfold cls; rw [if_neg (by omega)]
theorem H1g {l r:List (Nat×Blk)}{ks:List Nat}(h1:(l.all fun p=>ks.contains (cls p.1))=true)(h2:∀ p∈r,1000≤p.1)(h3:ks.contains 1000=true):∀ p∈l++r,cls p.1∈ks:=by
 intro p hp
 rcases List.mem_append.1 hp with hp | hp
 ·rw [s0] at h1; simpa using h1 p hp
 ·rw [F0p (h2 p hp)]; simpa using h3
theorem b0w {T:List (Nat×Blk)}(h:K5 T):∀ p∈T,1000≤p.1:=by
 intro p hp
 obtain ⟨k,B⟩:=p
 by_cases hk:Nat.blt k 1000=true
 ·have:=h.low k hk
  rw [R5 h.nd hp] at this; cases this
 ·simp [Nat.blt_eq] at hk; exact hk
theorem rdT {sl:List (Nat×PV)}{T:List (Nat×Blk)}{k:Nat}{B:Blk}(pre:List (Nat×Blk))(h:K5 T)(hp:(pre.all fun p=>Nat.blt p.1 1000)=true)(hk:T.lookup k=some B):St.blk ⟨sl,pre++T⟩ k=some B:=by
 show (pre++T).lookup k=some B
 rw [T1]
 cases e:pre.lookup k with
 | none=>simpa using hk
 | some C =>
  rw [s0] at hp
  have:=hp _ (L3 e)
  rw [h.low k this] at hk; cases hk
theorem L8 {k:Nat}{B:Blk}{ks:List Nat}(h:1000≤k)(h2:ks.contains 1000=true:=by rfl):∀ p∈[(k,B)],cls p.1∈ks:=by
 intro p hp
 obtain rfl:=List.mem_singleton.1 hp
 rw [F0p h]; simpa using h2
theorem K7 {S:St}:∀ {l:List (Nat×Blk)},O5 S l→F6 S l
 | [],_=>trivial
 | _ :: _,h=>⟨h.1,K7 h.2⟩
theorem p0m {P:Program}{F:Fr}{d:Nat}{t T:TypeId}{pos:String}{aft:Array Edge}{g:Option (Nat×Bool)}{x y:Operand}{k n tot j sz:Nat}{B:Blk}{e:TypeId}{kd:IntKind}{i:Int}(hu:P.underlying t=some (.slice e))(hsz:∀ w,(sizeOf e).run P w = .ok sz w)(hl:B.cs.len=tot)(hi:i=(j:Int))(h1:j<n)(hlt:d<F.nt) :
  O2 P F ⟨some d,.indexAddr t x y,T,pos,aft,g⟩ { rs:=[(x,.ref k 0 n tot),(y,.p (.a (.int kd i)))],rb:=[(k,B)],ws:=[(d,.at_ k (j*sz) tot)] }:=by
 subst hi
 have:=b0a (P:=P) (F:=F) (d:=d) (t:=t) (T:=T) (pos:=pos) (aft:=aft) (g:=g) (x:=x) (y:=y) (kd:=kd) (off:=0) (k:=k) (n:=n) hu hsz hl (i:=j) (by omega) (by omega) hlt
 simpa using this
end Go.Proofs.YtjagfionflbjbaaGreat.SH
set_option maxRecDepth 100000
set_option maxHeartbeats 4000000
namespace Go.Proofs.YtjagfionflbjbaaGreat.N
open Go Go.Proofs.YtjagfionflbjbaaGreat.SH Go.Proofs.YtjagfionflbjbaaGreat.NumA
open Go.Proofs.Tryz renaming call100→cl100,call101→cl101,call106→cl106,call107→cl107,call108→cl108,call112→cl112,call127→cl127,call40→cl40,call52→cl52,call55→cl55,call64→cl64,call65→cl65,call67→cl67,call68→cl68,call70→cl70,call85→cl85,isAgg22→ag22,isAgg24→ag24,isAgg3→ag3,isAgg40→ag40,isAgg47→ag47,sizeOf22→sz22,sizeOf24→sz24,sizeOf3→sz3,sizeOf40→sz40,sizeOf47→sz47,typeInfo40→ti40,typeInfo47→ti47,underlying22→un22,underlying24→un24,underlying40→un40,underlying77→un77,zeroValue24→zv24,zeroValue47→zv47
@[reducible] def cQ (a:Rat):List L2:=[.a (.bool (decide (a.num<0))),.sl (v3 a.num.natAbs).length (G4 (v3 a.num.natAbs)),.a (.bool (decide ((a.den:Int)<0))),.sl (v3 (a.den:Int).natAbs).length (G4 (v3 (a.den:Int).natAbs))]
def X5:List Rat→List L2
 | []=>[]
 | a :: v=>cQ a++X5 v
@[simp] theorem Y2:∀ v:List Rat,(X5 v).length=v.length*4
 | []=>rfl
 | a :: v=>by simp only [X5,K1,Y2 v,cQ,D1,List.length_nil]; omega
theorem G0g:∀ v u:List Rat,X5 (v++u)=X5 v++X5 u
 | [],u=>rfl
 | a :: v,u=>by simp only [L1,X5,G0g v u,List.append_assoc]
theorem Y6:∀ {v:List Rat}{i:Nat},i<v.length→((X5 v).drop (i*4)).take 4=cQ (v.getD i 0)
 | [],i,h=>by simp at h
 | a :: v,0,_=>by simp [X5,cQ]
 | a :: v,i+1,h=>by
  have:=Y6 (v:=v) (i:=i) (by simpa using h)
  rw [show (i+1)*4=i*4+1+1+1+1 by omega]
  simp only [X5,cQ,L1,List.nil_append,List.drop_succ_cons,List.getD_cons_succ]
  exact this
theorem N1x:∀ {v:List Rat}{i:Nat}(b:Rat),i<v.length→(X5 v).take (i*4)++cQ b++(X5 v).drop (i*4+4)=X5 (v.set i b)
 | [],i,_,h=>by simp at h
 | a :: v,0,b,_=>by simp [X5,cQ]
 | a :: v,i+1,b,h=>by
  have:=N1x (v:=v) (i:=i) b (by simpa using h)
  rw [show (i+1)*4=i*4+1+1+1+1 by omega,show i*4+1+1+1+1+4=i*4+4+1+1+1+1 by omega]
  simp only [List.set_cons_succ,X5,← this]
  simp only [cQ,L1,List.nil_append,List.drop_succ_cons,List.take_succ_cons]
@[reducible] def pV (v:List Rat):L2:=.sl v.length (X5 v)
def E5 (m:List (List Rat)):List L2:=m.map pV
@[simp] theorem G5 (m:List (List Rat)):(E5 m).length=m.length:=by simp [E5]
theorem y7 {m:List (List Rat)}{i:Nat}(h:i<m.length):(E5 m)[i]? = some (pV (m.getD i [])):=by
 simp [E5,h,f0]
def E3 (s i:Nat):Nat:=2*i+s+1100
@[reducible] def Z3 (v:List Rat):Blk:=⟨47,4,.pure (X5 v)⟩
theorem n0c {v:List Rat}{k:Nat}(b:Rat)(h:k<v.length):(⟨47,4,.pure ((X5 v).take (k*4)++cQ b++(X5 v).drop (k*4+4))⟩:Blk)=Z3 (v.set k b):=by rw [N1x b h]
def T6 (s:Nat):Nat→List (List Rat)→List (Nat×Blk)
 | _,[]=>[]
 | i,v :: m=>(E3 s i,Z3 v) :: T6 s (i+1) m
def M4 (s:Nat):Nat→List (List Rat)→List PV
 | _,[]=>[]
 | i,v :: m=>.ref (E3 s i) 0 v.length (v.length*4) :: M4 s (i+1) m
@[simp] theorem E2 (s:Nat):∀ (i:Nat) (m:List (List Rat)),(M4 s i m).length=m.length
 | _,[]=>rfl
 | i,v :: m=>by simp [M4,E2 s (i+1) m]
theorem j0v {s:Nat}:∀ {i j:Nat} {m:List (List Rat)},(M4 s i m)[j]? = (m[j]?).map fun v=>.ref (E3 s (i+j)) 0 v.length (v.length*4)
 | i,j,[]=>by simp [M4]
 | i,0,v :: m=>by simp [M4]
 | i,j+1,v :: m=>by
  simp only [M4,List.getElem?_cons_succ]
  rw [j0v (i:=i+1) (j:=j) (m:=m),show i+1+j=i+(j+1) by omega]
theorem f0x {s:Nat}:∀ {i j:Nat} {m:List (List Rat)},(T6 s i m).lookup (E3 s (i+j))=(m[j]?).map Z3
 | i,j,[]=>by simp [T6]
 | i,0,v :: m=>by simp [T6]
 | i,j+1,v :: m=>by
  simp only [T6,i0,List.getElem?_cons_succ]
  rw [show (E3 s (i+(j+1)) == E3 s i)=false by simp [E3]; omega,show i+(j+1)=i+1+j by omega]
  exact f0x
theorem p0z {s:Nat}:∀ {i k:Nat} {m:List (List Rat)},(∀ j,j<m.length→k≠E3 s (i+j))→(T6 s i m).lookup k=none
 | i,k,[],_=>rfl
 | i,k,v :: m,h=>by
  simp only [T6,i0]
  rw [show (k == E3 s i)=false by simpa using h 0 sM]
  exact p0z fun j hj=>by have:=h (j+1) (by simpa using hj); rwa [show i+1+j=i+(j+1) by omega]
theorem B8 {s:Nat}:∀ {i k:Nat} {m:List (List Rat)},k∈(T6 s i m).map (·.1)→∃ j,j<m.length∧k=E3 s (i+j)
 | i,k,[],h=>by simp [T6] at h
 | i,k,v :: m,h=>by
  simp only [T6,R0,List.mem_cons] at h
  rcases h with h | h
  ·exact ⟨0,by simp,h⟩
  ·obtain ⟨j,h1,h2⟩:=B8 h
   exact ⟨j+1,by simpa using h1,by rw [h2,show i+1+j=i+(j+1) by omega]⟩
theorem h1v {s:Nat}:∀ (i:Nat) (m:List (List Rat)),((T6 s i m).map (·.1)).Nodup
 | i,[]=>List.nodup_nil
 | i,v :: m=>by
  simp only [T6,R0]
  refine List.nodup_cons.2 ⟨fun h=>?_,h1v (i+1) m⟩
  obtain ⟨j,_,h2⟩:=B8 h
  simp only [E3] at h2; omega
theorem f0m {s k:Nat}:∀ (i:Nat) (m:List (List Rat)),U2 k (T6 s i m)=true
 | _,[]=>rfl
 | i,v :: m=>by simp [T6,U2,Cells.free,f0m (i+1) m]
theorem v0a {s k:Nat}(h:k<1100):∀ (i:Nat) (m:List (List Rat)),PV.freeL k (M4 s i m)=true
 | _,[]=>rfl
 | i,v :: m=>by
  simp only [M4,PV.freeL,PV.free,j0]
  exact ⟨by simp [E3]; omega,v0a h (i+1) m⟩
theorem D0c {s:Nat}:∀ {i j q:Nat} {m:List (List Rat)} {x:PV},(M4 s i m)[j]? = some x→x.free q=false→∃ v,m[j]? = some v∧q=E3 s (i+j):=by
 intro i j q m x h hq
 rw [j0v,M0] at h
 obtain ⟨v,hv,rfl⟩:=h
 simp only [PV.free,bne_eq_false_iff_eq] at hq
 exact ⟨v,hv,hq.symm⟩
@[reducible] def hdB (s:Nat)(m:List (List Rat)):Blk:=⟨40,1,.mix (M4 s 0 m)⟩
def I2 (s:Nat)(m:List (List Rat)):List (Nat×Blk):=(s+1001,hdB s m) :: T6 s 0 m
theorem i2 {s:Nat}(h2:s<9)(m:List (List Rat)):K5 (I2 s m):=by
 have hno:∀ k,k<1100→(T6 s 0 m).lookup k=none:=fun k hk=>p0z fun j _=>by simp only [E3]; omega
 refine ⟨fun k hk=>?_,?_,fun k hk=>?_,fun j B hj i x hx q hq=>?_⟩
 ·simp only [Nat.blt_eq] at hk
  rw [I2,i0,show (k == s+1001)=false by simp; omega]
  exact hno k oM
 ·simp only [I2,R0]
  refine List.nodup_cons.2 ⟨fun hm=>?_,h1v 0 m⟩
  obtain ⟨j,_,h3⟩:=B8 hm
  simp only [E3] at h3; omega
 ·simp only [Nat.blt_eq] at hk
  simp only [I2,U2,Cells.free,j0]
  exact ⟨v0a oM 0 m,f0m 0 m⟩
 ·rw [I2,i0] at hj
  split at hj
  ·injection hj with hj; subst hj
   obtain ⟨v,hv,rfl⟩:=D0c hx hq
   rw [I2,i0,show (E3 s (0+i) == s+1001)=false by simp [E3]; omega,f0x,hv]; simp
  ·obtain ⟨j',_,rfl⟩:=B8 (G0.2 ⟨_,L3 hj,rfl⟩)
   rw [f0x,M0] at hj
   obtain ⟨v,hv,rfl⟩:=hj
   simp only [Cells.get,M0] at hx
   obtain ⟨y,_,rfl⟩:=hx
   simp [PV.free] at hq
theorem M0f {s i:Nat}{m:List (List Rat)}(h:i<m.length):(Cells.mix (M4 s 0 m)).get i=some (.ref (E3 s i) 0 (m.getD i []).length ((m.getD i []).length*4)):=by
 show (M4 s 0 m)[i]? = _
 rw [j0v]; simp [h,f0]
theorem hdL {s:Nat}{m:List (List Rat)}:(I2 s m).lookup (s+1001)=some (hdB s m):=by simp [I2]
theorem rwL {s i:Nat}{m:List (List Rat)}(hh:s<9)(hi:i<m.length):(I2 s m).lookup (E3 s i)=some (Z3 (m.getD i [])):=by
 rw [I2,i0,show (E3 s i == s+1001)=false by simp [E3]; omega]
 have:=f0x (s:=s) (i:=0) (j:=i) (m:=m)
 rw [F1] at this
 rw [this]; simp [hi,f0]
theorem rwS {s i:Nat}{m:List (List Rat)}{r:List Rat}(hh:s<9)(hi:i<m.length):(I2 s (m.set i r)).lookup (E3 s i)=some (Z3 r):=by
 have:=rwL (s:=s) (i:=i) (m:=m.set i r) hh (by simpa using hi)
 rw [this,f0,List.getElem?_set_self hi]; rfl
theorem rwO {s i j:Nat}{m:List (List Rat)}{r:List Rat}(hh:s<9)(hj:j<m.length)(hne:i≠j):(I2 s (m.set i r)).lookup (E3 s j)=some (Z3 (m.getD j [])):=by
 have:=rwL (s:=s) (i:=j) (m:=m.set i r) hh (by simpa using hj)
 rw [this,f0,f0,List.getElem?_set_ne hne]
theorem W0r {s:Nat}:∀ {i j:Nat} {m:List (List Rat)} {r r':List Rat},r'.length=r.length→M4 s i (m.set j r')=M4 s i (m.set j r)
 | i,j,[],r,r',_=>rfl
 | i,0,v :: m,r,r',h=>by simp [M4,h]
 | i,j+1,v :: m,r,r',h=>by simp only [List.set_cons_succ,M4,W0r (i:=i+1) (j:=j) h]
theorem F0d {s i j:Nat}:E3 s i=E3 s j↔i=j:=by simp only [E3]; omega
theorem hbS {sl:List (Nat×PV)}{s i:Nat}{m:List (List Rat)}{r r':List Rat}{B:Blk}(pre:List (Nat×Blk))(hp:(pre.all fun p=>Nat.blt p.1 1000)=true)(h2:s<9)(hi:i<m.length)(hB:B=Z3 r')(hl:r'.length=r.length):O5 ⟨sl,(E3 s i,B) :: (pre++I2 s (m.set i r))⟩ (I2 s (m.set i r')):=by
 subst hB
 refine v5 (i2 h2 _).nd fun k C hk=>?_
 show List.lookup k _=some C
 rw [i0]
 have hno:∀ k,k<1000→(I2 s (m.set i r')).lookup k=none:=fun k hk=>(i2 h2 _).low k (by simpa [Nat.blt_eq] using hk)
 have hpre:pre.lookup k=none:=by
  cases e:pre.lookup k with
  | none=>rfl
  | some D =>
   rw [s0] at hp
   have:=hp _ (L3 e)
   rw [(i2 h2 _).low k this] at hk; cases hk
 by_cases e:k=E3 s i
 ·subst e
  rw [rwS h2 hi] at hk
  simpa using hk
 ·rw [show (k == E3 s i)=false by simpa using e,T1,hpre,l0]
  rw [I2,i0] at hk ⊢
  by_cases e1:k=s+1001
  ·subst e1
   simp only [BEq.rfl,U0] at hk ⊢
   rw [← hk,hdB,hdB,W0r hl]
  ·rw [show (k == s+1001)=false by simpa using e1] at hk ⊢
   obtain ⟨j,hj,e2⟩:=B8 (G0.2 ⟨_,L3 hk,rfl⟩)
   simp only [F1] at e2
   subst e2
   have hne:i≠j:=fun h=>e (by rw [h])
   have h3:=f0x (s:=s) (i:=0) (j:=j) (m:=m.set i r')
   have h4:=f0x (s:=s) (i:=0) (j:=j) (m:=m.set i r)
   rw [F1,List.getElem?_set_ne hne] at h3 h4
   rw [h4,← h3]; exact hk
theorem f1b {s i:Nat}{m:List (List Rat)}{r:List Rat}{n:Nat}(h:i<m.length)(hr:r.length=n):(Cells.mix (M4 s 0 (m.set i r))).get i=some (.ref (E3 s i) 0 n (n*4)):=by
 subst hr
 have:=M0f (s:=s) (i:=i) (m:=m.set i r) (by simpa using h)
 rwa [f0,List.getElem?_set_self h] at this
theorem C5 (s i:Nat):1000≤E3 s i:=by simp only [E3]; omega
theorem s6 (s:Nat):1000≤s+1001:=by omega
theorem j1h (s:Nat)(m:List (List Rat))(i c:Nat)(h2:s<9)(hi:i<m.length)(hc:c<(m.getD i []).length):E4 E (fun _=>true) 91 [.ref (s+1001) 0 m.length m.length,.p (vZ i),.p (vZ c)] (I2 s m) (I2 s m) (.p (pQ ((m.getD i []).getD c 0))):=by
 refine j4 (xs:=[pQ ((m.getD i []).getD c 0)]) Tryz.func91 rfl Tryz.ntmps91 Tryz.results91 sM fun F G=>?_
 have L:=@lti _ _ G.nt
 have hG:=G.g
 have hX:=G.x
 have hN:=U5 hG
 have P0:∀ k,Nat.blt k 1000=true→F.pin k=none:=fun k hk=>G.p0 k ((i2 h2 m).low k hk)
 refine exr (swb (O3 (k:=6) (n:=4) zv47 (.cons rfl (.cons rfl (.cons rfl (.cons rfl .nil)))) rfl (P0 _ rfl) L) t0 t0 (frT [] (i2 h2 m) rfl rfl rfl) ?_)
 refine O1 ⟨[(0,_),(1,_),(2,_),(6,_)],(6,_) :: ((I2 s m)),t4,⟨rfl,(hbT [_] (i2 h2 m) rfl)⟩,?_⟩
 refine exr (mV L rfl (mV L rfl (sw (v6 un77 sz40 (by first | exact E2 _ _ _ | exact (E2 _ _ _).trans sM | simp [Cells.len]) (j:=i) rO oM L) t2 ⟨rdT [_] (i2 h2 m) rfl hdL,trivial⟩ ?_)))
 refine sw (Y1 ag40 (by first | exact E2 _ _ _ | exact (E2 _ _ _).trans sM) (M0f hi) L) t1 ⟨rdT [_] (i2 h2 m) rfl hdL,trivial⟩ ?_
 refine mV L rfl (sw (p0m un40 sz47 (by first | exact Y2 _ | exact (Y2 _).trans oM) (j:=c) rO oM L) t2 ⟨rdT [_] (i2 h2 m) rfl (rwL h2 hi),trivial⟩ ?_)
 refine sw (K1w ag47 sz47 (by first | exact Y2 _ | exact (Y2 _).trans oM) (Y6 oM) rfl L) t1 ⟨rdT [_] (i2 h2 m) rfl (rwL h2 hi),trivial⟩ ?_
 refine sb (R2 sz47 rF pa4 rfl pu4) t2 t1 ?_
 refine O1 ⟨[(6,_)],(6,_) :: ((I2 s m)),t1,⟨rfl,(hbT [_,_] (i2 h2 m) rfl)⟩,?_⟩
 refine X1 ?_
 refine ⟨.inr rfl,O4.cast (.cons (.agg rfl rfl rfl ag47 sz47 (.cons (.cons (.cons (.cons .nil))))) .nil) ?_,(hbT [_] (i2 h2 m) rfl)⟩
 rfl
def scl (v:List Rat)(c:Rat)(k:Nat):List Rat:=(v.take k).map (· * c)++v.drop k
@[simp] theorem d1g (v:List Rat)(c:Rat)(k:Nat):(scl v c k).length=v.length:=by simp [scl]; omega
theorem j1b {v:List Rat}{c:Rat}{k:Nat}(h:k<v.length):(scl v c k).getD k 0=v.getD k 0:=by
 simp [scl,f0,D0,G1 (Nat.le_of_lt h)]
theorem y1k {v:List Rat}{c:Rat}{k:Nat}(h:k<v.length):(scl v c k).set k ((scl v c k).getD k 0*c)=scl v c (k+1):=by
 rw [j1b h,scl,scl,List.set_append,if_neg sO]
 have e:k - (List.map (· * c) (v.take k)).length=0:=by simp; omega
 rw [e,I1,List.map_append,List.append_assoc]
 have e2:(List.drop k v).set 0 (v.getD k 0*c)=(v.getD k 0*c) :: List.drop (k+1) v:=by
  rw [List.drop_eq_getElem_cons h,List.set_cons_zero]
 have e3:List.map (· * c) v[k]?.toList=[v.getD k 0*c]:=by simp [f0,h]
 rw [e2,e3]; rfl
theorem J1j {v:List Rat}{c:Rat}:scl v c v.length=v.map (· * c):=by simp [scl]
theorem w1b {v:List Rat}{c:Rat}:scl v c 0=v:=by simp [scl]
theorem F0w {m:List (List Rat)}{i:Nat}:m.set i (m.getD i [])=m:=by
 by_cases h:i<m.length
 ·rw [f0,J1 h]; simp
 ·rw [List.set_eq_of_length_le oM]
theorem l4 {v:List Rat}{k:Nat}(h:k<v.length):v.getD k 0∈v:=by simp [f0,h]
theorem b1v (s:Nat)(m:List (List Rat))(i:Nat)(c:Rat)(h2:s<9)(hi:i<m.length)(hl:(m.getD i []).length<1000000000)(hs:∀ a∈m.getD i [],qw a<1000000000)(hc:qw c<1000000000):E4 E (fun _=>true) 96 [.ref (s+1001) 0 m.length m.length,.p (vZ i),.p (pQ c)] (I2 s m) (I2 s (m.set i ((m.getD i []).map (· * c)))) (.p (.tup [])):=by
 refine j4 (xs:=[]) Tryz.func96 rfl Tryz.ntmps96 Tryz.results96 sM fun F G=>?_
 have L:=@lti _ _ G.nt
 have hG:=G.g
 have hX:=G.x
 have hN:=U5 hG
 have P0:∀ k,Nat.blt k 1000=true→F.pin k=none:=fun k hk=>G.p0 k ((i2 h2 m).low k hk)
 refine exr (swb (U3 (k:=5) (n:=4) pa4 rfl rfl (P0 _ rfl) L) t1 t0 (frT [] (i2 h2 m) rfl rfl rfl) ?_)
 refine O1 ⟨[(0,_),(1,_),(5,_)],(5,_) :: ((I2 s m)),t3,⟨rfl,(hbT [_] (i2 h2 m) rfl)⟩,?_⟩
 refine exr (mV L rfl (mV L rfl (sw (v6 un77 sz40 (by first | exact E2 _ _ _ | exact (E2 _ _ _).trans sM | simp [Cells.len]) (j:=i) rO oM L) t2 ⟨rdT [_] (i2 h2 m) rfl hdL,trivial⟩ ?_)))
 refine sw (Y1 ag40 (by first | exact E2 _ _ _ | exact (E2 _ _ _).trans sM) (M0f hi) L) t1 ⟨rdT [_] (i2 h2 m) rfl hdL,trivial⟩ ?_
 refine sw (p0j un40 (by first | exact Y2 _ | exact (Y2 _).trans oM) L) t1 ⟨rdT [_] (i2 h2 m) rfl (rwL h2 hi),trivial⟩ ?_
 refine mV L rfl ?_
 refine O1 ⟨[(0,_),(1,_),(5,_),(11,_),(12,_),(13,_)],(5,_) :: ((I2 s m)),t6,⟨rfl,(hbT [_] (i2 h2 m) rfl)⟩,?_⟩
 obtain ⟨v,hv⟩:∃ v,v=m.getD i []:=⟨_,rfl⟩
 rw [← hv] at hl hs ⊢
 refine V1 ?_
 refine B0y (α:=Nat) (fun k=>[(13,vi (k:Int))]) (fun k=>[]) (fun k=>(I2 s (m.set i (scl v c k)))) (fun k=>k≤v.length) (fun k=>v.length - k) (0) (sl:=[(0,_),(1,_),(5,_),(11,_),(12,_)]) (hb:=[(5,_)]) ?_ ⟨oR,rfl,rfl,rfl,rfl,rfl,trivial⟩ ⟨rfl,(by rw [w1b,hv,F0w]; exact hbT [_] (i2 h2 m) rfl)⟩ ?_
 ·exact Nat.zero_le _
 intro k hk
 have hlen:=d1g v c k
 refine exr (sw (V3 L) t2 t0 ?_)
 refine O1 ⟨[(0,_),(1,_),(5,_),(11,_),(12,_),(13,_),(14,_)],(5,_) :: ((I2 s (m.set i (scl v c k)))),t7,⟨rfl,(hbT [_] (i2 h2 (m.set i (scl v c k))) rfl)⟩,?_⟩
 refine R1 ?_
 refine j2 rfl (fun hc2=>?_) (fun hc2=>?_)
 ·have hc2:=dt hc2
  have hk2:k<v.length:=by omega
  refine U1 (xq ?_)
  refine R1 (V1 (exr (mV L rfl (sw (p0m un40 sz47 (by first | exact Y2 _ | exact (Y2 _).trans oM) (j:=k) rO oM L) t2 ⟨rdT [_] (i2 h2 (m.set i (scl v c k))) rfl (rwS h2 hi),trivial⟩ ?_))))
  refine sw (K1w ag47 sz47 (by first | exact Y2 _ | exact (Y2 _).trans oM) (Y6 oM) rfl L) t1 ⟨rdT [_] (i2 h2 (m.set i (scl v c k))) rfl (rwS h2 hi),trivial⟩ ?_
  refine swb (O3 (k:=7) (n:=4) zv47 (.cons rfl (.cons rfl (.cons rfl (.cons rfl .nil)))) rfl (P0 _ rfl) L) t0 t0 (frT [_] (i2 h2 (m.set i (scl v c k))) rfl rfl rfl) (aV L rfl (sb (R2 sz47 rF pa4 rfl pu4) t2 t1 ?_))
  refine O1 ⟨[(0,_),(1,_),(5,_),(6,_),(7,_),(11,_),(12,_),(13,_)],(5,_) :: (7,_) :: ((I2 s (m.set i (scl v c k)))),t8,⟨rfl,rfl,(hbT [_,_,_] (i2 h2 (m.set i (scl v c k))) rfl)⟩,?_⟩
  refine b0j rF ?_
  refine mV L rfl (mV L rfl (sw (v6 un77 sz40 (by first | exact E2 _ _ _ | exact (E2 _ _ _).trans sM | simp [Cells.len]) (j:=i) rO oM L) t2 ⟨rdT [_,_] (i2 h2 (m.set i (scl v c k))) rfl hdL,trivial⟩ ?_))
  refine sw (Y1 ag40 (by first | exact E2 _ _ _ | exact (E2 _ _ _).trans sM) (f1b hi hlen) L) t1 ⟨rdT [_,_] (i2 h2 (m.set i (scl v c k))) rfl hdL,trivial⟩ ?_
  refine mV L rfl (lp4 ag47 sz47 L rfl rfl (lp4 ag47 sz47 L rfl rfl (cK hG hX cl67 hN (v8 ((scl v c k).getD k 0) c (by rw [j1b hk2]; exact hs _ (l4 hk2)) hc) L t2 ?_)))
  refine sw (p0m un40 sz47 (by first | exact Y2 _ | exact (Y2 _).trans oM) (j:=k) rO oM L) t2 ⟨rdT [_,_] (i2 h2 (m.set i (scl v c k))) rfl (rwS h2 hi),trivial⟩ ?_
  refine sb (H0k (n:=4) sz47 (by first | exact Y2 _ | exact (Y2 _).trans oM) rfl oM) t2 ⟨rdT [_,_] (i2 h2 (m.set i (scl v c k))) rfl (rwS h2 hi),trivial⟩ ?_
  refine O1 ⟨h0j [⟨[0],[],[18],[]⟩,⟨[1],[],[19],[]⟩,⟨[18,19],[1000],[20],[]⟩,⟨[20],[1000],[21],[]⟩,⟨[6],[],[22],[]⟩,⟨[7],[7],[23],[]⟩,⟨[5],[5],[24],[]⟩,⟨[23,24],[],[25],[]⟩,⟨[21,22],[1000],[26],[]⟩,⟨[26,25],[1000],[],[1000]⟩] (.cons (cf0 rfl) (.cons (cf0 rfl) (.cons (cfT rfl rfl (L8 (by first | exact s6 _ | exact C5 _ _)) rfl (fun _ h=>by cases h)) (.cons (cfT rfl rfl (L8 (by first | exact s6 _ | exact C5 _ _)) rfl (fun _ h=>by cases h)) (.cons (cf0 rfl) (.cons (cf0 rfl) (.cons (cf0 rfl) (.cons (cf0 rfl) (.cons (cfT rfl rfl (L8 (by first | exact s6 _ | exact C5 _ _)) rfl (fun _ h=>by cases h)) (.cons (cfT rfl rfl (L8 (by first | exact s6 _ | exact C5 _ _)) rfl (L8 (by first | exact s6 _ | exact C5 _ _)))  .nil)))))))))) rfl (frS [] [_,_] (i2 h2 (m.set i (scl v c k))) rfl rfl) dC,(show i4 _ _ _ _ _ from exw (sl:=[(0,_),(1,_),(5,_),(11,_),(12,_),(13,_)]) (hb:=(5,_) :: ((I2 s (m.set i (scl v c (k+1)))))) t6 ⟨rfl,(hbS [_,_] rfl h2 hi ((n0c ((scl v c k).getD k 0*c) oM).trans (by rw [y1k hk2])) sM)⟩ ?_)⟩
  refine j3 (sw (F3 L (w64 oM oM)) t2 t0 (mV L rfl (O1 ?_)))
  exact ⟨k+1,oM,by omega,l3 ⟨oR,rfl,rfl,rfl,rfl,rfl,trivial⟩ ⟨rfl,(hbT [_] (i2 h2 (m.set i (scl v c (k+1)))) rfl)⟩⟩
 ·have hc2:=df hc2
  refine J2 ?_
  refine ⟨.inl rfl,O4.cast .nil ?_,(by rw [← J1j,show v.length=k by omega]; exact hbT [_] (i2 h2 _) rfl)⟩
  rfl
def tak (v u:List Rat)(c:Rat)(k:Nat):List Rat:=(List.zipWith (fun a b=>a - c*b) v u).take k++v.drop k
theorem p0b {v u:List Rat}(c:Rat)(k:Nat)(h:u.length=v.length):(tak v u c k).length=v.length:=by simp [tak]; omega
theorem K1y {v u:List Rat}{c:Rat}{k:Nat}(h:k<v.length)(hu:u.length=v.length):(tak v u c k).getD k 0=v.getD k 0:=by
 simp only [tak,f0]
 rw [D0 sO]
 congr 1; simp; congr 1; omega
theorem V0r {v u:List Rat}{c:Rat}{k:Nat}(h:k<v.length)(hu:u.length=v.length):(tak v u c k).set k ((tak v u c k).getD k 0 - c*u.getD k 0)=tak v u c (k+1):=by
 rw [K1y h hu,tak,tak,List.set_append,if_neg sO]
 have e:k - ((List.zipWith (fun a b=>a - c*b) v u).take k).length=0:=by simp; omega
 rw [e,I1,List.append_assoc]
 have e2:(List.drop k v).set 0 (v.getD k 0 - c*u.getD k 0)=(v.getD k 0 - c*u.getD k 0) :: List.drop (k+1) v:=by
  rw [List.drop_eq_getElem_cons h,List.set_cons_zero]
 have e3:(List.zipWith (fun a b=>a - c*b) v u)[k]?.toList=[v.getD k 0 - c*u.getD k 0]:=by
  have h2:k<u.length:=by omega
  simp [List.getElem?_zipWith,f0,h,h2]
 rw [e2,e3]; rfl
theorem B1f {v u:List Rat}{c:Rat}{k:Nat}(h:k<v.length)(hu:u.length=v.length)(h0:u.getD k 0=0):tak v u c k=tak v u c (k+1):=by
 rw [← V0r h hu,h0,Rat.mul_zero,show ∀ x:Rat,x - 0=x from fun x=>by grind]
 have hl:=p0b (v:=v) (u:=u) c k hu
 simp [f0,show k<(tak v u c k).length by omega]
theorem M1d {v u:List Rat}{c:Rat}(hu:u.length=v.length):tak v u c v.length=List.zipWith (fun a b=>a - c*b) v u:=by
 simp [tak,C0,hu]
theorem w1m {v u:List Rat}{c:Rat}:tak v u c 0=v:=by simp [tak]
theorem N1s (a:Rat):n0x a 0=0↔a=0:=by
 unfold n0x
 constructor
 ·intro h
  split at h
  ·cases h
  ·split at h
   ·cases h
   ·rename_i h1 h2; exact Rat.le_antisymm (Rat.not_lt.1 h2) (Rat.not_lt.1 h1)
 ·rintro rfl; simp [Rat.lt_irrefl]
theorem I6 (a:Rat)(ha:qw a<1000000000):s3 E 65 [pQ a] (bZ (decide (a=0))):=by
 refine y2 (xs:=[bZ (decide (a=0))]) Tryz.func65 rfl Tryz.ntmps65 Tryz.results65 sM fun F hG hX0 hnt hdf P0=>?_
 obtain ⟨L,hX,hN⟩:=pro hnt hX0 hG
 refine exr (swb (U3 (k:=1) (n:=4) pa4 rfl rfl (P0 _ rfl) L) t1 t0 ⟨rfl,rfl⟩ (aV L rfl (zn [(1,_)] [(1,_)] t1 t1 (exr (lp4 ag47 sz47 L rfl rfl (cK hG hX cl108 hN (B0x a ha) L t1 (sw (c_e L) t2 t0 (aV L rfl (zn [(2,_)] [] t1 trivial (X1 ?_))))))))))
 refine Q0 (.tmp rfl) ?_
 rw [show decide (n0x a 0=0)=decide (a=0) from decide_eq_decide.2 (N1s a)]
theorem O6 (n:Int)(h : -9223372036854775808≤n)(h1:n<9223372036854775808):s3 E 55 [vZ n] (pQ (n:Rat)):=by
 refine y2 (xs:=[pQ (n:Rat)]) Tryz.func55 rfl Tryz.ntmps55 Tryz.results55 sM fun F hG hX0 hnt hdf P0=>?_
 obtain ⟨L,hX,hN⟩:=pro hnt hX0 hG
 refine exr (swb (O3 (k:=2) (n:=4) zv47 (.cons rfl (.cons rfl (.cons rfl (.cons rfl .nil)))) rfl (P0 _ rfl) L) t0 t0 ⟨rfl,rfl⟩ (zn [(0,_),(2,_)] [(2,_)] t2 t1 (exr (mV L rfl (cK hG hX cl101 hN (N0d n h h1) L t1 (cK hG hX cl100 hN (y0b n) L t1 (sb (R2 sz47 rF pa4 rfl pu4) t2 t1 ?_)))))))
 refine zn [(2,_)] [(2,_)] t1 t1 (X1 ?_)
 refine Q0 (.agg rfl rfl rfl ag47 sz47 (.cons (.cons (.cons (.cons .nil))))) ?_
 rfl
@[reducible] def bQ (a:Rat):Blk:=⟨47,4,.mix [.p (.a (.bool (decide (a.num<0)))),.p (.sl (v3 a.num.natAbs).length (G4 (v3 a.num.natAbs))),.p (.a (.bool (decide ((a.den:Int)<0)))),.p (.sl (v3 (a.den:Int).natAbs).length (G4 (v3 (a.den:Int).natAbs)))]⟩
def H8 (v:List Rat):Rat:=v.foldl (· + ·) 0
theorem N0c (v:List Rat)(a:Rat):H8 (v++[a])=H8 v+a:=by simp [H8]
theorem J0q {v:List Rat}{k:Nat}(h:k<v.length):H8 (v.take (k+1))=H8 (v.take k)+v.getD k 0:=by
 rw [I1,show v[k]?.toList=[v.getD k 0] by simp [f0,h],N0c]
theorem f1z {B:Nat}:∀ {v:List Rat},(∀ a∈v,qw a≤B)→qw (H8 v)≤v.length*(B+1)+1:=by
 intro v
 suffices h:∀ (n:Nat) (l:List Rat),l.length=n→(∀ a∈l,qw a≤B)→qw (H8 l)≤l.length*(B+1)+1 from h _ v rfl
 intro n
 induction n with
 | zero=>intro l hl _; rw [E0 hl]; simp [H8,k0h]
 | succ n ih =>
  intro l hl hB
  obtain ⟨l',a,rfl⟩:∃ l' a,l=l'++[a]:=⟨l.dropLast,l.getLast (by intro e; simp [e] at hl),(List.dropLast_concat_getLast _).symm⟩
  simp only [K1,D1,List.length_nil] at hl
  have h1:=ih l' oM (fun b hb=>hB b (by simp [hb]))
  have h2:=hB a sM
  have h3:=B1b (H8 l') a
  rw [N0c,K1,D1,List.length_nil,Nat.add_mul]
  omega
theorem y0m {B:Nat}{v:List Rat}{k:Nat}(h:∀ a∈v,qw a≤B):qw (H8 (v.take k))≤v.length*(B+1)+1:=by
 have h1:=f1z (v:=v.take k) (B:=B) fun a ha=>h a (List.mem_of_mem_take ha)
 have h2:(v.take k).length*(B+1)≤v.length*(B+1):=V0 _ sO
 omega
theorem q0g (v:List Rat)(B:Nat)(hl:v.length<1000000000)(hB:∀ a∈v,qw a≤B)(hb:v.length*(B+1)+1<900000000):s3 E 68 [pV v] (pQ (H8 v)):=by
 refine y2 (xs:=[pQ (H8 v)]) Tryz.func68 rfl Tryz.ntmps68 Tryz.results68 sM fun F hG hX0 hnt hdf P0=>?_
 obtain ⟨L,hX,hN⟩:=pro hnt hX0 hG
 have hBB:∀ a∈v,qw a<1000000000:=fun a ha=>by
  have h1:=hB a ha
  have h2:0<v.length:=List.length_pos_of_mem ha
  have h3:1*(B+1)≤v.length*(B+1):=V0 _ h2
  omega
 refine exr (swb (O3 (k:=2) (n:=4) zv47 (.cons rfl (.cons rfl (.cons rfl (.cons rfl .nil)))) rfl (P0 _ rfl) L) t0 t0 ⟨rfl,rfl⟩ (zn [(0,_),(2,_)] [(2,_)] t2 t1 (exr (cK hG hX cl55 hN (O6 0 dC dC) L t1 (swb (O3 (k:=3) (n:=4) zv47 (.cons rfl (.cons rfl (.cons rfl (.cons rfl .nil)))) rfl (P0 _ rfl) L) t0 t0 ⟨rfl,rfl⟩ (sb (R2 sz47 rF pa4 rfl pu4) t2 t1 ?_))))))
 refine zn [(0,_),(2,_),(3,_)] [(2,_),(3,_)] t3 t2 (R1 (exr (mV L rfl (sw (X2 un40 L) t1 t0 (mV L rfl (zn [(2,_),(3,_),(7,_),(8,_),(9,_)] [(2,_),(3,_)] t5 t2 (V1 ?_)))))))
 refine exl (α:=Nat) (fun k=>[(9,vi (k:Int))]) (fun k=>[(3,bQ (H8 (v.take k)))]) (fun k=>k≤v.length) (fun k=>v.length - k) (0) (sl:=[(2,_),(3,_),(7,_),(8,_)]) (hb:=[(2,_)]) ?_ ⟨oR,rfl,rfl,rfl,rfl,trivial⟩ t2 ?_
 ·exact Nat.zero_le _
 intro k hk
 refine exr (sw (V3 L) t2 t0 (zn [(2,_),(3,_),(7,_),(8,_),(9,_),(10,_)] [(2,_),(3,_)] t6 t2 (R1 ?_)))
 refine j2 rfl (fun hc=>?_) (fun hc=>?_)
 ·have hc:=dt hc
  have hkl:k<v.length:=by omega
  have hq:=y0m (k:=k) hB
  refine U1 (xq ?_)
  refine R1 (V1 (exr (sw (D2 un40 sz47 oM oM sM dC L) t2 t0 ?_)))
  refine sw (Z6 ag47 sz47 (Y6 hkl) rfl L) t1 t0 (swb (O3 (k:=5) (n:=4) zv47 (.cons rfl (.cons rfl (.cons rfl (.cons rfl .nil)))) rfl (P0 _ rfl) L) t0 t0 ⟨rfl,rfl⟩ (sb (R2 sz47 rF pa4 rfl pu4) t2 t1 ?_))
  refine zn [(2,_),(3,_),(5,_),(7,_),(8,_),(9,_)] [(2,_),(3,_),(5,_)] t6 t3 (j3 (lp4 ag47 sz47 L rfl rfl (lp4 ag47 sz47 L rfl rfl (cK hG hX cl112 hN (K0p (H8 (v.take k)) (v.getD k 0) oM (hBB _ (l4 hkl))) L t2 (sb (R2 sz47 rF pa4 rfl pu4) t2 t1 ?_)))))
  refine O1 (j3 (sw (F3 L (w64 oM oM)) t2 t0 (mV L rfl (O1 ?_))))
  exact ⟨k+1,oM,by omega,l3 ⟨oR,rfl,rfl,rfl,rfl,trivial⟩ ⟨obl rfl (by rw [J0q hkl]),rfl,trivial⟩⟩
 ·have hc:=df hc
  refine J2 (xq ?_)
  refine exr (lp4 ag47 sz47 L rfl rfl (sb (R2 sz47 rF pa4 rfl pu4) t2 t1 ?_))
  refine zn [(2,_)] [(2,_)] t1 t1 (X1 ?_)
  refine Q0 (.agg rfl rfl rfl ag47 sz47 (.cons (.cons (.cons (.cons .nil))))) ?_
  rw [C0 oM]
theorem hbI {S:St}{l l':List (Nat×Blk)}(e:l=l')(h:O5 S l'):O5 S l:=e ▸ h
@[reducible] def m1z (k:Nat):List Rat→PV
 | []=>.p (.a (.slice none 0 0))
 | a :: v=>.ref k 0 (a :: v).length ((a :: v).length*4)
@[reducible] def m1w (k:Nat):List Rat→List (Nat×Blk)
 | []=>[]
 | a :: v=>[(k,⟨47,4,.pure (X5 (a :: v))⟩)]
theorem C9 (v:List Rat)(a:Rat):(⟨47,4,.pure (X5 v++cQ a)⟩:Blk)=Z3 (v++[a]):=by rw [Z3,G0g]; simp [X5]
def H0w (u v:List Rat):List Rat:=((List.zip u v).filter fun p=>decide (p.1≠0∧p.2≠0)).map fun p=>p.1*p.2
def d0r (u v:List Rat):Rat:=H8 (H0w u v)
theorem m0f {u v:List Rat}:(H0w u v).length≤u.length:=by
 unfold H0w; rw [O0]
 refine Nat.le_trans (List.length_filter_le _ _) ?_
 simp; omega
theorem J0r {u v:List Rat}{k:Nat}(h:k<u.length)(hv:u.length=v.length):H0w (u.take (k+1)) v=H0w (u.take k) v++(if u.getD k 0≠0∧v.getD k 0≠0 then [u.getD k 0*v.getD k 0] else []):=by
 have h2:k<v.length:=by omega
 have e:List.zip (u.take (k+1)) v=List.zip (u.take k) v++[(u.getD k 0,v.getD k 0)]:=by
  apply List.ext_getElem?
  intro i
  rw [List.getElem?_append]
  simp only [List.zip,List.getElem?_zipWith,List.length_zipWith,J0,List.getElem?_take]
  by_cases h3:i<k
  ·rw [if_pos oM,if_pos oM,if_pos oM]
  ·rw [if_neg (show ¬ i<min (min k u.length) v.length by omega)]
   by_cases h4:i=k
   ·subst h4
    rw [if_pos oM]
    have:i - min (min i u.length) v.length=0:=by omega
    rw [this]; simp [f0,h,h2]
   ·rw [if_neg oM]
    obtain ⟨m,hm⟩:∃ m,i - min (min k u.length) v.length=m+1:=⟨i - min (min k u.length) v.length - 1,by omega⟩
    rw [hm]; rfl
 unfold H0w
 rw [e,List.filter_append,List.map_append]
 congr 1
 by_cases hc:u.getD k 0≠0∧v.getD k 0≠0
 ·rw [if_pos hc,List.filter_cons_of_pos (by simpa using hc)]; rfl
 ·rw [if_neg hc,List.filter_cons_of_neg (by simpa using hc)]; rfl
theorem Q0b {B C:Nat}{u v:List Rat}(hB:∀ a∈u,qw a≤B)(hC:∀ a∈v,qw a≤C):∀ a∈H0w u v,qw a≤B+C:=by
 intro a ha
 simp only [H0w,G0,List.mem_filter] at ha
 obtain ⟨p,⟨h1,-⟩,rfl⟩:=ha
 have h2:=List.of_mem_zip (a:=p.1) (b:=p.2) h1
 have:=T8 p.1 p.2
 have:=hB _ h2.1
 have:=hC _ h2.2
 omega
theorem F0c (u v:List Rat)(B C:Nat)(huv:u.length=v.length)(hl:u.length<1000000000)(hB:∀ a∈u,qw a≤B)(hC:∀ a∈v,qw a≤C)(hBl:B<1000000000)(hCl:C<1000000000)(hb:u.length*(B+C+1)+1<900000000):s3 E 70 [pV u,pV v] (pQ (d0r u v)):=by
 refine y2 (xs:=[pQ (d0r u v)]) Tryz.func70 rfl Tryz.ntmps70 Tryz.results70 sM fun F hG hX0 hnt hdf P0=>?_
 obtain ⟨L,hX,hN⟩:=pro hnt hX0 hG
 refine exr (swb (O3 (k:=4) (n:=4) zv47 (.cons rfl (.cons rfl (.cons rfl (.cons rfl .nil)))) rfl (P0 _ rfl) L) t0 t0 ⟨rfl,rfl⟩ (zn [(0,_),(1,_),(4,_)] [(4,_)] t3 t1 (exr (aV L rfl (zn [(0,_),(1,_),(4,_),(5,_)] [(4,_)] t4 t1 (R1 (exr (mV L rfl (sw (X2 un40 L) t1 t0 (mV L rfl (zn [(1,_),(4,_),(5,_),(8,_),(9,_),(10,_)] [(4,_)] t6 t1 ?_)))))))))))
 refine V1 ?_
 refine exl (α:=(Nat×List Rat)) (fun x=>[(10,vi (x.1:Int)),(5,m1z 34 x.2)]) (fun x=>[]++m1w 34 x.2) (fun x=>x.1≤u.length∧H0w (u.take x.1) v=x.2) (fun x=>u.length - x.1) ((0,[])) (sl:=[(1,_),(4,_),(8,_),(9,_)]) (hb:=[(4,_)]) ?_ ⟨oR,oR,rfl,rfl,rfl,rfl,trivial⟩ (hbI (l':=[(4,_)]) rfl t1) ?_
 ·exact ⟨Nat.zero_le _,rfl⟩
 intro x hk
 obtain ⟨k,T⟩:=x
 obtain ⟨hk,hT⟩:=hk
 simp only at hk hT
 rcases T with _ | ⟨q,T⟩
 ·dsimp only [m1z,m1w,List.append_nil]
  refine exr (sw (V3 L) t2 t0 (zn [(1,_),(4,_),(5,_),(8,_),(9,_),(10,_),(11,_)] [(4,_)] t7 t1 (R1 ?_)))
  refine j2 rfl (fun hc=>?_) (fun hc=>?_)
  ·have hc:=dt hc
   have hk2:k<u.length:=by omega
   have hk3:k<v.length:=by omega
   have ht:=J0r hk2 huv
   have b1:qw (u.getD k 0)≤B:=hB _ (l4 hk2)
   have b2:qw (v.getD k 0)≤C:=hC _ (l4 hk3)
   refine U1 (xq ?_)
   refine R1 (V1 (exr (mV L rfl (sw (D2 un40 sz47 oM oM sM dC L) t2 t0 ?_))))
   refine sw (Z6 ag47 sz47 (Y6 hk2) rfl L) t1 t0 (swb (O3 (k:=7) (n:=4) zv47 (.cons rfl (.cons rfl (.cons rfl (.cons rfl .nil)))) rfl (P0 _ rfl) L) t0 t0 ⟨rfl,rfl⟩ (aV L rfl (sb (R2 sz47 rF pa4 rfl pu4) t2 t1 ?_)))
   refine zn [(1,_),(4,_),(5,_),(6,_),(7,_),(8,_),(9,_),(10,_)] [(4,_),(7,_)] t8 t2 ?_
   refine exm (sl:=[(25,vb (decide (u.getD k 0≠0∧v.getD k 0≠0)))]) (sl0:=[(1,_),(4,_),(5,_),(6,_),(7,_),(8,_),(9,_),(10,_)]) (hb:=[]) (hb0:=[(4,_),(7,_)]) t8 t2 ?_ ?_
   ·by_cases h0:u.getD k 0=0
    ·refine lp4 ag47 sz47 L rfl rfl (cK hG hX cl65 hN (I6 (u.getD k 0) oM) L t1 (sw (m4 L) t1 t0 (mV L rfl (swn (g:=18) rfl (by rw [h0]; rfl) L rfl ?_))))
     refine swn (g:=18) rfl (by rw [h0]; rfl) L rfl ?_
     refine swn (g:=18) rfl (by rw [h0]; rfl) L rfl ?_
     refine swn (g:=18) rfl (by rw [h0]; rfl) L rfl ?_
     refine swn (g:=18) rfl (by rw [h0]; rfl) L rfl ?_
     refine swn (g:=18) rfl (by rw [h0]; rfl) L rfl ?_
     refine sw (v4 (by rw [h0]; rfl) L) t2 t0 ?_
     exact O1 ⟨⟨ob rfl (by simp only [h0]; rfl),rfl,rfl,rfl,rfl,rfl,rfl,rfl,rfl,trivial⟩,t2⟩
    ·refine lp4 ag47 sz47 L rfl rfl (cK hG hX cl65 hN (I6 (u.getD k 0) oM) L t1 (sw (m4 L) t1 t0 (mV L rfl (gV (g:=18) rfl (by simp only [h0]; rfl) L rfl rfl ?_))))
     refine gV (g:=18) rfl (by simp only [h0]; rfl) L rfl rfl ?_
     refine swg (g:=18) rfl (by simp only [h0]; rfl) (D2 un40 sz47 oM oM sM dC L) rfl t2 t0 ?_
     refine swg (g:=18) rfl (by simp only [h0]; rfl) (Z6 ag47 sz47 (Y6 hk3) rfl L) rfl t1 t0 ?_
     refine swg (g:=18) rfl (by simp only [h0]; rfl) (c_c hG hX cl65 rfl hN (I6 (v.getD k 0) oM) L) rfl t1 t0 ?_
     refine swg (g:=18) rfl (by simp only [h0]; rfl) (m4 L) rfl t1 t0 ?_
     refine sw (Y4 (by simp only [h0]; rfl) L) t2 t0 ?_
     exact O1 ⟨⟨ob rfl (by rw [decide_eq_decide.2 (show (¬ (v.getD k 0=0))↔(u.getD k 0≠0∧v.getD k 0≠0) from ⟨fun h=>⟨h0,h⟩,fun h=>h.2⟩).symm]; exact (decide_not).symm),rfl,rfl,rfl,rfl,rfl,rfl,rfl,rfl,trivial⟩,t2⟩
   refine j2 rfl (fun h1=>?_) (fun h1=>?_)
   ·have h1:=dt h1
    rw [if_pos h1,hT] at ht
    refine b0j rF ?_
    refine mV L rfl (lp4 ag47 sz47 L rfl rfl (mV L rfl (mV L rfl (sw (D2 un40 sz47 oM oM sM dC L) t2 t0 ?_))))
    refine sw (Z6 ag47 sz47 (Y6 hk3) rfl L) t1 t0 (cK hG hX cl67 hN (v8 (u.getD k 0) (v.getD k 0) oM oM) L t2 (sw (n4 (vs:=[_]) un40 ti47 rfl rfl dC dC rfl (K2 (.cons rfl (.cons rfl (.cons rfl (.cons rfl .nil)))) rfl) rfl (.cons rfl pa4 rfl pu4 .nil) (.cons (.cons (.cons (.cons .nil)))) L) t1 t0 (swb (apN (k:=34) (sz:=4) un40 un40 ti47 rfl rfl rfl dC sM rfl (by first | (simp [Tryz.t47]; done) | (simp [Tryz.t47]; omega)) oM (P0 _ rfl) L) t2 t0 ⟨rfl,rfl⟩ ?_)))
    refine aV L rfl ?_
    refine O1 ⟨aok rfl rfl,?_⟩
    refine j3 (sw (F3 L (w64 oM oM)) t2 t0 (mV L rfl (O1 ?_)))
    exact ⟨(k+1,[u.getD k 0*v.getD k 0]),⟨by simp only; omega,ht⟩,(by simp only; omega),l3 ⟨oR,oR,rfl,rfl,rfl,rfl,trivial⟩ (hbI (l':=[(34,_),(4,_)]) rfl t2)⟩
   ·have h1:=df h1
    rw [if_neg h1,hT,List.append_nil] at ht
    refine U1 (xq ?_)
    refine j3 (sw (F3 L (w64 oM oM)) t2 t0 (mV L rfl (O1 ?_)))
    exact ⟨(k+1,[]),⟨by simp only; omega,ht⟩,(by simp only; omega),l3 ⟨oR,oR,rfl,rfl,rfl,rfl,trivial⟩ (hbI (l':=[(4,_)]) rfl t1)⟩
  ·have hc:=df hc
   have hku:k=u.length:=by omega
   rw [hku,I0] at hT
   refine J2 (xq ?_)
   refine P4 [] (sl:=[(4,_),(5,_)]) (hb:=[(4,_)]) (M3 hX0) ⟨⟨_,rfl,.same⟩,⟨_,rfl,(.p .nil)⟩,trivial⟩ ⟨⟨rfl,_,rfl,.same⟩,trivial⟩ (exr (mV L rfl (cK hG hX cl68 hN (q0g [] (B+C) (by rw [← hT]; have:=m0f (u:=u) (v:=v); omega) (by rw [← hT]; exact Q0b hB hC) (by rw [← hT]; have:=V0 (B+C+1) (m0f (u:=u) (v:=v)); omega)) L t1 ?_)))
   refine sb (R2 sz47 rF pa4 rfl pu4) t2 t1 ?_
   refine zn [(4,_)] [(4,_)] t1 t1 (X1 ?_)
   refine Q0 (.agg rfl rfl rfl ag47 sz47 (.cons (.cons (.cons (.cons .nil))))) ?_
   rw [d0r,hT]
 ·dsimp only [m1z,m1w]
  have hTl:T.length+1≤u.length:=by
   have h1:=m0f (u:=u.take k) (v:=v)
   rw [hT] at h1; simp at h1; omega
  have hTl2:(q :: T).length≤u.length:=hTl
  refine exr (sw (V3 L) t2 t0 (zn [(1,_),(4,_),(5,_),(8,_),(9,_),(10,_),(11,_)] [(4,_),(34,_)] t7 t2 (R1 ?_)))
  refine j2 rfl (fun hc=>?_) (fun hc=>?_)
  ·have hc:=dt hc
   have hk2:k<u.length:=by omega
   have hk3:k<v.length:=by omega
   have ht:=J0r hk2 huv
   have b1:qw (u.getD k 0)≤B:=hB _ (l4 hk2)
   have b2:qw (v.getD k 0)≤C:=hC _ (l4 hk3)
   refine U1 (xq ?_)
   refine R1 (V1 (exr (mV L rfl (sw (D2 un40 sz47 oM oM sM dC L) t2 t0 ?_))))
   refine sw (Z6 ag47 sz47 (Y6 hk2) rfl L) t1 t0 (swb (O3 (k:=7) (n:=4) zv47 (.cons rfl (.cons rfl (.cons rfl (.cons rfl .nil)))) rfl (P0 _ rfl) L) t0 t0 ⟨rfl,rfl⟩ (aV L rfl (sb (R2 sz47 rF pa4 rfl pu4) t2 t1 ?_)))
   refine zn [(1,_),(4,_),(5,_),(6,_),(7,_),(8,_),(9,_),(10,_)] [(4,_),(7,_),(34,_)] t8 t3 ?_
   refine exm (sl:=[(25,vb (decide (u.getD k 0≠0∧v.getD k 0≠0)))]) (sl0:=[(1,_),(4,_),(5,_),(6,_),(7,_),(8,_),(9,_),(10,_)]) (hb:=[]) (hb0:=[(4,_),(7,_),(34,_)]) t8 t3 ?_ ?_
   ·by_cases h0:u.getD k 0=0
    ·refine lp4 ag47 sz47 L rfl rfl (cK hG hX cl65 hN (I6 (u.getD k 0) oM) L t1 (sw (m4 L) t1 t0 (mV L rfl (swn (g:=18) rfl (by rw [h0]; rfl) L rfl ?_))))
     refine swn (g:=18) rfl (by rw [h0]; rfl) L rfl ?_
     refine swn (g:=18) rfl (by rw [h0]; rfl) L rfl ?_
     refine swn (g:=18) rfl (by rw [h0]; rfl) L rfl ?_
     refine swn (g:=18) rfl (by rw [h0]; rfl) L rfl ?_
     refine swn (g:=18) rfl (by rw [h0]; rfl) L rfl ?_
     refine sw (v4 (by rw [h0]; rfl) L) t2 t0 ?_
     exact O1 ⟨⟨ob rfl (by simp only [h0]; rfl),rfl,rfl,rfl,rfl,rfl,rfl,rfl,rfl,trivial⟩,t3⟩
    ·refine lp4 ag47 sz47 L rfl rfl (cK hG hX cl65 hN (I6 (u.getD k 0) oM) L t1 (sw (m4 L) t1 t0 (mV L rfl (gV (g:=18) rfl (by simp only [h0]; rfl) L rfl rfl ?_))))
     refine gV (g:=18) rfl (by simp only [h0]; rfl) L rfl rfl ?_
     refine swg (g:=18) rfl (by simp only [h0]; rfl) (D2 un40 sz47 oM oM sM dC L) rfl t2 t0 ?_
     refine swg (g:=18) rfl (by simp only [h0]; rfl) (Z6 ag47 sz47 (Y6 hk3) rfl L) rfl t1 t0 ?_
     refine swg (g:=18) rfl (by simp only [h0]; rfl) (c_c hG hX cl65 rfl hN (I6 (v.getD k 0) oM) L) rfl t1 t0 ?_
     refine swg (g:=18) rfl (by simp only [h0]; rfl) (m4 L) rfl t1 t0 ?_
     refine sw (Y4 (by simp only [h0]; rfl) L) t2 t0 ?_
     exact O1 ⟨⟨ob rfl (by rw [decide_eq_decide.2 (show (¬ (v.getD k 0=0))↔(u.getD k 0≠0∧v.getD k 0≠0) from ⟨fun h=>⟨h0,h⟩,fun h=>h.2⟩).symm]; exact (decide_not).symm),rfl,rfl,rfl,rfl,rfl,rfl,rfl,rfl,trivial⟩,t3⟩
   refine j2 rfl (fun h1=>?_) (fun h1=>?_)
   ·have h1:=dt h1
    rw [if_pos h1,hT] at ht
    refine b0j rF ?_
    refine mV L rfl (lp4 ag47 sz47 L rfl rfl (mV L rfl (mV L rfl (sw (D2 un40 sz47 sM (by simp; trace_state; omega) sM dC L) t2 t0 ?_))))
    refine sw (Z6 ag47 sz47 (Y6 hk3) rfl L) t1 t0 (cK hG hX cl67 hN (v8 (u.getD k 0) (v.getD k 0) oM oM) L t2 (sw (n4 (vs:=[_]) un40 ti47 rfl rfl dC dC rfl (K2 (.cons rfl (.cons rfl (.cons rfl (.cons rfl .nil)))) rfl) rfl (.cons rfl pa4 rfl pu4 .nil) (.cons (.cons (.cons (.cons .nil)))) L) t1 t0 (swb (apP (sz:=4) un40 un40 ti47 rfl rfl rfl dC (by exact sM) oF sM rfl rfl rfl (by first | (simp [Tryz.t47]; done) | (simp [Tryz.t47]; omega)) oM (P0 _ rfl) L) t2 t1 t0 ?_)))
    refine aV L rfl ?_
    refine O1 ⟨b5 [⟨[5],[],[26],[]⟩,⟨[7],[7],[27],[]⟩,⟨[1],[],[28],[]⟩,⟨[6],[],[29],[]⟩,⟨[28,29],[],[30],[]⟩,⟨[30],[],[31],[]⟩,⟨[27,31],[],[32],[]⟩,⟨[32],[],[33],[]⟩,⟨[26,33],[34],[34],[34]⟩,⟨[34],[],[5],[]⟩] rF rF dC,?_⟩
    refine j3 (sw (F3 L (w64 oM oM)) t2 t0 (mV L rfl (O1 ?_)))
    exact ⟨(k+1,q :: T++[u.getD k 0*v.getD k 0]),⟨by simp only; omega,ht⟩,(by simp only; omega),l3 ⟨oR,(by exact ov rfl sO),rfl,rfl,rfl,rfl,trivial⟩ (hbI (l':=[(34,_),(4,_)]) rfl ⟨(obl rfl (C9 (q :: T) _)),rfl,trivial⟩)⟩
   ·have h1:=df h1
    rw [if_neg h1,hT,List.append_nil] at ht
    refine U1 (xq ?_)
    refine j3 (sw (F3 L (w64 oM oM)) t2 t0 (mV L rfl (O1 ?_)))
    exact ⟨(k+1,q :: T),⟨by simp only; omega,ht⟩,(by simp only; omega),l3 ⟨oR,oR,rfl,rfl,rfl,rfl,trivial⟩ (hbI (l':=[(34,_),(4,_)]) rfl t2)⟩
  ·have hc:=df hc
   have hku:k=u.length:=by omega
   rw [hku,I0] at hT
   refine J2 (xq ?_)
   refine P4 [34] (sl:=[(4,_),(5,_)]) (hb:=[(4,_)]) (M3 hX0) ⟨⟨_,rfl,.same⟩,⟨_,rfl,(.ref rfl rfl (by exact sM) (by first | rfl | omega))⟩,trivial⟩ ⟨⟨rfl,_,rfl,.same⟩,trivial⟩ ?_
   refine exr (mV L rfl (cK hG hX cl68 hN (q0g (q :: T) (B+C) (by rw [← hT]; have:=m0f (u:=u) (v:=v); omega) (by rw [← hT]; exact Q0b hB hC) (by rw [← hT]; have:=V0 (B+C+1) (m0f (u:=u) (v:=v)); omega)) L t1 ?_))
   refine sb (R2 sz47 rF pa4 rfl pu4) t2 t1 ?_
   refine zn [(4,_)] [(4,_)] t1 t1 (X1 ?_)
   refine Q0 (.agg rfl rfl rfl ag47 sz47 (.cons (.cons (.cons (.cons .nil))))) ?_
   rw [d0r,hT]
theorem b1m (v:List Rat)(hl:v.length<1000000000):y0j E 89 [pV v] 47 4 v.length (X5 v):=by
 refine q0b (k:=3) (tot:=v.length*4) Tryz.func89 rfl Tryz.ntmps89 Tryz.results89 sM fun F hG hX0 hnt hdf P0=>?_
 obtain ⟨L,hX,hN⟩:=pro hnt hX0 hG
 refine exr (aV L rfl (zn [(0,_)] [] t1 trivial (exr (swb (v0v (k:=3) (sz:=4) un40 ti47 (P0 _ rfl) L) t0 t0 ⟨rfl,rfl⟩ (mV L rfl (swb (apP (sz:=4) un40 un40 ti47 rfl rfl rfl dC rX oF sM rfl rfl rfl (by simp [Tryz.t47]; omega) oM (P0 _ rfl) L) t2 t1 t0 ?_))))))
 refine aV L rfl ?_
 refine O1 ⟨[(2,.ref 3 0 v.length (v.length*4))],[(3,_)],⟨ov rfl sM,trivial⟩,t1,?_⟩
 refine X1 ?_
 refine ⟨.inr rfl,rfl,_,rfl,by simp,?_,by simp⟩
 rw [C0 sM]; rfl
def zq (n:Nat):List Rat:=List.replicate n 0
@[simp] theorem k0m (n:Nat):(zq n).length=n:=by simp [zq]
theorem H1n (n:Nat):zq (n+1)=zq n++[0]:=by simp [zq,List.replicate_succ']
def zc0:List L2:=[.a (.bool false),.a (.slice none 0 0),.a (.bool false),.a (.slice none 0 0)]
theorem p1c (n:Nat)(z:List L2):X8 (n+1) z=z++X8 n z:=by simp [X8,List.replicate_succ]
theorem w0v {v:List Rat}{n k:Nat}(hv:v.length=k)(h:k<n)(a:Rat):(X5 v++X8 (n - k) zc0).take (k*4)++cQ a++(X5 v++X8 (n - k) zc0).drop (k*4+4)=X5 (v++[a])++X8 (n - (k+1)) zc0:=by
 have e:(X5 v).length=k*4:=by rw [Y2,hv]
 obtain ⟨m,hm⟩:∃ m,n - k=m+1:=⟨n - k - 1,by omega⟩
 rw [hm,show n - (k+1)=m by omega,p1c]
 rw [List.take_append_of_le_length oM,C0 oM,← List.append_assoc (X5 v),List.drop_append,List.drop_eq_nil_of_le (by rw [K1,e]; simp [zc0])]
 have e2:k*4+4 - (X5 v++zc0).length=0:=by rw [K1,e]; simp [zc0]
 rw [e2,G0g]
 simp [X5]
theorem J6 {v:List Rat}{n k:Nat}(hv:v.length=k)(h:k≤n):(X5 v++X8 (n - k) zc0).length=n*4:=by
 rw [K1,Y2,o9,hv]; simp only [zc0,D1,List.length_nil]; omega
theorem g0n (n:Nat)(hn:n<1000000000):y0j E 54 [vZ n] 47 4 n (X5 (zq n)):=by
 refine q0b (k:=6) (tot:=n*4) Tryz.func54 rfl Tryz.ntmps54 Tryz.results54 sM fun F hG hX0 hnt hdf P0=>?_
 obtain ⟨L,hX,hN⟩:=pro hnt hX0 hG
 refine exr (aV L rfl (zn [(0,_)] [] t1 trivial (exr (mV L rfl (swb (i6 (sz:=4) (k:=6) un40 ti47 rfl rfl dC rfl rfl rfl rfl rfl (Nat.le_refl _) (by simp [Tryz.t47]; omega) oM (P0 _ rfl) L) t2 t0 ⟨rfl,rfl⟩ ?_)))))
 refine aV L rfl (zn [(3,_)] [(6,_)] t1 t1 (R1 (exr (mV L rfl (sw (p0j un40 (by exact (o9 _ _)) L) t1 t1 ?_)))))
 refine mV L rfl (zn [(3,_),(8,_),(9,_)] [(6,_)] t3 t1 (V1 ?_))
 refine exl (α:=Nat) (fun k=>[(9,vi (k:Int))]) (fun k=>[(6,⟨47,4,.pure (X5 (zq k)++X8 (n - k) zc0)⟩)]) (fun k=>k≤n) (fun k=>n - k) (0) (sl:=[(3,_),(8,_)]) (hb:=[]) ?_ ⟨oR,rfl,rfl,trivial⟩ t1 ?_
 ·exact Nat.zero_le _
 intro k hk
 refine exr (sw (V3 L) t2 t0 (zn [(3,_),(8,_),(9,_),(10,_)] [(6,_)] t4 t1 (R1 ?_)))
 refine j2 rfl (fun hc=>?_) (fun hc=>?_)
 ·have hc:=dt hc
  refine U1 (xq ?_)
  refine R1 (V1 (exr (mV L rfl (aV L rfl (zn [(3,_),(4,_),(8,_),(9,_)] [(6,_)] t4 t1 (j3 (mV L rfl (mV L rfl (cK hG hX cl55 hN (O6 0 dC dC) L t1 (sw (p0m (sz:=4) un40 sz47 (by exact (J6 (k0m _) hk)) (j:=k) rO oM L) t2 t1 ?_))))))))))
  refine sb (H0k (n:=4) sz47 (by exact (J6 (k0m _) hk)) rfl oM) t2 t1 ?_
  refine O1 (j3 (sw (F3 L (w64 oM oM)) t2 t0 (mV L rfl (O1 ?_))))
  exact ⟨k+1,oM,by omega,l3 ⟨oR,rfl,rfl,trivial⟩ ⟨obl rfl (congrArg (fun c=>(⟨47,4,.pure c⟩:Blk)) ((w0v (k0m k) (show k<n by omega) 0).trans (by rw [H1n]))),trivial⟩⟩
 ·have hc:=df hc
  refine J2 (xq ?_)
  refine exr (mV L rfl (aV L rfl (zn [(2,_)] [(6,_)] t1 t1 (X1 ?_))))
  refine ⟨.inr rfl,rfl,_,rfl,(J6 (k0m _) hk),?_,by simp⟩
  have e:k=n:=by omega
  subst e
  simp [X8,C0]
theorem W0y {p:Nat→Bool}{i b:Nat}(h:i<b):I4 p i (b - i)=if p i=true then (i:Int) else I4 p (i+1) (b - (i+1)):=by
 obtain ⟨m,hm⟩:∃ m,b - i=m+1:=⟨b - i - 1,by omega⟩
 rw [hm,show b - (i+1)=m by omega]; rfl
theorem U8 (g:FuncId)(caps:List PV)(H:List (Nat×Blk))(hnd:(H.map (·.1)).Nodup)(hw:Whole H)(hcall:∀ args w,(callFunc g args).run E.P w = .ok (.enter g args) w)(p:Nat→Bool)(a b:Nat)(hb:b<9000000000000)(hg:∀ i:Nat,a≤i→i<b→E4 E (fun _=>true) g (List.cons (.p (vZ i)) caps) H H (.p (bZ (p i)))):E4 E (fun _=>true) 52 [.p (vZ a),.p (vZ b),.clo (.func g) [] caps] (H) (H) (.p (vZ (I4 p a (b - a)))):=by
 refine j4 (xs:=[vZ (I4 p a (b - a))]) Tryz.func52 rfl Tryz.ntmps52 Tryz.results52 sM fun F G=>?_
 have L:=@lti _ _ G.nt
 have hG:=G.g
 have hX:=G.x
 have hN:=U5 hG
 refine exr (aV L rfl ?_)
 refine O1 ⟨[(0,_),(1,_),(2,_)],H,t3,(v5 (l:=H) hnd (fun _ _ h=>h)),?_⟩
 refine R1 (exr (mV L rfl (aV L rfl ?_)))
 refine O1 ⟨[(1,_),(2,_),(7,_)],H,t3,(v5 (l:=H) hnd (fun _ _ h=>h)),?_⟩
 refine V1 ?_
 refine B0y (α:=Nat) (fun i=>[(7,vi (i:Int))]) (fun i=>[]) (fun i=>H) (fun i=>a≤i∧I4 p i (b - i)=I4 p a (b - a)) (fun i=>b - i) (a) (sl:=[(1,_),(2,_)]) (hb:=[]) ?_ ⟨oR,rfl,rfl,trivial⟩ (v5 (l:=H) hnd (fun _ _ h=>h)) ?_
 ·exact ⟨Nat.le_refl _,rfl⟩
 intro i hi
 obtain ⟨hi,hI⟩:=hi
 refine R1 (exr (mV L rfl (mV L rfl (sw (V3 L) t2 t0 ?_))))
 refine O1 ⟨[(1,_),(2,_),(7,_),(11,_)],H,t4,(v5 (l:=H) hnd (fun _ _ h=>h)),?_⟩
 refine j2 rfl (fun hc=>?_) (fun hc=>?_)
 ·have hc:=dt hc
  have hib:i<b:=by omega
  rw [W0y hib] at hI
  refine U1 (xq ?_)
  refine R1 (V1 (exr (mV L rfl (mV L rfl (sw (m6 hG hX hN (hg i hi hib) rfl L (j7 (fst:=[]) (ys:=[_]) (cap:=caps) hcall rfl rfl) hnd hw (fun q h=>by cases h)) t2 (K7 (v5 hnd fun _ _ h=>h)) ?_)))))
  refine O1 ⟨[(1,_),(2,_),(7,_),(16,_)],H,t4,(v5 (l:=H) hnd (fun _ _ h=>h)),?_⟩
  refine j2 rfl (fun hp=>?_) (fun hp=>?_)
  ·rw [if_pos hp] at hI
   refine exr (mV L rfl (aV L rfl ?_))
   refine O1 ⟨[(6,_)],H,t1,(v5 (l:=H) hnd (fun _ _ h=>h)),?_⟩
   refine X1 ?_
   refine ⟨.inr rfl,O4.cast (.cons (.tmp rfl) .nil) ?_,(v5 (l:=H) hnd (fun _ _ h=>h))⟩
   rw [← hI]
  ·rw [hp,if_neg Bool.false_ne_true] at hI
   refine U1 (xq ?_)
   refine j3 (mV L rfl (sw (F3 L (w64 oM oM)) t2 t0 (aV L rfl (O1 ?_))))
   exact ⟨i+1,⟨by omega,hI⟩,by omega,l3 ⟨oR,rfl,rfl,trivial⟩ (v5 (l:=H) hnd (fun _ _ h=>h))⟩
 ·have hc:=df hc
  have e:b - i=0:=by omega
  rw [e] at hI
  refine J2 (xq ?_)
  refine exr (aV L rfl ?_)
  refine O1 ⟨[(6,_)],H,t1,(v5 (l:=H) hnd (fun _ _ h=>h)),?_⟩
  refine X1 ?_
  refine ⟨.inr rfl,O4.cast (.cons (.tmp rfl) .nil) ?_,(v5 (l:=H) hnd (fun _ _ h=>h))⟩
  rw [← hI]; rfl
structure RQ where
 m:Bool
 ws:List Int
 n:Bool
 vs:List Int
instance:Inhabited RQ:=⟨⟨false,[],false,[]⟩⟩
def RQ.of (a:Rat):RQ:=⟨decide (a.num<0),v3 a.num.natAbs,decide ((a.den:Int)<0),v3 (a.den:Int).natAbs⟩
def RQ.is (r:RQ):Bool:=P2 r.m r.ws && (P2 r.n r.vs && decide (0<sg r.n (val r.vs)∧(Int.gcd (sg r.m (val r.ws)) (sg r.n (val r.vs)):Int)=1))
def RQ.wd (r:RQ):Prop:=Wd r.ws∧Wd r.vs
theorem N1m (n:Int):sg (decide (n<0)) (val (v3 n.natAbs))=n:=by
 rw [R4]; unfold sg; split <;> rename_i h <;> simp at h <;> omega
theorem RQ.is_of (a:Rat):(RQ.of a).is=true:=by
 simp only [RQ.is,RQ.of,J3,N1m,Bool.true_and,decide_eq_true_eq]
 refine ⟨by exact_mod_cast a.den_pos,?_⟩
 have:=a.reduced
 unfold Nat.Coprime at this
 unfold Int.gcd
 exact_mod_cast this
theorem RQ.of_is {r:RQ}(h:r.wd)(hi:r.is=true):∃ a:Rat,r=RQ.of a:=by
 obtain ⟨m,ws,n,vs⟩:=r
 simp only [RQ.is,j0,decide_eq_true_eq] at hi
 obtain ⟨h1,h2,h3,h4⟩:=hi
 obtain ⟨e1,e2⟩:=d0p h.1 h1
 obtain ⟨e3,e4⟩:=d0p h.2 h2
 simp only at e1 e2 e3 e4
 refine ⟨⟨sg m (val ws),(sg n (val vs)).natAbs,by omega,?_⟩,?_⟩
 ·unfold Int.gcd at h4; exact_mod_cast h4
 ·have e5:(((sg n (val vs)).natAbs:Nat):Int)=sg n (val vs):=by omega
  simp only [RQ.of,e5,e1,e2,e3,e4]
@[reducible] def cR (r:RQ):List L2:=[.a (.bool r.m),.sl r.ws.length (G4 r.ws),.a (.bool r.n),.sl r.vs.length (G4 r.vs)]
def p0v:List RQ→List L2
 | []=>[]
 | a :: v=>cR a++p0v v
@[simp] theorem y0p:∀ v:List RQ,(p0v v).length=v.length*4
 | []=>rfl
 | a :: v=>by simp only [p0v,K1,y0p v,cR,D1,List.length_nil]; omega
theorem v1n:∀ {v:List RQ}{i:Nat},i<v.length→((p0v v).drop (i*4)).take 4=cR (v.getD i default)
 | [],i,h=>by simp at h
 | a :: v,0,_=>by simp [p0v,cR]
 | a :: v,i+1,h=>by
  have:=v1n (v:=v) (i:=i) (by simpa using h)
  rw [show (i+1)*4=i*4+1+1+1+1 by omega]
  simp only [p0v,cR,L1,List.nil_append,List.drop_succ_cons,List.getD_cons_succ]
  exact this
theorem k1c:∀ v:List Rat,p0v (v.map RQ.of)=X5 v
 | []=>rfl
 | a :: v=>by simp only [R0,p0v,X5,k1c v]; rfl
@[reducible] def pVR (v:List RQ):L2:=.sl v.length (p0v v)
theorem Q0g (v:List Rat):pVR (v.map RQ.of)=pV v:=by rw [pVR,pV,k1c,O0]
theorem G1m {r:RQ}(hw:r.wd)(hl:r.ws.length<1000000000)(hl2:r.vs.length<1000000000):s3 E 107 [.agg (cR r)] (bZ r.is):=by
 obtain ⟨m,ws,n,vs⟩:=r
 by_cases h:P2 m ws=true∧P2 n vs=true
 ·obtain ⟨e1,e2⟩:=d0p hw.1 h.1
  obtain ⟨e3,e4⟩:=d0p hw.2 h.2
  have:=Y1x (sg m (val ws)) (sg n (val vs)) (by unfold nw; simp only at e2 hl; rw [e2]; exact hl) (by unfold nw; simp only at e4 hl2; rw [e4]; exact hl2)
  rw [pN,e1,e2,e3,e4] at this
  rw [RQ.is,show P2 (RQ.mk m ws n vs).m (RQ.mk m ws n vs).ws=true from h.1,show P2 (RQ.mk m ws n vs).n (RQ.mk m ws n vs).vs=true from h.2]
  exact this
 ·have:=Q1x m n ws vs hl hl2 h
  have e:(RQ.mk m ws n vs).is=false:=by
   rw [RQ.is,Bool.eq_false_iff]; simp only [j0,ne_eq]; exact fun hh=>h ⟨hh.1,hh.2.1⟩
  rw [e]; exact this
theorem q1y {r:RQ}(hw:r.wd)(hl:r.ws.length<1000000000)(hl2:r.vs.length<1000000000):s3 E 36 [.agg (cR r)] (bZ r.is):=by
 obtain ⟨m,ws,n,vs⟩:=r
 by_cases h:P2 m ws=true∧P2 n vs=true
 ·obtain ⟨e1,e2⟩:=d0p hw.1 h.1
  obtain ⟨e3,e4⟩:=d0p hw.2 h.2
  have:=P1w (sg m (val ws)) (sg n (val vs)) (by unfold nw; simp only at e2 hl; rw [e2]; exact hl) (by unfold nw; simp only at e4 hl2; rw [e4]; exact hl2)
  rw [pN,e1,e2,e3,e4] at this
  rw [RQ.is,show P2 (RQ.mk m ws n vs).m (RQ.mk m ws n vs).ws=true from h.1,show P2 (RQ.mk m ws n vs).n (RQ.mk m ws n vs).vs=true from h.2]
  exact this
 ·have:=M1f m n ws vs hl hl2 h
  have e:(RQ.mk m ws n vs).is=false:=by
   rw [RQ.is,Bool.eq_false_iff]; simp only [j0,ne_eq]; exact fun hh=>h ⟨hh.1,hh.2.1⟩
  rw [e]; exact this
def RQ.sm (r:RQ):Prop:=r.wd∧r.ws.length<1000000000∧r.vs.length<1000000000
theorem RQ.sm_of {a:Rat}(h:qw a<1000000000):(RQ.of a).sm:=by
 have h1:=K4 a
 have h2:=m5 a
 exact ⟨⟨R3 _,R3 _⟩,by show nw a.num<_; omega,by show nw (a.den:Int)<_; omega⟩
theorem gD {v:List RQ}{i:Nat}(h:i<v.length):v.getD i default∈v:=by simp [f0,h]
@[reducible] def bV (v:List RQ):List (Nat×Blk):=[(1,⟨40,1,.mix [.p (pVR v)]⟩)]
theorem y0w (v:List RQ)(i:Nat)(hi:i<v.length)(hl:v.length<1000000000)(hs:∀ r∈v,r.sm):E4 E (fun _=>true) 106 [.p (vZ i),.at_ 1 0 1] (bV v) (bV v) (.p (bZ (!(v.getD i default).is))):=by
 refine j4 (xs:=[bZ (!(v.getD i default).is)]) Tryz.func106 rfl Tryz.ntmps106 Tryz.results106 sM fun F G=>?_
 have L:=@lti _ _ G.nt
 have hG:=G.g
 have hX:=G.x
 have hN:=U5 hG
 have P0:=G.p0
 have hr:=hs _ (gD hi)
 refine exr (aV L rfl (zn [(0,_),(1,_)] [(1,_)] t2 t1 (exr (sw (Y1 ag40 rF rF L) t1 t1 ?_))))
 refine mV L rfl (sw (D2 un40 sz47 oM oM sM dC L) t2 t0 ?_)
 refine sw (Z6 ag47 sz47 (v1n hi) rfl L) t1 t0 (cK hG hX cl107 hN (G1m hr.1 hr.2.1 hr.2.2) L t1 (sw (m4 L) t1 t0 (aV L rfl (zn [(3,_)] [(1,_)] t1 t1 (X1 ?_)))))
 refine ⟨.inr rfl,O4.cast (.cons (.tmp rfl) .nil) ?_,t1⟩
 rfl
theorem n0y {p:Nat→Bool}:∀ {n a:Nat},(I4 p a n<0)↔(List.range' a n).all (fun i=>!p i)=true
 | 0,a=>by simp [I4]
 | n+1,a=>by
  simp only [I4,List.range'_succ,List.all_cons]
  by_cases h:p a=true
  ·simp [h]
  ·simp only [Bool.not_eq_true] at h
   rw [h,if_neg Bool.false_ne_true,n0y]; simp
theorem Z7 {H:List (Nat×Blk)}(h:(H.all fun p=>p.2.cs.only (H.map (·.1)))=true):Whole H:=by
 intro j B hj i x hx q hq
 rw [s0] at h
 have h1:=PV.only_mem (Cells.only_get (h _ (L3 hj)) hx) hq
 obtain ⟨p,hp,e⟩:=G0.1 h1
 intro hn
 rw [List.lookup_eq_none_iff] at hn
 have:=hn p hp
 simp [e] at this
theorem p1q {p:RQ→Bool}{v:List RQ}:((List.range' 0 v.length).all fun i=>p (v.getD i default))=v.all p:=by
 rw [← List.range_eq_range']
 induction v with
 | nil=>rfl
 | cons a v ih =>
  rw [D1,List.range_succ_eq_map,List.all_cons,List.all_map,List.all_cons]
  simp only [List.getD_cons_zero,Function.comp_def,List.getD_cons_succ]
  rw [← ih]
theorem f1h {p:RQ→Bool}{v:List RQ}:decide (I4 (fun i=>!p (v.getD i default)) 0 (v.length - 0)<0)=v.all p:=by
 rw [Bool.eq_iff_iff,decide_eq_true_iff,n0y,Nat.sub_zero]
 simp only [Bool.not_not]
 rw [p1q]
theorem T9 (v:List RQ)(hl:v.length<1000000000)(hs:∀ r∈v,r.sm):s3 E 64 [pVR v] (bZ (v.all RQ.is)):=by
 refine y2 (xs:=[bZ (v.all RQ.is)]) Tryz.func64 rfl Tryz.ntmps64 Tryz.results64 sM fun F hG hX0 hnt hdf P0=>?_
 obtain ⟨L,hX,hN⟩:=pro hnt hX0 hG
 have hcl:=fun i (h:0≤i) (hi:i<v.length)=>y0w v i hi hl hs
 refine exr (swb (U3 (k:=1) (n:=1) .sl rfl rfl (P0 _ rfl) L) t1 t0 ⟨rfl,rfl⟩ (aV L rfl (zn [(1,_)] [(1,_)] t1 t1 (exr (sw (Y1 ag40 rF rF L) t1 t1 ?_)))))
 refine sw (X2 un40 L) t1 t0 (sw (v0g (vs:=[]) (us:=[_]) rfl rfl L) t1 t0 (sw (m6 hG hX hN (U8 106 [.at_ 1 0 1] (bV v) sM (Z7 rfl) cl106 _ 0 v.length oM hcl) rfl L (U4 (ys:=[_,_,_]) cl52 rfl rfl) sM (Z7 rfl) (fun q h=>by cases h)) t3 t1 ?_))
 refine sw (V3 L) t2 t0 (aV L rfl (zn [(2,_)] [] t1 trivial (X1 ?_)))
 refine Q0 (.tmp rfl) ?_
 rw [← f1h]
def f0r (m:List (List RQ)):List L2:=m.map pVR
@[simp] theorem N0w (m:List (List RQ)):(f0r m).length=m.length:=by simp [f0r]
@[reducible] def pMR (c:Int)(m:List (List RQ)):L2:=.agg [vZ c,.sl m.length (f0r m)]
theorem h0c {m:List (List RQ)}{i:Nat}(h:i<m.length):(f0r m)[i]? = some (pVR (m.getD i [])):=by
 simp [f0r,h,f0]
theorem gDL {α:Type}{v:List (List α)}{i:Nat}(h:i<v.length):v.getD i []∈v:=by simp [f0,h]
@[reducible] def bM (c:Int)(m:List (List RQ)):List (Nat×Blk):=[(1,⟨24,2,.mix [.p (vZ c),.p (.sl m.length (f0r m))]⟩)]
def U9 (c:Int)(r:List RQ):Bool:=decide ((r.length:Int)=c) && r.all RQ.is
def MSm (m:List (List RQ)):Prop:=m.length<1000000000∧∀ r∈m,r.length<1000000000∧∀ a∈r,a.sm
theorem H1c (c:Int)(m:List (List RQ))(i:Nat)(hi:i<m.length)(hm:MSm m):E4 E (fun _=>true) 85 [.p (vZ i),.at_ 1 0 2] (bM c m) (bM c m) (.p (bZ (!U9 c (m.getD i [])))):=by
 refine j4 (xs:=[bZ (!U9 c (m.getD i []))]) Tryz.func85 rfl Tryz.ntmps85 Tryz.results85 sM fun F G=>?_
 have L:=@lti _ _ G.nt
 have hG:=G.g
 have hX:=G.x
 have hN:=U5 hG
 have P0:=G.p0
 have hr:=hm.2 _ (gDL hi)
 have hl:=hm.1
 refine exr (aV L rfl (zn [(0,_),(1,_)] [(1,_)] t2 t1 ?_))
 refine V1v (sl:=[(3,vb (!U9 c (m.getD i [])))]) (sl0:=[]) (hb:=[]) (hb0:=[(1,_)]) rF t0 t1 ?_ ?_
 ·by_cases h:((m.getD i []).length:Int)=c
  ·refine sw (Z1 un24 rfl sz22 dC rX L) t1 t1 ?_
   refine sw (Y1 ag22 rF rF L) t1 t1 ?_
   refine mV L rfl (sw (ixJ un22 sz40 (j:=i) rO oM sM L) t2 t0 ?_)
   refine sw (q4 ag40 (h0c hi) L) t1 t0 (sw (X2 un40 L) t1 t0 (sw (Z1 un24 rfl sz3 dC rX L) t1 t1 ?_))
   refine sw (Y1 ag3 rF rF L) t1 t1 ?_
   refine sw (c_n L) t2 t0 (mV L rfl (swg (g:=13) rfl (by rw [h]; simp) (Z1 un24 rfl sz22 dC rX L) rfl t1 t1 ?_))
   refine swg (g:=13) rfl (by rw [h]; simp) (Y1 ag22 rF rF L) rfl t1 t1 ?_
   refine gV (g:=13) rfl (by rw [h]; simp) L rfl rfl ?_
   refine swg (g:=13) rfl (by rw [h]; simp) (ixJ un22 sz40 (j:=i) rO oM sM L) rfl t2 t0 ?_
   refine swg (g:=13) rfl (by rw [h]; simp) (q4 ag40 (h0c hi) L) rfl t1 t0 ?_
   refine swg (g:=13) rfl (by rw [h]; simp) (c_c hG hX cl64 rfl hN (T9 (m.getD i []) hr.1 hr.2) L) rfl t1 t0 ?_
   refine swg (g:=13) rfl (by rw [h]; simp) (m4 L) rfl t1 t0 ?_
   refine sw (v4 (by rw [h]; simp) L) t2 t0 ?_
   refine aV L rfl ?_
   exact O1 ⟨b5 [⟨[1],[1],[4],[]⟩,⟨[4],[1],[5],[]⟩,⟨[0],[],[6],[]⟩,⟨[5,6],[],[7],[]⟩,⟨[7],[],[8],[]⟩,⟨[8],[],[9],[]⟩,⟨[1],[1],[10],[]⟩,⟨[10],[1],[11],[]⟩,⟨[9,11],[],[12],[]⟩,⟨[12],[],[13],[]⟩,⟨[13,1],[1],[14],[]⟩,⟨[13,14],[1],[15],[]⟩,⟨[13,0],[],[16],[]⟩,⟨[13,15,16],[],[17],[]⟩,⟨[13,17],[],[18],[]⟩,⟨[13,18],[],[19],[]⟩,⟨[13,19],[],[20],[]⟩,⟨[13,20],[],[21],[]⟩,⟨[21],[],[3],[]⟩] rF rF dC,⟨ob rfl (by rw [U9,h]; simp),trivial⟩,t1⟩
  ·refine sw (Z1 un24 rfl sz22 dC rX L) t1 t1 ?_
   refine sw (Y1 ag22 rF rF L) t1 t1 ?_
   refine mV L rfl (sw (ixJ un22 sz40 (j:=i) rO oM sM L) t2 t0 ?_)
   refine sw (q4 ag40 (h0c hi) L) t1 t0 (sw (X2 un40 L) t1 t0 (sw (Z1 un24 rfl sz3 dC rX L) t1 t1 ?_))
   refine sw (Y1 ag3 rF rF L) t1 t1 ?_
   refine sw (c_n L) t2 t0 (mV L rfl (swn (g:=13) rfl (by rw [decide_eq_false h]) L rfl ?_))
   refine swn (g:=13) rfl (by rw [decide_eq_false h]) L rfl ?_
   refine swn (g:=13) rfl (by rw [decide_eq_false h]) L rfl ?_
   refine swn (g:=13) rfl (by rw [decide_eq_false h]) L rfl ?_
   refine swn (g:=13) rfl (by rw [decide_eq_false h]) L rfl ?_
   refine swn (g:=13) rfl (by rw [decide_eq_false h]) L rfl ?_
   refine swn (g:=13) rfl (by rw [decide_eq_false h]) L rfl ?_
   refine sw (Y4 (by rw [decide_eq_false h]; rfl) L) t2 t0 ?_
   refine aV L rfl ?_
   exact O1 ⟨b5 [⟨[1],[1],[4],[]⟩,⟨[4],[1],[5],[]⟩,⟨[0],[],[6],[]⟩,⟨[5,6],[],[7],[]⟩,⟨[7],[],[8],[]⟩,⟨[8],[],[9],[]⟩,⟨[1],[1],[10],[]⟩,⟨[10],[1],[11],[]⟩,⟨[9,11],[],[12],[]⟩,⟨[12],[],[13],[]⟩,⟨[13],[],[14],[]⟩,⟨[13],[],[15],[]⟩,⟨[13],[],[16],[]⟩,⟨[13],[],[17],[]⟩,⟨[13],[],[18],[]⟩,⟨[13],[],[19],[]⟩,⟨[13],[],[20],[]⟩,⟨[13],[],[21],[]⟩,⟨[21],[],[3],[]⟩] rF rF dC,⟨ob rfl (by rw [U9,decide_eq_false h]; rfl),trivial⟩,t1⟩
 refine X1 ?_
 refine ⟨.inr rfl,O4.cast (.cons (.tmp rfl) .nil) ?_,t1⟩
 rfl
def isM (c:Int)(m:List (List RQ)):Bool:=decide (m.length≤400∧0≤c∧c≤60) && m.all (U9 c)
theorem d1h {p:List RQ→Bool}{v:List (List RQ)}:((List.range' 0 v.length).all fun i=>p (v.getD i []))=v.all p:=by
 rw [← List.range_eq_range']
 induction v with
 | nil=>rfl
 | cons a v ih =>
  rw [D1,List.range_succ_eq_map,List.all_cons,List.all_map,List.all_cons]
  simp only [List.getD_cons_zero,Function.comp_def,List.getD_cons_succ]
  rw [← ih]
theorem Q0y {p:List RQ→Bool}{v:List (List RQ)}:decide (I4 (fun i=>!p (v.getD i [])) 0 (v.length - 0)<0)=v.all p:=by
 rw [Bool.eq_iff_iff,decide_eq_true_iff,n0y,Nat.sub_zero]
 simp only [Bool.not_not]
 rw [d1h]
theorem Y0m (c:Int)(m:List (List RQ))(hm:MSm m):s3 E 40 [pMR c m] (bZ (isM c m)):=by
 refine y2 (xs:=[bZ (isM c m)]) Tryz.func40 rfl Tryz.ntmps40 Tryz.results40 sM fun F hG hX0 hnt hdf P0=>?_
 obtain ⟨L,hX,hN⟩:=pro hnt hX0 hG
 have hl:=hm.1
 have hcl:=fun i (h:0≤i) (hi:i<m.length)=>H1c c m i hi hm
 refine exr (swb (U3 (k:=1) (n:=2) pa2 rfl rfl (P0 _ rfl) L) t1 t0 ⟨rfl,rfl⟩ (aV L rfl (zn [(1,_)] [(1,_)] t1 t1 (R1 ?_))))
 refine exm (sl:=[(16,vb (!decide (m.length≤400∧0≤c∧c≤60)))]) (sl0:=[(1,_)]) (hb:=[]) (hb0:=[(1,_)]) t1 t1 ?_ ?_
 ·rcases (by omega:400<m.length∨m.length≤400∧c<0∨m.length≤400∧0≤c) with h | h | h
  ·refine sw (Z1 un24 rfl sz22 dC rX L) t1 t1 ?_
   refine sw (Y1 ag22 rF rF L) t1 t1 ?_
   refine sw (X2 un22 L) t1 t0 (sw (P6 L) t2 t0 (mV L rfl (swn (g:=7) rfl sO L rfl (swn (g:=7) rfl sO L rfl (swn (g:=7) rfl sO L rfl (sw (Y4 sO L) t2 t0 (mV L rfl (swn (g:=12) rfl rfl L rfl (swn (g:=12) rfl rfl L rfl (swn (g:=12) rfl rfl L rfl (sw (Y4 rfl L) t2 t0 ?_)))))))))))
   exact O1 ⟨⟨ob rfl sO,rfl,trivial⟩,t1⟩
  ·refine sw (Z1 un24 rfl sz22 dC rX L) t1 t1 ?_
   refine sw (Y1 ag22 rF rF L) t1 t1 ?_
   refine sw (X2 un22 L) t1 t0 (sw (P6 L) t2 t0 (mV L rfl (swg (g:=7) rfl sO (Z1 un24 rfl sz3 dC rX L) rfl t1 t1 ?_)))
   refine swg (g:=7) rfl sO (Y1 ag3 rF rF L) rfl t1 t1 ?_
   refine swg (g:=7) rfl sO (V3 L) rfl t2 t0 (sw (v4 sO L) t2 t0 (mV L rfl (swn (g:=12) rfl sO L rfl (swn (g:=12) rfl sO L rfl (swn (g:=12) rfl sO L rfl (sw (Y4 sO L) t2 t0 ?_))))))
   exact O1 ⟨⟨ob rfl sO,rfl,trivial⟩,t1⟩
  ·refine sw (Z1 un24 rfl sz22 dC rX L) t1 t1 ?_
   refine sw (Y1 ag22 rF rF L) t1 t1 ?_
   refine sw (X2 un22 L) t1 t0 (sw (P6 L) t2 t0 (mV L rfl (swg (g:=7) rfl sO (Z1 un24 rfl sz3 dC rX L) rfl t1 t1 ?_)))
   refine swg (g:=7) rfl sO (Y1 ag3 rF rF L) rfl t1 t1 ?_
   refine swg (g:=7) rfl sO (V3 L) rfl t2 t0 (sw (v4 sO L) t2 t0 (mV L rfl (swg (g:=12) rfl sO (Z1 un24 rfl sz3 dC rX L) rfl t1 t1 ?_)))
   refine swg (g:=12) rfl sO (Y1 ag3 rF rF L) rfl t1 t1 ?_
   refine swg (g:=12) rfl sO (P6 L) rfl t2 t0 (sw (v4 sO L) t2 t0 ?_)
   exact O1 ⟨⟨ob rfl (by rw [Bool.eq_iff_iff]; simp; omega),rfl,trivial⟩,t1⟩
 refine j2 rfl (fun hc=>?_) (fun hc=>?_)
 ·refine exr (aV L rfl (zn [(2,_)] [] t1 trivial (X1 ?_)))
  refine Q0 (.tmp rfl) ?_
  simp only [isM]; rw [show decide (m.length≤400∧0≤c∧c≤60)=false by simpa only [Bool.not_eq_true'] using hc]; rfl
 ·refine U1 (xq ?_)
  refine exr (sw (Z1 un24 rfl sz22 dC rX L) t1 t1 ?_)
  refine sw (Y1 ag22 rF rF L) t1 t1 ?_
  refine sw (X2 un22 L) t1 t0 (sw (v0g (vs:=[]) (us:=[_]) rfl rfl L) t1 t0 (sw (m6 hG hX hN (U8 85 [.at_ 1 0 2] (bM c m) sM (Z7 rfl) cl85 _ 0 m.length oM hcl) rfl L (U4 (ys:=[_,_,_]) cl52 rfl rfl) sM (Z7 rfl) (fun q h=>by cases h)) t3 t1 ?_))
  refine sw (V3 L) t2 t0 (aV L rfl (zn [(2,_)] [] t1 trivial (X1 ?_)))
  refine Q0 (.tmp rfl) ?_
  rw [isM,show decide (m.length≤400∧0≤c∧c≤60)=true by simpa only [Bool.not_eq_false'] using hc,Bool.true_and,← Q0y]
@[reducible] def pMq (c:Int)(M:List (List Rat)):L2:=.agg [vZ c,.sl M.length (E5 M)]
theorem h0x (M:List (List Rat)):f0r (M.map (List.map RQ.of))=E5 M:=by
 simp only [f0r,E5,List.map_map,Function.comp_def,Q0g]
theorem d1q (c:Int)(M:List (List Rat)):pMR c (M.map (List.map RQ.of))=pMq c M:=by rw [pMR,pMq,h0x,O0]
structure MOk (c:Nat) (M:List (List Rat)):Prop where
 rows:M.length≤400
 cols:c≤60
 len:∀ r∈M,r.length=c
def MB (B:Nat)(M:List (List Rat)):Prop:=∀ r∈M,∀ a∈r,qw a≤B
theorem MOk.get {c:Nat}{M:List (List Rat)}(h:MOk c M){i:Nat}(hi:i<M.length):(M.getD i []).length=c:=h.len _ (gDL hi)
theorem d1w (v:List Rat):(v.map RQ.of).all RQ.is=true:=by
 rw [s0]; intro r hr
 obtain ⟨a,_,rfl⟩:=G0.1 hr
 exact RQ.is_of a
theorem G1s {c:Nat}{M:List (List Rat)}(h:MOk c M):isM c (M.map (List.map RQ.of))=true:=by
 rw [isM,j0,decide_eq_true_iff,s0]
 have:=h.rows; have:=h.cols
 refine ⟨⟨by simp; omega,by omega,by omega⟩,fun r hr=>?_⟩
 obtain ⟨v,hv,rfl⟩:=G0.1 hr
 rw [U9,d1w,O0,h.len v hv]; simp
theorem V1q:∀ {r:List RQ},(∀ a∈r,a.sm)→r.all RQ.is=true→∃ v:List Rat,r=v.map RQ.of
 | [],_,_=>⟨[],rfl⟩
 | a :: r,hs,h=>by
  simp only [List.all_cons,j0] at h
  obtain ⟨q,hq⟩:=RQ.of_is (hs a sM).1 h.1
  obtain ⟨v,hv⟩:=V1q (fun b hb=>hs b (by simp [hb])) h.2
  exact ⟨q :: v,by rw [hq,hv]; rfl⟩
theorem V1j:∀ {m:List (List RQ)},(∀ r∈m,∀ a∈r,a.sm)→(m.all fun r=>r.all RQ.is)=true→∃ M:List (List Rat),m=M.map (List.map RQ.of)
 | [],_,_=>⟨[],rfl⟩
 | r :: m,hs,h=>by
  simp only [List.all_cons,j0] at h
  obtain ⟨v,hv⟩:=V1q (hs r sM) h.1
  obtain ⟨M,hM⟩:=V1j (fun b hb=>hs b (by simp [hb])) h.2
  exact ⟨v :: M,by rw [hv,hM]; rfl⟩
theorem P1q {c:Int}{m:List (List RQ)}(hs:MSm m)(h:isM c m=true):∃ (k:Nat) (M:List (List Rat)),c=k∧m=M.map (List.map RQ.of)∧MOk k M:=by
 rw [isM,j0,decide_eq_true_iff,s0] at h
 obtain ⟨⟨h1,h2,h3⟩,h4⟩:=h
 obtain ⟨M,rfl⟩:=V1j (fun r hr=>(hs.2 r hr).2) (by
  rw [s0]; intro r hr
  have:=h4 r hr
  rw [U9,j0] at this; exact this.2)
 refine ⟨c.toNat,M,by omega,rfl,by simpa using h1,by omega,fun r hr=>?_⟩
 have:=h4 _ (List.mem_map_of_mem hr)
 rw [U9,j0,decide_eq_true_iff,O0] at this
 omega
theorem B1r {c B:Nat}{M:List (List Rat)}(h:MOk c M)(hB:MB B M)(hb:B<1000000000):MSm (M.map (List.map RQ.of)):=by
 have:=h.rows; have:=h.cols
 refine ⟨by simp; omega,fun r hr=>?_⟩
 obtain ⟨v,hv,rfl⟩:=G0.1 hr
 refine ⟨by rw [O0,h.len v hv]; omega,fun a ha=>?_⟩
 obtain ⟨q,hq,rfl⟩:=G0.1 ha
 have:=hB v hv q hq
 exact RQ.sm_of oM
theorem n8 {c B:Nat}{M:List (List Rat)}(h:MOk c M)(hB:MB B M)(hb:B<1000000000):s3 E 40 [pMq c M] (bZ true):=by
 have:=Y0m c _ (B1r h hB hb)
 rwa [G1s h,d1q] at this
@[reducible] def B0g (k:Nat):List (List Rat)→PV
 | []=>.p (.a (.slice none 0 0))
 | a :: v=>.ref k 0 (a :: v).length (a :: v).length
@[reducible] def y0z (k:Nat):List (List Rat)→List (Nat×Blk)
 | []=>[]
 | a :: v=>[(k,⟨40,1,.pure (E5 (a :: v))⟩)]
theorem j0q (u v:List (List Rat)):E5 (u++v)=E5 u++E5 v:=by simp [E5]
theorem m1h (n:Nat)(T:List (List Rat))(v:List Rat)(h:v.length=n):(⟨40,1,.pure (E5 T++[.sl n (X5 v)])⟩:Blk)=⟨40,1,.pure (E5 (T++[v]))⟩:=by subst h; rw [j0q]; rfl
def W7 (M:List (List Rat))(j:Nat):List Rat:=M.map (·.getD j 0)
def trM (c:Nat)(M:List (List Rat)):List (List Rat):=(List.range c).map (W7 M)
theorem f0f {M:List (List Rat)}{j k:Nat}(h:k<M.length):W7 (M.take (k+1)) j=W7 (M.take k) j++[(M.getD k []).getD j 0]:=by
 rw [I1,show M[k]?.toList=[M.getD k []] by simp [f0,h],W7,List.map_append]; rfl
theorem W0s (j:Nat)(M:List (List Rat)):trM (j+1) M=trM j M++[W7 M j]:=by simp [trM,List.range_succ]
@[simp] theorem h1n (j:Nat)(M:List (List Rat)):(trM j M).length=j:=by simp [trM]
@[simp] theorem G7 (j:Nat)(M:List (List Rat)):(W7 M j).length=M.length:=by simp [W7]
def Y9 (r:List Rat)(N:List (List Rat))(j:Nat):List Rat:=(List.range j).map fun k=>d0r r (W7 N k)
def h0h (d:Nat)(M N:List (List Rat)):List (List Rat):=M.map fun r=>Y9 r N d
@[simp] theorem M6 (r:List Rat)(N:List (List Rat))(j:Nat):(Y9 r N j).length=j:=by simp [Y9]
theorem q0x {r:List Rat}{N:List (List Rat)}{j:Nat}:Y9 r N j++[d0r r (W7 N j)]=Y9 r N (j+1):=by simp [Y9,List.range_succ]
@[simp] theorem h0z (d:Nat)(M N:List (List Rat)):(h0h d M N).length=M.length:=by simp [h0h]
theorem k0g {d:Nat}{M N:List (List Rat)}{i:Nat}(h:i<M.length):h0h d (M.take (i+1)) N=h0h d (M.take i) N++[Y9 (M.getD i []) N d]:=by
 rw [I1,show M[i]?.toList=[M.getD i []] by simp [f0,h],h0h,List.map_append]; rfl
theorem H1d {B d j:Nat}{N:List (List Rat)}(h:MB B N)(hj:j<d)(hl:∀ r∈N,r.length=d):∀ a∈W7 N j,qw a≤B:=by
 intro a ha
 obtain ⟨r,hr,rfl⟩:=G0.1 ha
 have h1:j<r.length:=by rw [hl r hr]; exact hj
 exact h r hr _ (l4 h1)
theorem n1f (c d B:Nat)(M N:List (List Rat))(h:MOk c M)(h2:MOk d N)(hB:MB B M)(hB2:MB B N)(hb:B<1000000)(hcN:c=N.length):s3 E 41 [pMq c M,pMq d N] (.tup [pMq d (h0h d M N),vZ 0]):=by
 refine y2 (xs:=[pMq d (h0h d M N),vZ 0]) Tryz.func41 rfl Tryz.ntmps41 Tryz.results41 sM fun F hG hX0 hnt hdf P0=>?_
 obtain ⟨L,hX,hN⟩:=pro hnt hX0 hG
 have hc60:=h.cols
 have hd60:=h2.cols
 have hr4:=h.rows
 have hr5:=h2.rows
 refine exr (swb (U3 (k:=2) (n:=2) pa2 rfl rfl (P0 _ rfl) L) t1 t0 ⟨rfl,rfl⟩ (swb (U3 (k:=3) (n:=2) pa2 rfl rfl (P0 _ rfl) L) t1 t0 ⟨rfl,rfl⟩ (swb (O3 (k:=4) (n:=2) zv24 (.cons rfl (.cons rfl .nil)) rfl (P0 _ rfl) L) t0 t0 ⟨rfl,rfl⟩ (aV L rfl (zn [(2,_),(3,_),(4,_)] [(2,_),(3,_),(4,_)] t3 t3 (R1 (exr (lp2 ag24 sz24 L rfl rfl (cK hG hX cl40 hN (n8 h hB oM) L t1 (sw (m4 L) t1 t0 (mV L rfl ?_)))))))))))
 refine swg (g:=17) rfl rfl (n6 ag24 sz24 rF (by exact al2) rfl L) rfl t1 t1 ?_
 refine swg (g:=17) rfl rfl (c_c hG hX cl40 rfl hN (n8 h2 hB2 oM) L) rfl t1 t0 (swg (g:=17) rfl rfl (m4 L) rfl t1 t0 (sw (v4 rfl L) t2 t0 (zn [(2,_),(3,_),(4,_),(21,_)] [(2,_),(3,_),(4,_)] t4 t3 (P3 rfl rfl ?_))))
 refine U1 (xq ?_)
 refine R1 (exr (sw (Z1 un24 rfl sz3 dC rX L) t1 t1 ?_))
 refine sw (Y1 ag3 rF rF L) t1 t1 ?_
 refine sw (Z1 un24 rfl sz22 dC rX L) t1 t1 ?_
 refine sw (Y1 ag22 rF rF L) t1 t1 ?_
 refine sw (X2 un22 L) t1 t0 (sw (c_n L) t2 t0 (zn [(2,_),(3,_),(4,_),(28,_)] [(2,_),(3,_),(4,_)] t4 t3 (P3 rfl sO ?_)))
 refine U1 (xq ?_)
 refine exr (sw (Z1 un24 rfl sz3 dC rX L) t1 t1 ?_)
 refine sw (Y1 ag3 rF rF L) t1 t1 ?_
 refine sw (W6 (vs:=[_]) un24 zv24 (.cons rfl (.cons rfl .nil)) ((F2.cons sz3 (F2.cons sz22 F2.nil))).to rfl (.cons rfl (.atom rfl) rfl pu1 .nil) (.cons (.cons .nil)) L) t1 t0 (swb (O3 (k:=6) (n:=2) zv24 (.cons rfl (.cons rfl .nil)) rfl (P0 _ rfl) L) t0 t0 ⟨rfl,rfl⟩ (sb (R2 sz24 rF pa2 rfl pu2) t2 t1 ?_))
 refine zn [(2,_),(3,_),(4,_),(6,_)] [(2,_),(3,_),(4,_),(6,_)] t4 t4 (R1 (exr (sw (Z1 un24 rfl sz22 dC rX L) t1 t1 ?_)))
 refine sw (Y1 ag22 rF rF L) t1 t1 ?_
 refine sw (X2 un22 L) t1 t0 (mV L rfl (zn [(3,_),(4,_),(6,_),(34,_),(35,_),(36,_)] [(3,_),(4,_),(6,_)] t6 t3 (V1 ?_)))
 refine exl (α:=(Nat×List (List Rat))) (fun x=>[(36,vi (x.1:Int))]) (fun x=>[(6,⟨24,2,.mix [.p (vZ d),B0g 78 x.2]⟩)]++y0z 78 x.2) (fun x=>x.1≤M.length∧h0h d (M.take x.1) N=x.2) (fun x=>M.length - x.1) ((0,[])) (sl:=[(3,_),(4,_),(6,_),(34,_),(35,_)]) (hb:=[(3,_),(4,_)]) ?_ ⟨oR,rfl,rfl,rfl,rfl,rfl,trivial⟩ (hbI (l':=[(6,_),(3,_),(4,_)]) rfl t3) ?_
 ·exact ⟨Nat.zero_le _,rfl⟩
 intro x hx
 obtain ⟨i,T⟩:=x
 obtain ⟨hi,hT⟩:=hx
 simp only at hi hT
 rcases T with _ | ⟨q,T⟩
 ·dsimp only [B0g,y0z,List.append_nil]
  refine exr (sw (V3 L) t2 t0 (zn [(3,_),(4,_),(6,_),(34,_),(35,_),(36,_),(37,_)] [(3,_),(4,_),(6,_)] t7 t3 (R1 ?_)))
  refine j2 rfl (fun hc=>?_) (fun hc=>?_)
  ·have hc:=dt hc
   have hia:i<M.length:=by omega
   have ht:=k0g (N:=N) (d:=d) hia
   rw [hT] at ht
   have hrl:=h.get hia
   refine U1 (xq ?_)
   refine R1 (V1 (exr (sw (ixJ un22 sz40 (j:=i) rO oM sM L) t2 t0 ?_)))
   refine sw (q4 ag40 (y7 hia) L) t1 t0 (aV L rfl (zn [(3,_),(4,_),(6,_),(8,_),(34,_),(35,_),(36,_)] [(3,_),(4,_),(6,_)] t7 t3 (exr (sw (Z1 un24 rfl sz3 dC rX L) t1 t1 ?_))))
   refine sw (Y1 ag3 rF rF L) t1 t1 ?_
   refine swb (i6 (sz:=4) (k:=42) un40 ti47 rfl rfl dC rfl rfl rfl rfl rfl (Nat.le_refl _) (by simp [Tryz.t47]; omega) oM (P0 _ rfl) L) t2 t0 ⟨rfl,rfl⟩ ?_
   refine aV L rfl ?_
   refine O1 ⟨[(3,_),(4,_),(6,_),(8,_),(9,_),(34,_),(35,_),(36,_)],[(3,_),(4,_),(6,_),(42,⟨47,4,.pure (X5 []++X8 (d - 0) zc0)⟩)],t8,t4,?_⟩
   refine R1 (exr (mV L rfl (sw (p0j un40 (by exact (o9 _ _)) L) t1 t1 ?_)))
   refine mV L rfl (zn [(3,_),(4,_),(6,_),(8,_),(9,_),(34,_),(35,_),(36,_),(44,_),(45,_)] [(3,_),(4,_),(6,_),(42,_)] t10 t4 (V1 ?_))
   refine exl (α:=Nat) (fun j=>[(45,vi (j:Int))]) (fun j=>[(42,⟨47,4,.pure (X5 (Y9 (M.getD i []) N j)++X8 (d - j) zc0)⟩)]) (fun j=>j≤d) (fun j=>d - j) (0) (sl:=[(3,_),(4,_),(6,_),(8,_),(9,_),(34,_),(35,_),(36,_),(44,_)]) (hb:=[(3,_),(4,_),(6,_)]) ?_ ⟨oR,rfl,rfl,rfl,rfl,rfl,rfl,rfl,rfl,rfl,trivial⟩ t4 ?_
   ·exact Nat.zero_le _
   intro j hj
   refine exr (sw (V3 L) t2 t0 (zn [(3,_),(4,_),(6,_),(8,_),(9,_),(34,_),(35,_),(36,_),(44,_),(45,_),(46,_)] [(3,_),(4,_),(6,_),(42,_)] t11 t4 (R1 ?_)))
   refine j2 rfl (fun he=>?_) (fun he=>?_)
   ·have he:=dt he
    have hjd:j<d:=by omega
    refine U1 (xq ?_)
    refine R1 (V1 (exr (mV L rfl (aV L rfl (zn [(3,_),(4,_),(6,_),(8,_),(9,_),(10,_),(34,_),(35,_),(36,_),(44,_),(45,_)] [(3,_),(4,_),(6,_),(42,_)] t11 t4 (exr (sw (Z1 un24 rfl sz22 dC rX L) t1 t1 ?_)))))))
    refine sw (Y1 ag22 rF rF L) t1 t1 ?_
    refine sw (X2 un22 L) t1 t0 (swb (i6 (sz:=4) (k:=51) un40 ti47 rfl rfl dC rfl rfl rfl (show (0:Int)=((0:Nat):Int) from rfl) rfl (Nat.zero_le _) (by simp [Tryz.t47]; omega) oM (P0 _ rfl) L) t2 t0 ⟨rfl,rfl⟩ ?_)
    refine aV L rfl ?_
    refine O1 ⟨[(3,_),(4,_),(6,_),(8,_),(9,_),(10,_),(11,.ref 51 0 0 0),(34,_),(35,_),(36,_),(44,_),(45,_)],[(3,_),(4,_),(6,_),(42,_),(51,Z3 [])],t12,t5,?_⟩
    refine R1 (exr (sw (Z1 un24 rfl sz22 dC rX L) t1 t1 ?_))
    refine sw (Y1 ag22 rF rF L) t1 t1 ?_
    refine sw (X2 un22 L) t1 t0 (mV L rfl (zn [(3,_),(4,_),(6,_),(8,_),(9,_),(10,_),(11,_),(34,_),(35,_),(36,_),(44,_),(45,_),(53,_),(54,_),(55,_)] [(3,_),(4,_),(6,_),(42,_),(51,_)] t15 t5 (V1 ?_)))
    refine exl (α:=Nat) (fun k=>[(55,vi (k:Int)),(11,.ref 51 0 k (k*4))]) (fun k=>[(51,Z3 (W7 (N.take k) j))]) (fun k=>k≤N.length) (fun k=>N.length - k) (0) (sl:=[(3,_),(4,_),(6,_),(8,_),(9,_),(10,_),(34,_),(35,_),(36,_),(44,_),(45,_),(53,_),(54,_)]) (hb:=[(3,_),(4,_),(6,_),(42,_)]) ?_ ⟨oR,oR,rfl,rfl,rfl,rfl,rfl,rfl,rfl,rfl,rfl,rfl,rfl,rfl,rfl,trivial⟩ t5 ?_
    ·exact Nat.zero_le _
    intro k hk
    refine exr (sw (V3 L) t2 t0 (zn [(3,_),(4,_),(6,_),(8,_),(9,_),(10,_),(11,_),(34,_),(35,_),(36,_),(44,_),(45,_),(53,_),(54,_),(55,_),(56,_)] [(3,_),(4,_),(6,_),(42,_),(51,_)] t16 t5 (R1 ?_)))
    refine j2 rfl (fun hf=>?_) (fun hf=>?_)
    ·have hf:=dt hf
     have hk2:k<N.length:=by omega
     have hrl2:=h2.get hk2
     refine U1 (xq ?_)
     refine R1 (V1 (exr (sw (ixJ un22 sz40 (j:=k) rO oM sM L) t2 t0 ?_)))
     refine sw (q4 ag40 (y7 hk2) L) t1 t0 (aV L rfl (zn [(3,_),(4,_),(6,_),(8,_),(9,_),(10,_),(11,_),(13,_),(34,_),(35,_),(36,_),(44,_),(45,_),(53,_),(54,_),(55,_)] [(3,_),(4,_),(6,_),(42,_),(51,_)] t16 t5 (j3 (mV L rfl (mV L rfl (mV L rfl (sw (D2 un40 sz47 oM oM sM dC L) t2 t0 ?_)))))))
     refine sw (Z6 ag47 sz47 (Y6 (show j<(N.getD k []).length by omega)) rfl L) t1 t0 ?_
     refine sw (n4 (vs:=[_]) un40 ti47 rfl rfl dC dC rfl (K2 (.cons rfl (.cons rfl (.cons rfl (.cons rfl .nil)))) rfl) rfl (.cons rfl pa4 rfl pu4 .nil) (.cons (.cons (.cons (.cons .nil)))) L) t1 t0 (swb (apP (sz:=4) un40 un40 ti47 rfl rfl rfl dC (by exact (by first | (simp; done) | (simp; omega))) oF sM rfl rfl rfl (by first | (simp [Tryz.t47]; done) | (simp [Tryz.t47]; omega)) oM (P0 _ rfl) L) t2 t1 t0 ?_)
     refine aV L rfl (O1 (j3 (sw (F3 L (w64 oM oM)) t2 t0 (mV L rfl (O1 ?_)))))
     exact ⟨k+1,oM,by omega,l3 ⟨oR,ov rfl sO,rfl,rfl,rfl,rfl,rfl,rfl,rfl,rfl,rfl,rfl,rfl,rfl,rfl,trivial⟩ ⟨obl rfl ((C9 _ _).trans (by rw [f0f hk2])),rfl,rfl,rfl,rfl,trivial⟩⟩
    ·have hf:=df hf
     have hkM:k=N.length:=by omega
     subst hkM
     rw [I0]
     refine J2 (xq ?_)
     refine P4 [51] (sl:=[(3,_),(4,_),(6,_),(8,_),(9,_),(10,_),(11,_),(34,_),(35,_),(36,_),(44,_),(45,_)]) (hb:=[(3,_),(4,_),(6,_),(42,_)]) (M3 hX0) ⟨⟨_,rfl,.same⟩,⟨_,rfl,.same⟩,⟨_,rfl,.same⟩,⟨_,rfl,.same⟩,⟨_,rfl,.same⟩,⟨_,rfl,.same⟩,⟨_,rfl,(.ref rfl rfl (by exact (by first | (simp; done) | (simp; omega))) (by first | rfl | omega))⟩,⟨_,rfl,.same⟩,⟨_,rfl,.same⟩,⟨_,rfl,.same⟩,⟨_,rfl,.same⟩,⟨_,rfl,.same⟩,trivial⟩ ⟨⟨rfl,_,rfl,.same⟩,⟨rfl,_,rfl,.same⟩,⟨rfl,_,rfl,.same⟩,⟨rfl,_,rfl,.same⟩,trivial⟩ ?_
     rw [show L2.sl N.length (X5 (W7 N j))=pV (W7 N j) by rw [pV,G7]]
     refine j3 (mV L rfl (mV L rfl (mV L rfl (mV L rfl (cK hG hX cl70 hN (F0c (M.getD i []) (W7 N j) B B (by rw [hrl,G7,hcN]) oM (fun a ha=>hB _ (gDL hia) a ha) (fun a ha=>H1d hB2 hjd h2.len a ha) oM oM (by rw [hrl]; have:=V0 (B+B+1) hc60; omega)) L t2 ?_)))))
     refine sw (p0m (sz:=4) un40 sz47 (by exact (J6 (M6 _ _ _) hj)) (j:=j) rO oM L) t2 t1 ?_
     refine sb (H0k (n:=4) sz47 (by exact (J6 (M6 _ _ _) hj)) rfl oM) t2 t1 ?_
     refine O1 (j3 (sw (F3 L (w64 oM oM)) t2 t0 (mV L rfl (O1 ?_))))
     exact ⟨j+1,oM,by omega,l3 ⟨oR,rfl,rfl,rfl,rfl,rfl,rfl,rfl,rfl,rfl,trivial⟩ ⟨obl rfl (congrArg (fun c=>(⟨47,4,.pure c⟩:Blk)) ((w0v (M6 _ _ _) hjd (d0r (M.getD i []) (W7 N j))).trans (by rw [q0x]))),rfl,rfl,rfl,trivial⟩⟩
   ·have he:=df he
    have hjd:j=d:=by omega
    subst hjd
    refine J2 (xq ?_)
    refine P4 [42] (sl:=[(3,_),(4,_),(6,_),(9,_),(34,_),(35,_),(36,_)]) (hb:=[(3,_),(4,_),(6,_)]) (M3 hX0) ⟨⟨_,rfl,.same⟩,⟨_,rfl,.same⟩,⟨_,rfl,.same⟩,⟨_,rfl,(.ref rfl rfl (by exact (J6 (M6 _ _ _) hj)) (by first | rfl | omega))⟩,⟨_,rfl,.same⟩,⟨_,rfl,.same⟩,⟨_,rfl,.same⟩,trivial⟩ ⟨⟨rfl,_,rfl,.same⟩,⟨rfl,_,rfl,.same⟩,⟨rfl,_,rfl,.same⟩,trivial⟩ ?_
    rw [show X5 (Y9 (M.getD i []) N j)++X8 (j - j) zc0=X5 (Y9 (M.getD i []) N j) by simp [X8]]
    refine j3 (sw (Z1 un24 rfl sz22 dC rX L) t1 t1 ?_)
    refine sw (Y1 ag22 rF rF L) t1 t1 ?_
    refine mV L rfl (sw (n4 (vs:=[_]) un22 ti40 rfl rfl dC dC rfl (K2 (.cons rfl .nil) rfl) rfl (.cons rfl .sl rfl pu1 .nil) (.cons .nil) L) t1 t0 (swb (apN (k:=78) (sz:=1) un22 un22 ti40 rfl rfl rfl dC sM rfl (by first | (simp [Tryz.t40]; done) | (simp [Tryz.t40]; omega)) oM (P0 _ rfl) L) t2 t0 ⟨rfl,rfl⟩ ?_))
    refine sw (Z1 un24 rfl sz22 dC rX L) t1 t1 ?_
    refine sb (R2 sz22 rF .ref rfl (.skip pu1)) t2 t1 ?_
    refine O1 (j3 (sw (F3 L (w64 oM oM)) t2 t0 (mV L rfl (O1 ?_))))
    exact ⟨(i+1,[Y9 (M.getD i []) N j]),⟨by simp only; omega,ht⟩,(by simp only; omega),l3 ⟨oR,rfl,rfl,rfl,rfl,rfl,trivial⟩ (hbI (l':=[(6,_),(78,_),(3,_),(4,_)]) rfl ⟨rfl,obl rfl (by simp [E5]),rfl,rfl,trivial⟩)⟩
  ·have hc:=df hc
   have hia:i=M.length:=by omega
   subst hia
   rw [I0] at hT
   refine J2 (xq ?_)
   refine exr (sw (M8 (n6 ag24 sz24 rF (by exact al2) rfl L) (.agg (.cons .same (.cons .nil .nil)))) t1 t1 ?_)
   refine sb (R2 sz24 rF pa2 rfl pu2) t2 t1 ?_
   refine aV L rfl (zn [(4,_),(5,_)] [(4,_)] t2 t1 (X1 ?_))
   refine Y0 (.agg rfl rfl rfl ag24 sz24 (.cons (.cons .nil))) (.tmp rfl) ?_
   rw [hT]; rfl
 ·dsimp only [B0g,y0z]
  have hTl:(q :: T).length=i:=by rw [← hT,h0z,J0]; omega
  have hTl2:T.length+1=i:=hTl
  refine exr (sw (V3 L) t2 t0 (zn [(3,_),(4,_),(6,_),(34,_),(35,_),(36,_),(37,_)] [(3,_),(4,_),(6,_),(78,_)] t7 t4 (R1 ?_)))
  refine j2 rfl (fun hc=>?_) (fun hc=>?_)
  ·have hc:=dt hc
   have hia:i<M.length:=by omega
   have ht:=k0g (N:=N) (d:=d) hia
   rw [hT] at ht
   have hrl:=h.get hia
   refine U1 (xq ?_)
   refine R1 (V1 (exr (sw (ixJ un22 sz40 (j:=i) rO oM sM L) t2 t0 ?_)))
   refine sw (q4 ag40 (y7 hia) L) t1 t0 (aV L rfl (zn [(3,_),(4,_),(6,_),(8,_),(34,_),(35,_),(36,_)] [(3,_),(4,_),(6,_),(78,_)] t7 t4 (exr (sw (Z1 un24 rfl sz3 dC rX L) t1 t1 ?_))))
   refine sw (Y1 ag3 rF rF L) t1 t1 ?_
   refine swb (i6 (sz:=4) (k:=42) un40 ti47 rfl rfl dC rfl rfl rfl rfl rfl (Nat.le_refl _) (by simp [Tryz.t47]; omega) oM (P0 _ rfl) L) t2 t0 ⟨rfl,rfl⟩ ?_
   refine aV L rfl ?_
   refine O1 ⟨[(3,_),(4,_),(6,_),(8,_),(9,_),(34,_),(35,_),(36,_)],[(3,_),(4,_),(6,_),(42,⟨47,4,.pure (X5 []++X8 (d - 0) zc0)⟩),(78,_)],t8,t5,?_⟩
   refine R1 (exr (mV L rfl (sw (p0j un40 (by exact (o9 _ _)) L) t1 t1 ?_)))
   refine mV L rfl (zn [(3,_),(4,_),(6,_),(8,_),(9,_),(34,_),(35,_),(36,_),(44,_),(45,_)] [(3,_),(4,_),(6,_),(42,_),(78,_)] t10 t5 (V1 ?_))
   refine exl (α:=Nat) (fun j=>[(45,vi (j:Int))]) (fun j=>[(42,⟨47,4,.pure (X5 (Y9 (M.getD i []) N j)++X8 (d - j) zc0)⟩)]) (fun j=>j≤d) (fun j=>d - j) (0) (sl:=[(3,_),(4,_),(6,_),(8,_),(9,_),(34,_),(35,_),(36,_),(44,_)]) (hb:=[(3,_),(4,_),(6,_),(78,_)]) ?_ ⟨oR,rfl,rfl,rfl,rfl,rfl,rfl,rfl,rfl,rfl,trivial⟩ t5 ?_
   ·exact Nat.zero_le _
   intro j hj
   refine exr (sw (V3 L) t2 t0 (zn [(3,_),(4,_),(6,_),(8,_),(9,_),(34,_),(35,_),(36,_),(44,_),(45,_),(46,_)] [(3,_),(4,_),(6,_),(42,_),(78,_)] t11 t5 (R1 ?_)))
   refine j2 rfl (fun he=>?_) (fun he=>?_)
   ·have he:=dt he
    have hjd:j<d:=by omega
    refine U1 (xq ?_)
    refine R1 (V1 (exr (mV L rfl (aV L rfl (zn [(3,_),(4,_),(6,_),(8,_),(9,_),(10,_),(34,_),(35,_),(36,_),(44,_),(45,_)] [(3,_),(4,_),(6,_),(42,_),(78,_)] t11 t5 (exr (sw (Z1 un24 rfl sz22 dC rX L) t1 t1 ?_)))))))
    refine sw (Y1 ag22 rF rF L) t1 t1 ?_
    refine sw (X2 un22 L) t1 t0 (swb (i6 (sz:=4) (k:=51) un40 ti47 rfl rfl dC rfl rfl rfl (show (0:Int)=((0:Nat):Int) from rfl) rfl (Nat.zero_le _) (by simp [Tryz.t47]; omega) oM (P0 _ rfl) L) t2 t0 ⟨rfl,rfl⟩ ?_)
    refine aV L rfl ?_
    refine O1 ⟨[(3,_),(4,_),(6,_),(8,_),(9,_),(10,_),(11,.ref 51 0 0 0),(34,_),(35,_),(36,_),(44,_),(45,_)],[(3,_),(4,_),(6,_),(42,_),(51,Z3 []),(78,_)],t12,t6,?_⟩
    refine R1 (exr (sw (Z1 un24 rfl sz22 dC rX L) t1 t1 ?_))
    refine sw (Y1 ag22 rF rF L) t1 t1 ?_
    refine sw (X2 un22 L) t1 t0 (mV L rfl (zn [(3,_),(4,_),(6,_),(8,_),(9,_),(10,_),(11,_),(34,_),(35,_),(36,_),(44,_),(45,_),(53,_),(54,_),(55,_)] [(3,_),(4,_),(6,_),(42,_),(51,_),(78,_)] t15 t6 (V1 ?_)))
    refine exl (α:=Nat) (fun k=>[(55,vi (k:Int)),(11,.ref 51 0 k (k*4))]) (fun k=>[(51,Z3 (W7 (N.take k) j))]) (fun k=>k≤N.length) (fun k=>N.length - k) (0) (sl:=[(3,_),(4,_),(6,_),(8,_),(9,_),(10,_),(34,_),(35,_),(36,_),(44,_),(45,_),(53,_),(54,_)]) (hb:=[(3,_),(4,_),(6,_),(42,_),(78,_)]) ?_ ⟨oR,oR,rfl,rfl,rfl,rfl,rfl,rfl,rfl,rfl,rfl,rfl,rfl,rfl,rfl,trivial⟩ t6 ?_
    ·exact Nat.zero_le _
    intro k hk
    refine exr (sw (V3 L) t2 t0 (zn [(3,_),(4,_),(6,_),(8,_),(9,_),(10,_),(11,_),(34,_),(35,_),(36,_),(44,_),(45,_),(53,_),(54,_),(55,_),(56,_)] [(3,_),(4,_),(6,_),(42,_),(51,_),(78,_)] t16 t6 (R1 ?_)))
    refine j2 rfl (fun hf=>?_) (fun hf=>?_)
    ·have hf:=dt hf
     have hk2:k<N.length:=by omega
     have hrl2:=h2.get hk2
     refine U1 (xq ?_)
     refine R1 (V1 (exr (sw (ixJ un22 sz40 (j:=k) rO oM sM L) t2 t0 ?_)))
     refine sw (q4 ag40 (y7 hk2) L) t1 t0 (aV L rfl (zn [(3,_),(4,_),(6,_),(8,_),(9,_),(10,_),(11,_),(13,_),(34,_),(35,_),(36,_),(44,_),(45,_),(53,_),(54,_),(55,_)] [(3,_),(4,_),(6,_),(42,_),(51,_),(78,_)] t16 t6 (j3 (mV L rfl (mV L rfl (mV L rfl (sw (D2 un40 sz47 oM oM sM dC L) t2 t0 ?_)))))))
     refine sw (Z6 ag47 sz47 (Y6 (show j<(N.getD k []).length by omega)) rfl L) t1 t0 ?_
     refine sw (n4 (vs:=[_]) un40 ti47 rfl rfl dC dC rfl (K2 (.cons rfl (.cons rfl (.cons rfl (.cons rfl .nil)))) rfl) rfl (.cons rfl pa4 rfl pu4 .nil) (.cons (.cons (.cons (.cons .nil)))) L) t1 t0 (swb (apP (sz:=4) un40 un40 ti47 rfl rfl rfl dC (by exact (by first | (simp; done) | (simp; omega))) oF sM rfl rfl rfl (by first | (simp [Tryz.t47]; done) | (simp [Tryz.t47]; omega)) oM (P0 _ rfl) L) t2 t1 t0 ?_)
     refine aV L rfl (O1 (j3 (sw (F3 L (w64 oM oM)) t2 t0 (mV L rfl (O1 ?_)))))
     exact ⟨k+1,oM,by omega,l3 ⟨oR,ov rfl sO,rfl,rfl,rfl,rfl,rfl,rfl,rfl,rfl,rfl,rfl,rfl,rfl,rfl,trivial⟩ ⟨obl rfl ((C9 _ _).trans (by rw [f0f hk2])),rfl,rfl,rfl,rfl,rfl,trivial⟩⟩
    ·have hf:=df hf
     have hkM:k=N.length:=by omega
     subst hkM
     rw [I0]
     refine J2 (xq ?_)
     refine P4 [51] (sl:=[(3,_),(4,_),(6,_),(8,_),(9,_),(10,_),(11,_),(34,_),(35,_),(36,_),(44,_),(45,_)]) (hb:=[(3,_),(4,_),(6,_),(42,_),(78,_)]) (M3 hX0) ⟨⟨_,rfl,.same⟩,⟨_,rfl,.same⟩,⟨_,rfl,.same⟩,⟨_,rfl,.same⟩,⟨_,rfl,.same⟩,⟨_,rfl,.same⟩,⟨_,rfl,(.ref rfl rfl (by exact (by first | (simp; done) | (simp; omega))) (by first | rfl | omega))⟩,⟨_,rfl,.same⟩,⟨_,rfl,.same⟩,⟨_,rfl,.same⟩,⟨_,rfl,.same⟩,⟨_,rfl,.same⟩,trivial⟩ ⟨⟨rfl,_,rfl,.same⟩,⟨rfl,_,rfl,.same⟩,⟨rfl,_,rfl,.same⟩,⟨rfl,_,rfl,.same⟩,⟨rfl,_,rfl,.same⟩,trivial⟩ ?_
     rw [show L2.sl N.length (X5 (W7 N j))=pV (W7 N j) by rw [pV,G7]]
     refine j3 (mV L rfl (mV L rfl (mV L rfl (mV L rfl (cK hG hX cl70 hN (F0c (M.getD i []) (W7 N j) B B (by rw [hrl,G7,hcN]) oM (fun a ha=>hB _ (gDL hia) a ha) (fun a ha=>H1d hB2 hjd h2.len a ha) oM oM (by rw [hrl]; have:=V0 (B+B+1) hc60; omega)) L t2 ?_)))))
     refine sw (p0m (sz:=4) un40 sz47 (by exact (J6 (M6 _ _ _) hj)) (j:=j) rO oM L) t2 t1 ?_
     refine sb (H0k (n:=4) sz47 (by exact (J6 (M6 _ _ _) hj)) rfl oM) t2 t1 ?_
     refine O1 (j3 (sw (F3 L (w64 oM oM)) t2 t0 (mV L rfl (O1 ?_))))
     exact ⟨j+1,oM,by omega,l3 ⟨oR,rfl,rfl,rfl,rfl,rfl,rfl,rfl,rfl,rfl,trivial⟩ ⟨obl rfl (congrArg (fun c=>(⟨47,4,.pure c⟩:Blk)) ((w0v (M6 _ _ _) hjd (d0r (M.getD i []) (W7 N j))).trans (by rw [q0x]))),rfl,rfl,rfl,rfl,trivial⟩⟩
   ·have he:=df he
    have hjd:j=d:=by omega
    subst hjd
    refine J2 (xq ?_)
    refine P4 [42] (sl:=[(3,_),(4,_),(6,_),(9,_),(34,_),(35,_),(36,_)]) (hb:=[(3,_),(4,_),(6,_),(78,_)]) (M3 hX0) ⟨⟨_,rfl,.same⟩,⟨_,rfl,.same⟩,⟨_,rfl,.same⟩,⟨_,rfl,(.ref rfl rfl (by exact (J6 (M6 _ _ _) hj)) (by first | rfl | omega))⟩,⟨_,rfl,.same⟩,⟨_,rfl,.same⟩,⟨_,rfl,.same⟩,trivial⟩ ⟨⟨rfl,_,rfl,.same⟩,⟨rfl,_,rfl,.same⟩,⟨rfl,_,rfl,.same⟩,⟨rfl,_,rfl,.same⟩,trivial⟩ ?_
    rw [show X5 (Y9 (M.getD i []) N j)++X8 (j - j) zc0=X5 (Y9 (M.getD i []) N j) by simp [X8]]
    refine j3 (sw (Z1 un24 rfl sz22 dC rX L) t1 t1 ?_)
    refine sw (Y1 ag22 rF rF L) t1 t1 ?_
    refine mV L rfl (sw (n4 (vs:=[_]) un22 ti40 rfl rfl dC dC rfl (K2 (.cons rfl .nil) rfl) rfl (.cons rfl .sl rfl pu1 .nil) (.cons .nil) L) t1 t0 (swb (apP (sz:=1) un22 un22 ti40 rfl rfl rfl dC (by exact (G5 _)) oF sM rfl rfl rfl (by first | (simp [Tryz.t40]; done) | (simp [Tryz.t40]; omega)) oM (P0 _ rfl) L) t2 t1 t0 ?_))
    refine sw (Z1 un24 rfl sz22 dC rX L) t1 t1 ?_
    refine sb (R2 sz22 rF .ref rfl (.skip pu1)) t2 t1 ?_
    refine O1 (j3 (sw (F3 L (w64 oM oM)) t2 t0 (mV L rfl (O1 ?_))))
    exact ⟨(i+1,q :: T++[Y9 (M.getD i []) N j]),⟨by simp only; omega,ht⟩,(by simp only; omega),l3 ⟨oR,rfl,rfl,rfl,rfl,rfl,trivial⟩ (hbI (l':=[(6,_),(78,_),(3,_),(4,_)]) rfl ⟨obl rfl sM,obl rfl (m1h _ _ _ (M6 _ _ _)),rfl,rfl,trivial⟩)⟩
  ·have hc:=df hc
   have hia:i=M.length:=by omega
   subst hia
   rw [I0] at hT
   refine J2 (xq ?_)
   refine exr (sw (Q1a ag24 sz24 rF (by exact (.cons (.cons .nil))) rfl L) t1 t1 ?_)
   refine sb (R2 sz24 rF .agg rfl pu2) t2 t1 ?_
   refine aV L rfl (zn [(4,_),(5,_)] [(4,_),(78,_)] t2 t2 (P4 [78] (sl:=[(4,_),(5,_)]) (hb:=[(4,_)]) (M3 hX0) ⟨⟨_,rfl,.same⟩,⟨_,rfl,.same⟩,trivial⟩ ⟨⟨rfl,_,rfl,(.mix (.cons .same (.cons (.ref rfl rfl (by exact (G5 _)) (by first | rfl | omega)) .nil)))⟩,trivial⟩ ?_))
   refine X1 ?_
   refine Y0 (.agg rfl rfl rfl ag24 sz24 (.cons (.cons .nil))) (.tmp rfl) ?_
   rw [hT]
theorem nt {p:Prop}[Decidable p](h:(!decide p)=true):¬ p:=by simpa using h
theorem nf {p:Prop}[Decidable p](h:(!decide p)=false):p:=by simpa using h
theorem P1x {v u:List Rat}{c:Rat}{j B C D:Nat}(hv:∀ a∈v,qw a≤B)(hu:∀ a∈u,qw a≤C)(hc:qw c≤D):∀ a∈tak v u c j,qw a≤B+(D+C)+1:=by
 intro a ha
 rcases List.mem_append.1 ha with h | h
 ·have h1:=List.mem_of_mem_take h
  rw [List.zipWith_eq_zipWith_take_min,List.mem_iff_getElem?] at h1
  obtain ⟨i,hi⟩:=h1
  rw [← List.zipWith_eq_zipWith_take_min,List.getElem?_zipWith] at hi
  split at hi
  ·rename_i x y h3 h4
   obtain rfl:=by simpa using hi
   have h5:=B1p x (c*y)
   have h6:=T8 c y
   have:=hv x (M1 h3)
   have:=hu y (M1 h4)
   omega
  ·cases hi
 ·have:=hv a (List.mem_of_mem_drop h); omega
theorem f1y (s:Nat)(m:List (List Rat))(i k:Nat)(c:Rat)(B C D:Nat)(h2:s<9)(hi:i<m.length)(hk:k<m.length)(hne:i≠k)(hlen:(m.getD k []).length=(m.getD i []).length)(hl:(m.getD i []).length<1000000000)(hB:∀ a∈m.getD i [],qw a≤B)(hC:∀ a∈m.getD k [],qw a≤C)(hD:qw c≤D)(hb:B+(D+C)+1<1000000000):E4 E (fun _=>true) 99 [.ref (s+1001) 0 m.length m.length,.p (vZ i),.p (vZ k),.p (pQ c)] (I2 s m) (I2 s (m.set i (List.zipWith (fun a b=>a - c*b) (m.getD i []) (m.getD k [])))) (.p (.tup [])):=by
 refine j4 (xs:=[]) Tryz.func99 rfl Tryz.ntmps99 Tryz.results99 sM fun F G=>?_
 have L:=@lti _ _ G.nt
 have hG:=G.g
 have hX:=G.x
 have hN:=U5 hG
 have P0:∀ k,Nat.blt k 1000=true→F.pin k=none:=fun k hk=>G.p0 k ((i2 h2 m).low k hk)
 refine exr (swb (U3 (k:=7) (n:=4) pa4 rfl rfl (P0 _ rfl) L) t1 t0 (frT [] (i2 h2 m) rfl rfl rfl) ?_)
 refine O1 ⟨[(0,_),(1,_),(2,_),(7,_)],(7,_) :: ((I2 s m)),t4,⟨rfl,(hbT [_] (i2 h2 m) rfl)⟩,?_⟩
 refine exr (mV L rfl (mV L rfl (sw (v6 un77 sz40 (by first | exact E2 _ _ _ | exact (E2 _ _ _).trans sM | simp [Cells.len]) (j:=k) rO oM L) t2 ⟨rdT [_] (i2 h2 m) rfl hdL,trivial⟩ ?_)))
 refine sw (Y1 ag40 (by first | exact E2 _ _ _ | exact (E2 _ _ _).trans sM) (M0f hk) L) t1 ⟨rdT [_] (i2 h2 m) rfl hdL,trivial⟩ ?_
 refine sw (p0j un40 (by first | exact Y2 _ | exact (Y2 _).trans oM) L) t1 ⟨rdT [_] (i2 h2 m) rfl (rwL h2 hk),trivial⟩ ?_
 refine mV L rfl ?_
 refine O1 ⟨[(0,_),(1,_),(7,_),(13,_),(14,_),(15,_)],(7,_) :: ((I2 s m)),t6,⟨rfl,(hbT [_] (i2 h2 m) rfl)⟩,?_⟩
 have hku:m.getD k []=(m.set i (m.getD i [])).getD k []:=by rw [F0w]
 obtain ⟨v,hv⟩:∃ v,v=m.getD i []:=⟨_,rfl⟩
 obtain ⟨u,hu⟩:∃ u,u=m.getD k []:=⟨_,rfl⟩
 have hru:=fun (r:List Rat)=>(show (I2 s (m.set i r)).lookup (E3 s k)=some (Z3 u) from by rw [hu]; exact rwO h2 hk hne)
 rw [← hv,← hu] at hlen
 rw [← hv] at hl hB ⊢
 rw [← hu] at hC ⊢
 refine V1 ?_
 refine B0y (α:=Nat) (fun j=>[(15,vi (j:Int))]) (fun j=>[]) (fun j=>(I2 s (m.set i (tak v u c j)))) (fun j=>j≤v.length) (fun j=>v.length - j) (0) (sl:=[(0,_),(1,_),(7,_),(13,_),(14,_)]) (hb:=[(7,_)]) ?_ ⟨oR,rfl,rfl,rfl,rfl,rfl,trivial⟩ ⟨rfl,(by rw [w1m,hv,F0w]; exact hbT [_] (i2 h2 m) rfl)⟩ ?_
 ·exact Nat.zero_le _
 intro j hj
 have htl:=p0b (v:=v) (u:=u) c j hlen
 have hq:=P1x (j:=j) hB hC hD
 refine exr (sw (V3 L) t2 t0 ?_)
 refine O1 ⟨[(0,_),(1,_),(7,_),(13,_),(14,_),(15,_),(16,_)],(7,_) :: ((I2 s (m.set i (tak v u c j)))),t7,⟨rfl,(hbT [_] (i2 h2 (m.set i (tak v u c j))) rfl)⟩,?_⟩
 refine R1 ?_
 refine j2 rfl (fun hc2=>?_) (fun hc2=>?_)
 ·have hc2:=dt hc2
  have hk2:j<v.length:=by omega
  have hk3:j<u.length:=by omega
  have hk5:j<(m.getD k []).length:=by rw [← hu]; omega
  have hk4:j<(tak v u c j).length:=by omega
  refine U1 (xq ?_)
  refine R1 (V1 (exr (mV L rfl (sw (p0m un40 sz47 (by first | exact Y2 _ | exact (Y2 _).trans oM) (j:=j) rO oM L) t2 ⟨rdT [_] (i2 h2 (m.set i (tak v u c j))) rfl (hru _),trivial⟩ ?_))))
  refine sw (K1w ag47 sz47 (by first | exact Y2 _ | exact (Y2 _).trans oM) (Y6 hk3) rfl L) t1 ⟨rdT [_] (i2 h2 (m.set i (tak v u c j))) rfl (hru _),trivial⟩ ?_
  refine swb (O3 (k:=9) (n:=4) zv47 (.cons rfl (.cons rfl (.cons rfl (.cons rfl .nil)))) rfl (P0 _ rfl) L) t0 t0 (frT [_] (i2 h2 (m.set i (tak v u c j))) rfl rfl rfl) (aV L rfl (sb (R2 sz47 rF pa4 rfl pu4) t2 t1 ?_))
  refine O1 ⟨[(0,_),(1,_),(7,_),(8,_),(9,_),(13,_),(14,_),(15,_)],(7,_) :: (9,_) :: ((I2 s (m.set i (tak v u c j)))),t8,⟨rfl,rfl,(hbT [_,_,_] (i2 h2 (m.set i (tak v u c j))) rfl)⟩,?_⟩
  refine exr (lp4 ag47 sz47 L rfl rfl (cK hG hX cl65 hN (I6 (u.getD j 0) (by have:=hC _ (l4 hk3); omega)) L t1 ?_))
  refine sw (m4 L) t1 t0 ?_
  refine O1 ⟨[(0,_),(1,_),(7,_),(8,_),(9,_),(13,_),(14,_),(15,_),(22,_)],(7,_) :: (9,_) :: ((I2 s (m.set i (tak v u c j)))),t9,⟨rfl,rfl,(hbT [_,_] (i2 h2 (m.set i (tak v u c j))) rfl)⟩,?_⟩
  refine j2 rfl (fun h0=>?_) (fun h0=>?_)
  ·have h0:=nt h0
   refine b0j rF ?_
   refine mV L rfl (mV L rfl (sw (v6 un77 sz40 (by first | exact E2 _ _ _ | exact (E2 _ _ _).trans sM | simp [Cells.len]) (j:=i) rO oM L) t2 ⟨rdT [_,_] (i2 h2 (m.set i (tak v u c j))) rfl hdL,trivial⟩ ?_))
   refine sw (Y1 ag40 (by first | exact E2 _ _ _ | exact (E2 _ _ _).trans sM) (f1b hi htl) L) t1 ⟨rdT [_,_] (i2 h2 (m.set i (tak v u c j))) rfl hdL,trivial⟩ ?_
   refine mV L rfl (mV L rfl (mV L rfl (sw (v6 un77 sz40 (by first | exact E2 _ _ _ | exact (E2 _ _ _).trans sM | simp [Cells.len]) (j:=i) rO oM L) t2 ⟨rdT [_,_] (i2 h2 (m.set i (tak v u c j))) rfl hdL,trivial⟩ ?_)))
   refine sw (Y1 ag40 (by first | exact E2 _ _ _ | exact (E2 _ _ _).trans sM) (f1b hi htl) L) t1 ⟨rdT [_,_] (i2 h2 (m.set i (tak v u c j))) rfl hdL,trivial⟩ ?_
   refine mV L rfl (sw (p0m un40 sz47 (by first | exact Y2 _ | exact (Y2 _).trans oM) (j:=j) rO oM L) t2 ⟨rdT [_,_] (i2 h2 (m.set i (tak v u c j))) rfl (rwS h2 hi),trivial⟩ ?_)
   refine sw (K1w ag47 sz47 (by first | exact Y2 _ | exact (Y2 _).trans oM) (Y6 hk4) rfl L) t1 ⟨rdT [_,_] (i2 h2 (m.set i (tak v u c j))) rfl (rwS h2 hi),trivial⟩ ?_
   refine lp4 ag47 sz47 L rfl rfl (lp4 ag47 sz47 L rfl rfl (cK hG hX cl67 hN (v8 c (u.getD j 0) oM (by have:=hC _ (l4 hk3); omega)) L t2 ?_))
   refine cK hG hX cl127 hN (p1x ((tak v u c j).getD j 0) (c*u.getD j 0) (by have:=hq _ (l4 hk4); omega) (by have:=T8 c (u.getD j 0); have:=hC _ (l4 hk3); omega)) L t2 ?_
   refine sw (p0m un40 sz47 (by first | exact Y2 _ | exact (Y2 _).trans oM) (j:=j) rO oM L) t2 ⟨rdT [_,_] (i2 h2 (m.set i (tak v u c j))) rfl (rwS h2 hi),trivial⟩ ?_
   refine sb (H0k (n:=4) sz47 (by first | exact Y2 _ | exact (Y2 _).trans oM) rfl oM) t2 ⟨rdT [_,_] (i2 h2 (m.set i (tak v u c j))) rfl (rwS h2 hi),trivial⟩ ?_
   refine O1 ⟨h0j [⟨[0],[],[23],[]⟩,⟨[1],[],[24],[]⟩,⟨[23,24],[1000],[25],[]⟩,⟨[25],[1000],[26],[]⟩,⟨[8],[],[27],[]⟩,⟨[0],[],[28],[]⟩,⟨[1],[],[29],[]⟩,⟨[28,29],[1000],[30],[]⟩,⟨[30],[1000],[31],[]⟩,⟨[8],[],[32],[]⟩,⟨[31,32],[1000],[33],[]⟩,⟨[33],[1000],[34],[]⟩,⟨[7],[7],[35],[]⟩,⟨[9],[9],[36],[]⟩,⟨[35,36],[],[37],[]⟩,⟨[34,37],[],[38],[]⟩,⟨[26,27],[1000],[39],[]⟩,⟨[39,38],[1000],[],[1000]⟩] (.cons (cf0 rfl) (.cons (cf0 rfl) (.cons (cfT rfl rfl (L8 (by first | exact s6 _ | exact C5 _ _)) rfl (fun _ h=>by cases h)) (.cons (cfT rfl rfl (L8 (by first | exact s6 _ | exact C5 _ _)) rfl (fun _ h=>by cases h)) (.cons (cf0 rfl) (.cons (cf0 rfl) (.cons (cf0 rfl) (.cons (cfT rfl rfl (L8 (by first | exact s6 _ | exact C5 _ _)) rfl (fun _ h=>by cases h)) (.cons (cfT rfl rfl (L8 (by first | exact s6 _ | exact C5 _ _)) rfl (fun _ h=>by cases h)) (.cons (cf0 rfl) (.cons (cfT rfl rfl (L8 (by first | exact s6 _ | exact C5 _ _)) rfl (fun _ h=>by cases h)) (.cons (cfT rfl rfl (L8 (by first | exact s6 _ | exact C5 _ _)) rfl (fun _ h=>by cases h)) (.cons (cf0 rfl) (.cons (cf0 rfl) (.cons (cf0 rfl) (.cons (cf0 rfl) (.cons (cfT rfl rfl (L8 (by first | exact s6 _ | exact C5 _ _)) rfl (fun _ h=>by cases h)) (.cons (cfT rfl rfl (L8 (by first | exact s6 _ | exact C5 _ _)) rfl (L8 (by first | exact s6 _ | exact C5 _ _)))  .nil)))))))))))))))))) rfl (frS [] [_,_] (i2 h2 (m.set i (tak v u c j))) rfl rfl) dC,(show i4 _ _ _ _ _ from exw (sl:=[(0,_),(1,_),(7,_),(13,_),(14,_),(15,_)]) (hb:=(7,_) :: ((I2 s (m.set i (tak v u c (j+1)))))) t6 ⟨rfl,(hbS [_,_] rfl h2 hi ((n0c _ hk4).trans (by rw [V0r hk2 hlen])) (by simp only [p0b c _ hlen]))⟩ ?_)⟩
   refine j3 (sw (F3 L (w64 oM oM)) t2 t0 (mV L rfl (O1 ?_)))
   exact ⟨j+1,oM,by omega,l3 ⟨oR,rfl,rfl,rfl,rfl,rfl,trivial⟩ ⟨rfl,(hbT [_] (i2 h2 (m.set i (tak v u c (j+1)))) rfl)⟩⟩
  ·have h0:=nf h0
   refine U1 (xq ?_)
   refine j3 (sw (F3 L (w64 oM oM)) t2 t0 (mV L rfl (O1 ?_)))
   exact ⟨j+1,oM,by omega,l3 ⟨oR,rfl,rfl,rfl,rfl,rfl,trivial⟩ ⟨rfl,(by rw [← B1f hk2 hlen h0]; exact hbT [_,_] (i2 h2 _) rfl)⟩⟩
 ·have hc2:=df hc2
  refine J2 ?_
  refine ⟨.inl rfl,O4.cast .nil ?_,(by rw [← M1d hlen,show v.length=j by omega]; exact hbT [_] (i2 h2 _) rfl)⟩
  rfl
end Go.Proofs.YtjagfionflbjbaaGreat.N
namespace Go.Proofs.YtjagfionflbjbaaGreat.SH
open Go Go.RowKit
theorem m1r {E:Env}{st st':Nat→Bool}{f:FuncId}{args:List PV}{H H' H1:List (Nat×Blk)}{r r1:PV}(κ:Nat→Nat)(h:E4 E st f args H H1 r1)(hr:r1=r.ren κ)
  (hb:∀ j B,H'.lookup j=some B→H1.lookup (κ j)=some (B.ren κ)) (inj:∀ j j',H'.lookup j≠none→H'.lookup j'≠none→κ j=κ j'→j=j')
  (hnew:∀ j,H'.lookup j≠none→H.lookup j=none→H.lookup (κ j)=none) (hst:∀ j,H'.lookup j≠none→H.lookup j≠none→st' j=true→κ j=j∧st j=true):E4 E st' f args H H' r:=by
 intro ok ρ w vals hG hH hinj hrel
 refine Calls.mono (h ok ρ w vals hG hH hinj hrel) fun e w' ⟨v,ρ1,he,hp⟩=>⟨v,fun j=>ρ1 (κ j),he,?_⟩
 have hin:∀ j,H'.lookup j≠none→H1.lookup (κ j)≠none:=fun j hj=>by
  obtain ⟨B,hB⟩:=G3 hj
  rw [hb j B hB]; simp
 have hok:Carry (okG ok w H1 ρ1) (okG ok w H' fun j=>ρ1 (κ j)) (Go.Proofs.YtjagfionflbjbaaGreat.SH.hp w') (Go.Proofs.YtjagfionflbjbaaGreat.SH.hp w'):=fun b hb' _=>⟨⟨hb'.1,fun j hj=>hb'.2 _ (hin j hj)⟩,rfl⟩
 have hH1:∀ j B,lk H' j=some B→∃ B',lk H1 (κ j)=some B'∧B'.sz=B.sz∧B'.cs.len=B.cs.len:=fun j B hj=>⟨_,hb j B hj,rfl,Cells.ren_len _ _⟩
 have hrv:∀ x v,M2 (lk H1) ρ1 (okG ok w H1 ρ1) (Go.Proofs.YtjagfionflbjbaaGreat.SH.hp w') (x.ren κ) v→M2 (lk H') (fun j=>ρ1 (κ j)) (okG ok w H' fun j=>ρ1 (κ j)) (Go.Proofs.YtjagfionflbjbaaGreat.SH.hp w') x v:=fun x v hx =>
  M2.mono (K:=fun _=>True) hok (fun k _ B' hB'=>⟨B',hB',rfl,Nat.le_refl _,fun _=>⟨rfl,fun c T fr hc=>⟨c,T,fr,hc,rfl⟩⟩⟩) x v (fun _ _=>trivial) (P0b hH1 x v hx)
 exact {
  res:=hrv r v (hr ▸ hp.res)
  blk:=fun j B' hj=>by
   obtain ⟨c,h1,h2,h3⟩:=hp.blk (κ j) _ (hb j B' hj)
   refine ⟨c,h1,by rw [← Cells.ren_len κ]; exact h2,fun i x hx=>?_⟩
   obtain ⟨u,hu,h4,h5⟩:=h3 i (x.ren κ) (by show (B'.cs.ren κ).get i=_; rw [Cells.ren_get,hx]; rfl)
   exact ⟨u,hu,h4,hrv x u h5⟩
  inj:=fun j j' hj hj' e=>inj j j' hj hj' (hp.inj _ _ (hin j hj) (hin j' hj') e)
  old:=fun j hj hj'=>by
   by_cases hk:H.lookup (κ j)=none
   ·exact .inr (hp.new _ (hin j hj) hk)
   ·exact hp.old _ (hin j hj) hk
  new:=fun j hj hj'=>hp.new _ (hin j hj) (hnew j hj hj')
  stay:=fun j hj hj' hs=>by
   obtain ⟨e,hs'⟩:=hst j hj hj' hs
   have:=hp.stay j (by have:=hin j hj; rwa [e] at this) hj' hs'
   show ρ1 (κ j)=_∧_
   rw [e]; exact this
  os:=hp.os
  tape:=hp.tape
  output:=hp.output
  size:=hp.size
  frame:=hp.frame }
end Go.Proofs.YtjagfionflbjbaaGreat.SH
set_option maxRecDepth 100000
set_option maxHeartbeats 4000000
namespace Go.Proofs.YtjagfionflbjbaaGreat.N
open Go Go.Proofs.YtjagfionflbjbaaGreat.SH Go.Proofs.YtjagfionflbjbaaGreat.NumA
open Go.Proofs.Tryz renaming isAgg40→ag40,sizeOf40→sz40,underlying77→un77
theorem D0w:∀ {vs:List PV}{off:Nat}{u:PV},off<vs.length→v0p vs off [u] (vs.set off u)
 | [],_,_,h=>by simp at h
 | v :: vs,0,u,_=>.put .here
 | v :: vs,n+1,u,h=>.skip (D0w (by simpa using h))
theorem lkH {sl:List (Nat×PV)}{k:Nat}{B:Blk}{r:List (Nat×Blk)}:St.blk ⟨sl,(k,B) :: r⟩ k=some B:=by show List.lookup k _=_; simp
def m1s (s i n:Nat):PV:=.ref (E3 s i) 0 n (n*4)
def swH (s:Nat)(m:List (List Rat))(i k:Nat):List (Nat×Blk):=(s+1001,⟨40,1,.mix (((M4 s 0 m).set i (m1s s k (m.getD k []).length)).set k (m1s s i (m.getD i []).length))⟩) :: T6 s 0 m
theorem b2g {sl:List (Nat×PV)}{s:Nat}{m:List (List Rat)}{i k:Nat}{B:Blk}(h2:s<9):O5 ⟨sl,(s+1001,⟨40,1,.mix (((M4 s 0 m).set i (m1s s k (m.getD k []).length)).set k (m1s s i (m.getD i []).length))⟩) :: (s+1001,B) :: ([]++I2 s m)⟩ (swH s m i k):=by
 have hnd:=(i2 h2 m).nd
 refine v5 (by simpa [swH,I2] using hnd) fun j C hj=>?_
 show List.lookup j _=some C
 rw [swH,i0] at hj
 rw [i0]
 by_cases e:j=s+1001
 ·subst e; simpa using hj
 ·rw [show (j == s+1001)=false by simpa using e] at hj ⊢
  simp only [List.nil_append,I2,i0]
  rw [show (j == s+1001)=false by simpa using e]; exact hj
theorem d1b (s:Nat)(m:List (List Rat))(i k:Nat)(h2:s<9)(hi:i<m.length)(hk:k<m.length):E4 E (fun k=>Nat.blt k 1100) 94 [.ref (s+1001) 0 m.length m.length,.p (vZ i),.p (vZ k)] (I2 s m) (swH s m i k) (.p (.tup [])):=by
 refine j4 (xs:=[]) Tryz.func94 rfl Tryz.ntmps94 Tryz.results94 sM fun F G=>?_
 have L:=@lti _ _ G.nt
 have hG:=G.g
 have hX:=G.x
 have hN:=U5 hG
 have P0:∀ k,Nat.blt k 1000=true→F.pin k=none:=fun k hk=>G.p0 k ((i2 h2 m).low k hk)
 refine b0j rF ?_
 refine mV L rfl (mV L rfl (mV L rfl (mV L rfl (mV L rfl (mV L rfl (sw (v6 un77 sz40 (by first | exact E2 _ _ _ | exact (E2 _ _ _).trans sM | simp [Cells.len]) (j:=k) rO oM L) t2 ⟨rdT [] (i2 h2 m) rfl hdL,trivial⟩ ?_))))))
 refine sw (Y1 ag40 (by first | exact E2 _ _ _ | exact (E2 _ _ _).trans sM) (M0f hk) L) t1 ⟨rdT [] (i2 h2 m) rfl hdL,trivial⟩ ?_
 refine mV L rfl (mV L rfl (sw (v6 un77 sz40 (by first | exact E2 _ _ _ | exact (E2 _ _ _).trans sM | simp [Cells.len]) (j:=i) rO oM L) t2 ⟨rdT [] (i2 h2 m) rfl hdL,trivial⟩ ?_))
 refine sw (Y1 ag40 (by first | exact E2 _ _ _ | exact (E2 _ _ _).trans sM) (M0f hi) L) t1 ⟨rdT [] (i2 h2 m) rfl hdL,trivial⟩ ?_
 refine sw (v6 un77 sz40 (by first | exact E2 _ _ _ | exact (E2 _ _ _).trans sM | simp [Cells.len]) (j:=i) rO oM L) t2 ⟨rdT [] (i2 h2 m) rfl hdL,trivial⟩ ?_
 refine sb (R2 sz40 sM .ref rfl (D0w sO)) t2 ⟨rdT [] (i2 h2 m) rfl hdL,trivial⟩ ?_
 refine sw (v6 un77 sz40 (by first | exact E2 _ _ _ | exact (E2 _ _ _).trans sM | simp [Cells.len]) (j:=k) rO oM L) t2 ⟨lkH,trivial⟩ ?_
 refine sb (R2 sz40 sM .ref rfl (D0w sO)) t2 ⟨lkH,trivial⟩ ?_
 refine O1 ⟨h0j [⟨[0],[],[6],[]⟩,⟨[1],[],[7],[]⟩,⟨[0],[],[8],[]⟩,⟨[2],[],[9],[]⟩,⟨[0],[],[10],[]⟩,⟨[2],[],[11],[]⟩,⟨[10,11],[1000],[12],[]⟩,⟨[12],[1000],[13],[]⟩,⟨[0],[],[14],[]⟩,⟨[1],[],[15],[]⟩,⟨[14,15],[1000],[16],[]⟩,⟨[16],[1000],[17],[]⟩,⟨[6,7],[1000],[18],[]⟩,⟨[18,13],[1000],[],[1000]⟩,⟨[8,9],[1000],[19],[]⟩,⟨[19,17],[1000],[],[1000]⟩] (.cons (cf0 rfl) (.cons (cf0 rfl) (.cons (cf0 rfl) (.cons (cf0 rfl) (.cons (cf0 rfl) (.cons (cf0 rfl) (.cons (cfT rfl rfl (L8 (by first | exact s6 _ | exact C5 _ _)) rfl (fun _ h=>by cases h)) (.cons (cfT rfl rfl (L8 (by first | exact s6 _ | exact C5 _ _)) rfl (fun _ h=>by cases h)) (.cons (cf0 rfl) (.cons (cf0 rfl) (.cons (cfT rfl rfl (L8 (by first | exact s6 _ | exact C5 _ _)) rfl (fun _ h=>by cases h)) (.cons (cfT rfl rfl (L8 (by first | exact s6 _ | exact C5 _ _)) rfl (fun _ h=>by cases h)) (.cons (cfT rfl rfl (L8 (by first | exact s6 _ | exact C5 _ _)) rfl (fun _ h=>by cases h)) (.cons (cfT rfl rfl (L8 (by first | exact s6 _ | exact C5 _ _)) rfl (L8 (by first | exact s6 _ | exact C5 _ _))) (.cons (cfT rfl rfl (L8 (by first | exact s6 _ | exact C5 _ _)) rfl (fun _ h=>by cases h)) (.cons (cfT rfl rfl (L8 (by first | exact s6 _ | exact C5 _ _)) rfl (L8 (by first | exact s6 _ | exact C5 _ _)))  .nil)))))))))))))))) rfl (frS [] [] (i2 h2 m) rfl rfl) dC,?_⟩
 refine ⟨.inl rfl,O4.cast .nil ?_,(b2g h2)⟩
 rfl
@[simp] theorem g0c (m:List (List Rat))(i k:Nat):(J5 m i k).length=m.length:=by simp [J5]
theorem K0f {m:List (List Rat)}{i k j:Nat}(hi:i<m.length)(hk:k<m.length)(hne:i≠k):(J5 m i k)[j]? = if j=k then some (m.getD i []) else if j=i then some (m.getD k []) else m[j]?:=by
 simp only [J5,List.getElem?_set,List.length_set]
 by_cases h1:k=j
 ·subst h1; simp [hk]
 ·rw [if_neg h1,if_neg (Ne.symm h1)]
  by_cases h2:i=j
  ·subst h2; simp [hi]
  ·rw [if_neg h2,if_neg (Ne.symm h2)]
def kap (s i k j:Nat):Nat:=if j=E3 s i then E3 s k else if j=E3 s k then E3 s i else j
theorem d0c {s i k j:Nat}:kap s i k (E3 s j)=E3 s (if j=i then k else if j=k then i else j):=by
 unfold kap
 simp only [F0d]
 split
 ·rfl
 ·split <;> rfl
theorem B0v {s i k j:Nat}(h:j<1100):kap s i k j=j:=by
 unfold kap
 rw [if_neg (by unfold E3; omega),if_neg (by unfold E3; omega)]
theorem Y0b {s j:Nat}{m:List (List Rat)}:(T6 s 0 m).lookup (E3 s j)=(m[j]?).map Z3:=by
 have:=f0x (s:=s) (i:=0) (j:=j) (m:=m)
 rwa [F1] at this
theorem P5 {s j:Nat}{m:List (List Rat)}(h2:s<9)(h:(I2 s m).lookup j≠none):j=s+1001∨∃ q,q<m.length∧j=E3 s q:=by
 obtain ⟨B,hB⟩:=j1.1 h
 rw [I2,i0] at hB
 by_cases e:j=s+1001
 ·exact .inl e
 ·rw [show (j == s+1001)=false by simpa using e] at hB
  obtain ⟨q,hq,e2⟩:=B8 (G0.2 ⟨_,L3 hB,rfl⟩)
  exact .inr ⟨q,hq,by have e2:j=E3 s (0+q):=e2; rw [e2,F1]⟩
theorem V0c {s q:Nat}{m:List (List Rat)}(h2:s<9)(h:q<m.length):(I2 s m).lookup (E3 s q)≠none:=by rw [rwL h2 h]; simp
theorem q1n (s:Nat)(m:List (List Rat))(i k:Nat)(h2:s<9)(hi:i<m.length)(hk:k<m.length)(hne:i≠k):E4 E (fun k=>Nat.blt k 1100) 94 [.ref (s+1001) 0 m.length m.length,.p (vZ i),.p (vZ k)] (I2 s m) (I2 s (J5 m i k)) (.p (.tup [])):=by
 refine m1r (kap s i k) (d1b s m i k h2 hi hk) rfl (fun j B hj=>?_) (fun j j' hj hj' e=>?_) (fun j hj hj'=>?_) (fun j hj hj' hs=>?_)
 ·rcases P5 h2 (show (I2 s (J5 m i k)).lookup j≠none by rw [hj]; simp) with rfl | ⟨q,hq,rfl⟩
  ·rw [B0v oM,swH]
   rw [hdL] at hj
   obtain rfl:=by simpa using hj
   rw [i0,BEq.rfl]
   refine congrArg (fun l=>some (⟨40,1,.mix l⟩:Blk)) ?_
   apply List.ext_getElem?
   intro j
   rw [List.getElem?_map,j0v,K0f hi hk hne,F1,List.getElem?_set,List.getElem?_set]
   simp only [List.length_set,E2]
   by_cases h1:j=k
   ·subst h1
    simp only [if_true,hk,Option.map_some,PV.ren,d0c,m1s]
    rw [if_neg (Ne.symm hne)]
   ·rw [if_neg h1,if_neg (Ne.symm h1)]
    by_cases h3:j=i
    ·subst h3; simp [hi,PV.ren,d0c,m1s]
    ·rw [if_neg h3,if_neg (Ne.symm h3),j0v,F1]
     cases m[j]? with
     | none=>rfl
     | some v=>simp [PV.ren,d0c,h1,h3]
  ·rw [g0c] at hq
   rw [d0c,swH,i0,show ((E3 s (if q=i then k else if q=k then i else q)) == s+1001)=false by simp [E3]; omega,Y0b]
   rw [rwL h2 (by rw [g0c]; exact hq)] at hj
   injection hj with hj
   subst hj
   show _=some (Z3 _)
   have e:(J5 m i k).getD q []=m.getD (if q=i then k else if q=k then i else q) []:=by
    rw [f0,K0f hi hk hne]
    by_cases h1:q=k
    ·subst h1; rw [if_pos rfl,if_neg (Ne.symm hne),if_pos rfl]; rfl
    ·rw [if_neg h1]
     by_cases h3:q=i
     ·rw [if_pos h3,if_pos h3]; rfl
     ·rw [if_neg h3,if_neg h3,if_neg h1,f0]
   rw [e]
   show Option.map Z3 _=_
   have hl:(if q=i then k else if q=k then i else q)<m.length:=by split; exact hk; split; exact hi; exact hq
   simp [f0,hl]
 ·rcases P5 h2 hj with rfl | ⟨q,hq,rfl⟩ <;> rcases P5 h2 hj' with rfl | ⟨q',hq',rfl⟩
  ·rfl
  ·rw [B0v oM,d0c] at e; simp [E3] at e; omega
  ·rw [d0c,B0v oM] at e; simp [E3] at e; omega
  ·rw [d0c,d0c,F0d] at e; rw [F0d]; split at e <;> split at e <;> (try split at e) <;> (try split at e) <;> omega
 ·rcases P5 h2 hj with rfl | ⟨q,hq,rfl⟩
  ·rw [hdL] at hj'; cases hj'
  ·exact absurd hj' (V0c h2 (by rwa [g0c] at hq))
 ·rw [Nat.blt_eq] at hs
  exact ⟨B0v hs,by simpa [Nat.blt_eq] using hs⟩
end Go.Proofs.YtjagfionflbjbaaGreat.N
namespace Go.Proofs.YtjagfionflbjbaaGreat.SH
open Go Go.RowKit
structure d0a (st:Nat→Bool) (F:Fr) (S:St) (H H':List (Nat×Blk)) (slR:List (Nat×PV)) (hb2:List (Nat×Blk)):Prop where
 h1:∀ j B,H.lookup j=some B→S.blk j=some B
 hs:d7 S slR
 h2:∀ k B,hb2.lookup k=some B→H'.lookup k=some B∨(S.blk k=some B∧H.lookup k=none∧H'.lookup k=none∧∀ i x,B.cs.get i=some x→∀ q,x.free q=false→st q=false→H'.lookup q=none)
 fix:∀ q B1,st q=true→H'.lookup q=some B1→∃ B0,H.lookup q=some B0∧B1.sz=B0.sz∧B1.cs.len=B0.cs.len
 slot:∀ t v,slR.lookup t=some v→∀ q,v.free q=false→st q=false→H'.lookup q=none
 lo:∀ j,H.lookup j≠none→st j=false→F.lo j=false
 pin:∀ j,F.pin j≠none→st j=true
 whole:Whole H'
theorem nsI {E:Env}{st:Nat→Bool}{F:Fr}(hG:E.G F.w0)(hX:∀ b,F.X b→E.ng≤b)(hng:E.ng≤F.w0.heap.size){ops:Array Oper}{d:Nat}{f:FuncId}{op:Op}{T:TypeId}{pos:String}{aft:Array Edge}{xs:List PV}{S:St}{H H':List (Nat×Blk)}{r:PV}{rs:List (Operand×PV)}{os:List Oper}{K:St→Prop}(slR:List (Nat×PV))(hb2:List (Nat×Blk))(hs:E4 E st f xs H H' r)(hlt:d<F.nt)
  (hargs:∀ ρ S a w,Z4 F ρ S a w→(∀ p∈rs,S.opd p.1=some p.2)→∃ vals:List Value,(execOp a.eval ⟨some d,op,T,pos,aft,none⟩).run E.P w = .ok (.enter f vals.toArray) w∧C3 S.blk ρ (okI F S.blk ρ) (hp w) xs vals)
  (hr:w8 S rs) (C:d0a st F S H H' slR hb2) (hres:∀ q,r.free q=false→H'.lookup q≠none) (hd:slR.lookup d=none) (hn:g0x E.P F ops os ⟨(d,r) :: slR,hb2⟩ K):g0x E.P F ops (⟨some d,op,T,pos,aft,none⟩ :: os) S K:=by
 have hstay:∀ q,(st q=false→H'.lookup q=none)→D0h st S ⟨(d,r) :: slR,hb2⟩ (fun j=>j) H H' q:=fun q hq=>by
  cases e:hb2.lookup q with
  | none=>exact .inl e
  | some B =>
   rcases C.h2 q B e with h | ⟨h3,h4,h5,_⟩
   ·have hst : st q = true := by
     cases e2:st q with
     | true=>rfl
     | false=>rw [hq e2] at h; cases h
    obtain ⟨B0,h6,h7,h8⟩:=C.fix q B hst h
    exact .inr (.inr ⟨q,B0,B,rfl,hst,h6,h,h7,h8⟩)
   ·exact .inr (.inl ⟨by rw [h3]; exact e,fun j hj e2=>by subst e2; exact hj.elim (fun h=>h h4) (fun h=>h h5)⟩)
 refine .cons (N1f hG hX hng (fun j=>j) hs rfl rfl hlt (fun ρ a w hS=>?_) ⟨fun j B hj=>by rw [Blk.ren_id]; exact C.h1 j B hj,fun _ _ _ _ h=>h,fun i j _ h2 _ h4 _=>C.lo j h2 h4,fun k B' hk=>?_,fun t v ht=>?_,hres,C.whole,fun j hj hp=>?_⟩) hn
 ·rw [PV.renL_id]; exact hargs ρ S a w hS hr.all
 ·rcases C.h2 k B' hk with h | ⟨h3,h4,h5,h6⟩
  ·exact .inl ⟨k,B',rfl,h,(Blk.ren_id B').symm⟩
  ·exact .inr ⟨h3,fun j hj e2=>by subst e2; exact hj.elim (fun h=>h h4) (fun h=>h h5),fun i x hx q hq=>hstay q (h6 i x hx q hq)⟩
 ·simp only [St.slot,i0] at ht
  by_cases e:t=d
  ·subst e; simp only [BEq.rfl,U0] at ht; exact .inl ⟨rfl,by rw [PV.ren_id]; exact ht.symm⟩
  ·rw [show (t == d)=false by simpa using e] at ht
   exact .inr ⟨e,C.hs.all t v ht,fun q hq=>hstay q (C.slot t v ht q hq)⟩
 ·have h:=C.pin j hp
  obtain ⟨B1,hB1⟩:=G3 hj
  obtain ⟨B0,h0,_⟩:=C.fix j B1 h hB1
  exact ⟨by rw [h0]; simp,h⟩
end Go.Proofs.YtjagfionflbjbaaGreat.SH
namespace Go.Proofs.YtjagfionflbjbaaGreat.SH
open Go Go.RowKit
def y8 (k:Nat):Bool:=Nat.blt k 1100
def b6 (l:List (Nat×Blk)):Bool:=l.all fun p=>Nat.blt p.1 1000
theorem d0w {l:List (Nat×Blk)}(h:b6 l=true){k:Nat}{B:Blk}(hk:l.lookup k=some B):k<1000:=by
 unfold b6 at h
 rw [s0] at h
 simpa [Nat.blt_eq] using h _ (L3 hk)
theorem s5 {l:List (Nat×Blk)}(h:b6 l=true){k:Nat}(hk:1000≤k):l.lookup k=none:=by
 cases e:l.lookup k with
 | none=>rfl
 | some B=>have:=d0w h e; omega
theorem s8 {α:Type}:∀ {l:List (Nat×α)} {j:Nat} {B:α} (_:l.lookup j=some B),(j,B)∈l
 | [],_,_,h=>by simp at h
 | (k,C) :: l,j,B,h=>by
  rw [i0] at h
  split at h
  ·rename_i e; injection h with h; subst h; simp [beq_iff_eq.1 e]
  ·simp [s8 h]
theorem ncT {F:Fr}{sl slR:List (Nat×PV)}{bx pre pre' T T' U U':List (Nat×Blk)}(ks:List Nat)(hks:(ks.all fun k=>Nat.blt k 1100)=true)
  (hp:b6 pre=true) (hbp:∀ k B,bx.lookup k=some B→pre.lookup k=some B) (hpp:∀ k B,pre'.lookup k=some B→pre.lookup k=some B)
  (hT:∀ k B,T.lookup k=some B→U.lookup k=some B∧1000≤k) (hT':∀ k B,T'.lookup k=some B→1000≤k)
  (hU:∀ k B,U'.lookup k=some B→T'.lookup k=some B∨(1000≤k∧U.lookup k=some B∧T.lookup k=none∧T'.lookup k=none∧∀ i x,B.cs.get i=some x→∀ q,x.free q=false→1100≤q→T'.lookup q=none))
  (hfix:∀ q B1,q<1100→T'.lookup q=some B1→∃ B0,T.lookup q=some B0∧B1.sz=B0.sz∧B1.cs.len=B0.cs.len)
  (hpo:(pre'.all fun p=>p.2.cs.only ks)=true) (hso:(slR.all fun p=>p.2.only ks)=true) (hS:d7 ⟨sl,pre++U⟩ slR)
  (hlo:∀ j,1100≤j→T.lookup j≠none→F.lo j=false) (hpin:∀ j,y8 j=false→F.pin j=none) (hw:Whole (bx++T')) :
  d0a y8 F ⟨sl,pre++U⟩ (bx++T) (bx++T') slR (pre'++U'):=by
 have hbx:∀ k,1000≤k→bx.lookup k=none:=fun k hk=>by
  cases e:bx.lookup k with
  | none=>rfl
  | some B=>have:=d0w hp (hbp k B e); omega
 have hTl:∀ k,k<1000→T.lookup k=none:=fun k hk=>by
  cases e:T.lookup k with
  | none=>rfl
  | some B=>have:=(hT k B e).2; omega
 have hTl':∀ k,k<1000→T'.lookup k=none:=fun k hk=>by
  cases e:T'.lookup k with
  | none=>rfl
  | some B=>have:=hT' k B e; omega
 have hst:∀ {q},y8 q=false→1100≤q:=fun {q} h=>by
  have:¬ q<1100:=fun h2=>by rw [y8,show Nat.blt q 1100=true by rw [Nat.blt_eq]; exact h2] at h; cases h
  omega
 have hst':∀ {q},y8 q=true→q<1100:=fun {q} h=>by simpa [y8,Nat.blt_eq] using h
 have hkl:∀ q,q∈ks→q<1100:=fun q hq=>by rw [s0] at hks; simpa [Nat.blt_eq] using hks q hq
 refine ⟨fun j B hj=>?_,hS,fun k B hk=>?_,fun q B1 hq hq1=>?_,fun t v ht q hq hs=>?_,fun j hj hs=>?_,fun j hj=>?_,hw⟩
 ·show (pre++U).lookup j=some B
  rw [T1] at hj ⊢
  cases e:bx.lookup j with
  | some C=>rw [e,K0] at hj; rw [hbp j C e,K0,hj]
  | none =>
   rw [e,l0] at hj
   rw [s5 hp (hT j B hj).2,l0]; exact (hT j B hj).1
 ·rw [T1] at hk
  show _∨((pre++U).lookup k=some B∧_)
  rw [T1,T1,T1]
  cases e:pre'.lookup k with
  | some C =>
   rw [e,K0] at hk
   injection hk with hk
   subst hk
   have h3:=hpp k C e
   have h4:=d0w hp h3
   rw [h3,hTl k h4,hTl' k h4,K0,Option.or_none]
   cases e2:bx.lookup k with
   | some D =>
    have:=hbp k D e2
    rw [h3] at this
    exact .inl this.symm
   | none =>
    refine .inr ⟨rfl,rfl,rfl,fun i x hx q hq hs=>?_⟩
    rw [s0] at hpo
    have h5:=hkl q (PV.only_mem (Cells.only_get (hpo _ (L3 e)) hx) hq)
    have:=hst hs
    omega
  | none =>
   rw [e,l0] at hk
   rcases hU k B hk with h | ⟨h1,h3,h4,h5,h6⟩
   ·exact .inl (by rw [hbx k (hT' k B h),l0,h])
   ·refine .inr ⟨by rw [s5 hp h1,l0,h3],by rw [hbx k h1,h4]; rfl,by rw [hbx k h1,h5]; rfl,fun i x hx q hq hs=>?_⟩
    have:=hst hs
    rw [T1,hbx q (by omega),l0]; exact h6 i x hx q hq this
 ·rw [T1] at hq1 ⊢
  cases e:bx.lookup q with
  | some C=>rw [e,K0] at hq1; injection hq1 with hq1; subst hq1; exact ⟨C,rfl,rfl,rfl⟩
  | none =>
   rw [e,l0] at hq1
   obtain ⟨B0,h1,h3⟩:=hfix q B1 (hst' hq) hq1
   exact ⟨B0,by rw [l0]; exact h1,h3⟩
 ·rw [s0] at hso
  have h5:=hkl q (PV.only_mem (hso _ (s8 ht)) hq)
  have:=hst hs
  omega
 ·have h1:=hst hs
  rw [T1,hbx j (by omega),l0] at hj
  exact hlo j h1 hj
 ·cases e:y8 j with
  | true=>rfl
  | false=>exact absurd (hpin j e) hj
end Go.Proofs.YtjagfionflbjbaaGreat.SH
namespace Go.Proofs.YtjagfionflbjbaaGreat.SH
open Go
theorem D0v {E:Env}{st st':Nat→Bool}{f:FuncId}{args:List PV}{H H':List (Nat×Blk)}{r:PV}(h:E4 E st f args H H' r)(hst:∀ j,st' j=true→st j=true):E4 E st' f args H H' r:=by
 intro ok ρ w vals hG hH hinj hrel
 refine Calls.mono (h ok ρ w vals hG hH hinj hrel) fun e w' ⟨v,ρ1,he,hp⟩=>⟨v,ρ1,he,{ hp with stay:=fun j h1 h2 h3=>hp.stay j h1 h2 (hst j h3) }⟩
end Go.Proofs.YtjagfionflbjbaaGreat.SH
namespace Go.Proofs.YtjagfionflbjbaaGreat.SH
open Go
section
variable {P:Program} {F:Fr} {d:Nat} {T:TypeId} {pos:String} {aft:Array Edge} {g:Option (Nat×Bool)} {x y:Operand} {xT yT:TypeId}
theorem w0f {e:TypeId}(hu:P.underlying xT=some (.slice e))(hlt:d<F.nt):O2 P F ⟨some d,.binOp .neq xT x y yT,T,pos,aft,g⟩ { rs:=[(x,.p (.a (.slice none 0 0))),(y,.p (.a (.slice none 0 0)))],ws:=[(d,.p (.a (.bool false)))] } :=
 C4 hlt fun e' w h1 h2=>by simp [execOp,h1,h2,eqGuard,run_neq_slice_nil w xT e none 0 0 hu]
theorem w0r {e:TypeId}{k off n tot:Nat}{B:Blk}(hu:P.underlying xT=some (.slice e))(hl:B.cs.len=tot)(hlt:d<F.nt):O2 P F ⟨some d,.binOp .neq xT x y yT,T,pos,aft,g⟩ { rs:=[(x,.ref k off n tot),(y,.p (.a (.slice none 0 0)))],rb:=[(k,B)],ws:=[(d,.p (.a (.bool true)))] } :=
 B4 rfl hlt rfl rfl fun ρ S a w h hA=>by
  obtain ⟨cap,c,he,hc,_,_⟩:=p9 h (hA.rs (x,.ref k off n tot) (by simp)) (hA.rb (k,B) (by simp)) hl
  have hy:=J4 h (v:=.slice none 0 0) (hA.rs (y,_) (by simp))
  exact ⟨.bool true,by simp [execOp,he,hy,eqGuard,run_neq_slice_nil w xT e _ n cap hu],by simp [M2,Rel]⟩
end
end Go.Proofs.YtjagfionflbjbaaGreat.SH
namespace Go.Proofs.YtjagfionflbjbaaGreat.SH
open Go
theorem Z2 {P:Program}{F:Fr}{d:Nat}{T:TypeId}{pos:String}{aft:Array Edge}{g:Option (Nat×Bool)}{x:Operand}{k off tot:Nat}{B:Blk}(hl:B.cs.len=tot)(hlt:d<F.nt):O2 P F ⟨some d,.nilCheck x,T,pos,aft,g⟩ { rs:=[(x,.at_ k off tot)],rb:=[(k,B)],ws:=[(d,.at_ k off tot)] } :=
 B4 rfl hlt rfl rfl fun ρ S a w h hA=>by
  have hx:=hA.rs (x,.at_ k off tot) (by simp)
  have he:=b9 h hx (hA.rb (k,B) (by simp)) hl
  exact ⟨.pointer (some ⟨ρ k,off,none⟩),by simp [execOp,he],by rw [← he]; exact X4 h hx⟩
end Go.Proofs.YtjagfionflbjbaaGreat.SH
namespace Go.Proofs.YtjagfionflbjbaaGreat.SH
open Go Go.RowKit
def stA (_:Nat):Bool:=true
theorem D1j {F:Fr}{sl slR:List (Nat×PV)}{bx pre pre' T T' U U':List (Nat×Blk)}
  (hp:b6 pre=true) (hbp:∀ k B,bx.lookup k=some B→pre.lookup k=some B) (hpp:∀ k B,pre'.lookup k=some B→pre.lookup k=some B)
  (hT:∀ k B,T.lookup k=some B→U.lookup k=some B∧1000≤k) (hT':∀ k B,T'.lookup k=some B→1000≤k)
  (hU:∀ k B,U'.lookup k=some B→T'.lookup k=some B∨(1000≤k∧U.lookup k=some B∧T.lookup k=none∧T'.lookup k=none))
  (hfix:∀ q B1,T'.lookup q=some B1→∃ B0,T.lookup q=some B0∧B1.sz=B0.sz∧B1.cs.len=B0.cs.len)
  (hS:d7 ⟨sl,pre++U⟩ slR) (hw:Whole (bx++T')) :
  d0a stA F ⟨sl,pre++U⟩ (bx++T) (bx++T') slR (pre'++U'):=by
 have hbx:∀ k,1000≤k→bx.lookup k=none:=fun k hk=>by
  cases e:bx.lookup k with
  | none=>rfl
  | some B=>have:=d0w hp (hbp k B e); omega
 have hTl:∀ k,k<1000→T.lookup k=none:=fun k hk=>by
  cases e:T.lookup k with
  | none=>rfl
  | some B=>have:=(hT k B e).2; omega
 have hTl':∀ k,k<1000→T'.lookup k=none:=fun k hk=>by
  cases e:T'.lookup k with
  | none=>rfl
  | some B=>have:=hT' k B e; omega
 refine ⟨fun j B hj=>?_,hS,fun k B hk=>?_,fun q B1 hq hq1=>?_,fun t v ht q hq hs=>(by cases hs),fun j hj hs=>(by cases hs),fun j hj=>rfl,hw⟩
 ·show (pre++U).lookup j=some B
  rw [T1] at hj ⊢
  cases e:bx.lookup j with
  | some C=>rw [e,K0] at hj; rw [hbp j C e,K0,hj]
  | none =>
   rw [e,l0] at hj
   rw [s5 hp (hT j B hj).2,l0]; exact (hT j B hj).1
 ·rw [T1] at hk
  show _∨((pre++U).lookup k=some B∧_)
  rw [T1,T1,T1]
  cases e:pre'.lookup k with
  | some C =>
   rw [e,K0] at hk
   injection hk with hk
   subst hk
   have h3:=hpp k C e
   have h4:=d0w hp h3
   rw [h3,hTl k h4,hTl' k h4,K0,Option.or_none]
   cases e2:bx.lookup k with
   | some D =>
    have:=hbp k D e2
    rw [h3] at this
    exact .inl this.symm
   | none=>exact .inr ⟨rfl,rfl,rfl,fun i x hx q hq hs=>(by cases hs)⟩
  | none =>
   rw [e,l0] at hk
   rcases hU k B hk with h | ⟨h1,h3,h4,h5⟩
   ·exact .inl (by rw [hbx k (hT' k B h),l0,h])
   ·exact .inr ⟨by rw [s5 hp h1,l0,h3],by rw [hbx k h1,h4]; rfl,by rw [hbx k h1,h5]; rfl,fun i x hx q hq hs=>(by cases hs)⟩
 ·rw [T1] at hq1 ⊢
  cases e:bx.lookup q with
  | some C=>rw [e,K0] at hq1; injection hq1 with hq1; subst hq1; exact ⟨C,rfl,rfl,rfl⟩
  | none =>
   rw [e,l0] at hq1
   obtain ⟨B0,h1,h3⟩:=hfix q B1 hq1
   exact ⟨B0,by rw [l0]; exact h1,h3⟩
end Go.Proofs.YtjagfionflbjbaaGreat.SH
namespace Go.Proofs.YtjagfionflbjbaaGreat.SH
open Go
theorem g0h {P:Program}{F:Fr}{d:Nat}{t T:TypeId}{pos:String}{aft:Array Edge}{g:Option (Nat×Bool)}{k:Nat}{x:Operand}{j off tot:Nat}{B:Blk}(hl:B.cs.len=tot)(hf:(j != k)=true)(hpk:F.pin k=none)(hlt:d<F.nt) :
  O2 P F ⟨some d,.box t x,T,pos,aft,g⟩ { rs:=[(x,.at_ j off tot)],rb:=[(j,B)],fresh:=some k,ws:=[(d,.at_ k 0 1)],wb:=[(k,⟨t,1,.mix [.at_ j off tot]⟩)] } :=
 j0x (n:=1) (vs:=[.at_ j off tot]) rfl hpk hlt rfl rfl rfl rfl fun ρ S a w h hA=>by
  have hx:=hA.rs (x,.at_ j off tot) (by simp)
  have he:=b9 h hx (hA.rb (j,B) (by simp)) hl
  have hr:=X4 h hx
  refine ⟨[a.eval x],?_,by simp only [C3]; exact ⟨_,_,rfl,hr,rfl⟩,fun c hc=>?_,by simp only [PV.freeL,PV.free,hf]; rfl⟩
  ·rw [he]; simp [execOp,he,Instr.box,newVar,newRow,Value.cells]
  ·obtain rfl:=List.mem_singleton.1 hc
   rw [he]; rfl
end Go.Proofs.YtjagfionflbjbaaGreat.SH
namespace Go.Proofs.YtjagfionflbjbaaGreat.SH
open Go
theorem p0T {pre T:List (Nat×Blk)}{k:Nat}(h:K5 T)(hk:(Nat.blt k 1000 && (pre.lookup k).isNone)=true):(pre++T).lookup k=none:=by
 rw [j0] at hk
 rw [T1,h.low k hk.1,Option.or_none]
 exact Option.isNone_iff_eq_none.1 hk.2
end Go.Proofs.YtjagfionflbjbaaGreat.SH
set_option maxRecDepth 100000
set_option maxHeartbeats 4000000
namespace Go.Proofs.YtjagfionflbjbaaGreat.N
open Go Go.Proofs.YtjagfionflbjbaaGreat.SH Go.Proofs.YtjagfionflbjbaaGreat.NumA
open Go.Proofs.Tryz renaming call65→cl65,call91→cl91,call93→cl93,call94→cl94,call95→cl95,call96→cl96,call98→cl98,call99→cl99,isAgg3→ag3,isAgg47→ag47,isAgg73→ag73,isAgg77→ag77,sizeOf47→sz47,sizeOf77→sz77,underlying77→un77,underlying79→un79
@[reducible] def bxI (k:Nat)(i:Nat):Nat×Blk:=(k,⟨3,1,.mix [.p (vZ i)]⟩)
theorem d5 {s k:Nat}{B:Blk}{m:List (List Rat)}(h2:s<9)(h:(I2 s m).lookup k=some B):1000≤k:=by
 rcases P5 h2 (show (I2 s m).lookup k≠none by rw [h]; simp) with rfl | ⟨q,_,rfl⟩
 ·omega
 ·simp only [E3]; omega
theorem f0b {s:Nat}{m m':List (List Rat)}(h2:s<9)(hl:m'.length=m.length){q:Nat}{B1:Blk}(hq:q<1100)(h:(I2 s m').lookup q=some B1):∃ B0,(I2 s m).lookup q=some B0∧B1.sz=B0.sz∧B1.cs.len=B0.cs.len:=by
 rcases P5 h2 (show (I2 s m').lookup q≠none by rw [h]; simp) with rfl | ⟨q,_,rfl⟩
 ·rw [hdL] at h
  injection h with h
  subst h
  exact ⟨hdB s m,hdL,rfl,by simp [Cells.len,hl]⟩
 ·simp only [E3] at hq; omega
theorem v1h {bx T:List (Nat×Blk)}(hb:(bx.all fun p=>p.2.cs.only [])=true)(hT:Whole T)(hd:∀ k B,T.lookup k=some B→bx.lookup k=none):Whole (bx++T):=by
 intro j B hj i x hx q hq
 rw [T1] at hj ⊢
 cases e:bx.lookup j with
 | some C =>
  rw [e,K0] at hj
  injection hj with hj
  subst hj
  rw [s0] at hb
  have:=PV.only_mem (Cells.only_get (hb _ (L3 e)) hx) hq
  simp at this
 | none =>
  rw [e,l0] at hj
  have:=hT j B hj i x hx q hq
  intro hn
  cases e2:T.lookup q with
  | none=>exact this e2
  | some C=>rw [hd q C e2,l0,e2] at hn; cases hn
theorem ncM {F:Fr}{n:Nat}{sl:List (Nat×PV)}{bx:List (Nat×Blk)}{s:Nat}{m m':List (List Rat)}(h2:s<9)(hl:m'.length=m.length)(G:GFr E y8 (bx++I2 s m) n F)(hp:b6 bx=true)(hb:(bx.all fun p=>p.2.cs.only [])=true) :
  d0a y8 F ⟨sl,bx++I2 s m⟩ (I2 s m) (I2 s m') [] (bx++I2 s m') :=
 ncT (bx:=[]) (T:=I2 s m) (T':=I2 s m') (U:=I2 s m) (U':=I2 s m') [] rfl hp (fun k B h=>by cases h) (fun k B h=>h) (fun k B h=>⟨h,d5 h2 h⟩) (fun k B h=>d5 h2 h) (fun k B h=>.inl h) (fun q B1 hq h=>f0b h2 hl hq h) hb rfl trivial
  (fun j hj h=>by
   rw [G.lo,T1,s5 hp oM,l0]
   cases e:(I2 s m).lookup j with
   | none=>exact absurd e h
   | some B=>rfl) G.ps (i2 h2 m').whole
theorem w0s (s:Nat)(m:List (List Rat))(i p:Nat)(h2:s<9)(hi:i<m.length)(hp:p<m.length)(hne:i≠p):E4 E y8 93 [.ref (s+1001) 0 m.length m.length,.at_ 6 0 1,.at_ 5 0 1] ([bxI 5 p,bxI 6 i]++I2 s m) ([bxI 5 p,bxI 6 i]++I2 s (J5 m i p)) (.p (.tup [])):=by
 refine j4 (xs:=[]) Tryz.func93 rfl Tryz.ntmps93 Tryz.results93 sM fun F G=>?_
 have L:=@lti _ _ G.nt
 have hG:=G.g
 have hX:=G.x
 have hN:=U5 hG
 refine D0f (nsw (c_m L) t1 t0 (nsw (Y1 ag3 rF rF L) t1 t1 ?_))
 refine nsw (Y1 ag3 rF rF L) t1 t1 ?_
 refine nsI hG hX hN [] ([(5,_),(6,_)]++(I2 s (J5 m i p))) (q1n s m i p h2 hi hp hne) L (U4 (ys:=[_,_,_]) cl94 rfl rfl) t3 (by exact ncM (bx:=[bxI 5 p,bxI 6 i]) h2 sM G rfl rfl) (fun q h=>by cases h) rfl ?_
 refine .nil ?_
 refine ⟨.inl rfl,O4.cast .nil ?_,⟨rfl,rfl,hbT [_,_] (i2 h2 _) rfl⟩⟩
 rfl
@[reducible] def bxQ (k:Nat)(c:Rat):Nat×Blk:=(k,bQ c)
theorem q0z (s:Nat)(m:List (List Rat))(p:Nat)(c:Rat)(h2:s<9)(hp:p<m.length)(hl:(m.getD p []).length<1000000000)(hs:∀ a∈m.getD p [],qw a<1000000000)(hc:qw c<1000000000):E4 E y8 95 [.ref (s+1001) 0 m.length m.length,.at_ 5 0 1,.at_ 8 0 4] ([bxI 5 p,bxQ 8 c]++I2 s m) ([bxI 5 p,bxQ 8 c]++I2 s (m.set p ((m.getD p []).map (· * c)))) (.p (.tup [])):=by
 refine j4 (xs:=[]) Tryz.func95 rfl Tryz.ntmps95 Tryz.results95 sM fun F G=>?_
 have L:=@lti _ _ G.nt
 have hG:=G.g
 have hX:=G.x
 have hN:=U5 hG
 refine D0f (nsw (c_m L) t1 t0 (nsw (Y1 ag3 rF rF L) t1 t1 ?_))
 refine nsw (n6 ag47 sz47 rF (by exact al4) rfl L) t1 t1 ?_
 refine nsI hG hX hN [] ([(5,_),(8,_)]++(I2 s (m.set p ((m.getD p []).map (· * c))))) (D0v (b1v s m p c h2 hp hl hs hc) (fun _ _=>rfl)) L (U4 (ys:=[_,_,_]) cl96 rfl rfl) t3 (by exact ncM (bx:=[bxI 5 p,bxQ 8 c]) h2 sM G rfl rfl) (fun q h=>by cases h) rfl ?_
 refine .nil ?_
 refine ⟨.inl rfl,O4.cast .nil ?_,⟨rfl,rfl,hbT [_,_] (i2 h2 _) rfl⟩⟩
 rfl
def D9 (m m':List (List Rat)):Prop:=m'.length=m.length∧∀ i,(m'.getD i []).length=(m.getD i []).length
theorem n1d {m:List (List Rat)}{i:Nat}{r:List Rat}(h:r.length=(m.getD i []).length):D9 m (m.set i r):=by
 refine ⟨by simp,fun j=>?_⟩
 rw [f0,List.getElem?_set]
 by_cases e:i=j
 ·subst e
  rw [if_pos rfl]
  by_cases hi:i<m.length
  ·rw [if_pos hi]; exact h
  ·rw [if_neg hi,f0,List.getElem?_eq_none oM]
 ·rw [if_neg e,f0]
theorem M9 {s:Nat}{m m':List (List Rat)}(h2:s<9)(hl:D9 m m'){q:Nat}{B1:Blk}(h:(I2 s m').lookup q=some B1):∃ B0,(I2 s m).lookup q=some B0∧B1.sz=B0.sz∧B1.cs.len=B0.cs.len:=by
 rcases P5 h2 (show (I2 s m').lookup q≠none by rw [h]; simp) with rfl | ⟨q,hq,rfl⟩
 ·rw [hdL] at h
  injection h with h
  subst h
  exact ⟨hdB s m,hdL,rfl,by simp [Cells.len,hl.1]⟩
 ·rw [rwL h2 hq] at h
  injection h with h
  subst h
  exact ⟨_,rwL h2 (by rw [← hl.1]; exact hq),rfl,by simp only [Cells.len,Y2,hl.2 q]⟩
theorem b2v {F:Fr}{n:Nat}{sl:List (Nat×PV)}{bx:List (Nat×Blk)}{s:Nat}{m m':List (List Rat)}(h2:s<9)(hl:D9 m m')(hp:b6 bx=true) :
  d0a stA F ⟨sl,bx++I2 s m⟩ (I2 s m) (I2 s m') [] (bx++I2 s m') :=
 D1j (bx:=[]) (T:=I2 s m) (T':=I2 s m') (U:=I2 s m) (U':=I2 s m') hp (fun k B h=>by cases h) (fun k B h=>h) (fun k B h=>⟨h,d5 h2 h⟩) (fun k B h=>d5 h2 h) (fun k B h=>.inl h) (fun q B1 h=>M9 h2 hl h) t0 (i2 h2 m').whole
theorem m0a {m:List (List Rat)}{i p:Nat}{c:Rat}(hlen:(m.getD p []).length=(m.getD i []).length):D9 m (V7 m i p c):=n1d (by simp; simp at hlen; omega)
theorem w0d (s:Nat)(m:List (List Rat))(i p:Nat)(c:Rat)(B C D:Nat)(h2:s<9)(hi:i<m.length)(hp:p<m.length)(hne:i≠p)(hlen:(m.getD p []).length=(m.getD i []).length)(hl:(m.getD i []).length<1000000000)(hB:∀ a∈m.getD i [],qw a≤B)(hC:∀ a∈m.getD p [],qw a≤C)(hD:qw c≤D)(hb:B+(D+C)+1<1000000000):E4 E stA 98 [.ref (s+1001) 0 m.length m.length,.at_ 10 0 1,.at_ 5 0 1,.at_ 11 0 4] ([bxI 5 p,bxI 10 i,bxQ 11 c]++I2 s m) ([bxI 5 p,bxI 10 i,bxQ 11 c]++I2 s (V7 m i p c)) (.p (.tup [])):=by
 refine j4 (xs:=[]) Tryz.func98 rfl Tryz.ntmps98 Tryz.results98 sM fun F G=>?_
 have L:=@lti _ _ G.nt
 have hG:=G.g
 have hX:=G.x
 have hN:=U5 hG
 refine D0f (nsw (c_m L) t1 t0 (nsw (Y1 ag3 rF rF L) t1 t1 ?_))
 refine nsw (Y1 ag3 rF rF L) t1 t1 ?_
 refine nsw (n6 ag47 sz47 rF (by exact al4) rfl L) t1 t1 ?_
 refine nsI hG hX hN [] ([(5,_),(10,_),(11,_)]++(I2 s (V7 m i p c))) (D0v (f1y s m i p c B C D h2 hi hp hne hlen hl hB hC hD hb) (fun _ _=>rfl)) L (U4 (ys:=[_,_,_,_]) cl99 rfl rfl) t4 (by exact b2v (n:=0) (bx:=[bxI 5 p,bxI 10 i,bxQ 11 c]) h2 (m0a hlen) rfl) (fun q h=>by cases h) rfl ?_
 refine .nil ?_
 refine ⟨.inl rfl,O4.cast .nil ?_,⟨rfl,rfl,rfl,hbT [_,_,_] (i2 h2 _) rfl⟩⟩
 rfl
@[reducible] def wB (c n:Nat):Option Nat→Blk
 | none=>⟨79,3,.mix [.ref 1001 0 n n,.p (vZ c),.p (.a (.slice none 0 0))]⟩
 | some k=>⟨79,3,.mix [.ref 1001 0 n n,.p (vZ c),.ref 1002 0 k k]⟩
theorem J0k {s k i q:Nat}{m:List (List Rat)}{B:Blk}{x:PV}(h2:s<9)(h:(I2 s m).lookup k=some B)(hx:B.cs.get i=some x)(hq:x.free q=false):∃ j,q=E3 s j:=by
 rcases P5 h2 (show (I2 s m).lookup k≠none by rw [h]; simp) with rfl | ⟨j,hj,rfl⟩
 ·rw [hdL] at h
  injection h with h
  subst h
  obtain ⟨v,_,e⟩:=D0c hx hq
  exact ⟨_,e⟩
 ·rw [rwL h2 hj] at h
  injection h with h
  subst h
  simp only [Cells.get,M0] at hx
  obtain ⟨y,_,rfl⟩:=hx
  simp [PV.free] at hq
theorem J8 {s s' k:Nat}{m b:List (List Rat)}(h2:s<2)(h2':s'<2)(hne:s≠s')(h:(I2 s m).lookup k≠none):(I2 s' b).lookup k=none:=by
 cases e:(I2 s' b).lookup k with
 | none=>rfl
 | some B =>
  rcases P5 oM h with rfl | ⟨q,_,rfl⟩ <;> rcases P5 oM (show (I2 s' b).lookup _≠none by rw [e]; simp) with h3 | ⟨q',_,h3⟩ <;> (try simp only [E3] at h3) <;> omega
theorem q1a {s k:Nat}{m m':List (List Rat)}(h2:s<9)(hl:m'.length=m.length)(h:(I2 s m).lookup k=none):(I2 s m').lookup k=none:=by
 cases e:(I2 s m').lookup k with
 | none=>rfl
 | some B =>
  rcases P5 h2 (show (I2 s m').lookup k≠none by rw [e]; simp) with rfl | ⟨q,hq,rfl⟩
  ·rw [hdL] at h; cases h
  ·exact absurd h (V0c h2 oM)
theorem M7 (m b:List (List Rat)):K5 (I2 0 m++I2 1 b):=by
 have h0:=i2 (s:=0) dC m
 have h1:=i2 (s:=1) dC b
 refine ⟨fun k hk=>by rw [T1,h0.low k hk,h1.low k hk]; rfl,?_,fun k hk=>by rw [L4,h0.free k hk,h1.free k hk]; rfl,fun j B hj i x hx q hq=>?_⟩
 ·rw [List.map_append,List.nodup_append]
  refine ⟨h0.nd,h1.nd,fun a ha b' hb e=>?_⟩
  subst e
  obtain ⟨⟨a,A⟩,hA,rfl⟩:=G0.1 ha
  obtain ⟨⟨a',A'⟩,hA',e⟩:=G0.1 hb
  simp only at e
  subst e
  have:=J8 (m:=m) (b:=b) (k:=a') (s:=0) (s':=1) dC dC dC (by rw [R5 h0.nd hA]; simp)
  rw [R5 h1.nd hA'] at this; cases this
 ·rw [T1] at hj ⊢
  cases e:(I2 0 m).lookup j with
  | some C =>
   rw [e,K0] at hj
   injection hj with hj
   subst hj
   have:=h0.whole j C e i x hx q hq
   obtain ⟨D,hD⟩:=j1.1 this
   rw [hD]; simp
  | none =>
   rw [e,l0] at hj
   have:=h1.whole j B hj i x hx q hq
   obtain ⟨D,hD⟩:=j1.1 this
   rw [hD]; simp
theorem V1d {m b:List (List Rat)}:(I2 0 m++I2 1 b).lookup 1002=some (hdB 1 b):=by
 rw [T1,J8 (m:=b) (b:=m) (k:=1002) (s:=1) (s':=0) dC dC dC (by rw [show 1002=1+1001 from rfl,hdL]; simp),l0]; exact hdL
@[reducible] def ks8:List Nat:=[1,3,4,5,6,7,8,10,11,999,1001,1002,1003]
theorem j1y {F:Fr}{n:Nat}{H0 pre T:List (Nat×Blk)}(G:GFr E y8 H0 n F)(h:∀ k,T.lookup k≠none→H0.lookup k≠none):∀ j,1100≤j→T.lookup j≠none→F.lo j=false:=fun j _ hj=>by
 rw [G.lo]
 cases e:H0.lookup j with
 | none=>exact absurd e (h j hj)
 | some B=>rfl
theorem K8 {pre T:List (Nat×Blk)}{k:Nat}(h:T.lookup k≠none):(pre++T).lookup k≠none:=by
 rw [T1]
 cases pre.lookup k with
 | none=>simpa using h
 | some B=>simp
theorem m0c {T U:List (Nat×Blk)}{k:Nat}(h:T.lookup k≠none):(T++U).lookup k≠none:=by
 rw [T1]
 cases e:T.lookup k with
 | none=>exact absurd e h
 | some B=>simp
theorem v0d {bx r:List (Nat×Blk)}:∀ k B,bx.lookup k=some B→(bx++r).lookup k=some B:=fun k B h=>by rw [T1,h]; rfl
theorem q1f {bx T:List (Nat×Blk)}(hp:b6 bx=true)(hT:∀ k B,T.lookup k=some B→1000≤k)(hb:(bx.all fun p=>p.2.cs.only [])=true)(hw:Whole T):Whole (bx++T) :=
 v1h hb hw fun k B h=>s5 hp (hT k B h)
theorem nc1 {F:Fr}{n:Nat}{sl slR:List (Nat×PV)}{bx r:List (Nat×Blk)}{m m':List (List Rat)}(hl:m'.length=m.length)(G:GFr E y8 ((bx++r)++I2 0 m) n F)(hp:b6 (bx++r)=true)(hp':b6 bx=true)(hb:(bx.all fun p=>p.2.cs.only [])=true)(hpo:((bx++r).all fun p=>p.2.cs.only ks8)=true)(hso:(slR.all fun p=>p.2.only ks8)=true)(hS:d7 ⟨sl,(bx++r)++I2 0 m⟩ slR) :
  d0a y8 F ⟨sl,(bx++r)++I2 0 m⟩ (bx++I2 0 m) (bx++I2 0 m') slR ((bx++r)++I2 0 m') :=
 ncT (pre:=bx++r) (pre':=bx++r) ks8 rfl hp v0d (fun k B h=>h) (fun k B h=>⟨h,d5 dC h⟩) (fun k B h=>d5 dC h) (fun k B h=>.inl h) (fun q B1 hq h=>f0b dC hl hq h) hpo hso hS
  (j1y (pre:=[]) G fun k h=>K8 h) G.ps (q1f hp' (fun k B h=>d5 dC h) hb (i2 dC m').whole)
theorem W1d {F:Fr}{n:Nat}{sl slR:List (Nat×PV)}{bx r:List (Nat×Blk)}{m m' b:List (List Rat)}(hl:m'.length=m.length)(G:GFr E y8 ((bx++r)++(I2 0 m++I2 1 b)) n F)(hp:b6 (bx++r)=true)(hp':b6 bx=true)(hb:(bx.all fun p=>p.2.cs.only [])=true)(hpo:((bx++r).all fun p=>p.2.cs.only ks8)=true)(hso:(slR.all fun p=>p.2.only ks8)=true)(hS:d7 ⟨sl,(bx++r)++(I2 0 m++I2 1 b)⟩ slR) :
  d0a y8 F ⟨sl,(bx++r)++(I2 0 m++I2 1 b)⟩ (bx++I2 0 m) (bx++I2 0 m') slR ((bx++r)++(I2 0 m'++I2 1 b)) :=
 ncT (pre:=bx++r) (pre':=bx++r) ks8 rfl hp v0d (fun k B h=>h) (fun k B h=>⟨by rw [T1,h]; rfl,d5 dC h⟩) (fun k B h=>d5 dC h)
  (fun k B h=>by
   rw [T1] at h
   cases e:(I2 0 m').lookup k with
   | some C=>rw [e] at h; exact .inl h
   | none =>
    rw [e,l0] at h
    have h0:=J8 (m:=b) (b:=m) (k:=k) (s:=1) (s':=0) dC dC dC (by rw [h]; simp)
    refine .inr ⟨d5 dC h,by rw [T1,h0,l0,h],h0,rfl,fun i x hx q hq _=>?_⟩
    obtain ⟨j,rfl⟩:=J0k dC h hx hq
    cases e2:(I2 0 m').lookup (E3 1 j) with
    | none=>rfl
    | some C=>rcases P5 dC (show (I2 0 m').lookup _≠none by rw [e2]; simp) with h3 | ⟨q',_,h3⟩ <;> simp only [E3] at h3 <;> omega)
  (fun q B1 hq h=>f0b dC hl hq h) hpo hso hS (j1y (pre:=[]) G fun k h=>K8 (m0c h)) G.ps (q1f hp' (fun k B h=>d5 dC h) hb (i2 dC m').whole)
theorem W1a {F:Fr}{n:Nat}{sl slR:List (Nat×PV)}{bx r:List (Nat×Blk)}{m0 m b b':List (List Rat)}(hl:b'.length=b.length)(G:GFr E y8 ((bx++r)++(I2 0 m0++I2 1 b)) n F)(hp:b6 (bx++r)=true)(hp':b6 bx=true)(hb:(bx.all fun p=>p.2.cs.only [])=true)(hpo:((bx++r).all fun p=>p.2.cs.only ks8)=true)(hso:(slR.all fun p=>p.2.only ks8)=true)(hS:d7 ⟨sl,(bx++r)++(I2 0 m++I2 1 b)⟩ slR) :
  d0a y8 F ⟨sl,(bx++r)++(I2 0 m++I2 1 b)⟩ (bx++I2 1 b) (bx++I2 1 b') slR ((bx++r)++(I2 0 m++I2 1 b')):=by
 have hdd:∀ (b:List (List Rat)) k B,(I2 1 b).lookup k=some B→(I2 0 m).lookup k=none:=fun b k B h=>J8 (m:=b) (b:=m) (k:=k) (s:=1) (s':=0) dC dC dC (by rw [h]; simp)
 have hdd':∀ (b:List (List Rat)) k B,(I2 0 m).lookup k=some B→(I2 1 b).lookup k=none:=fun b k B h=>J8 (m:=m) (b:=b) (k:=k) (s:=0) (s':=1) dC dC dC (by rw [h]; simp)
 refine ncT (pre:=bx++r) (pre':=bx++r) ks8 rfl hp v0d (fun k B h=>h) (fun k B h=>⟨by rw [T1,hdd b k B h,l0,h],d5 dC h⟩) (fun k B h=>d5 dC h)
  (fun k B h=>?_)
  (fun q B1 hq h=>f0b dC hl hq h) hpo hso hS (j1y (pre:=[]) G fun k h=>K8 (K8 h)) G.ps (q1f hp' (fun k B h=>d5 dC h) hb (i2 dC b').whole)
 rw [T1] at h
 cases e:(I2 0 m).lookup k with
 | none=>rw [e,l0] at h; exact .inl h
 | some C =>
  rw [e,K0] at h
  injection h with h
  subst h
  refine .inr ⟨d5 dC e,by rw [T1,e]; rfl,hdd' b k C e,hdd' b' k C e,fun i x hx q hq _=>?_⟩
  obtain ⟨j,rfl⟩:=J0k dC e hx hq
  cases e2:(I2 1 b').lookup (E3 0 j) with
  | none=>rfl
  | some D=>rcases P5 dC (show (I2 1 b').lookup _≠none by rw [e2]; simp) with h3 | ⟨q',_,h3⟩ <;> simp only [E3] at h3 <;> omega
theorem b2h {F:Fr}{sl slR:List (Nat×PV)}{bx r:List (Nat×Blk)}{m m':List (List Rat)}(hl:D9 m m')(hp:b6 (bx++r)=true)(hp':b6 bx=true)(hb:(bx.all fun p=>p.2.cs.only [])=true)(hS:d7 ⟨sl,(bx++r)++I2 0 m⟩ slR) :
  d0a stA F ⟨sl,(bx++r)++I2 0 m⟩ (bx++I2 0 m) (bx++I2 0 m') slR ((bx++r)++I2 0 m') :=
 D1j (pre:=bx++r) (pre':=bx++r) hp v0d (fun k B h=>h) (fun k B h=>⟨h,d5 dC h⟩) (fun k B h=>d5 dC h) (fun k B h=>.inl h) (fun q B1 h=>M9 dC hl h) hS (q1f hp' (fun k B h=>d5 dC h) hb (i2 dC m').whole)
theorem W1f {F:Fr}{sl slR:List (Nat×PV)}{bx r:List (Nat×Blk)}{m m' b:List (List Rat)}(hl:D9 m m')(hp:b6 (bx++r)=true)(hp':b6 bx=true)(hb:(bx.all fun p=>p.2.cs.only [])=true)(hS:d7 ⟨sl,(bx++r)++(I2 0 m++I2 1 b)⟩ slR) :
  d0a stA F ⟨sl,(bx++r)++(I2 0 m++I2 1 b)⟩ (bx++I2 0 m) (bx++I2 0 m') slR ((bx++r)++(I2 0 m'++I2 1 b)) :=
 D1j (pre:=bx++r) (pre':=bx++r) hp v0d (fun k B h=>h) (fun k B h=>⟨by rw [T1,h]; rfl,d5 dC h⟩) (fun k B h=>d5 dC h)
  (fun k B h=>by
   rw [T1] at h
   cases e:(I2 0 m').lookup k with
   | some C=>rw [e] at h; exact .inl h
   | none =>
    rw [e,l0] at h
    have h0:=J8 (m:=b) (b:=m) (k:=k) (s:=1) (s':=0) dC dC dC (by rw [h]; simp)
    exact .inr ⟨d5 dC h,by rw [T1,h0,l0,h],h0,rfl⟩)
  (fun q B1 h=>M9 dC hl h) hS (q1f hp' (fun k B h=>d5 dC h) hb (i2 dC m').whole)
theorem V1x {F:Fr}{sl slR:List (Nat×PV)}{bx r:List (Nat×Blk)}{m b b':List (List Rat)}(hl:D9 b b')(hp:b6 (bx++r)=true)(hp':b6 bx=true)(hb:(bx.all fun p=>p.2.cs.only [])=true)(hS:d7 ⟨sl,(bx++r)++(I2 0 m++I2 1 b)⟩ slR) :
  d0a stA F ⟨sl,(bx++r)++(I2 0 m++I2 1 b)⟩ (bx++I2 1 b) (bx++I2 1 b') slR ((bx++r)++(I2 0 m++I2 1 b')):=by
 have hdd:∀ (b:List (List Rat)) k B,(I2 1 b).lookup k=some B→(I2 0 m).lookup k=none:=fun b k B h=>J8 (m:=b) (b:=m) (k:=k) (s:=1) (s':=0) dC dC dC (by rw [h]; simp)
 have hdd':∀ (b:List (List Rat)) k B,(I2 0 m).lookup k=some B→(I2 1 b).lookup k=none:=fun b k B h=>J8 (m:=m) (b:=b) (k:=k) (s:=0) (s':=1) dC dC dC (by rw [h]; simp)
 refine D1j (pre:=bx++r) (pre':=bx++r) hp v0d (fun k B h=>h) (fun k B h=>⟨by rw [T1,hdd b k B h,l0,h],d5 dC h⟩) (fun k B h=>d5 dC h)
  (fun k B h=>?_) (fun q B1 h=>M9 dC hl h) hS (q1f hp' (fun k B h=>d5 dC h) hb (i2 dC b').whole)
 rw [T1] at h
 cases e:(I2 0 m).lookup k with
 | none=>rw [e,l0] at h; exact .inl h
 | some C =>
  rw [e,K0] at h
  injection h with h
  subst h
  exact .inr ⟨d5 dC e,by rw [T1,e]; rfl,hdd' b k C e,hdd' b' k C e⟩
theorem P1k (c:Nat)(m:List (List Rat))(i p:Nat)(hi:i<m.length)(hp:p<m.length)(hne:i≠p):E4 E y8 92 [.at_ 999 0 3,.clo (.func 93) [] [.at_ 6 0 1,.at_ 5 0 1]] ([bxI 5 p,bxI 6 i,(999,wB c m.length none)]++I2 0 m) ([bxI 5 p,bxI 6 i,(999,wB c m.length none)]++I2 0 (J5 m i p)) (.p (.tup [])):=by
 refine j4 (xs:=[]) Tryz.func92 rfl Tryz.ntmps92 Tryz.results92 sM fun F G=>?_
 have L:=@lti _ _ G.nt
 have hG:=G.g
 have hX:=G.x
 have hN:=U5 hG
 refine m0m (nsw (c_m L) t1 t0 (nsw (c_m L) t1 t0 (nsw (Z2 rX L) t1 t1 ?_)))
 refine nsw (Z1 un79 rfl sz77 dC rX L) t1 t1 ?_
 refine nsw (Y1 ag77 rF rF L) t1 t1 ?_
 refine nsI hG hX hN [(0,.at_ 999 0 3),(1,.clo (.func 93) .nil [.at_ 6 0 1,.at_ 5 0 1])] ([(5,_),(6,_),(999,_)]++(I2 0 (J5 m i p))) (w0s 0 m i p dC hi hp hne) L (j7 (fst:=[]) (ys:=[_]) (cap:=[_,_]) cl93 rfl rfl) t2 (by exact nc1 (bx:=[bxI 5 p,bxI 6 i]) (r:=[_]) sM G rfl rfl rfl rfl rfl t2) (fun q h=>by cases h) rfl ?_
 refine .nil ⟨[(0,_),(1,_)],(5,_) :: (6,_) :: (999,_) :: I2 0 (J5 m i p),t2,⟨rfl,rfl,rfl,(hbT [_,_,_] (i2 dC (J5 m i p)) rfl)⟩,?_⟩
 refine exr (mV L rfl (sw (Z2 rX L) t1 t1 ?_))
 refine sw (Z1 un79 rfl sz77 dC rX L) t1 t1 ?_
 refine sw (Y1 ag77 rF rF L) t1 t1 ?_
 refine sw (w0f un77 L) t2 t0 ?_
 refine O1 ⟨[(0,_),(1,_),(14,_)],(5,_) :: (6,_) :: (999,_) :: (I2 0 (J5 m i p)),t3,⟨rfl,rfl,rfl,(hbT [_,_,_] (i2 dC (J5 m i p)) rfl)⟩,?_⟩
 refine P3 rfl rfl (U1 ?_)
 refine ⟨.inl rfl,O4.cast .nil ?_,⟨rfl,rfl,rfl,(hbT [_,_,_] (i2 dC (J5 m i p)) rfl)⟩⟩
 rfl
theorem P1y (c:Nat)(m b:List (List Rat))(i p:Nat)(hi:i<m.length)(hp:p<m.length)(hne:i≠p)(hib:i<b.length)(hpb:p<b.length):E4 E y8 92 [.at_ 999 0 3,.clo (.func 93) [] [.at_ 6 0 1,.at_ 5 0 1]] ([bxI 5 p,bxI 6 i,(999,wB c m.length (some b.length))]++(I2 0 m++I2 1 b)) ([bxI 5 p,bxI 6 i,(999,wB c m.length (some b.length))]++(I2 0 (J5 m i p)++I2 1 (J5 b i p))) (.p (.tup [])):=by
 refine j4 (xs:=[]) Tryz.func92 rfl Tryz.ntmps92 Tryz.results92 sM fun F G=>?_
 have L:=@lti _ _ G.nt
 have hG:=G.g
 have hX:=G.x
 have hN:=U5 hG
 refine m0m (nsw (c_m L) t1 t0 (nsw (c_m L) t1 t0 (nsw (Z2 rX L) t1 t1 ?_)))
 refine nsw (Z1 un79 rfl sz77 dC rX L) t1 t1 ?_
 refine nsw (Y1 ag77 rF rF L) t1 t1 ?_
 refine nsI hG hX hN [(0,.at_ 999 0 3),(1,.clo (.func 93) .nil [.at_ 6 0 1,.at_ 5 0 1])] ([(5,_),(6,_),(999,_)]++(I2 0 (J5 m i p)++I2 1 b)) (w0s 0 m i p dC hi hp hne) L (j7 (fst:=[]) (ys:=[_]) (cap:=[_,_]) cl93 rfl rfl) t2 (by exact W1d (bx:=[bxI 5 p,bxI 6 i]) (r:=[_]) sM G rfl rfl rfl rfl rfl t2) (fun q h=>by cases h) rfl ?_
 refine .nil ⟨[(0,_),(1,_)],(5,_) :: (6,_) :: (999,_) :: I2 0 (J5 m i p)++I2 1 b,t2,⟨rfl,rfl,rfl,(hbT [_,_,_] (M7 (J5 m i p) b) rfl)⟩,?_⟩
 refine exr (mV L rfl (sw (Z2 rX L) t1 t1 ?_))
 refine sw (Z1 un79 rfl sz77 dC rX L) t1 t1 ?_
 refine sw (Y1 ag77 rF rF L) t1 t1 ?_
 refine sw (w0r un77 (by first | exact E2 _ _ _ | exact (E2 _ _ _).trans sM) L) t2 ⟨rdT [_,_,_] (M7 (J5 m i p) b) rfl V1d,trivial⟩ ?_
 refine O1 ⟨[(0,_),(1,_),(14,_)],(5,_) :: (6,_) :: (999,_) :: (I2 0 (J5 m i p)++I2 1 b),t3,⟨rfl,rfl,rfl,(hbT [_,_,_] (M7 (J5 m i p) b) rfl)⟩,?_⟩
 refine Z8 rfl rfl (D0f (nsw (c_m L) t1 t0 (nsw (c_m L) t1 t0 (nsw (Z2 rX L) t1 t1 ?_))))
 refine nsw (Z1 un79 rfl sz77 dC rX L) t1 t1 ?_
 refine nsw (Y1 ag77 rF rF L) t1 t1 ?_
 refine nsI hG hX hN [] ([(5,_),(6,_),(999,_)]++(I2 0 (J5 m i p)++I2 1 (J5 b i p))) (w0s 1 b i p dC hib hpb hne) L (j7 (fst:=[]) (ys:=[_]) (cap:=[_,_]) cl93 rfl rfl) t2 (by exact W1a (bx:=[bxI 5 p,bxI 6 i]) (r:=[_]) sM G rfl rfl rfl rfl rfl trivial) (fun q h=>by cases h) rfl ?_
 refine .nil ?_
 refine ⟨.inl rfl,O4.cast .nil ?_,⟨rfl,rfl,rfl,(hbT [_,_,_] (M7 (J5 m i p) (J5 b i p)) rfl)⟩⟩
 rfl
theorem Q1d (c:Nat)(m:List (List Rat))(p:Nat)(q:Rat)(hp:p<m.length)(hl:(m.getD p []).length<1000000000)(hs:∀ a∈m.getD p [],qw a<1000000000)(hc:qw q<1000000000):E4 E y8 92 [.at_ 999 0 3,.clo (.func 95) [] [.at_ 5 0 1,.at_ 8 0 4]] ([bxI 5 p,bxQ 8 q,(999,wB c m.length none)]++I2 0 m) ([bxI 5 p,bxQ 8 q,(999,wB c m.length none)]++I2 0 (m.set p ((m.getD p []).map (· * q)))) (.p (.tup [])):=by
 refine j4 (xs:=[]) Tryz.func92 rfl Tryz.ntmps92 Tryz.results92 sM fun F G=>?_
 have L:=@lti _ _ G.nt
 have hG:=G.g
 have hX:=G.x
 have hN:=U5 hG
 refine m0m (nsw (c_m L) t1 t0 (nsw (c_m L) t1 t0 (nsw (Z2 rX L) t1 t1 ?_)))
 refine nsw (Z1 un79 rfl sz77 dC rX L) t1 t1 ?_
 refine nsw (Y1 ag77 rF rF L) t1 t1 ?_
 refine nsI hG hX hN [(0,.at_ 999 0 3),(1,.clo (.func 95) .nil [.at_ 5 0 1,.at_ 8 0 4])] ([(5,_),(8,_),(999,_)]++(I2 0 (m.set p ((m.getD p []).map (· * q))))) (q0z 0 m p q dC hp hl hs hc) L (j7 (fst:=[]) (ys:=[_]) (cap:=[_,_]) cl95 rfl rfl) t2 (by exact nc1 (bx:=[bxI 5 p,bxQ 8 q]) (r:=[_]) sM G rfl rfl rfl rfl rfl t2) (fun q h=>by cases h) rfl ?_
 refine .nil ⟨[(0,_),(1,_)],(5,_) :: (8,_) :: (999,_) :: I2 0 (m.set p ((m.getD p []).map (· * q))),t2,⟨rfl,rfl,rfl,(hbT [_,_,_] (i2 dC (m.set p ((m.getD p []).map (· * q)))) rfl)⟩,?_⟩
 refine exr (mV L rfl (sw (Z2 rX L) t1 t1 ?_))
 refine sw (Z1 un79 rfl sz77 dC rX L) t1 t1 ?_
 refine sw (Y1 ag77 rF rF L) t1 t1 ?_
 refine sw (w0f un77 L) t2 t0 ?_
 refine O1 ⟨[(0,_),(1,_),(14,_)],(5,_) :: (8,_) :: (999,_) :: (I2 0 (m.set p ((m.getD p []).map (· * q)))),t3,⟨rfl,rfl,rfl,(hbT [_,_,_] (i2 dC (m.set p ((m.getD p []).map (· * q)))) rfl)⟩,?_⟩
 refine P3 rfl rfl (U1 ?_)
 refine ⟨.inl rfl,O4.cast .nil ?_,⟨rfl,rfl,rfl,(hbT [_,_,_] (i2 dC (m.set p ((m.getD p []).map (· * q)))) rfl)⟩⟩
 rfl
theorem Q1m (c:Nat)(m b:List (List Rat))(p:Nat)(q:Rat)(hp:p<m.length)(hl:(m.getD p []).length<1000000000)(hs:∀ a∈m.getD p [],qw a<1000000000)(hc:qw q<1000000000)(hpb:p<b.length)(hlb:(b.getD p []).length<1000000000)(hsb:∀ a∈b.getD p [],qw a<1000000000):E4 E y8 92 [.at_ 999 0 3,.clo (.func 95) [] [.at_ 5 0 1,.at_ 8 0 4]] ([bxI 5 p,bxQ 8 q,(999,wB c m.length (some b.length))]++(I2 0 m++I2 1 b)) ([bxI 5 p,bxQ 8 q,(999,wB c m.length (some b.length))]++(I2 0 (m.set p ((m.getD p []).map (· * q)))++I2 1 (b.set p ((b.getD p []).map (· * q))))) (.p (.tup [])):=by
 refine j4 (xs:=[]) Tryz.func92 rfl Tryz.ntmps92 Tryz.results92 sM fun F G=>?_
 have L:=@lti _ _ G.nt
 have hG:=G.g
 have hX:=G.x
 have hN:=U5 hG
 refine m0m (nsw (c_m L) t1 t0 (nsw (c_m L) t1 t0 (nsw (Z2 rX L) t1 t1 ?_)))
 refine nsw (Z1 un79 rfl sz77 dC rX L) t1 t1 ?_
 refine nsw (Y1 ag77 rF rF L) t1 t1 ?_
 refine nsI hG hX hN [(0,.at_ 999 0 3),(1,.clo (.func 95) .nil [.at_ 5 0 1,.at_ 8 0 4])] ([(5,_),(8,_),(999,_)]++(I2 0 (m.set p ((m.getD p []).map (· * q)))++I2 1 b)) (q0z 0 m p q dC hp hl hs hc) L (j7 (fst:=[]) (ys:=[_]) (cap:=[_,_]) cl95 rfl rfl) t2 (by exact W1d (bx:=[bxI 5 p,bxQ 8 q]) (r:=[_]) sM G rfl rfl rfl rfl rfl t2) (fun q h=>by cases h) rfl ?_
 refine .nil ⟨[(0,_),(1,_)],(5,_) :: (8,_) :: (999,_) :: I2 0 (m.set p ((m.getD p []).map (· * q)))++I2 1 b,t2,⟨rfl,rfl,rfl,(hbT [_,_,_] (M7 (m.set p ((m.getD p []).map (· * q))) b) rfl)⟩,?_⟩
 refine exr (mV L rfl (sw (Z2 rX L) t1 t1 ?_))
 refine sw (Z1 un79 rfl sz77 dC rX L) t1 t1 ?_
 refine sw (Y1 ag77 rF rF L) t1 t1 ?_
 refine sw (w0r un77 (by first | exact E2 _ _ _ | exact (E2 _ _ _).trans sM) L) t2 ⟨rdT [_,_,_] (M7 (m.set p ((m.getD p []).map (· * q))) b) rfl V1d,trivial⟩ ?_
 refine O1 ⟨[(0,_),(1,_),(14,_)],(5,_) :: (8,_) :: (999,_) :: (I2 0 (m.set p ((m.getD p []).map (· * q)))++I2 1 b),t3,⟨rfl,rfl,rfl,(hbT [_,_,_] (M7 (m.set p ((m.getD p []).map (· * q))) b) rfl)⟩,?_⟩
 refine Z8 rfl rfl (D0f (nsw (c_m L) t1 t0 (nsw (c_m L) t1 t0 (nsw (Z2 rX L) t1 t1 ?_))))
 refine nsw (Z1 un79 rfl sz77 dC rX L) t1 t1 ?_
 refine nsw (Y1 ag77 rF rF L) t1 t1 ?_
 refine nsI hG hX hN [] ([(5,_),(8,_),(999,_)]++(I2 0 (m.set p ((m.getD p []).map (· * q)))++I2 1 (b.set p ((b.getD p []).map (· * q))))) (q0z 1 b p q dC hpb hlb hsb hc) L (j7 (fst:=[]) (ys:=[_]) (cap:=[_,_]) cl95 rfl rfl) t2 (by exact W1a (bx:=[bxI 5 p,bxQ 8 q]) (r:=[_]) sM G rfl rfl rfl rfl rfl trivial) (fun q h=>by cases h) rfl ?_
 refine .nil ?_
 refine ⟨.inl rfl,O4.cast .nil ?_,⟨rfl,rfl,rfl,(hbT [_,_,_] (M7 (m.set p ((m.getD p []).map (· * q))) (b.set p ((b.getD p []).map (· * q)))) rfl)⟩⟩
 rfl
theorem Q1y (c:Nat)(m:List (List Rat))(i p:Nat)(q:Rat)(B C D:Nat)(hi:i<m.length)(hp:p<m.length)(hne:i≠p)(hlen:(m.getD p []).length=(m.getD i []).length)(hl:(m.getD i []).length<1000000000)(hB:∀ a∈m.getD i [],qw a≤B)(hC:∀ a∈m.getD p [],qw a≤C)(hD:qw q≤D)(hb:B+(D+C)+1<1000000000):E4 E stA 92 [.at_ 999 0 3,.clo (.func 98) [] [.at_ 10 0 1,.at_ 5 0 1,.at_ 11 0 4]] ([bxI 5 p,bxI 10 i,bxQ 11 q,(999,wB c m.length none)]++I2 0 m) ([bxI 5 p,bxI 10 i,bxQ 11 q,(999,wB c m.length none)]++I2 0 (V7 m i p q)) (.p (.tup [])):=by
 refine j4 (xs:=[]) Tryz.func92 rfl Tryz.ntmps92 Tryz.results92 sM fun F G=>?_
 have L:=@lti _ _ G.nt
 have hG:=G.g
 have hX:=G.x
 have hN:=U5 hG
 refine m0m (nsw (c_m L) t1 t0 (nsw (c_m L) t1 t0 (nsw (Z2 rX L) t1 t1 ?_)))
 refine nsw (Z1 un79 rfl sz77 dC rX L) t1 t1 ?_
 refine nsw (Y1 ag77 rF rF L) t1 t1 ?_
 refine nsI hG hX hN [(0,.at_ 999 0 3),(1,.clo (.func 98) .nil [.at_ 10 0 1,.at_ 5 0 1,.at_ 11 0 4])] ([(5,_),(10,_),(11,_),(999,_)]++(I2 0 (V7 m i p q))) (w0d 0 m i p q B C D dC hi hp hne hlen hl hB hC hD hb) L (j7 (fst:=[]) (ys:=[_]) (cap:=[_,_,_]) cl98 rfl rfl) t2 (by exact b2h (bx:=[bxI 5 p,bxI 10 i,bxQ 11 q]) (r:=[_]) (m0a hlen) rfl rfl rfl t2) (fun q h=>by cases h) rfl ?_
 refine .nil ⟨[(0,_),(1,_)],(5,_) :: (10,_) :: (11,_) :: (999,_) :: I2 0 (V7 m i p q),t2,⟨rfl,rfl,rfl,rfl,(hbT [_,_,_,_] (i2 dC (V7 m i p q)) rfl)⟩,?_⟩
 refine exr (mV L rfl (sw (Z2 rX L) t1 t1 ?_))
 refine sw (Z1 un79 rfl sz77 dC rX L) t1 t1 ?_
 refine sw (Y1 ag77 rF rF L) t1 t1 ?_
 refine sw (w0f un77 L) t2 t0 ?_
 refine O1 ⟨[(0,_),(1,_),(14,_)],(5,_) :: (10,_) :: (11,_) :: (999,_) :: (I2 0 (V7 m i p q)),t3,⟨rfl,rfl,rfl,rfl,(hbT [_,_,_,_] (i2 dC (V7 m i p q)) rfl)⟩,?_⟩
 refine P3 rfl rfl (U1 ?_)
 refine ⟨.inl rfl,O4.cast .nil ?_,⟨rfl,rfl,rfl,rfl,(hbT [_,_,_,_] (i2 dC (V7 m i p q)) rfl)⟩⟩
 rfl
theorem Q1s (c:Nat)(m b:List (List Rat))(i p:Nat)(q:Rat)(B C D:Nat)(hi:i<m.length)(hp:p<m.length)(hne:i≠p)(hlen:(m.getD p []).length=(m.getD i []).length)(hl:(m.getD i []).length<1000000000)(hB:∀ a∈m.getD i [],qw a≤B)(hC:∀ a∈m.getD p [],qw a≤C)(hD:qw q≤D)(hb:B+(D+C)+1<1000000000)(B' C':Nat)(hib:i<b.length)(hpb:p<b.length)(hlenb:(b.getD p []).length=(b.getD i []).length)(hlb:(b.getD i []).length<1000000000)(hBb:∀ a∈b.getD i [],qw a≤B')(hCb:∀ a∈b.getD p [],qw a≤C')(hbb:B'+(D+C')+1<1000000000):E4 E stA 92 [.at_ 999 0 3,.clo (.func 98) [] [.at_ 10 0 1,.at_ 5 0 1,.at_ 11 0 4]] ([bxI 5 p,bxI 10 i,bxQ 11 q,(999,wB c m.length (some b.length))]++(I2 0 m++I2 1 b)) ([bxI 5 p,bxI 10 i,bxQ 11 q,(999,wB c m.length (some b.length))]++(I2 0 (V7 m i p q)++I2 1 (V7 b i p q))) (.p (.tup [])):=by
 refine j4 (xs:=[]) Tryz.func92 rfl Tryz.ntmps92 Tryz.results92 sM fun F G=>?_
 have L:=@lti _ _ G.nt
 have hG:=G.g
 have hX:=G.x
 have hN:=U5 hG
 refine m0m (nsw (c_m L) t1 t0 (nsw (c_m L) t1 t0 (nsw (Z2 rX L) t1 t1 ?_)))
 refine nsw (Z1 un79 rfl sz77 dC rX L) t1 t1 ?_
 refine nsw (Y1 ag77 rF rF L) t1 t1 ?_
 refine nsI hG hX hN [(0,.at_ 999 0 3),(1,.clo (.func 98) .nil [.at_ 10 0 1,.at_ 5 0 1,.at_ 11 0 4])] ([(5,_),(10,_),(11,_),(999,_)]++(I2 0 (V7 m i p q)++I2 1 b)) (w0d 0 m i p q B C D dC hi hp hne hlen hl hB hC hD hb) L (j7 (fst:=[]) (ys:=[_]) (cap:=[_,_,_]) cl98 rfl rfl) t2 (by exact W1f (bx:=[bxI 5 p,bxI 10 i,bxQ 11 q]) (r:=[_]) (m0a hlen) rfl rfl rfl t2) (fun q h=>by cases h) rfl ?_
 refine .nil ⟨[(0,_),(1,_)],(5,_) :: (10,_) :: (11,_) :: (999,_) :: I2 0 (V7 m i p q)++I2 1 b,t2,⟨rfl,rfl,rfl,rfl,(hbT [_,_,_,_] (M7 (V7 m i p q) b) rfl)⟩,?_⟩
 refine exr (mV L rfl (sw (Z2 rX L) t1 t1 ?_))
 refine sw (Z1 un79 rfl sz77 dC rX L) t1 t1 ?_
 refine sw (Y1 ag77 rF rF L) t1 t1 ?_
 refine sw (w0r un77 (by first | exact E2 _ _ _ | exact (E2 _ _ _).trans sM) L) t2 ⟨rdT [_,_,_,_] (M7 (V7 m i p q) b) rfl V1d,trivial⟩ ?_
 refine O1 ⟨[(0,_),(1,_),(14,_)],(5,_) :: (10,_) :: (11,_) :: (999,_) :: (I2 0 (V7 m i p q)++I2 1 b),t3,⟨rfl,rfl,rfl,rfl,(hbT [_,_,_,_] (M7 (V7 m i p q) b) rfl)⟩,?_⟩
 refine Z8 rfl rfl (D0f (nsw (c_m L) t1 t0 (nsw (c_m L) t1 t0 (nsw (Z2 rX L) t1 t1 ?_))))
 refine nsw (Z1 un79 rfl sz77 dC rX L) t1 t1 ?_
 refine nsw (Y1 ag77 rF rF L) t1 t1 ?_
 refine nsI hG hX hN [] ([(5,_),(10,_),(11,_),(999,_)]++(I2 0 (V7 m i p q)++I2 1 (V7 b i p q))) (w0d 1 b i p q B' C' D dC hib hpb hne hlenb hlb hBb hCb hD hbb) L (j7 (fst:=[]) (ys:=[_]) (cap:=[_,_,_]) cl98 rfl rfl) t2 (by exact V1x (bx:=[bxI 5 p,bxI 10 i,bxQ 11 q]) (r:=[_]) (m0a hlenb) rfl rfl rfl trivial) (fun q h=>by cases h) rfl ?_
 refine .nil ?_
 refine ⟨.inl rfl,O4.cast .nil ?_,⟨rfl,rfl,rfl,rfl,(hbT [_,_,_,_] (M7 (V7 m i p q) (V7 b i p q)) rfl)⟩⟩
 rfl
@[reducible] def wV (c n:Nat)(v:PV):Nat×Blk:=(999,⟨79,3,.mix [.ref 1001 0 n n,.p (vZ c),v]⟩)
@[reducible] def bxW:Nat×Blk:=(1,⟨73,1,.mix [.at_ 999 0 3]⟩)
theorem n1n (m:List (List Rat))(cols c i:Nat)(v:PV)(T:List (Nat×Blk))(hT:K5 T)(hsub:∀ k B,(I2 0 m).lookup k=some B→T.lookup k=some B)(hi:i<m.length)(hc:c<(m.getD i []).length)(hq:qw ((m.getD i []).getD c 0)<1000000000):E4 E (fun _=>true) 90 [.p (vZ i),.at_ 1 0 1,.at_ 4 0 1] ([bxW,bxI 4 c,wV cols m.length v]++T) ([bxW,bxI 4 c,wV cols m.length v]++T) (.p (bZ (nzI m c i))):=by
 refine j4 (xs:=[bZ (nzI m c i)]) Tryz.func90 rfl Tryz.ntmps90 Tryz.results90 sM fun F G=>?_
 have L:=@lti _ _ G.nt
 have hG:=G.g
 have hX:=G.x
 have hN:=U5 hG
 refine exr (aV L rfl ?_)
 refine O1 ⟨[(0,_),(1,_),(2,_)],(1,_) :: (4,_) :: (999,_) :: T,t3,⟨rfl,rfl,rfl,(hbT [_,_,_] hT rfl)⟩,?_⟩
 refine exd rF ?_
 refine sw (Y1 ag73 rF rF L) t1 t1 ?_
 refine sw (Z2 rX L) t1 t1 ?_
 refine sw (Z1 un79 rfl sz77 dC rX L) t1 t1 ?_
 refine sw (Y1 ag77 rF rF L) t1 t1 ?_
 refine mV L rfl (sw (Y1 ag3 rF rF L) t1 t1 ?_)
 refine sw (m6 hG hX hN (j1h 0 m i c dC hi hc) rfl L (U4 (ys:=[_,_,_]) cl91 rfl rfl) (i2 dC m).nd (i2 dC m).whole (fun q h=>by cases h)) t3 (K7 (v5 (i2 dC m).nd fun k B h=>rdT [_,_,_] hT rfl (hsub k B h))) ?_
 refine cK hG hX cl65 hN (I6 ((m.getD i []).getD c 0) hq) L t1 (sw (m4 L) t1 t0 (aV L rfl ?_))
 refine O1 ⟨h0j [⟨[1],[1],[5],[]⟩,⟨[5],[999],[6],[]⟩,⟨[6],[999],[7],[]⟩,⟨[7],[999],[8],[]⟩,⟨[0],[],[9],[]⟩,⟨[2],[4],[10],[]⟩,⟨[8,9,10],[1000],[11],[]⟩,⟨[11],[],[12],[]⟩,⟨[12],[],[13],[]⟩,⟨[13],[],[4],[]⟩] (.cons (cf0 rfl) (.cons (cf0 rfl) (.cons (cf0 rfl) (.cons (cf0 rfl) (.cons (cf0 rfl) (.cons (cf0 rfl) (.cons (cfT rfl rfl (fun p hp=>by rw [F0p (b0w (i2 dC m) p hp)]; exact List.mem_singleton.2 rfl) rfl (fun _ h=>by cases h)) (.cons (cf0 rfl) (.cons (cf0 rfl) (.cons (cf0 rfl)  .nil)))))))))) rfl (frS [] [_,_,_] hT rfl rfl) dC,[(4,_)],(1,_) :: (4,_) :: (999,_) :: T,t1,⟨rfl,rfl,rfl,(hbT [_,_,_] hT rfl)⟩,?_⟩
 refine X1 ?_
 refine ⟨.inr rfl,O4.cast (.cons (.tmp rfl) .nil) ?_,⟨rfl,rfl,rfl,(hbT [_,_,_] hT rfl)⟩⟩
 rfl
def stO (k:Nat):Bool:=!(k == 603 || k == 604 || k == 605)
theorem P0m (cols n p c:Nat)(T:List (Nat×Blk))(hT:K5 T):E4 E stO 97 [.at_ 999 0 3,.p (vZ p),.p (vZ c)] ([wV cols n (.p (.a (.slice none 0 0)))]++T) ([(603,⟨73,1,.mix [.at_ 999 0 3]⟩),bxI 604 p,bxI 605 c,wV cols n (.p (.a (.slice none 0 0)))]++T) (.clo (.func 126) [] [.at_ 603 0 1,.at_ 604 0 1,.at_ 605 0 1]):=by
 refine v0z Tryz.func97 rfl Tryz.ntmps97 Tryz.results97 sM fun F G=>?_
 have L:=@lti _ _ G.nt
 have hG:=G.g
 have hX:=G.x
 have hN:=U5 hG
 have P0:=fun k (hk:(Nat.blt k 1000 && (List.lookup k _).isNone)=true)=>G.p0 k (p0T hT hk)
 refine exr (swb (g0h (k:=603) rX rfl (P0 _ rfl) L) t1 t1 (frT [_] hT rfl rfl rfl) ?_)
 refine swb (U3 (k:=604) (n:=1) (.atom rfl) rfl rfl (P0 _ rfl) L) t1 t0 (frT [_,_] hT rfl rfl rfl) (swb (U3 (k:=605) (n:=1) (.atom rfl) rfl rfl (P0 _ rfl) L) t1 t0 (frT [_,_,_] hT rfl rfl rfl) (aV L rfl ?_))
 refine O1 ⟨[(3,_),(4,_),(5,_)],(603,_) :: (604,_) :: (605,_) :: (999,_) :: T,t3,⟨rfl,rfl,rfl,rfl,(hbT [_,_,_,_] hT rfl)⟩,?_⟩
 refine exr (sw (v0g (vs:=[]) (us:=[_,_,_]) rfl rfl L) t3 t0 (aV L rfl ?_))
 refine O1 ⟨[(6,_)],(603,_) :: (604,_) :: (605,_) :: (999,_) :: T,t1,⟨rfl,rfl,rfl,rfl,(hbT [_,_,_,_] hT rfl)⟩,?_⟩
 refine X1 ?_
 refine ⟨.inr rfl,rfl,⟨rfl,rfl,rfl,rfl,hbT [_,_,_,_] hT rfl⟩⟩
theorem N0z (cols n nb p c:Nat)(T:List (Nat×Blk))(hT:K5 T):E4 E stO 97 [.at_ 999 0 3,.p (vZ p),.p (vZ c)] ([wV cols n (.ref 1002 0 nb nb)]++T) ([(603,⟨73,1,.mix [.at_ 999 0 3]⟩),bxI 604 p,bxI 605 c,wV cols n (.ref 1002 0 nb nb)]++T) (.clo (.func 126) [] [.at_ 603 0 1,.at_ 604 0 1,.at_ 605 0 1]):=by
 refine v0z Tryz.func97 rfl Tryz.ntmps97 Tryz.results97 sM fun F G=>?_
 have L:=@lti _ _ G.nt
 have hG:=G.g
 have hX:=G.x
 have hN:=U5 hG
 have P0:=fun k (hk:(Nat.blt k 1000 && (List.lookup k _).isNone)=true)=>G.p0 k (p0T hT hk)
 refine exr (swb (g0h (k:=603) rX rfl (P0 _ rfl) L) t1 t1 (frT [_] hT rfl rfl rfl) ?_)
 refine swb (U3 (k:=604) (n:=1) (.atom rfl) rfl rfl (P0 _ rfl) L) t1 t0 (frT [_,_] hT rfl rfl rfl) (swb (U3 (k:=605) (n:=1) (.atom rfl) rfl rfl (P0 _ rfl) L) t1 t0 (frT [_,_,_] hT rfl rfl rfl) (aV L rfl ?_))
 refine O1 ⟨[(3,_),(4,_),(5,_)],(603,_) :: (604,_) :: (605,_) :: (999,_) :: T,t3,⟨rfl,rfl,rfl,rfl,(hbT [_,_,_,_] hT rfl)⟩,?_⟩
 refine exr (sw (v0g (vs:=[]) (us:=[_,_,_]) rfl rfl L) t3 t0 (aV L rfl ?_))
 refine O1 ⟨[(6,_)],(603,_) :: (604,_) :: (605,_) :: (999,_) :: T,t1,⟨rfl,rfl,rfl,rfl,(hbT [_,_,_,_] hT rfl)⟩,?_⟩
 refine X1 ?_
 refine ⟨.inr rfl,rfl,⟨rfl,rfl,rfl,rfl,hbT [_,_,_,_] hT rfl⟩⟩
end Go.Proofs.YtjagfionflbjbaaGreat.N
namespace Go.Proofs.YtjagfionflbjbaaGreat.SH
open Go Go.RowKit
theorem W1w {P:Program}{F:Fr}{ops:Array Oper}{d:Nat}{fo o1 o2:Operand}{ts:Array TypeId}{T:TypeId}{pos:String}{aft:Array Edge}{j g:Nat}{want b:Bool}{l n k:Nat}{encs:Nat→L2×L2}{H:Nat→List (Nat×Blk)}(hY:Yields P F l n encs H)(hk:k<n)(hj:((ops[j]?).bind (·.dst))=some g)(hb:b=want)(hlt:d<F.nt) :
  q1d P F ops ⟨some d,.call ⟨.value fo,#[o1,o2],ts⟩,T,pos,aft,some (j,want)⟩ ⟨[(.tmp g,.p (.a (.bool b))),(fo,.clo (.yield l) [] []),(o1,.p (encs k).1),(o2,.p (encs k).2)],H k,none,[(d,.p (.a (.bool true)))],H (k+1)⟩:=by
 intro S a w hS hh Q K hK
 have hr:=hh.rs (.tmp g,.p (.a (.bool b))) (by simp)
 obtain ⟨ρ,hS'⟩:=hS
 obtain ⟨u,hu,hru⟩:=hS'.slots g _ hr
 have:u = .bool b:=by simpa [M2,Rel] using hru
 subst this
 have hw:Region.wanted ⟨some d,.call ⟨.value fo,#[o1,o2],ts⟩,T,pos,aft,some (j,want)⟩ (yielded ops a.tmps)=true:=by simp [Region.wanted,yielded,hj,hu,hb]
 rw [if_pos hw]
 exact .inr fun m=>hY k hk d fo o1 o2 ts T pos aft (some (j,want)) hlt S a w ⟨ρ,hS'⟩ ⟨fun q hq=>hh.rs q (List.mem_cons_of_mem _ hq),hh.rb,fun _ h=>by cases h⟩ Q K (fun a' w' hs=>hK a' w' hs) m
theorem b2n {P:Program}{F:Fr}{ops:Array Oper}{d:Nat}{fo o1 o2:Operand}{ts:Array TypeId}{T:TypeId}{pos:String}{aft:Array Edge}{j g:Nat}{want b:Bool}{l n k:Nat}{encs:Nat→L2×L2}{H:Nat→List (Nat×Blk)}{os:List Oper}{sl:List (Nat×PV)}{hb:List (Nat×Blk)}{K:List Ann→St→Prop}(hY:Yields P F l n encs H)(hk:k<n)(hj:((ops[j]?).bind (·.dst))=some g)(hbw:b=want)(hlt:d<F.nt)
  (hgs:St.opd ⟨sl,hb⟩ (.tmp g)=some (.p (.a (.bool b)))) (h1:w8 ⟨sl,hb⟩ [(fo,.clo (.yield l) [] []),(o1,.p (encs k).1),(o2,.p (encs k).2)]) (h2:F6 ⟨sl,hb⟩ (H k))
  (hn:i7 P F ops ⟨(d,.p (.a (.bool true))) :: sl,H (k+1)++hb⟩ os fun As S'=>K (⟨[(.tmp g,.p (.a (.bool b))),(fo,.clo (.yield l) [] []),(o1,.p (encs k).1),(o2,.p (encs k).2)],H k,none,[(d,.p (.a (.bool true)))],H (k+1)⟩ :: As) S') :
  i7 P F ops ⟨sl,hb⟩ (⟨some d,.call ⟨.value fo,#[o1,o2],ts⟩,T,pos,aft,some (j,want)⟩ :: os) K :=
 let ⟨As,S',h,hK⟩:=hn
 ⟨_,S',.cons (W1w hY hk hj hbw hlt) (m7 ⟨hgs,h1⟩ h2 trivial) h,hK⟩
theorem b2c {S:St}{As:List Ann}(h:b7 As=[]):∀ k∈b7 As,S.free k=true:=fun k hk=>by rw [h] at hk; cases hk
theorem G0f:∀ {As done:List Ann},b7 As=[]→(∀ A∈done,A.fresh=none)→G0h As done=true
 | [],_,_,_=>rfl
 | B :: As,done,h,hd=>by
  simp only [b7,List.append_eq_nil_iff,Option.toList_eq_nil_iff] at h
  simp only [G0h,j0,s0]
  refine ⟨fun A hA=>by simp [w0j,hd A hA,h.1],G0f h.2 fun A hA=>?_⟩
  rcases List.mem_append.1 hA with hA | hA
  ·exact hd A hA
  ·obtain rfl:=List.mem_singleton.1 hA; exact h.1
theorem y1y (cf:Nat→Nat){os:List Oper}{As:List Ann}{S:St}(sks:List Sk)(h1:b0f cf As sks)(hn:b7 As=[])(h2:U7 os sks [] []=true):(R7 os As [] [] && V5 S As)=true:=M1y cf sks h1 (G0f hn fun _ h=>by cases h) (b2c hn) h2
def cfI (ns:List Nat)(k:Nat):Nat:=if ns.contains k then k else 1000
structure j0r (ns:List Nat) (U:List (Nat×Blk)):Prop where
 no:∀ q,ns.contains q=true→U.lookup q=none
 nd:(U.map (·.1)).Nodup
theorem j0r.ne {ns:List Nat}{U:List (Nat×Blk)}(h:j0r ns U):∀ p∈U,cfI ns p.1=1000:=fun p hp=>by
 unfold cfI
 by_cases e:ns.contains p.1=true
 ·have:=h.no p.1 e
  rw [R5 h.nd hp] at this; cases this
 ·rw [if_neg e]
theorem v0y {ns:List Nat}{pre U:List (Nat×Blk)}(h:j0r ns U)(hp:(pre.all fun p=>ns.contains p.1)=true){k:Nat}{B:Blk}(hk:U.lookup k=some B):pre.lookup k=none:=by
 cases e:pre.lookup k with
 | none=>rfl
 | some C =>
  rw [s0] at hp
  have:=h.no k (hp _ (L3 e))
  rw [hk] at this; cases this
theorem H0j {ns:List Nat}{sl:List (Nat×PV)}{U:List (Nat×Blk)}(pre:List (Nat×Blk))(h:j0r ns U)(hp:(pre.all fun p=>ns.contains p.1)=true):O5 ⟨sl,pre++U⟩ U:=v5 h.nd fun k B hk=>by
 show (pre++U).lookup k=some B
 rw [T1,v0y h hp hk,l0,hk]
theorem Y1s {ns:List Nat}{sl:List (Nat×PV)}{U r:List (Nat×Blk)}(pre:List (Nat×Blk))(h:j0r ns U)(hp:(pre.all fun p=>ns.contains p.1)=true):O5 ⟨sl,(pre++U)++r⟩ U:=v5 h.nd fun k B hk=>by
 show ((pre++U)++r).lookup k=some B
 rw [T1,T1,v0y h hp hk,l0,hk]; rfl
theorem H1r {ns:List Nat}{sl:List (Nat×PV)}{U:List (Nat×Blk)}{k:Nat}{B:Blk}(pre:List (Nat×Blk))(h:j0r ns U)(hp:(pre.all fun p=>ns.contains p.1)=true)(hk:U.lookup k=some B):St.blk ⟨sl,pre++U⟩ k=some B:=by
 show (pre++U).lookup k=some B
 rw [T1,v0y h hp hk,l0,hk]
theorem k1f {ns:List Nat}{l r:List (Nat×Blk)}{ks:List Nat}(h1:(l.all fun p=>ks.contains (cfI ns p.1))=true)(h2:j0r ns r)(h3:ks.contains 1000=true):∀ p∈l++r,cfI ns p.1∈ks:=by
 intro p hp
 rcases List.mem_append.1 hp with hp | hp
 ·rw [s0] at h1; simpa using h1 p hp
 ·rw [h2.ne p hp]; simpa using h3
theorem N0r {ns:List Nat}{l U:List (Nat×Blk)}(h2:j0r ns U)(hl:∀ k B,l.lookup k=some B→U.lookup k=some B)(hnd:(l.map (·.1)).Nodup):∀ p∈l,cfI ns p.1∈[1000]:=by
 intro p hp
 have h1:=hl p.1 p.2 (R5 hnd hp)
 rw [h2.ne (p.1,p.2) (L3 h1)]; exact List.mem_singleton.2 rfl
end Go.Proofs.YtjagfionflbjbaaGreat.SH
set_option maxRecDepth 100000
set_option maxHeartbeats 4000000
namespace Go.Proofs.YtjagfionflbjbaaGreat.N
open Go Go.Proofs.YtjagfionflbjbaaGreat.SH Go.Proofs.YtjagfionflbjbaaGreat.NumA
open Go.Proofs.Tryz renaming call65→cl65,call91→cl91,isAgg3→ag3,isAgg73→ag73,isAgg77→ag77,sizeOf77→sz77,underlying77→un77,underlying79→un79
@[reducible] def w1f:List Nat:=[603,604,605,999]
theorem f0c {m:List (List Rat)}{p c i:Nat}:L9 m p c (i+1)=L9 m p c i+(if h0g m p c i=true then 1 else 0):=by
 rw [L9,List.range_succ,List.filter_append,K1]
 congr 1
 by_cases h:h0g m p c i=true
 ·rw [if_pos h,List.filter_cons_of_pos h]; rfl
 ·rw [if_neg h,List.filter_cons_of_neg h]; rfl
theorem j1a {m:List (List Rat)}{p c:Nat}:∀ {i j:Nat},i≤j→L9 m p c i≤L9 m p c j
 | i,j,h=>by
  induction j with
  | zero =>
   obtain rfl:i=0:=by omega
   exact Nat.le_refl _
  | succ j ih =>
   by_cases e:i=j+1
   ·rw [e]; exact Nat.le_refl _
   ·rw [f0c]; have:=ih (by omega); omega
theorem lkY {ns:List Nat}{sl:List (Nat×PV)}{w:Nat×Blk}{U' r:List (Nat×Blk)}{k:Nat}{B:Blk}(h:j0r ns U')(hw:(k == w.1)=false)(hk:ns.contains k=true)(hr:r.lookup k=some B):St.blk ⟨sl,([w]++U')++r⟩ k=some B:=by
 show List.lookup k _=some B
 rw [T1,T1,h.no k hk,Option.or_none,i0,hw]
 exact hr
theorem atM {M m:List (List Rat)}{n i c:Nat}(hl:M.length=n)(hr:M.getD i []=m.getD i [])(hi:i<n)(hc:c<(m.getD i []).length):E4 E (fun _=>true) 91 [.ref 1001 0 n n,.p (vZ i),.p (vZ c)] (I2 0 M) (I2 0 M) (.p (pQ ((m.getD i []).getD c 0))):=by
 subst hl
 rw [← hr] at hc ⊢
 exact j1h 0 M i c dC hi hc
theorem W0m (cols p c n l:Nat)(m:List (List Rat))(v:PV)(M:Nat→List (List Rat))(U:Nat→List (Nat×Blk))(encs:Nat→L2×L2)(hU:∀ k,k≤n→j0r w1f (U k))(hsub:∀ k,k≤n→∀ q B,(I2 0 (M k)).lookup q=some B→(U k).lookup q=some B)(hlen:∀ k,k≤n→(M k).length=m.length)(hrow:∀ i,i<m.length→(M (L9 m p c i)).getD i []=m.getD i [])(hcl:∀ i,i<m.length→c<(m.getD i []).length)(hq:∀ i,i<m.length→qw ((m.getD i []).getD c 0)<1000000000)(hn:n=L9 m p c m.length)(henc:∀ i,i<m.length→h0g m p c i=true→encs (L9 m p c i)=(vZ i,pQ ((m.getD i []).getD c 0)))(hml:m.length<1000000000):∀ (F:Fr) (code:Code),Tryz.f126.body=some code→XFr E ([(603,⟨73,1,.mix [.at_ 999 0 3]⟩),bxI 604 p,bxI 605 c]++([wV cols m.length v]++U 0)) 42 F→Go.Proofs.YtjagfionflbjbaaGreat.SH.Yields E.P F l n encs (fun k=>[wV cols m.length v]++U k)→i4 E.P F code ⟨[(0,.clo (.yield l) [] []),(1,.at_ 603 0 1),(2,.at_ 604 0 1),(3,.at_ 605 0 1)],[(603,⟨73,1,.mix [.at_ 999 0 3]⟩),bxI 604 p,bxI 605 c,wV cols m.length v]++U 0⟩ (fun e S'=>(e = .normal∨e = .ret)∧O5 S' ([(603,⟨73,1,.mix [.at_ 999 0 3]⟩),bxI 604 p,bxI 605 c]++([wV cols m.length v]++U n))):=by
 intro F code hcode XF hY
 injection (show some _=some code from hcode) with hcode
 subst hcode
 have hG:=XF.g
 have hX:=XF.x
 have hN:=XF.ng
 have L:=@lti _ _ XF.nt
 have hs0:(U 0).lookup 1001=some (hdB 0 (M 0)):=hsub 0 (Nat.zero_le _) _ _ hdL
 have hl0:=hlen 0 (Nat.zero_le _)
 have cle:∀ i,i≤m.length→L9 m p c i≤n:=fun i hi=>by rw [hn]; exact j1a hi
 refine exr (sw (Y1 ag73 rF rF L) t1 t1 ?_)
 refine sw (Z2 rX L) t1 t1 ?_
 refine sw (Z1 un79 rfl sz77 dC rX L) t1 t1 ?_
 refine sw (Y1 ag77 rF rF L) t1 t1 ?_
 refine sw (p0j un77 (by first | exact E2 _ _ _ | exact (E2 _ _ _).trans sM | exact (E2 _ _ _).trans (by assumption)) L) t1 ⟨H1r [_,_,_,_] (hU 0 (Nat.zero_le _)) rfl (hs0),trivial⟩ ?_
 refine mV L rfl ?_
 refine O1 ⟨[(0,_),(1,_),(2,_),(3,_),(10,_),(11,_)],(603,_) :: (604,_) :: (605,_) :: (999,_) :: ((U 0)),t6,⟨rfl,rfl,rfl,rfl,(H0j [_,_,_,_] (hU 0 (Nat.zero_le _)) rfl)⟩,?_⟩
 refine V1 ?_
 refine B0y (α:=Nat) (fun i=>[(11,vi (i:Int))]) (fun i=>[]) (fun i=>(U (L9 m p c i))) (fun i=>i≤m.length) (fun i=>m.length - i) (0) (sl:=[(0,_),(1,_),(2,_),(3,_),(10,_)]) (hb:=[(603,_),(604,_),(605,_),(999,_)]) ?_ ⟨oR,rfl,rfl,rfl,rfl,rfl,trivial⟩ ⟨rfl,rfl,rfl,rfl,(H0j [_,_,_,_] (hU 0 (Nat.zero_le _)) rfl)⟩ ?_
 ·exact Nat.zero_le _
 intro i hi
 refine exr (sw (V3 L) t2 t0 ?_)
 refine O1 ⟨[(0,_),(1,_),(2,_),(3,_),(10,_),(11,_),(12,_)],(603,_) :: (604,_) :: (605,_) :: (999,_) :: ((U (L9 m p c i))),t7,⟨rfl,rfl,rfl,rfl,(H0j [_,_,_,_] (hU _ (cle i hi)) rfl)⟩,?_⟩
 refine R1 ?_
 refine j2 rfl (fun hc=>?_) (fun hc=>?_)
 ·have hc:=dt hc
  have hil:i<m.length:=by omega
  refine U1 (xq ?_)
  refine R1 (V1 (exr (mV L rfl (aV L rfl ?_))))
  refine O1 ⟨[(0,_),(1,_),(2,_),(3,_),(5,_),(10,_),(11,_)],(603,_) :: (604,_) :: (605,_) :: (999,_) :: ((U (L9 m p c i))),t7,⟨rfl,rfl,rfl,rfl,(H0j [_,_,_,_] (hU _ (cle i hi)) rfl)⟩,?_⟩
  have atI:=atM (c:=c) (hlen _ (cle i hi)) (hrow i hil) hil (hcl i hil)
  have zI:=I6 ((m.getD i []).getD c 0) (hq i hil)
  by_cases hip:i=p
  ·have ho:h0g m p c i=false:=by rw [h0g,decide_eq_false (by simpa using hip)]; rfl
   refine exd rF ?_
   refine mV L rfl (sw (Y1 ag3 rF rF L) t1 t1 ?_)
   refine sw (c_n L) t2 t0 (mV L rfl (swn (g:=17) rfl sO L rfl (swn (g:=17) rfl sO L rfl (swn (g:=17) rfl sO L rfl (swn (g:=17) rfl sO L rfl (swn (g:=17) rfl sO L rfl (swn (g:=17) rfl sO L rfl (swn (g:=17) rfl sO L rfl (swn (g:=17) rfl sO L rfl (swn (g:=17) rfl sO L rfl (sw (v4 sO L) t2 t0 ?_)))))))))))
   refine mV L rfl (swn (g:=28) rfl rfl L rfl (swn (g:=28) rfl rfl L rfl (swn (g:=28) rfl rfl L rfl (swn (g:=28) rfl rfl L rfl (swn (g:=28) rfl rfl L rfl (swn (g:=28) rfl rfl L rfl (swn (g:=28) rfl rfl L rfl (swn (g:=28) rfl rfl L rfl (swn (g:=28) rfl rfl L rfl (swn (g:=28) rfl rfl L rfl (swn (g:=28) rfl rfl L rfl ?_)))))))))))
   refine sw (v4 rfl L) t2 t0 ?_
   refine O1 ⟨y1y (cfI w1f) [⟨[5],[],[14],[]⟩,⟨[2],[604],[15],[]⟩,⟨[14,15],[],[16],[]⟩,⟨[16],[],[17],[]⟩,⟨[17],[],[18],[]⟩,⟨[17],[],[19],[]⟩,⟨[17],[],[20],[]⟩,⟨[17],[],[21],[]⟩,⟨[17],[],[22],[]⟩,⟨[17],[],[23],[]⟩,⟨[17],[],[24],[]⟩,⟨[17],[],[25],[]⟩,⟨[17],[],[26],[]⟩,⟨[17],[],[27],[]⟩,⟨[27],[],[28],[]⟩,⟨[28],[],[29],[]⟩,⟨[28],[],[30],[]⟩,⟨[28],[],[31],[]⟩,⟨[28],[],[32],[]⟩,⟨[28],[],[33],[]⟩,⟨[28],[],[34],[]⟩,⟨[28],[],[35],[]⟩,⟨[28],[],[36],[]⟩,⟨[28],[],[37],[]⟩,⟨[28],[],[38],[]⟩,⟨[28],[],[39],[]⟩,⟨[28],[],[40],[]⟩] (.cons (cf0 rfl) (.cons (cf0 rfl) (.cons (cf0 rfl) (.cons (cf0 rfl) (.cons (cf0 rfl) (.cons (cf0 rfl) (.cons (cf0 rfl) (.cons (cf0 rfl) (.cons (cf0 rfl) (.cons (cf0 rfl) (.cons (cf0 rfl) (.cons (cf0 rfl) (.cons (cf0 rfl) (.cons (cf0 rfl) (.cons (cf0 rfl) (.cons (cf0 rfl) (.cons (cf0 rfl) (.cons (cf0 rfl) (.cons (cf0 rfl) (.cons (cf0 rfl) (.cons (cf0 rfl) (.cons (cf0 rfl) (.cons (cf0 rfl) (.cons (cf0 rfl) (.cons (cf0 rfl) (.cons (cf0 rfl) (.cons (cf0 rfl)  .nil))))))))))))))))))))))))))) rfl dC,[(0,_),(1,_),(2,_),(3,_),(10,_),(11,_),(40,_)],(603,_) :: (604,_) :: (605,_) :: (999,_) :: ((U (L9 m p c i))),t7,⟨rfl,rfl,rfl,rfl,(H0j [_,_,_,_] (hU _ (cle i hi)) rfl)⟩,?_⟩
   refine P3 rfl rfl ?_
   refine U1 (xq ?_)
   refine j3 (sw (F3 L (w64 oM oM)) t2 t0 (mV L rfl (O1 ?_)))
   exact ⟨i+1,oM,by omega,l3 ⟨oR,rfl,rfl,rfl,rfl,rfl,trivial⟩ ⟨rfl,rfl,rfl,rfl,(by rw [f0c,ho,if_neg Bool.false_ne_true,Nat.add_zero]; exact H0j [_,_,_,_] (hU _ (cle i hi)) rfl)⟩⟩
  ·by_cases hz:(m.getD i []).getD c 0=0
   ·have ho:h0g m p c i=false:=by rw [h0g,nzI,decide_eq_true hz]; simp
    refine exd rF ?_
    refine mV L rfl (sw (Y1 ag3 rF rF L) t1 t1 ?_)
    refine sw (c_n L) t2 t0 (mV L rfl (swg (g:=17) rfl sO (Y1 ag73 rF rF L) rfl t1 t1 ?_))
    refine swg (g:=17) rfl sO (Z2 rX L) rfl t1 t1 ?_
    refine swg (g:=17) rfl sO (Z1 un79 rfl sz77 dC rX L) rfl t1 t1 ?_
    refine swg (g:=17) rfl sO (Y1 ag77 rF rF L) rfl t1 t1 ?_
    refine gV (g:=17) rfl sO L rfl rfl (swg (g:=17) rfl sO (Y1 ag3 rF rF L) rfl t1 t1 ?_)
    refine swg (g:=17) rfl sO (m6 hG hX hN atI rfl L (U4 (ys:=[_,_,_]) cl91 rfl rfl) (i2 dC _).nd (i2 dC _).whole (fun q h=>by cases h)) rfl t3 (K7 (v5 (i2 dC _).nd fun k B h=>H1r [_,_,_,_] (hU _ (cle i hi)) rfl (hsub _ (cle i hi) k B h))) ?_
    refine swg (g:=17) rfl sO (c_c hG hX cl65 rfl hN zI L) rfl t1 t0 (swg (g:=17) rfl sO (m4 L) rfl t1 t0 (sw (Y4 sO L) t2 t0 (mV L rfl (swn (g:=28) rfl (by rw [decide_eq_true hz]) L rfl ?_))))
    refine swn (g:=28) rfl (by rw [decide_eq_true hz]) L rfl ?_
    refine swn (g:=28) rfl (by rw [decide_eq_true hz]) L rfl ?_
    refine swn (g:=28) rfl (by rw [decide_eq_true hz]) L rfl ?_
    refine swn (g:=28) rfl (by rw [decide_eq_true hz]) L rfl ?_
    refine swn (g:=28) rfl (by rw [decide_eq_true hz]) L rfl ?_
    refine swn (g:=28) rfl (by rw [decide_eq_true hz]) L rfl ?_
    refine swn (g:=28) rfl (by rw [decide_eq_true hz]) L rfl ?_
    refine swn (g:=28) rfl (by rw [decide_eq_true hz]) L rfl ?_
    refine swn (g:=28) rfl (by rw [decide_eq_true hz]) L rfl ?_
    refine swn (g:=28) rfl (by rw [decide_eq_true hz]) L rfl ?_
    refine sw (v4 (by rw [decide_eq_true hz]; rfl) L) t2 t0 ?_
    refine O1 ⟨y1y (cfI w1f) [⟨[5],[],[14],[]⟩,⟨[2],[604],[15],[]⟩,⟨[14,15],[],[16],[]⟩,⟨[16],[],[17],[]⟩,⟨[17,1],[603],[18],[]⟩,⟨[17,18],[999],[19],[]⟩,⟨[17,19],[999],[20],[]⟩,⟨[17,20],[999],[21],[]⟩,⟨[17,5],[],[22],[]⟩,⟨[17,3],[605],[23],[]⟩,⟨[17,21,22,23],[1000],[24],[]⟩,⟨[17,24],[],[25],[]⟩,⟨[17,25],[],[26],[]⟩,⟨[17,26],[],[27],[]⟩,⟨[27],[],[28],[]⟩,⟨[28],[],[29],[]⟩,⟨[28],[],[30],[]⟩,⟨[28],[],[31],[]⟩,⟨[28],[],[32],[]⟩,⟨[28],[],[33],[]⟩,⟨[28],[],[34],[]⟩,⟨[28],[],[35],[]⟩,⟨[28],[],[36],[]⟩,⟨[28],[],[37],[]⟩,⟨[28],[],[38],[]⟩,⟨[28],[],[39],[]⟩,⟨[28],[],[40],[]⟩] (.cons (cf0 rfl) (.cons (cf0 rfl) (.cons (cf0 rfl) (.cons (cf0 rfl) (.cons (cf0 rfl) (.cons (cf0 rfl) (.cons (cf0 rfl) (.cons (cf0 rfl) (.cons (cf0 rfl) (.cons (cf0 rfl) (.cons (cfT rfl rfl (N0r (hU _ (cle i hi)) (hsub _ (cle i hi)) (i2 dC _).nd) rfl (fun _ h=>by cases h)) (.cons (cf0 rfl) (.cons (cf0 rfl) (.cons (cf0 rfl) (.cons (cf0 rfl) (.cons (cf0 rfl) (.cons (cf0 rfl) (.cons (cf0 rfl) (.cons (cf0 rfl) (.cons (cf0 rfl) (.cons (cf0 rfl) (.cons (cf0 rfl) (.cons (cf0 rfl) (.cons (cf0 rfl) (.cons (cf0 rfl) (.cons (cf0 rfl) (.cons (cf0 rfl)  .nil))))))))))))))))))))))))))) rfl dC,[(0,_),(1,_),(2,_),(3,_),(10,_),(11,_),(40,_)],(603,_) :: (604,_) :: (605,_) :: (999,_) :: ((U (L9 m p c i))),t7,⟨rfl,rfl,rfl,rfl,(H0j [_,_,_,_] (hU _ (cle i hi)) rfl)⟩,?_⟩
    refine P3 rfl rfl ?_
    refine U1 (xq ?_)
    refine j3 (sw (F3 L (w64 oM oM)) t2 t0 (mV L rfl (O1 ?_)))
    exact ⟨i+1,oM,by omega,l3 ⟨oR,rfl,rfl,rfl,rfl,rfl,trivial⟩ ⟨rfl,rfl,rfl,rfl,(by rw [f0c,ho,if_neg Bool.false_ne_true,Nat.add_zero]; exact H0j [_,_,_,_] (hU _ (cle i hi)) rfl)⟩⟩
   ·have ho:h0g m p c i=true:=by rw [h0g,nzI,decide_eq_false hz,decide_eq_true hip]; rfl
    have hk1:L9 m p c i+1≤n:=by
     have:=cle (i+1) hil
     rw [f0c,if_pos ho] at this; exact this
    refine exd rF ?_
    refine mV L rfl (sw (Y1 ag3 rF rF L) t1 t1 ?_)
    refine sw (c_n L) t2 t0 (mV L rfl (swg (g:=17) rfl sO (Y1 ag73 rF rF L) rfl t1 t1 ?_))
    refine swg (g:=17) rfl sO (Z2 rX L) rfl t1 t1 ?_
    refine swg (g:=17) rfl sO (Z1 un79 rfl sz77 dC rX L) rfl t1 t1 ?_
    refine swg (g:=17) rfl sO (Y1 ag77 rF rF L) rfl t1 t1 ?_
    refine gV (g:=17) rfl sO L rfl rfl (swg (g:=17) rfl sO (Y1 ag3 rF rF L) rfl t1 t1 ?_)
    refine swg (g:=17) rfl sO (m6 hG hX hN atI rfl L (U4 (ys:=[_,_,_]) cl91 rfl rfl) (i2 dC _).nd (i2 dC _).whole (fun q h=>by cases h)) rfl t3 (K7 (v5 (i2 dC _).nd fun k B h=>H1r [_,_,_,_] (hU _ (cle i hi)) rfl (hsub _ (cle i hi) k B h))) ?_
    refine swg (g:=17) rfl sO (c_c hG hX cl65 rfl hN zI L) rfl t1 t0 (swg (g:=17) rfl sO (m4 L) rfl t1 t0 (sw (Y4 sO L) t2 t0 (mV L rfl (gV (g:=28) rfl (by rw [decide_eq_false hz] <;> rfl) L rfl rfl ?_))))
    refine gV (g:=28) rfl (by rw [decide_eq_false hz] <;> rfl) L rfl rfl ?_
    refine swg (g:=28) rfl (by rw [decide_eq_false hz] <;> rfl) (Y1 ag73 rF rF L) rfl t1 t1 ?_
    refine swg (g:=28) rfl (by rw [decide_eq_false hz] <;> rfl) (Z2 rX L) rfl t1 t1 ?_
    refine swg (g:=28) rfl (by rw [decide_eq_false hz] <;> rfl) (Z1 un79 rfl sz77 dC rX L) rfl t1 t1 ?_
    refine swg (g:=28) rfl (by rw [decide_eq_false hz] <;> rfl) (Y1 ag77 rF rF L) rfl t1 t1 ?_
    refine gV (g:=28) rfl (by rw [decide_eq_false hz] <;> rfl) L rfl rfl ?_
    refine swg (g:=28) rfl (by rw [decide_eq_false hz] <;> rfl) (Y1 ag3 rF rF L) rfl t1 t1 ?_
    refine swg (g:=28) rfl (by rw [decide_eq_false hz] <;> rfl) (m6 hG hX hN atI rfl L (U4 (ys:=[_,_,_]) cl91 rfl rfl) (i2 dC _).nd (i2 dC _).whole (fun q h=>by cases h)) rfl t3 (K7 (v5 (i2 dC _).nd fun k B h=>H1r [_,_,_,_] (hU _ (cle i hi)) rfl (hsub _ (cle i hi) k B h))) ?_
    refine b2n (k:=L9 m p c i) hY hk1 rfl (by rw [decide_eq_false hz] <;> rfl) L rfl ⟨rfl,(by rw [henc i hil ho]; rfl),(by rw [henc i hil ho]; rfl),trivial⟩ ⟨rfl,K7 (H0j [_,_,_,_] (hU _ (cle i hi)) rfl)⟩ ?_
    refine swg (g:=28) rfl (by rw [decide_eq_false hz] <;> rfl) (m4 L) rfl t1 t0 ?_
    refine sw (Y4 (by rw [decide_eq_false hz]; rfl) L) t2 t0 ?_
    refine O1 ⟨y1y (cfI w1f) [⟨[5],[],[14],[]⟩,⟨[2],[604],[15],[]⟩,⟨[14,15],[],[16],[]⟩,⟨[16],[],[17],[]⟩,⟨[17,1],[603],[18],[]⟩,⟨[17,18],[999],[19],[]⟩,⟨[17,19],[999],[20],[]⟩,⟨[17,20],[999],[21],[]⟩,⟨[17,5],[],[22],[]⟩,⟨[17,3],[605],[23],[]⟩,⟨[17,21,22,23],[1000],[24],[]⟩,⟨[17,24],[],[25],[]⟩,⟨[17,25],[],[26],[]⟩,⟨[17,26],[],[27],[]⟩,⟨[27],[],[28],[]⟩,⟨[28,0],[],[29],[]⟩,⟨[28,5],[],[30],[]⟩,⟨[28,1],[603],[31],[]⟩,⟨[28,31],[999],[32],[]⟩,⟨[28,32],[999],[33],[]⟩,⟨[28,33],[999],[34],[]⟩,⟨[28,5],[],[35],[]⟩,⟨[28,3],[605],[36],[]⟩,⟨[28,34,35,36],[1000],[37],[]⟩,⟨[28,29,30,37],[999,1000],[38],[999,1000]⟩,⟨[28,38],[],[39],[]⟩,⟨[28,39],[],[40],[]⟩] (.cons (cf0 rfl) (.cons (cf0 rfl) (.cons (cf0 rfl) (.cons (cf0 rfl) (.cons (cf0 rfl) (.cons (cf0 rfl) (.cons (cf0 rfl) (.cons (cf0 rfl) (.cons (cf0 rfl) (.cons (cf0 rfl) (.cons (cfT rfl rfl (N0r (hU _ (cle i hi)) (hsub _ (cle i hi)) (i2 dC _).nd) rfl (fun _ h=>by cases h)) (.cons (cf0 rfl) (.cons (cf0 rfl) (.cons (cf0 rfl) (.cons (cf0 rfl) (.cons (cf0 rfl) (.cons (cf0 rfl) (.cons (cf0 rfl) (.cons (cf0 rfl) (.cons (cf0 rfl) (.cons (cf0 rfl) (.cons (cf0 rfl) (.cons (cf0 rfl) (.cons (cfT rfl rfl (N0r (hU _ (cle i hi)) (hsub _ (cle i hi)) (i2 dC _).nd) rfl (fun _ h=>by cases h)) (.cons (cfT rfl rfl (k1f rF (hU _ (cle i hi)) rfl) rfl (k1f rF (hU _ hk1) rfl)) (.cons (cf0 rfl) (.cons (cf0 rfl)  .nil))))))))))))))))))))))))))) rfl dC,[(0,_),(1,_),(2,_),(3,_),(10,_),(11,_),(40,_)],(603,_) :: (604,_) :: (605,_) :: (999,_) :: ((U (L9 m p c i+1))),t7,⟨(lkY (hU _ hk1) rfl rfl rfl),(lkY (hU _ hk1) rfl rfl rfl),(lkY (hU _ hk1) rfl rfl rfl),rfl,(Y1s [_] (hU _ hk1) rfl)⟩,?_⟩
    refine P3 rfl rfl ?_
    refine U1 (xq ?_)
    refine j3 (sw (F3 L (w64 oM oM)) t2 t0 (mV L rfl (O1 ?_)))
    exact ⟨i+1,oM,by omega,l3 ⟨oR,rfl,rfl,rfl,rfl,rfl,trivial⟩ ⟨rfl,rfl,rfl,rfl,(by rw [f0c,if_pos ho]; exact H0j [_,_,_,_] (hU _ hk1) rfl)⟩⟩
 ·have hc:=df hc
  have e:i=m.length:=by omega
  subst e
  refine J2 ?_
  refine ⟨.inl rfl,rfl,rfl,rfl,rfl,(by rw [hn]; exact H0j [_,_,_,_] (hU _ (cle _ (Nat.le_refl _))) rfl)⟩
end Go.Proofs.YtjagfionflbjbaaGreat.N
namespace Go.Proofs.YtjagfionflbjbaaGreat.SH
open Go Go.RowKit
@[reducible] def pvV (k:Nat):List L2→PV
 | []=>.p (.a (.slice none 0 0))
 | a :: v=>.ref k 0 (v.length+1) (v.length+1)
@[reducible] def pvB (k:Nat)(e:TypeId):List L2→List (Nat×Blk)
 | []=>[]
 | a :: v=>[(k,⟨e,1,.pure (a :: v)⟩)]
@[reducible] def pvF (k:Nat):List L2→Option Nat
 | []=>some k
 | _ :: _=>none
theorem q0a {k:Nat}{e:TypeId}{xs:List L2}{q:Nat}{B:Blk}(h:(pvB k e xs).lookup q=some B):q=k∧B.cs.only []=true:=by
 cases xs with
 | nil=>cases h
 | cons a v =>
  simp only [pvB,i0] at h
  by_cases e:q=k
  ·subst e; simp at h; subst h; exact ⟨rfl,rfl⟩
  ·rw [show (q == k)=false by simpa using e] at h; cases h
section
variable {P:Program} {F:Fr} {d:Nat} {T:TypeId} {pos:String} {aft:Array Edge} {g:Option (Nat×Bool)} {t tx:TypeId}
theorem K0b {x:Operand}{k:Nat}{e:TypeId}{xs:List L2}(hu:P.underlying t=some (.slice e))(hlt:d<F.nt) :
  O2 P F ⟨some d,.call ⟨.builtin .len,#[x],#[t]⟩,T,pos,aft,g⟩ { rs:=[(x,pvV k xs)],rb:=pvB k e xs,ws:=[(d,.p (.a (.int .i64 xs.length)))] }:=by
 cases xs with
 | nil=>exact w0m hu hlt
 | cons a v=>exact p0j (n:=v.length+1) (B:=⟨e,1,.pure (a :: v)⟩) hu rfl hlt
theorem K0y {x y:Operand}{k:Nat}{e:TypeId}{ie:TypeInfo}{z:Value}{xs:List L2}{y0:L2}(hu:P.underlying t=some (.slice e))(hux:P.underlying tx=some (.slice e))(hi:∀ w,(typeInfo e).run P w = .ok ie w)(hz:ie.zero=some z)(hsz:ie.size=1)
  (hzl:z.cells.size=1) (hby:2*(xs.length+1)*ie.bytes≤281474976710656) (h63:xs.length+1≤9223372036854775807) (hpk:F.pin k=none) (hlt:d<F.nt) :
  O2 P F ⟨some d,.call ⟨.builtin .append,#[x,y],#[t,tx]⟩,T,pos,aft,g⟩ ⟨[(x,pvV k xs),(y,.p (.sl 1 [y0]))],pvB k e xs,pvF k xs,[(d,pvV k (xs++[y0]))],pvB k e (xs++[y0])⟩:=by
 cases xs with
 | nil=>exact apN (k:=k) (m:=1) (sz:=1) (r:=1) hu hux hi hz hsz hzl (by omega) rfl rfl (by simpa using hby) (by omega) hpk hlt
 | cons a v =>
  have:=apP (P:=P) (F:=F) (d:=d) (T:=T) (pos:=pos) (aft:=aft) (g:=g) (t:=t) (tx:=tx) (x:=x) (y:=y) (k:=k) (n:=v.length+1) (m:=1) (sz:=1) (q:=(v++[y0]).length+1) (r:=(v++[y0]).length+1) (xs:=a :: v) (ys:=[y0]) hu hux hi hz hsz hzl (by omega) rfl (by simp) rfl rfl (by simp) (by simp) (by simpa using hby) (by simpa using h63) hpk hlt
  exact this
end
section
variable {P:Program} {F:Fr} {ops:Array Oper} {sl:List (Nat×PV)} {hb:List (Nat×Blk)} {op:Op} {T:TypeId} {pos:String} {aft:Array Edge} {os:List Oper} {dst:Option Nat} {rs:List (Operand×PV)} {rb wb:List (Nat×Blk)} {fr:Option Nat}
theorem swA {K:List Ann→St→Prop}{d:Nat}{v:PV}(hc:O2 P F ⟨dst,op,T,pos,aft,none⟩ ⟨rs,rb,fr,[(d,v)],wb⟩)(h1:w8 ⟨sl,hb⟩ rs)(h2:F6 ⟨sl,hb⟩ rb)(h3:g0g ⟨sl,hb⟩ fr)(hn:i7 P F ops ⟨(d,v) :: sl,wb++hb⟩ os fun As S'=>K (⟨rs,rb,fr,[(d,v)],wb⟩ :: As) S') :
  i7 P F ops ⟨sl,hb⟩ (⟨dst,op,T,pos,aft,none⟩ :: os) K :=
 let ⟨As,S',h,hK⟩:=hn
 ⟨_,S',.cons (E7 rfl hc) (m7 h1 h2 h3) h,hK⟩
end
theorem F1x {A B:List (Nat×Blk)}(hA:K5 A)(hB:K5 B)(hd:∀ k,A.lookup k≠none→B.lookup k=none):K5 (A++B):=by
 refine ⟨fun k hk=>by rw [T1,hA.low k hk,hB.low k hk]; rfl,?_,fun k hk=>by rw [L4,hA.free k hk,hB.free k hk]; rfl,fun j C hj i x hx q hq=>?_⟩
 ·rw [List.map_append,List.nodup_append]
  refine ⟨hA.nd,hB.nd,fun a ha b hb e=>?_⟩
  subst e
  obtain ⟨⟨a,X⟩,hX,rfl⟩:=G0.1 ha
  obtain ⟨⟨a',Y⟩,hY,e⟩:=G0.1 hb
  simp only at e
  subst e
  have:=hd a' (by rw [R5 hA.nd hX]; simp)
  rw [R5 hB.nd hY] at this; cases this
 ·rw [T1] at hj ⊢
  cases e:A.lookup j with
  | some D =>
   rw [e,K0] at hj
   injection hj with hj
   subst hj
   obtain ⟨D',hD'⟩:=j1.1 (hA.whole j D e i x hx q hq)
   rw [hD']; simp
  | none =>
   rw [e,l0] at hj
   obtain ⟨D',hD'⟩:=j1.1 (hB.whole j C hj i x hx q hq)
   rw [hD']; simp
theorem y1f {k:Nat}(hk:1000≤k){e:TypeId}(xs:List L2):K5 (pvB k e xs):=by
 cases xs with
 | nil=>exact ⟨fun _ _=>rfl,List.nodup_nil,fun _ _=>rfl,fun j B hj=>by cases hj⟩
 | cons a v =>
  refine ⟨fun q hq=>?_,by simp,fun q hq=>by simp [U2,Cells.free],fun j B hj i x hx q hq=>?_⟩
  ·have:q<1000:=by simpa [Nat.blt_eq] using hq
   simp only [pvB,i0]
   rw [show (q == k)=false by simp; omega]; rfl
  ·have:=PV.only_mem (Cells.only_get (q0a hj).2 hx) hq
   simp at this
end Go.Proofs.YtjagfionflbjbaaGreat.SH
namespace Go.Proofs.YtjagfionflbjbaaGreat.SH
open Go
theorem J1s {sl:List (Nat×PV)}{R:List (Nat×Blk)}{k:Nat}{e:TypeId}{xs:List L2}(pre:List (Nat×Blk))(hp:b6 pre=true)(hk:1000≤k):F6 ⟨sl,pre++(pvB k e xs++R)⟩ (pvB k e xs):=by
 cases xs with
 | nil=>trivial
 | cons a v =>
  refine ⟨?_,trivial⟩
  show (pre++_).lookup k=_
  rw [T1,s5 hp hk,l0]; simp [pvB]
theorem Y1p {k:Nat}(hk:1000≤k){e:TypeId}{xs:List L2}:∀ p∈pvB k e xs,cls p.1∈[1000]:=by
 intro p hp
 cases xs with
 | nil=>cases hp
 | cons a v=>obtain rfl:=List.mem_singleton.1 hp; rw [F0p hk]; exact List.mem_singleton.2 rfl
end Go.Proofs.YtjagfionflbjbaaGreat.SH
namespace Go.Proofs.YtjagfionflbjbaaGreat.SH
open Go
theorem T3 {k d:Nat}{xs:List L2}(h:k≠d):(pvV k xs).free d=true:=by
 cases xs with
 | nil=>rfl
 | cons a v=>simp [PV.free,h]
end Go.Proofs.YtjagfionflbjbaaGreat.SH
namespace Go.Proofs.YtjagfionflbjbaaGreat.SH
open Go
theorem J1f {P:Program}{F:Fr}{Q:Exit→St→Prop}{S:St}{x y:Code}{sl sl0:List (Nat×PV)}{hb T:List (Nat×Blk)}(_:d7 S sl0)(h:i4 P F x S (J0b (fun S1=>d7 S1 (sl++sl0)∧O5 S1 (hb++T)) Q))(hn:i4 P F y ⟨sl++sl0,hb++T⟩ Q):i4 P F x S (J0b (fun S'=>i4 P F y S' Q) Q):=by
 refine ⟨fun n a w hS=>wpIn_mono (h.run n a w hS) fun e a' w' hq=>hq.elim (fun ⟨S',h1,h4⟩=>.inl ⟨S',?_,h4⟩) .inr⟩
 cases e with
 | normal=>exact hn.weak (l3 h1.1 h1.2)
 | _=>exact h1
end Go.Proofs.YtjagfionflbjbaaGreat.SH
set_option maxRecDepth 100000
set_option maxHeartbeats 4000000
namespace Go.Proofs.YtjagfionflbjbaaGreat.N
open Go Go.Proofs.YtjagfionflbjbaaGreat.SH Go.Proofs.YtjagfionflbjbaaGreat.NumA
open Go.Proofs.Tryz renaming call126→cl126,call52→cl52,call55→cl55,call56→cl56,call66→cl66,call67→cl67,call90→cl90,call91→cl91,call92→cl92,call97→cl97,isAgg3→ag3,isAgg47→ag47,isAgg73→ag73,isAgg77→ag77,sizeOf3→sz3,sizeOf47→sz47,sizeOf77→sz77,typeInfo3→ti3,underlying27→un27,underlying77→un77,underlying79→un79,zeroValue3→zv3,zeroValue47→zv47
theorem y1s {m:List (List Rat)}{p c i:Nat}(hi:i<m.length)(ho:h0g m p c i=true):(D5 m p c).getD (L9 m p c i) 0=i∧L9 m p c i<(D5 m p c).length:=by
 obtain ⟨d,hd⟩:∃ d,m.length=i+(1+d):=⟨m.length - i - 1,by omega⟩
 have e:D5 m p c=(List.range i).filter (h0g m p c)++(i :: ((List.range' (i+1) d).filter (h0g m p c))):=by
  rw [D5,hd,List.range_eq_range',← List.range'_append,List.filter_append,List.range_eq_range']
  congr 1
  rw [Nat.add_comm 1 d,List.range'_succ,F1,Nat.one_mul,List.filter_cons_of_pos ho]
 rw [e,L9]
 constructor
 ·rw [f0,D0 (Nat.le_refl _)]; simp
 ·simp
theorem h1h {m:List (List Rat)}{p c i:Nat}(hi:i≤m.length):(D5 m p c).take (L9 m p c i)=(List.range i).filter (h0g m p c):=by
 obtain ⟨d,hd⟩:∃ d,m.length=i+d:=⟨m.length - i,by omega⟩
 have e:D5 m p c=(List.range i).filter (h0g m p c)++(List.range' i d).filter (h0g m p c):=by
  rw [D5,hd,List.range_eq_range',← List.range'_append,List.filter_append,List.range_eq_range',F1,Nat.one_mul]
 rw [e,L9,List.take_left]
theorem w1h {m:List (List Rat)}{p c i n cc:Nat}(h:RC n cc m)(hp:p<n)(hi:i<m.length):(E6 m m p c (L9 m p c i)).getD i []=m.getD i []:=by
 rw [d0s h.1 h hp _ (j1a (Nat.le_of_lt hi)),if_neg]
 rw [h1h (Nat.le_of_lt hi)]
 intro hm
 have:=(List.mem_filter.1 hm).1
 simp at this
theorem p1d {m:List (List Rat)}{p c:Nat}:(D5 m p c).length=L9 m p c m.length:=rfl
def bv (s:Bool)(n:Nat):PV:=if s then .ref 1002 0 n n else .p (.a (.slice none 0 0))
def bsT (s:Bool)(b:List (List Rat)):List (Nat×Blk):=if s then I2 1 b else []
def Y3 (s:Bool)(m b:List (List Rat)):List (Nat×Blk):=I2 0 m++bsT s b
theorem P0h {s:Bool}{n k:Nat}(h:1002≠k):(bv s n).free k=true:=by cases s <;> simp [bv,PV.free,h]
theorem H1v {s:Bool}{n:Nat}:(bv s n).only [999,1001,1002]=true:=by cases s <;> rfl
theorem p0a {m b:List (List Rat)}:Y3 false m b=I2 0 m:=by simp [Y3,bsT]
theorem Q1p {m b:List (List Rat)}:Y3 true m b=I2 0 m++I2 1 b:=rfl
theorem I7 (s:Bool)(m b:List (List Rat)):K5 (Y3 s m b):=by
 cases s
 ·rw [p0a]; exact i2 dC m
 ·exact M7 m b
theorem j0j {s:Bool}{m b:List (List Rat)}:∀ k B,(I2 0 m).lookup k=some B→(Y3 s m b).lookup k=some B:=fun k B h=>by rw [Y3,T1,h]; rfl
theorem j1s {s:Bool}{m b:List (List Rat)}:(Y3 s m b).lookup 1001=some (hdB 0 m):=j0j _ _ hdL
theorem b0g {s:Bool}{m b:List (List Rat)}{k:Nat}{B:Blk}(h:(Y3 s m b).lookup k=some B):(I2 0 m).lookup k=some B∨(s=true∧(I2 1 b).lookup k=some B):=by
 rw [Y3,T1] at h
 cases e:(I2 0 m).lookup k with
 | some C=>rw [e] at h; exact .inl h
 | none =>
  rw [e,l0] at h
  cases s
  ·cases h
  ·exact .inr ⟨rfl,h⟩
theorem k0n {s:Bool}{m b:List (List Rat)}{k:Nat}{B:Blk}(h:(Y3 s m b).lookup k=some B):1000≤k:=by
 rcases b0g h with h | ⟨_,h⟩ <;> exact d5 dC h
theorem k0s {m b:List (List Rat)}:∀ k B,(I2 1 b).lookup k=some B→(Y3 true m b).lookup k=some B:=fun k B h=>by
 rw [Q1p,T1,J8 (m:=b) (b:=m) (k:=k) (s:=1) (s':=0) dC dC dC (by rw [h]; simp),l0,h]
theorem F1v {s:Bool}{m m' b b':List (List Rat)}(hl:m'.length=m.length)(hl2:b'.length=b.length){q:Nat}{B1:Blk}(hq:q<1100)(h:(Y3 s m' b').lookup q=some B1):∃ B0,(Y3 s m b).lookup q=some B0∧B1.sz=B0.sz∧B1.cs.len=B0.cs.len:=by
 rcases b0g h with hx | ⟨rfl,hx⟩
 ·obtain ⟨B0,h0,h1⟩:=f0b (s:=0) dC hl hq hx
  exact ⟨B0,j0j _ _ h0,h1⟩
 ·obtain ⟨B0,h0,h1⟩:=f0b (s:=1) dC hl2 hq hx
  exact ⟨B0,k0s _ _ h0,h1⟩
theorem K0s {s:Bool}{m m' b b':List (List Rat)}(hl:D9 m m')(hl2:D9 b b'){q:Nat}{B1:Blk}(h:(Y3 s m' b').lookup q=some B1):∃ B0,(Y3 s m b).lookup q=some B0∧B1.sz=B0.sz∧B1.cs.len=B0.cs.len:=by
 rcases b0g h with hx | ⟨rfl,hx⟩
 ·obtain ⟨B0,h0,h1⟩:=M9 (s:=0) dC hl hx
  exact ⟨B0,j0j _ _ h0,h1⟩
 ·obtain ⟨B0,h0,h1⟩:=M9 (s:=1) dC hl2 hx
  exact ⟨B0,k0s _ _ h0,h1⟩
theorem K0q {s k:Nat}{m m':List (List Rat)}(h2:s<9)(hl:m'.length=m.length)(h:(I2 s m').lookup k≠none):(I2 s m).lookup k≠none:=fun e=>h (q1a h2 hl e)
theorem v1r {s:Bool}{m m' b b':List (List Rat)}(hl:m'.length=m.length)(hl2:b'.length=b.length){k:Nat}(h:(Y3 s m' b').lookup k≠none):(Y3 s m b).lookup k≠none:=by
 obtain ⟨B,hB⟩:=j1.1 h
 rcases b0g hB with hx | ⟨rfl,hx⟩
 ·have:=K0q (s:=0) (m:=m) (m':=m') (k:=k) dC hl (by rw [hx]; simp)
  obtain ⟨C,hC⟩:=j1.1 this
  rw [j0j _ _ hC]; simp
 ·have:=K0q (s:=1) (m:=b) (m':=b') (k:=k) dC hl2 (by rw [hx]; simp)
  obtain ⟨C,hC⟩:=j1.1 this
  rw [k0s _ _ hC]; simp
theorem V1n (s:Bool)(c:Nat)(m b:List (List Rat))(i p:Nat)(hi:i<m.length)(hp:p<m.length)(hne:i≠p)(hb:b.length=m.length):E4 E y8 92 [.at_ 999 0 3,.clo (.func 93) [] [.at_ 6 0 1,.at_ 5 0 1]] ([bxI 5 p,bxI 6 i,wV c m.length (bv s m.length)]++Y3 s m b) ([bxI 5 p,bxI 6 i,wV c m.length (bv s m.length)]++Y3 s (J5 m i p) (J5 b i p)) (.p (.tup [])):=by
 cases s
 ·rw [p0a,p0a]; exact P1k c m i p hi hp hne
 ·have:=P1y c m b i p hi hp hne oM oM
  rw [hb] at this; exact this
theorem Y1q (s:Bool)(c:Nat)(m b:List (List Rat))(p:Nat)(q:Rat)(hp:p<m.length)(hb:b.length=m.length)(hl:(m.getD p []).length<1000000000)(hs:∀ a∈m.getD p [],qw a<1000000000)(hc:qw q<1000000000)(hlb:(b.getD p []).length<1000000000)(hsb:∀ a∈b.getD p [],qw a<1000000000):E4 E y8 92 [.at_ 999 0 3,.clo (.func 95) [] [.at_ 5 0 1,.at_ 8 0 4]] ([bxI 5 p,bxQ 8 q,wV c m.length (bv s m.length)]++Y3 s m b) ([bxI 5 p,bxQ 8 q,wV c m.length (bv s m.length)]++Y3 s (I9 m p q) (I9 b p q)) (.p (.tup [])):=by
 cases s
 ·rw [p0a,p0a]; exact Q1d c m p q hp hl hs hc
 ·have:=Q1m c m b p q hp hl hs hc oM hlb hsb
  rw [hb] at this; exact this
theorem V1k (s:Bool)(c:Nat)(m b:List (List Rat))(i p:Nat)(q:Rat)(B C D:Nat)(hi:i<m.length)(hp:p<m.length)(hne:i≠p)(hb:b.length=m.length)(hlen:(m.getD p []).length=(m.getD i []).length)(hl:(m.getD i []).length<1000000000)(hB:∀ a∈m.getD i [],qw a≤B)(hC:∀ a∈m.getD p [],qw a≤C)(hD:qw q≤D)(hlenb:(b.getD p []).length=(b.getD i []).length)(hlb:(b.getD i []).length<1000000000)(hBb:∀ a∈b.getD i [],qw a≤B)(hCb:∀ a∈b.getD p [],qw a≤C)(hbd:B+(D+C)+1<1000000000):E4 E stA 92 [.at_ 999 0 3,.clo (.func 98) [] [.at_ 10 0 1,.at_ 5 0 1,.at_ 11 0 4]] ([bxI 5 p,bxI 10 i,bxQ 11 q,wV c m.length (bv s m.length)]++Y3 s m b) ([bxI 5 p,bxI 10 i,bxQ 11 q,wV c m.length (bv s m.length)]++Y3 s (V7 m i p q) (V7 b i p q)) (.p (.tup [])):=by
 cases s
 ·rw [p0a,p0a]; exact Q1y c m i p q B C D hi hp hne hlen hl hB hC hD hbd
 ·have:=Q1s c m b i p q B C D hi hp hne hlen hl hB hC hD hbd B C oM oM hlenb hlb hBb hCb hbd
  rw [hb] at this; exact this
theorem Q0z (s:Bool)(cols n p c:Nat)(T:List (Nat×Blk))(hT:K5 T):E4 E stO 97 [.at_ 999 0 3,.p (vZ p),.p (vZ c)] ([wV cols n (bv s n)]++T) ([(603,⟨73,1,.mix [.at_ 999 0 3]⟩),bxI 604 p,bxI 605 c,wV cols n (bv s n)]++T) (.clo (.func 126) [] [.at_ 603 0 1,.at_ 604 0 1,.at_ 605 0 1]):=by
 cases s
 ·exact P0m cols n p c T hT
 ·exact N0z cols n n p c T hT
def K6 (pv:List Nat):List L2:=pv.map fun k:Nat=>vZ (k:Int)
@[simp] theorem m8 (pv:List Nat):(K6 pv).length=pv.length:=by simp [K6]
@[reducible] def tlP (pv:List Nat)(R:List (Nat×Blk)):List (Nat×Blk):=pvB 1003 3 (K6 pv)++R
theorem v1y {s k:Nat}{m:List (List Rat)}(h2:s<2)(hk:k=1003):(I2 s m).lookup k=none:=by
 cases e:(I2 s m).lookup k with
 | none=>rfl
 | some B=>rcases P5 oM (show (I2 s m).lookup k≠none by rw [e]; simp) with h3 | ⟨q',_,h3⟩ <;> (try simp only [E3] at h3) <;> omega
theorem e8 {s:Bool}{k:Nat}{m b:List (List Rat)}(hk:k=1003):(Y3 s m b).lookup k=none:=by
 cases e:(Y3 s m b).lookup k with
 | none=>rfl
 | some B=>rcases b0g e with h | ⟨_,h⟩ <;> rw [v1y dC hk] at h <;> cases h
theorem V1f {pv:List Nat}{R:List (Nat×Blk)}(hR:K5 R)(h:R.lookup 1003=none):K5 (tlP pv R) :=
 F1x (y1f dC _) hR fun k hk=>by
  obtain ⟨B,hB⟩:=j1.1 hk
  rw [(q0a hB).1]; exact h
theorem y3 {pv:List Nat}{s:Bool}{m b:List (List Rat)}:K5 (tlP pv (Y3 s m b)):=V1f (I7 s m b) (e8 rfl)
theorem E8 {pv:List Nat}{s:Bool}{m b:List (List Rat)}:∀ k B,(Y3 s m b).lookup k=some B→(tlP pv (Y3 s m b)).lookup k=some B:=fun k B h=>by
 rw [tlP,T1]
 cases e:(pvB 1003 3 (K6 pv)).lookup k with
 | none=>rw [l0,h]
 | some C =>
  have:=(q0a e).1
  rw [e8 this] at h; cases h
theorem B0r {pv:List Nat}{s:Bool}{m b:List (List Rat)}:∀ k B,(I2 0 m).lookup k=some B→(tlP pv (Y3 s m b)).lookup k=some B:=fun k B h=>E8 _ _ (j0j _ _ h)
theorem F1c {pv:List Nat}{s:Bool}{m b:List (List Rat)}:(tlP pv (Y3 s m b)).lookup 1001=some (hdB 0 m):=B0r _ _ hdL
@[reducible] def hC (cols n c:Nat)(v:PV)(T:List (Nat×Blk)):List (Nat×Blk):=[bxW,bxI 4 c,wV cols n v]++T
theorem M1k {cols n c:Nat}{v:PV}{T:List (Nat×Blk)}(hT:K5 T):((hC cols n c v T).map (·.1)).Nodup:=by
 have h:∀ k,k<1000→k ∉ T.map (·.1):=fun k hk hm=>by
  obtain ⟨⟨q,B⟩,hp,e⟩:=G0.1 hm
  simp only at e
  subst e
  have:=hT.low q (by simpa [Nat.blt_eq] using hk)
  rw [R5 hT.nd hp] at this; cases this
 simp only [hC,L1,List.nil_append,R0,List.nodup_cons,List.mem_cons,not_or]
 exact ⟨⟨by decide,by decide,h 1 dC⟩,⟨by decide,h 4 dC⟩,h 999 dC,hT.nd⟩
theorem R8 {bx T:List (Nat×Blk)}(ks:List Nat)(hb:(bx.all fun p=>p.2.cs.only ks)=true)(hk:∀ k∈ks,(bx++T).lookup k≠none)(hT:Whole T):Whole (bx++T):=by
 intro j B hj i x hx q hq
 rw [T1] at hj
 cases e:bx.lookup j with
 | some C =>
  rw [e,K0] at hj
  injection hj with hj
  subst hj
  rw [s0] at hb
  exact hk q (PV.only_mem (Cells.only_get (hb _ (L3 e)) hx) hq)
 | none =>
  rw [e,l0] at hj
  exact K8 (hT j B hj i x hx q hq)
def ksB (s:Bool):List Nat:=if s then [999,1001,1002] else [999,1001]
theorem F0n {s:Bool}{c n:Nat}:(wV c n (bv s n)).2.cs.only (ksB s)=true:=by cases s <;> rfl
theorem D0j {s:Bool}{m b:List (List Rat)}{T bx:List (Nat×Blk)}(h9:bx.lookup 999≠none)(hT:∀ k B,(Y3 s m b).lookup k=some B→T.lookup k=some B):∀ k∈ksB s,(bx++T).lookup k≠none:=by
 intro k hk
 have h1:T.lookup 1001≠none:=by rw [hT _ _ j1s]; simp
 cases s
 ·simp only [ksB,Bool.false_eq_true,if_false,List.mem_cons,List.not_mem_nil,or_false] at hk
  rcases hk with rfl | rfl
  ·exact m0c h9
  ·exact K8 h1
 ·simp only [ksB,if_true,List.mem_cons,List.not_mem_nil,or_false] at hk
  rcases hk with rfl | rfl | rfl
  ·exact m0c h9
  ·exact K8 h1
  ·exact K8 (by rw [hT _ _ (k0s _ _ (show (I2 1 b).lookup 1002=some (hdB 1 b) from hdL))]; simp)
theorem W1r {s:Bool}{cols n c:Nat}{m b:List (List Rat)}{T:List (Nat×Blk)}(hT:K5 T)(hs:∀ k B,(Y3 s m b).lookup k=some B→T.lookup k=some B):Whole (hC cols n c (bv s n) T) :=
 R8 (ksB s) (by simp only [List.all_cons,List.all_nil,Bool.and_true,j0]; exact ⟨by cases s <;> rfl,by cases s <;> rfl,F0n⟩) (D0j (by simp [i0]) hs) hT.whole
theorem F0b {xs:List L2}:(pvV 1003 xs).only ks8=true:=by cases xs <;> rfl
theorem ncE {F:Fr}{n:Nat}{s:Bool}{sl slR:List (Nat×PV)}{w0 bx pre pre':List (Nat×Blk)}{pv:List Nat}{m0 b0 m b m' b':List (List Rat)}(hl:m'.length=m.length)(hlb:b'.length=b.length)(hl0:m.length=m0.length)(hlb0:b.length=b0.length)(G:GFr E y8 (w0++Y3 s m0 b0) n F)(hp:b6 pre=true)(hbp:O5 ⟨[],pre⟩ bx)(hpp:O5 ⟨[],pre⟩ pre')(hbx:(bx.all fun p=>p.2.cs.only (ksB s))=true)(h9:bx.lookup 999≠none)(hpo:(pre'.all fun p=>p.2.cs.only ks8)=true)(hso:(slR.all fun p=>p.2.only ks8)=true)(hS:d7 ⟨sl,pre++tlP pv (Y3 s m b)⟩ slR) :
  d0a y8 F ⟨sl,pre++tlP pv (Y3 s m b)⟩ (bx++Y3 s m b) (bx++Y3 s m' b') slR (pre'++tlP pv (Y3 s m' b')):=by
 refine ncT (T:=Y3 s m b) (T':=Y3 s m' b') (U:=tlP pv (Y3 s m b)) (U':=tlP pv (Y3 s m' b')) ks8 rfl hp (fun k B h=>hbp.all k B h) (fun k B h=>hpp.all k B h) (fun k B h=>⟨E8 k B h,k0n h⟩) (fun k B h=>k0n h) (fun k B h=>?_) (fun q B1 hq h=>F1v hl hlb hq h) hpo hso hS
  (j1y (pre:=[]) G fun k h=>K8 (v1r hl0 hlb0 h)) G.ps (R8 (ksB s) hbx (D0j h9 fun _ _ h=>h) (I7 s m' b').whole)
 rw [tlP,T1] at h
 cases e:(pvB 1003 3 (K6 pv)).lookup k with
 | none=>rw [e,l0] at h; exact .inl h
 | some C =>
  rw [e,K0] at h
  injection h with h
  subst h
  obtain ⟨h1,h2⟩:=q0a e
  refine .inr ⟨by omega,by rw [tlP,T1,e]; rfl,e8 h1,e8 h1,fun i x hx q hq _=>?_⟩
  have:=PV.only_mem (Cells.only_get h2 hx) hq
  simp at this
@[simp] theorem V1s {s:Bool}{n k:Nat}(h:1002≠k):(bv s n).free k=true:=P0h h
theorem p1z {s:Bool}{m b:List (List Rat)}{k:Nat}(h:k<1100):U2 k (Y3 s m b)=true:=by
 have h1:∀ (q:Nat) (x:List (List Rat)),U2 k (I2 q x)=true:=fun q x=>by
  simp only [I2,U2,Cells.free,j0]; exact ⟨v0a h 0 x,f0m 0 x⟩
 rw [Y3,L4,h1]
 cases s
 ·rfl
 ·exact h1 1 b
@[reducible] def bxs (s:Bool)(cols n c p:Nat)(q:Rat):List (Nat×Blk):=[wV cols n (bv s n),(1,⟨73,1,.mix [.at_ 999 0 3]⟩),(3,bQ q),bxI 4 c,bxI 5 p]
theorem k1d {s:Bool}{cols n c p:Nat}{q:Rat}{k:Nat}(h:(bxs s cols n c p q).lookup k≠none):k=999∨k=1∨k=3∨k=4∨k=5:=by
 simp only [bxs,i0,List.lookup_nil] at h
 by_cases e1:k=999; exact .inl e1
 by_cases e2:k=1; exact .inr (.inl e2)
 by_cases e3:k=3; exact .inr (.inr (.inl e3))
 by_cases e4:k=4; exact .inr (.inr (.inr (.inl e4)))
 by_cases e5:k=5; exact .inr (.inr (.inr (.inr e5)))
 rw [show (k == 999)=false by simpa using e1,show (k == 1)=false by simpa using e2,show (k == 3)=false by simpa using e3,show (k == 4)=false by simpa using e4,show (k == 5)=false by simpa using e5] at h
 exact absurd rfl h
@[reducible] def hR (s:Bool)(cols n c p:Nat)(q:Rat)(pv:List Nat)(m b:List (List Rat)):List (Nat×Blk):=bxs s cols n c p q++tlP pv (Y3 s m b)
theorem k1h {s:Bool}{cols n c p:Nat}{q:Rat}{pv:List Nat}{m b:List (List Rat)}{k:Nat}(h:k<1000)(h1:k≠999)(h2:k≠1)(h3:k≠3)(h4:k≠4)(h5:k≠5):(hR s cols n c p q pv m b).lookup k=none:=by
 rw [hR,T1,y3.low k (by simpa [Nat.blt_eq] using h),Option.or_none]
 cases e:(bxs s cols n c p q).lookup k with
 | none=>rfl
 | some B=>rcases k1d (by rw [e]; simp) with h | h | h | h | h <;> contradiction
theorem b2m {s:Bool}{cols n c p:Nat}{q:Rat}{pv:List Nat}{m b:List (List Rat)}:Whole (hR s cols n c p q pv m b) :=
 R8 (ksB s) (by simp only [List.all_cons,List.all_nil,Bool.and_true,j0]; exact ⟨F0n,by cases s <;> rfl,by cases s <;> rfl,by cases s <;> rfl,by cases s <;> rfl⟩) (D0j (by simp [i0]) fun k B h=>E8 k B h) y3.whole
theorem F1j {s:Bool}{cols n c p:Nat}{q:Rat}{pv:List Nat}{m b:List (List Rat)}{k:Nat}{B:Blk}(h:(hR s cols n c p q pv m b).lookup k=some B):(bxs s cols n c p q).lookup k=some B∨((bxs s cols n c p q).lookup k=none∧((pvB 1003 3 (K6 pv)).lookup k=some B∨((pvB 1003 3 (K6 pv)).lookup k=none∧(Y3 s m b).lookup k=some B))):=by
 rw [hR,T1] at h
 cases e:(bxs s cols n c p q).lookup k with
 | some C=>rw [e,K0] at h; exact .inl h
 | none =>
  rw [e,l0,tlP,T1] at h
  cases e2:(pvB 1003 3 (K6 pv)).lookup k with
  | some C=>rw [e2,K0] at h; exact .inr ⟨rfl,.inl h⟩
  | none=>rw [e2,l0] at h; exact .inr ⟨rfl,.inr ⟨rfl,h⟩⟩
theorem d1y {s:Bool}{cols n c p:Nat}{q:Rat}{pv:List Nat}{m b m' b':List (List Rat)}(hm:D9 m m')(hb:D9 b b'){k:Nat}{B1:Blk}(h:(hR s cols n c p q pv m' b').lookup k=some B1):∃ B0,(hR s cols n c p q pv m b).lookup k=some B0∧B1.sz=B0.sz∧B1.cs.len=B0.cs.len:=by
 rw [hR,T1]
 rcases F1j h with h | ⟨h0,h | ⟨h1,h⟩⟩
 ·exact ⟨B1,by rw [h]; rfl,rfl,rfl⟩
 ·exact ⟨B1,by rw [h0,l0,tlP,T1,h]; rfl,rfl,rfl⟩
 ·obtain ⟨B0,h2,h3⟩:=K0s hm hb h
  exact ⟨B0,by rw [h0,l0,tlP,T1,h1,l0,h2],h3⟩
theorem D0n {m m':List (List Rat)}(h:D9 m m'):D9 m' m:=⟨h.1.symm,fun i=>(h.2 i).symm⟩
theorem f0g {n c:Nat}{m m':List (List Rat)}(h:RC n c m)(h':RC n c m'):D9 m m':=by
 refine ⟨by rw [h.1,h'.1],fun i=>?_⟩
 by_cases e:i<n
 ·rw [h.get e,h'.get e]
 ·rw [f0,f0,List.getElem?_eq_none (by have:=h'.1; omega),List.getElem?_eq_none (by have:=h.1; omega)]
theorem b2r {s:Bool}{c p:Nat}{q:Rat}{pv:List Nat}{m b:List (List Rat)}:j0r w1f ([(1,⟨73,1,.mix [.at_ 999 0 3]⟩),(3,bQ q),bxI 4 c,bxI 5 p]++tlP pv (Y3 s m b)):=by
 refine ⟨fun k hk=>?_,?_⟩
 ·have hk:k=603∨k=604∨k=605∨k=999:=by simpa using hk
  rw [T1,y3.low k (by simp [Nat.blt_eq]; omega),Option.or_none]
  rcases hk with rfl | rfl | rfl | rfl <;> rfl
 ·have hno:∀ k,k<1000→k ∉ (tlP pv (Y3 s m b)).map (·.1):=fun k hk hm=>by
   obtain ⟨⟨q,B⟩,hp,e⟩:=G0.1 hm
   simp only at e
   subst e
   have:=(y3 (pv:=pv) (s:=s) (m:=m) (b:=b)).low q (by simpa [Nat.blt_eq] using hk)
   rw [R5 y3.nd hp] at this; cases this
  simp only [L1,List.nil_append,R0,List.nodup_cons,List.mem_cons,not_or]
  exact ⟨⟨by decide,by decide,by decide,hno 1 dC⟩,⟨by decide,by decide,hno 3 dC⟩,⟨by decide,hno 4 dC⟩,hno 5 dC,y3.nd⟩
theorem b2s {F:Fr}{s:Bool}{sl slR:List (Nat×PV)}{bx pre pre':List (Nat×Blk)}{pv:List Nat}{m b m' b':List (List Rat)}(hl:D9 m m')(hlb:D9 b b')(hp:b6 pre=true)(hbp:O5 ⟨[],pre⟩ bx)(hpp:O5 ⟨[],pre⟩ pre')(hbx:(bx.all fun p=>p.2.cs.only (ksB s))=true)(h9:bx.lookup 999≠none)(hS:d7 ⟨sl,pre++tlP pv (Y3 s m b)⟩ slR) :
  d0a stA F ⟨sl,pre++tlP pv (Y3 s m b)⟩ (bx++Y3 s m b) (bx++Y3 s m' b') slR (pre'++tlP pv (Y3 s m' b')):=by
 refine D1j (T:=Y3 s m b) (T':=Y3 s m' b') (U:=tlP pv (Y3 s m b)) (U':=tlP pv (Y3 s m' b')) hp (fun k B h=>hbp.all k B h) (fun k B h=>hpp.all k B h) (fun k B h=>⟨E8 k B h,k0n h⟩) (fun k B h=>k0n h) (fun k B h=>?_) (fun q B1 h=>K0s hl hlb h) hS (R8 (ksB s) hbx (D0j h9 fun _ _ h=>h) (I7 s m' b').whole)
 rw [tlP,T1] at h
 cases e:(pvB 1003 3 (K6 pv)).lookup k with
 | none=>rw [e,l0] at h; exact .inl h
 | some C =>
  rw [e,K0] at h
  injection h with h
  subst h
  obtain ⟨h1,h2⟩:=q0a e
  exact .inr ⟨by omega,by rw [tlP,T1,e]; rfl,e8 h1,e8 h1⟩
@[reducible] def bx3 (p c:Nat):List (Nat×Blk):=[(603,⟨73,1,.mix [.at_ 999 0 3]⟩),bxI 604 p,bxI 605 c]
theorem j1r {p c k:Nat}(h:(bx3 p c).lookup k≠none):k=603∨k=604∨k=605:=by
 simp only [bx3,i0,List.lookup_nil] at h
 by_cases e1:k=603; exact .inl e1
 by_cases e2:k=604; exact .inr (.inl e2)
 by_cases e3:k=605; exact .inr (.inr e3)
 rw [show (k == 603)=false by simpa using e1,show (k == 604)=false by simpa using e2,show (k == 605)=false by simpa using e3] at h
 exact absurd rfl h
theorem k1g {k:Nat}(h:stO k=false):k=603∨k=604∨k=605:=by
 simp only [stO,Bool.not_eq_false',Bool.or_eq_true,beq_iff_eq] at h
 omega
theorem p1w {f:Fn}{q:Nat}(h:(PV.clo f [] [.at_ 603 0 1,.at_ 604 0 1,.at_ 605 0 1]).free q=false):q=603∨q=604∨q=605:=by
 by_cases h1:q=603; exact .inl h1
 by_cases h2:q=604; exact .inr (.inl h2)
 by_cases h3:q=605; exact .inr (.inr h3)
 simp [PV.free,PV.freeL,Ne.symm h1,Ne.symm h2,Ne.symm h3] at h
theorem ncO {F:Fr}{s:Bool}{sl slR:List (Nat×PV)}{pre:List (Nat×Blk)}{cols n c p p' c':Nat}{q:Rat}{pv:List Nat}{m b:List (List Rat)}(hp:O5 ⟨[],pre⟩ (bxs s cols n c p q))(hb:b6 pre=true)(hpin:∀ k,k=603∨k=604∨k=605→F.pin k=none)(hso:(slR.all fun p=>p.2.only ks8)=true)(hS:d7 ⟨sl,pre++tlP pv (Y3 s m b)⟩ slR) :
  d0a stO F ⟨sl,pre++tlP pv (Y3 s m b)⟩ ([wV cols n (bv s n)]++tlP pv (Y3 s m b)) (bx3 p' c'++([wV cols n (bv s n)]++tlP pv (Y3 s m b))) slR (bx3 p' c'++(bxs s cols n c p q++tlP pv (Y3 s m b))):=by
 have hpre:∀ k,1000≤k→pre.lookup k=none:=fun k hk=>s5 hb hk
 have htl:∀ k,k<1000→(tlP pv (Y3 s m b)).lookup k=none:=fun k hk=>y3.low k (by simpa [Nat.blt_eq] using hk)
 have h999:∀ k B,([wV cols n (bv s n)]:List (Nat×Blk)).lookup k=some B→k=999∧B=(wV cols n (bv s n)).2:=fun k B h=>by
  simp only [i0,List.lookup_nil] at h
  by_cases e:k=999
  ·subst e; simp at h; exact ⟨rfl,h.symm⟩
  ·rw [show (k == 999)=false by simpa using e] at h; cases h
 have hbl:∀ k B,(bxs s cols n c p q).lookup k=some B→pre.lookup k=some B:=fun k B h=>hp.all k B h
 refine ⟨fun j B hj=>?_,hS,fun k B hk=>?_,fun k B1 hst h=>?_,fun t v ht k hk hst=>?_,fun j hj hst=>?_,fun j hj=>?_,?_⟩
 ·show (pre++_).lookup j=some B
  rw [T1] at hj ⊢
  cases e:([wV cols n (bv s n)]:List (Nat×Blk)).lookup j with
  | some C =>
   rw [e,K0] at hj
   injection hj with hj
   subst hj
   obtain ⟨rfl,rfl⟩:=h999 j C e
   rw [hbl 999 _ rF]; rfl
  | none =>
   rw [e,l0] at hj
   rw [hpre j (by apply Classical.byContradiction; intro h2; rw [htl j oM] at hj; cases hj),l0,hj]
 ·rw [T1] at hk
  cases e:(bx3 p' c').lookup k with
  | some C=>rw [e,K0] at hk; exact .inl (by rw [T1,e]; exact hk)
  | none =>
   rw [e,l0,T1] at hk
   cases e2:(bxs s cols n c p q).lookup k with
   | some C =>
    rw [e2,K0] at hk
    injection hk with hk
    subst hk
    rcases k1d (by rw [e2]; simp) with rfl | h5
    ·refine .inl ?_
     rw [T1,e,l0,T1]
     rw [show (bxs s cols n c p q).lookup 999=some (wV cols n (bv s n)).2 from rfl] at e2
     rw [← e2]; rfl
    ·refine .inr ⟨?_,?_,?_,fun i x hx k2 hk2 hst=>?_⟩
     ·show (pre++_).lookup k=_
      rw [T1,hbl k C e2]; rfl
     ·rw [T1,htl k oM,Option.or_none]
      rcases h5 with rfl | rfl | rfl | rfl <;> rfl
     ·rw [T1,e,l0,T1,htl k oM,Option.or_none]
      rcases h5 with rfl | rfl | rfl | rfl <;> rfl
     ·have ho:C.cs.only [999]=true:=by
       rcases h5 with rfl | rfl | rfl | rfl <;> (injection e2 with e2; subst e2; rfl)
      have:=PV.only_mem (Cells.only_get ho hx) hk2
      have:=k1g hst
      simp at *
      omega
   | none =>
    rw [e2,l0] at hk
    refine .inl ?_
    rw [T1,e,l0,T1,hk]
    cases e3:([wV cols n (bv s n)]:List (Nat×Blk)).lookup k with
    | none=>rfl
    | some C =>
     obtain ⟨rfl,_⟩:=h999 k C e3
     cases e2
 ·rw [T1] at h
  cases e:(bx3 p' c').lookup k with
  | some C =>
   rcases j1r (by rw [e]; simp) with rfl | rfl | rfl <;> cases hst
  | none=>rw [e,l0] at h; exact ⟨B1,h,rfl,rfl⟩
 ·rw [s0] at hso
  have h5:=PV.only_mem (hso _ (s8 ht)) hk
  have:=k1g hst
  simp only [ks8,List.mem_cons,List.not_mem_nil,or_false] at h5
  omega
 ·have h5:=k1g hst
  rw [T1,htl j oM,Option.or_none] at hj
  rcases h5 with rfl | rfl | rfl <;> exact absurd rfl hj
 ·cases e:stO j with
  | true=>rfl
  | false=>exact absurd (hpin j (k1g e)) hj
 ·refine R8 [999] rfl (fun k hk=>?_) (R8 (ksB s) (by simp only [List.all_cons,List.all_nil,Bool.and_true]; exact F0n) (D0j (by simp [i0]) fun k B h=>E8 k B h) y3.whole)
  simp only [List.mem_singleton] at hk
  subst hk
  exact K8 (m0c (by simp [i0]))
theorem Y0n (pv:List Nat)(c:Nat):K6 (pv++[c])=K6 pv++[vZ (c:Int)]:=by simp [K6]
theorem d2b {s:Bool}{sl:List (Nat×PV)}{pre:List (Nat×Blk)}{pv:List Nat}{m b:List (List Rat)}(hp:b6 pre=true)(hf:pv=[]→(D3 1003 sl && U2 1003 pre)=true):g0g ⟨sl,pre++tlP pv (Y3 s m b)⟩ (pvF 1003 (K6 pv)):=by
 cases pv with
 | cons a l=>trivial
 | nil =>
  have h:=hf rfl
  simp only [j0] at h
  refine ⟨?_,?_⟩
  ·show (pre++_).lookup 1003=none
   rw [T1,s5 hp dC,l0]
   exact e8 rfl
  ·show (D3 1003 sl && U2 1003 (pre++_))=true
   rw [L4,h.1,h.2]
   exact p1z dC
theorem H0h {xs:List L2}{y:L2}{k:Nat}{e:TypeId}:∃ B,pvB k e (xs++[y])=[(k,B)]:=by
 cases xs with
 | nil=>exact ⟨_,rfl⟩
 | cons a l=>exact ⟨_,rfl⟩
theorem g1a {sl:List (Nat×PV)}{pre T:List (Nat×Blk)}{xs:List L2}{y:L2}{e:TypeId}{k:Nat}{B:Blk}(hk:k<1000)(h:pre.lookup k=some B):St.blk ⟨sl,pvB 1003 e (xs++[y])++(pre++T)⟩ k=some B:=by
 obtain ⟨C,hC⟩:=H0h (xs:=xs) (y:=y) (k:=1003) (e:=e)
 show (pvB 1003 e (xs++[y])++_).lookup k=_
 rw [hC,List.singleton_append,i0,show (k == 1003)=false by simp; omega,T1,h]; rfl
theorem b2d {s:Bool}{sl:List (Nat×PV)}{pre:List (Nat×Blk)}{pv:List Nat}{c:Nat}{m b:List (List Rat)}(hp:b6 pre=true):O5 ⟨sl,pvB 1003 3 (K6 pv++[vZ (c:Int)])++(pre++tlP pv (Y3 s m b))⟩ (tlP (pv++[c]) (Y3 s m b)):=by
 obtain ⟨C,hC⟩:=H0h (xs:=K6 pv) (y:=vZ (c:Int)) (k:=1003) (e:=3)
 refine v5 y3.nd fun k B hk=>?_
 show (pvB 1003 3 (K6 pv++[vZ (c:Int)])++_).lookup k=_
 rw [tlP,Y0n,hC,List.singleton_append,i0] at hk
 rw [hC,List.singleton_append,i0]
 by_cases e:k=1003
 ·subst e; exact hk
 ·rw [show (k == 1003)=false by simpa using e] at hk ⊢
  show (pre++tlP pv (Y3 s m b)).lookup k=some B
  rw [T1,s5 hp (k0n hk),l0]
  exact E8 _ _ hk
theorem Y1z {s:Bool}{sl:List (Nat×PV)}{pre:List (Nat×Blk)}{pv:List Nat}{m b:List (List Rat)}(hp:b6 pre=true):Cv (St.blk ⟨sl,pre++tlP pv (Y3 s m b)⟩) [1003] (pvV 1003 (K6 pv)) (.p (.sl pv.length (K6 pv))):=by
 cases pv with
 | nil=>exact .p .nil
 | cons a l =>
  have hB:St.blk ⟨sl,pre++tlP (a :: l) (Y3 s m b)⟩ 1003=some ⟨3,1,.pure (K6 (a :: l))⟩:=by
   show (pre++_).lookup 1003=_
   rw [T1,s5 hp dC]; rfl
  have:=Cv.ref (n:=(a :: l).length) (z:=[1003]) rfl hB (by rw [m8]) (Nat.mul_one _)
  simp only [K6,R0,D1,O0,Nat.mul_one] at this ⊢
  simp only [pvV,O0]
  exact this
theorem q0r {S:St}{z:List Nat}:∀ {l:List (Nat×Blk)},(∀ p∈l,z.contains p.1=false∧S.blk p.1=some p.2)→j0d S z l
 | [],_=>trivial
 | p :: l,h=>⟨⟨(h p sM).1,p.2,(h p sM).2,.same⟩,q0r fun q hq=>h q (by simp [hq])⟩
theorem p0d {l:List (Nat×Blk)}:∀ {l':List (Nat×Blk)},O5 ⟨[],l⟩ l'→∀ {p:Nat×Blk},p∈l'→l.lookup p.1=some p.2
 | (k,B) :: l',h,p,hp=>by
  rcases List.mem_cons.1 hp with rfl | hp
  ·exact h.1
  ·exact p0d h.2 hp
theorem W1n {s:Bool}{sl:List (Nat×PV)}{pre pre':List (Nat×Blk)}{pv:List Nat}{m b:List (List Rat)}(hp:b6 pre=true)(hb:O5 ⟨[],pre⟩ pre')(hp':b6 pre'=true):j0d ⟨sl,pre++tlP pv (Y3 s m b)⟩ [1003] (pre'++Y3 s m b):=by
 refine q0r fun p hp2=>?_
 rcases List.mem_append.1 hp2 with h | h
 ·have h1:p.1<1000:=by
   unfold b6 at hp'
   rw [s0] at hp'
   simpa [Nat.blt_eq] using hp' p h
  refine ⟨by simp; omega,?_⟩
  show (pre++_).lookup p.1=_
  have:pre.lookup p.1=some p.2:=p0d hb h
  rw [T1,this]; rfl
 ·have h1:=R5 (j:=p.1) (B:=p.2) (I7 s m b).nd h
  refine ⟨?_,?_⟩
  ·by_cases e:p.1=1003
   ·rw [e8 e] at h1; cases h1
   ·simpa using e
  ·show (pre++_).lookup p.1=_
   rw [T1,s5 hp (k0n h1),l0]
   exact E8 _ _ h1
theorem W0j {m b:List (List Rat)}{c:Nat}(h:¬ (ech m b c).pv.length<(ech m b c).m.length):∀ d,ech m b (c+d)=ech m b c
 | 0=>rfl
 | d+1=>by rw [← Nat.add_assoc,m9,W0j h d,G9,if_neg h]
theorem W0p {m x:List (List Rat)}{p c n cc k:Nat}(hm:m.length=n)(h:RC n cc x)(hp:p<n)(hk:k<(D5 m p c).length):(E6 m x p c k).getD ((D5 m p c).getD k 0) []=x.getD ((D5 m p c).getD k 0) []∧(E6 m x p c k).getD p []=x.getD p []:=by
 constructor
 ·rw [d0s hm h hp k oM,if_neg]
  intro hh
  obtain ⟨i,hi,he⟩:=List.getElem_of_mem hh
  simp only [J0] at hi
  rw [List.getElem_take,f0,J1 hk,Option.getD_some] at he
  have:=(List.getElem_inj (m0v (m:=m) (p:=p) (c:=c))).1 he
  omega
 ·rw [d0s hm h hp k oM,if_neg (fun hh=>(j9.1 (List.mem_of_mem_take hh)).2.1 rfl)]
theorem g0p {B:Nat}{m:List (List Rat)}{i j:Nat}(h:MB B m)(h0:0<B):qw (ent m i j)≤B:=by
 rcases q0p (m:=m) (i:=i) (j:=j) with e | ⟨r,hr,e⟩
 ·rw [e,k0h]; exact h0
 ·exact h r hr _ e
theorem g0s {m:List (List Rat)}{i:Nat}{a:Rat}(h:a∈m.getD i []):∃ j,a=ent m i j:=by
 obtain ⟨j,hj,e⟩:=List.getElem_of_mem h
 refine ⟨j,?_⟩
 have:∀ (r:List Rat) (h:j<r.length),r[j]=r.getD j 0:=fun r h=>by simp [f0,h]
 rw [← e,this _ hj]; rfl
structure EB (n cols d B DB:Nat) (m b:List (List Rat)):Prop where
 rc:RC n cols m
 rb:RC n d b
 n0:0<n
 nl:n<1000
 cl:cols<1000
 dl:d<1000
 b0:0<B
 bl:B<100000000
 dbl:DB+B<1000000000
 me:∀ c,c≤cols→MB B (ech m b c).m
 be:∀ c,c≤cols→MB B (ech m b c).b
 de:∀ c,c≤cols→qw (ech m b c).det≤DB
theorem D1c (s:Bool)(n cols d B DB:Nat)(m b:List (List Rat))(H:EB n cols d B DB m b):E4 E y8 51 [.at_ 999 0 3] ([wV cols n (bv s n)]++Y3 s m b) ([wV cols n (bv s n)]++Y3 s (ech m b cols).m (ech m b cols).b) (.p (.tup [.sl (ech m b cols).pv.length (K6 (ech m b cols).pv),pQ (ech m b cols).det])):=by
 refine j4 (xs:=[.sl (ech m b cols).pv.length (K6 (ech m b cols).pv),pQ (ech m b cols).det]) Tryz.func51 rfl Tryz.ntmps51 Tryz.results51 sM fun F G=>?_
 have L:=@lti _ _ G.nt
 have hG:=G.g
 have hX:=G.x
 have hN:=U5 hG
 have P0:=fun k (hk:(Nat.blt k 1000 && (List.lookup k _).isNone)=true)=>G.p0 k (p0T (I7 s m b) hk)
 have H1:=H.nl
 have H2:=H.cl
 have H3:=H.bl
 have H4:=H.dbl
 have H5:=H.rc.1
 have H6:=H.rb.1
 subst H5
 have hlo:F.lo 1003=true:=by rw [G.lo,T1,e8 rfl,Option.or_none]; rfl
 have hpin3:F.pin 1003=none:=G.p0 _ (by rw [T1,e8 rfl,Option.or_none]; rfl)
 refine exr (swb (g0h (k:=1) rX rfl (P0 _ rfl) L) t1 t1 (frT [_] (I7 s m b) rfl rfl (by simp [D3,U2,Cells.free,PV.freeL,PV.free,T3,i3])) ?_)
 refine aV L rfl (swb (O3 (k:=3) (n:=4) zv47 (.cons rfl (.cons rfl (.cons rfl (.cons rfl .nil)))) rfl (P0 _ rfl) L) t0 t0 (frT [_,_] (I7 s m b) rfl rfl (by simp [D3,U2,Cells.free,PV.freeL,PV.free,T3,i3])) ?_)
 refine O1 ⟨[(1,_),(2,_),(3,_)],(1,_) :: (3,_) :: (999,_) :: ((Y3 s m b)),t3,⟨rfl,rfl,rfl,(hbT [_,_,_] (I7 s m b) rfl)⟩,?_⟩
 refine exr (cK hG hX cl55 hN (O6 1 dC dC) L t1 (sb (R2 sz47 rF pa4 rfl pu4) t2 t1 ?_))
 refine O1 ⟨[(1,_),(2,pvV 1003 (K6 [])),(3,_)],(1,_) :: (3,_) :: (999,_) :: ((tlP [] (Y3 s m b))),t3,⟨rfl,rfl,rfl,(hbT [_,_,_,_] (I7 s m b) rfl)⟩,?_⟩
 refine R1 (exr (swb (O3 (k:=4) (n:=1) zv3 (.cons rfl .nil) rfl (P0 _ rfl) L) t0 t0 (frT [_,_,_] (y3 (pv:=[]) (s:=s) (m:=m) (b:=b)) rfl rfl (by simp [D3,U2,Cells.free,PV.freeL,PV.free,T3,i3])) ?_))
 refine sb (R2 sz3 rF (.atom rfl) rfl pu1) t2 t1 ?_
 refine O1 ⟨[(1,_),(2,_),(3,_),(4,_)],(1,_) :: (3,_) :: (4,_) :: (999,_) :: ((tlP [] (Y3 s m b))),t4,⟨rfl,rfl,rfl,rfl,(hbT [_,_,_,_,_] (y3 (pv:=[]) (s:=s) (m:=m) (b:=b)) rfl)⟩,?_⟩
 refine V1 ?_
 refine B0y (α:=(Nat×ESt)) (fun x=>[(2,pvV 1003 (K6 x.2.pv))]) (fun x=>[(3,bQ x.2.det),(4,⟨3,1,.mix [.p (vZ (x.1:Int))]⟩)]) (fun x=>(tlP x.2.pv (Y3 s x.2.m x.2.b))) (fun x=>x.1≤cols∧x.2=ech m b x.1) (fun x=>cols - x.1) ((0,⟨m,b,[],1⟩)) (sl:=[(1,_),(3,_),(4,_)]) (hb:=[(1,_),(999,_)]) ?_ ⟨oR,rfl,rfl,rfl,trivial⟩ ⟨rfl,rfl,rfl,rfl,(hbT [_,_,_,_] (y3 (pv:=[]) (s:=s) (m:=m) (b:=b)) rfl)⟩ ?_
 ·exact ⟨Nat.zero_le _,rfl⟩
 intro x hx
 obtain ⟨c,t⟩:=x
 obtain ⟨hc,hs⟩:=hx
 simp only at hc hs
 dsimp only
 have hrc:=B6 H.rc H.rb c hc
 have hme:=H.me c hc
 have hbe:=H.be c hc
 have hde:=H.de c hc
 rw [← hs] at hrc hme hbe hde
 obtain ⟨r1,r2,r3,-⟩:=hrc
 have hn:t.m.length=m.length:=r1.1
 by_cases hcc:c<cols
 ·refine R1 (exd rF ?_)
  refine sw (Y1 ag3 rF rF L) t1 t1 ?_
  refine sw (Y1 ag73 rF rF L) t1 t1 ?_
  refine sw (Z2 rX L) t1 t1 ?_
  refine sw (Z1 un79 rfl sz3 dC rX L) t1 t1 ?_
  refine sw (Y1 ag3 rF rF L) t1 t1 ?_
  refine sw (V3 L) t2 t0 (mV L rfl (gV (g:=19) rfl sO L rfl rfl (swg (g:=19) rfl sO (K0b un27 L) rfl t1 (J1s [_,_,_,_] rfl dC) (swg (g:=19) rfl sO (Y1 ag73 rF rF L) rfl t1 t1 ?_))))
  refine swg (g:=19) rfl sO (Z2 rX L) rfl t1 t1 ?_
  refine swg (g:=19) rfl sO (Z1 un79 rfl sz77 dC rX L) rfl t1 t1 ?_
  refine swg (g:=19) rfl sO (Y1 ag77 rF rF L) rfl t1 t1 ?_
  refine swg (g:=19) rfl sO (p0j un77 (by first | exact E2 _ _ _ | exact (E2 _ _ _).trans sM | exact (E2 _ _ _).trans (by assumption)) L) rfl t1 ⟨rdT [_,_,_,_] (y3 (pv:=t.pv) (s:=s) (m:=t.m) (b:=t.b)) rfl F1c,trivial⟩ ?_
  refine swg (g:=19) rfl sO (V3 L) rfl t2 t0 (sw (Y4 sO L) t2 t0 ?_)
  refine O1 ⟨h0j [⟨[4],[4],[13],[]⟩,⟨[1],[1],[14],[]⟩,⟨[14],[999],[15],[]⟩,⟨[15],[999],[16],[]⟩,⟨[16],[999],[17],[]⟩,⟨[13,17],[],[18],[]⟩,⟨[18],[],[19],[]⟩,⟨[19,2],[],[20],[]⟩,⟨[19,20],[1000],[21],[]⟩,⟨[19,1],[1],[22],[]⟩,⟨[19,22],[999],[23],[]⟩,⟨[19,23],[999],[24],[]⟩,⟨[19,24],[999],[25],[]⟩,⟨[19,25],[1000],[26],[]⟩,⟨[19,21,26],[],[27],[]⟩,⟨[19,27],[],[28],[]⟩] (.cons (cf0 rfl) (.cons (cf0 rfl) (.cons (cf0 rfl) (.cons (cf0 rfl) (.cons (cf0 rfl) (.cons (cf0 rfl) (.cons (cf0 rfl) (.cons (cf0 rfl) (.cons (cfT rfl rfl (Y1p dC) rfl (fun _ h=>by cases h)) (.cons (cf0 rfl) (.cons (cf0 rfl) (.cons (cf0 rfl) (.cons (cf0 rfl) (.cons (cfT rfl rfl (L8 dC) rfl (fun _ h=>by cases h)) (.cons (cf0 rfl) (.cons (cf0 rfl)  .nil)))))))))))))))) rfl (frS [] [_,_,_,_] (y3 (pv:=t.pv) (s:=s) (m:=t.m) (b:=t.b)) rfl (by simp [D3,U2,Cells.free,PV.freeL,PV.free,T3,i3])) dC,[(1,_),(2,_),(3,_),(4,_),(28,_)],(1,_) :: (3,_) :: (4,_) :: (999,_) :: ((tlP t.pv (Y3 s t.m t.b))),t5,⟨rfl,rfl,rfl,rfl,(hbT [_,_,_,_] (y3 (pv:=t.pv) (s:=s) (m:=t.m) (b:=t.b)) rfl)⟩,?_⟩
  refine j2 rfl (fun hp=>?_) (fun hp=>?_)
  ·have hp:=dt hp
   rw [m8] at hp
   have hpn:t.pv.length<m.length:=by omega
   have f1:=U8 90 [.at_ 1 0 1,.at_ 4 0 1] (hC cols m.length c (bv s m.length) (tlP t.pv (Y3 s t.m t.b))) (M1k y3) (W1r y3 fun k B h=>E8 k B h) cl90 (nzI t.m c) t.pv.length m.length oM (fun i _ hi=>by
    have h4:=r1.get hi
    have:=n1n t.m cols c i (bv s m.length) (tlP t.pv (Y3 s t.m t.b)) y3 B0r oM oM (by have:=g0p (i:=i) (j:=c) hme H.b0; unfold ent at this; omega)
    rw [hn] at this; exact this)
   refine U1 (xq ?_)
   refine R1 (V1 (exr (mV L rfl (sw (K0b un27 L) t1 (J1s [_,_,_,_] rfl dC) (swb (O3 (k:=5) (n:=1) zv3 (.cons rfl .nil) rfl (P0 _ rfl) L) t0 t0 (frT [_,_,_,_] (y3 (pv:=t.pv) (s:=s) (m:=t.m) (b:=t.b)) rfl rfl (by simp [D3,U2,Cells.free,PV.freeL,PV.free,T3,i3])) ?_)))))
   refine sb (R2 sz3 rF (.atom rfl) rfl pu1) t2 t1 ?_
   refine O1 ⟨[(1,_),(2,_),(3,_),(4,_),(5,_)],(1,_) :: (3,_) :: (4,_) :: (5,⟨3,1,.mix [.p (vZ (t.pv.length:Int))]⟩) :: (999,_) :: ((tlP t.pv (Y3 s t.m t.b))),t5,⟨rfl,rfl,rfl,obl rfl (by rw [m8]),rfl,(hbT [_,_,_,_,_,_] (y3 (pv:=t.pv) (s:=s) (m:=t.m) (b:=t.b)) rfl)⟩,?_⟩
   refine exd rF ?_
   refine sw (Y1 ag3 rF rF L) t1 t1 ?_
   refine sw (Y1 ag73 rF rF L) t1 t1 ?_
   refine sw (Z2 rX L) t1 t1 ?_
   refine sw (Z1 un79 rfl sz77 dC rX L) t1 t1 ?_
   refine sw (Y1 ag77 rF rF L) t1 t1 ?_
   refine sw (p0j un77 (by first | exact E2 _ _ _ | exact (E2 _ _ _).trans sM | exact (E2 _ _ _).trans (by assumption)) L) t1 ⟨rdT [_,_,_,_,_] (y3 (pv:=t.pv) (s:=s) (m:=t.m) (b:=t.b)) rfl F1c,trivial⟩ ?_
   refine sw (v0g (vs:=[]) (us:=[_,_]) rfl rfl L) t2 t0 (sw (m6 hG hX hN f1 rfl L (U4 (ys:=[_,_,_]) cl52 rfl rfl) (M1k y3) (W1r y3 fun k B h=>E8 k B h) (fun q h=>by cases h)) t3 ⟨rfl,rfl,rfl,K7 (hbT [_,_,_,_,_] y3 rfl)⟩ ?_)
   refine swb (O3 (k:=6) (n:=1) zv3 (.cons rfl .nil) rfl (P0 _ rfl) L) t0 t0 (frT [_,_,_,_,_] (y3 (pv:=t.pv) (s:=s) (m:=t.m) (b:=t.b)) rfl rfl (by simp [D3,U2,Cells.free,PV.freeL,PV.free,T3,i3])) ?_
   refine sb (R2 sz3 rF (.atom rfl) rfl pu1) t2 t1 ?_
   refine O1 ⟨h0j [⟨[5],[5],[33],[]⟩,⟨[1],[1],[34],[]⟩,⟨[34],[999],[35],[]⟩,⟨[35],[999],[36],[]⟩,⟨[36],[999],[37],[]⟩,⟨[37],[1000],[38],[]⟩,⟨[1,4],[],[39],[]⟩,⟨[33,38,39],[1,4,999,1000],[40],[]⟩,⟨[],[],[6],[6]⟩,⟨[6,40],[6],[],[6]⟩] (.cons (cf0 rfl) (.cons (cf0 rfl) (.cons (cf0 rfl) (.cons (cf0 rfl) (.cons (cf0 rfl) (.cons (cfT rfl rfl (L8 dC) rfl (fun _ h=>by cases h)) (.cons (cf0 rfl) (.cons (cfT rfl rfl (H1g (l:=[_,_,_]) rF (b0w y3) rfl) rfl (fun _ h=>by cases h)) (.cons (cf0 rfl) (.cons (cf0 rfl)  .nil)))))))))) rfl (frS [6] [_,_,_,_,_] (y3 (pv:=t.pv) (s:=s) (m:=t.m) (b:=t.b)) rfl (by simp [D3,U2,Cells.free,PV.freeL,PV.free,T3,i3])) dC,[(1,_),(2,_),(3,_),(4,_),(5,_),(6,_)],(1,_) :: (3,_) :: (4,_) :: (5,_) :: (6,_) :: (999,_) :: ((tlP t.pv (Y3 s t.m t.b))),t6,⟨rfl,rfl,rfl,rfl,rfl,rfl,(hbT [_,_,_,_,_,_,_] (y3 (pv:=t.pv) (s:=s) (m:=t.m) (b:=t.b)) rfl)⟩,?_⟩
   have hpe:I4 (nzI t.m c) t.pv.length (m.length - t.pv.length)=f0d t.m c t.pv.length:=by rw [f0d,hn]
   rw [hpe]
   refine R1 (exr (sw (Y1 ag3 rF rF L) t1 t1 ?_))
   refine sw (V3 L) t2 t0 ?_
   refine O1 ⟨[(1,_),(2,_),(3,_),(4,_),(5,_),(6,_),(42,_)],(1,_) :: (3,_) :: (4,_) :: (5,_) :: (6,_) :: (999,_) :: ((tlP t.pv (Y3 s t.m t.b))),t7,⟨rfl,rfl,rfl,rfl,rfl,rfl,(hbT [_,_,_,_,_,_] (y3 (pv:=t.pv) (s:=s) (m:=t.m) (b:=t.b)) rfl)⟩,?_⟩
   refine j2 rfl (fun hneg=>?_) (fun hneg=>?_)
   ·have hneg:=dt hneg
    have hst:ech m b (c+1)=t:=by rw [m9,← hs,G9,if_pos oM,if_pos hneg]
    refine J2 (xq ?_)
    refine R1 (exr (sw (Y1 ag3 rF rF L) t1 t1 ?_))
    refine O1 ⟨[(1,_),(2,_),(3,_),(83,_)],(1,_) :: (3,_) :: (999,_) :: ((tlP t.pv (Y3 s t.m t.b))),t4,⟨rfl,rfl,rfl,(hbT [_,_,_,_,_,_] (y3 (pv:=t.pv) (s:=s) (m:=t.m) (b:=t.b)) rfl)⟩,?_⟩
    refine j3 (swb (O3 (k:=4) (n:=1) zv3 (.cons rfl .nil) rfl (P0 _ rfl) L) t0 t0 (frT [_,_,_] (y3 (pv:=t.pv) (s:=s) (m:=t.m) (b:=t.b)) rfl rfl (by simp [D3,U2,Cells.free,PV.freeL,PV.free,T3,i3])) ?_)
    refine sb (R2 sz3 rF (.atom rfl) rfl pu1) t2 t1 ?_
    refine O1 (show i4 _ _ _ _ _ from exw (sl:=[(1,_),(2,_),(3,_),(4,_)]) (hb:=(1,_) :: (3,_) :: (4,_) :: (999,_) :: ((tlP t.pv (Y3 s t.m t.b)))) t4 ⟨rfl,rfl,rfl,rfl,(hbT [_,_,_,_,_] (y3 (pv:=t.pv) (s:=s) (m:=t.m) (b:=t.b)) rfl)⟩ ?_)
    refine j3 (sw (Y1 ag3 rF rF L) t1 t1 ?_)
    refine sw (F3 L (w64 oM oM)) t2 t0 (sb (R2 sz3 rF (.atom rfl) rfl pu1) t2 t1 ?_)
    refine O1 ?_
    exact ⟨(c+1,t),⟨by simp only; omega,hst.symm⟩,(by simp only; omega),l3 ⟨oR,rfl,rfl,rfl,trivial⟩ ⟨rfl,rfl,rfl,rfl,(hbT [_,_,_,_,_] (y3 (pv:=t.pv) (s:=s) (m:=t.m) (b:=t.b)) rfl)⟩⟩
   ·have hneg:=df hneg
    have hst:ech m b (c+1)=stp t.m t.b t.pv t.det (f0d t.m c t.pv.length).toNat c:=by rw [m9,← hs,G9,if_pos oM,if_neg hneg]
    obtain ⟨hp1,hp2,hp3,hp4⟩:=p0y hneg (show t.pv.length<t.m.length by omega)
    obtain ⟨i,hi⟩:∃ i,i=(f0d t.m c t.pv.length).toNat:=⟨_,rfl⟩
    rw [← hi] at hp1 hp2 hp3 hp4 hst
    rw [← hp4]
    have hl0:ent t.m i c≠0:=by simpa [nzI,ent] using hp3
    have hin:i<m.length:=by omega
    have hnm:=H.me (c+1) hcc
    have hnb:=H.be (c+1) hcc
    rw [hst] at hnm hnb
    have hld:L5 (swapped t.m i t.pv.length) t.pv.length c=ent t.m i c:=by
     have:=T5 (k:=t.pv.length) (j:=c) r1.1 hin hpn
     rw [if_pos rfl] at this; exact this
    obtain ⟨p,hpp⟩:∃ p,p=t.pv.length:=⟨_,rfl⟩
    rw [← hpp] at hp1 hpn hld
    rw [← hpp]
    have hbl:t.b.length=m.length:=r2.1
    refine U1 (xq ?_)
    refine R1 (exr (sw (Y1 ag3 rF rF L) t1 t1 ?_))
    refine sw (Y1 ag3 rF rF L) t1 t1 ?_
    refine sw (c_n L) t2 t0 ?_
    refine O1 ⟨[(1,_),(2,_),(3,_),(4,_),(5,_),(6,_),(45,_)],(1,_) :: (3,_) :: (4,_) :: (5,_) :: (6,_) :: (999,_) :: ((tlP t.pv (Y3 s t.m t.b))),t7,⟨rfl,rfl,rfl,rfl,rfl,rfl,(hbT [_,_,_,_,_,_] (y3 (pv:=t.pv) (s:=s) (m:=t.m) (b:=t.b)) rfl)⟩,?_⟩
    refine J1f (sl:=[]) (sl0:=[(1,_),(2,_),(3,_),(4,_),(5,_)]) (hb:=[(1,⟨73,1,.mix [.at_ 999 0 3]⟩),(3,bQ (if i=p then t.det else -t.det)),(4,⟨3,1,.mix [.p (vZ (c:Int))]⟩),(5,⟨3,1,.mix [.p (vZ (p:Int))]⟩),(999,(wV cols m.length (bv s m.length)).2)]) (T:=(tlP t.pv (Y3 s (swapped t.m i p) (swapped t.b i p)))) t5 ?_ ?_
    ·refine j2 rfl (fun hne=>?_) (fun hne=>?_)
     ·have hne:=nt hne
      have hne':i≠p:=fun e=>hne (by rw [e])
      have hb2:=V1n s cols t.m t.b i p hp2 oM hne' oM
      rw [hn] at hb2
      refine m0m (nsw (Y1 ag73 rF rF L) t1 t1 ?_)
      refine nsw (v0g (vs:=[]) (us:=[_,_]) rfl rfl L) t2 t0 (nsI hG hX hN [(1,.at_ 1 0 1),(2,pvV 1003 (K6 t.pv)),(3,.at_ 3 0 4),(4,.at_ 4 0 1),(5,.at_ 5 0 1)] ([(1,_),(3,_),(4,_),(5,_),(999,_)]++(tlP t.pv (Y3 s (J5 t.m i p) (J5 t.b i p)))) hb2 L (U4 (ys:=[_,_]) cl92 rfl rfl) t2 (by exact ncE (pre:=[_,_,_,_,_,_]) (pre':=[_,_,_,_,_]) (bx:=[bxI 5 p,bxI 6 i,wV cols m.length (bv s m.length)]) sM sM hn (hbl.trans H6.symm) G rfl t3 t5 (by cases s <;> rfl) (by simp [i0]) (by cases s <;> rfl) (by simp [PV.only,F0b]) t5) (fun q h=>by cases h) rfl ?_)
      refine .nil ⟨[(1,_),(2,_),(3,_),(4,_),(5,_)],(1,_) :: (3,_) :: (4,_) :: (5,_) :: (999,_) :: tlP t.pv (Y3 s (J5 t.m i p) (J5 t.b i p)),t5,⟨rfl,rfl,rfl,rfl,rfl,(hbT [_,_,_,_,_] (y3 (pv:=t.pv) (s:=s) (m:=J5 t.m i p) (b:=J5 t.b i p)) rfl)⟩,?_⟩
      refine j3 (lp4 ag47 sz47 L rfl rfl (cK hG hX cl56 hN (v0j t.det oM) L t1 (sb (R2 sz47 rF pa4 rfl pu4) t2 t1 ?_)))
      refine O1 ?_
      exact ⟨⟨oR,oR,oR,oR,oR,trivial⟩,⟨rfl,obl rfl (by rw [if_neg hne']),rfl,rfl,rfl,(by rw [swapped,if_neg hne',swapped,if_neg hne']; exact hbT [_,_,_,_,_,_] y3 rfl)⟩⟩
     ·have hne:=nf hne
      have hne':i=p:=by omega
      refine U1 ?_
      exact ⟨⟨oR,oR,oR,oR,oR,trivial⟩,⟨rfl,obl rfl (by rw [if_pos hne']),rfl,rfl,rfl,(by rw [swapped,if_pos hne',swapped,if_pos hne']; exact hbT [_,_,_,_,_,_] y3 rfl)⟩⟩
    ·obtain ⟨m1,hm1⟩:∃ m1,m1=swapped t.m i p:=⟨_,rfl⟩
     obtain ⟨b1,hb1⟩:∃ b1,b1=swapped t.b i p:=⟨_,rfl⟩
     obtain ⟨d1,hd1⟩:∃ d1,d1=(if i=p then t.det else -t.det):=⟨_,rfl⟩
     rw [← hm1,← hb1,← hd1]
     have hrc1:RC m.length cols m1:=by rw [hm1]; exact r1.swapped hin hpn
     have hrb1:RC m.length d b1:=by rw [hb1]; exact r2.swapped hin hpn
     have hn1:=hrc1.1
     have hcp:c<(m1.getD p []).length:=by rw [hrc1.get hpn]; exact hcc
     rw [← hm1] at hld
     refine exd rF ?_
     refine sw (Y1 ag73 rF rF L) t1 t1 ?_
     refine sw (Z2 rX L) t1 t1 ?_
     refine sw (Z1 un79 rfl sz77 dC rX L) t1 t1 ?_
     refine sw (Y1 ag77 rF rF L) t1 t1 ?_
     refine sw (Y1 ag3 rF rF L) t1 t1 ?_
     refine sw (Y1 ag3 rF rF L) t1 t1 ?_
     refine sw (m6 hG hX hN (atM (M:=m1) (m:=m1) hn1 rfl hpn hcp) rfl L (U4 (ys:=[_,_,_]) cl91 rfl rfl) (i2 dC m1).nd (i2 dC m1).whole (fun q h=>by cases h)) t3 (K7 (v5 (i2 dC m1).nd fun k B h=>rdT [_,_,_,_,_] y3 rfl (B0r k B h))) ?_
     refine swb (O3 (k:=7) (n:=4) zv47 (.cons rfl (.cons rfl (.cons rfl (.cons rfl .nil)))) rfl (P0 _ rfl) L) t0 t0 (frT [_,_,_,_,_] (y3 (pv:=t.pv) (s:=s) (m:=m1) (b:=b1)) rfl rfl (by simp [D3,U2,Cells.free,PV.freeL,PV.free,T3,i3])) ?_
     refine sb (R2 sz47 rF pa4 rfl pu4) t2 t1 ?_
     refine O1 ⟨h0j [⟨[1],[1],[51],[]⟩,⟨[51],[999],[52],[]⟩,⟨[52],[999],[53],[]⟩,⟨[53],[999],[54],[]⟩,⟨[5],[5],[55],[]⟩,⟨[4],[4],[56],[]⟩,⟨[54,55,56],[1000],[57],[]⟩,⟨[],[],[7],[7]⟩,⟨[7,57],[7],[],[7]⟩] (.cons (cf0 rfl) (.cons (cf0 rfl) (.cons (cf0 rfl) (.cons (cf0 rfl) (.cons (cf0 rfl) (.cons (cf0 rfl) (.cons (cfT rfl rfl (fun p hp=>by rw [F0p (b0w (i2 dC m1) p hp)]; exact List.mem_singleton.2 rfl) rfl (fun _ h=>by cases h)) (.cons (cf0 rfl) (.cons (cf0 rfl)  .nil))))))))) rfl (frS [7] [_,_,_,_,_] (y3 (pv:=t.pv) (s:=s) (m:=m1) (b:=b1)) rfl (by simp [D3,U2,Cells.free,PV.freeL,PV.free,T3,i3])) dC,[(1,_),(2,_),(3,_),(4,_),(5,_),(7,_)],(1,_) :: (3,_) :: (4,_) :: (5,_) :: (7,_) :: (999,_) :: ((tlP t.pv (Y3 s m1 b1))),t6,⟨rfl,rfl,rfl,rfl,rfl,rfl,(hbT [_,_,_,_,_,_,_] (y3 (pv:=t.pv) (s:=s) (m:=m1) (b:=b1)) rfl)⟩,?_⟩
     have hq1:qw (L5 m1 p c)≤B:=by rw [hld]; exact g0p hme H.b0
     have hq2:L5 m1 p c≠0:=by rw [hld]; exact hl0
     have hq3:qw d1≤DB:=by rw [hd1]; split; exact hde; rw [F0a]; exact hde
     have hq4:qw (1 / L5 m1 p c)≤B+1:=by have:=F1b (a:=1) hq2; rw [Q0f] at this; omega
     refine exr (lp4 ag47 sz47 L rfl rfl (lp4 ag47 sz47 L rfl rfl (cK hG hX cl67 hN (v8 d1 (L5 m1 p c) oM oM) L t2 (sb (R2 sz47 rF pa4 rfl pu4) t2 t1 ?_))))
     refine O1 ⟨[(1,_),(2,_),(3,_),(4,_),(5,_),(7,_)],(1,_) :: (3,_) :: (4,_) :: (5,_) :: (7,_) :: (999,_) :: ((tlP t.pv (Y3 s m1 b1))),t6,⟨rfl,rfl,rfl,rfl,rfl,rfl,(hbT [_,_,_,_,_,_,_] (y3 (pv:=t.pv) (s:=s) (m:=m1) (b:=b1)) rfl)⟩,?_⟩
     refine exd rF ?_
     refine cK hG hX cl55 hN (O6 1 dC dC) L t1 (lp4 ag47 sz47 L rfl rfl (cK hG hX cl66 hN (v0s 1 (L5 m1 p c) (by rw [Q0f]; decide) oM hq2) L t2 ?_))
     refine mV L rfl (sw (W3 rfl L) t1 t0 (sw (W3 rfl L) t1 t0 (swb (O3 (k:=8) (n:=4) zv47 (.cons rfl (.cons rfl (.cons rfl (.cons rfl .nil)))) rfl (P0 _ rfl) L) t0 t0 (frT [_,_,_,_,_,_] (y3 (pv:=t.pv) (s:=s) (m:=m1) (b:=b1)) rfl rfl (by simp [D3,U2,Cells.free,PV.freeL,PV.free,T3,i3])) ?_)))
     refine sb (R2 sz47 rF pa4 rfl pu4) t2 t1 ?_
     refine aV L rfl ?_
     refine O1 ⟨h0j [⟨[],[],[62],[]⟩,⟨[7],[7],[63],[]⟩,⟨[62,63],[],[64],[]⟩,⟨[64],[],[61],[]⟩,⟨[61],[],[65],[]⟩,⟨[61],[],[66],[]⟩,⟨[],[],[8],[8]⟩,⟨[8,65],[8],[],[8]⟩,⟨[66],[],[9],[]⟩] (.cons (cf0 rfl) (.cons (cf0 rfl) (.cons (cf0 rfl) (.cons (cf0 rfl) (.cons (cf0 rfl) (.cons (cf0 rfl) (.cons (cf0 rfl) (.cons (cf0 rfl) (.cons (cf0 rfl)  .nil))))))))) rfl (frS [8] [_,_,_,_,_,_] (y3 (pv:=t.pv) (s:=s) (m:=m1) (b:=b1)) rfl (by simp [D3,U2,Cells.free,PV.freeL,PV.free,T3,i3])) dC,[(1,_),(2,_),(3,_),(4,_),(5,_),(8,_)],(1,_) :: (3,_) :: (4,_) :: (5,_) :: (8,_) :: (999,_) :: ((tlP t.pv (Y3 s m1 b1))),t6,⟨rfl,rfl,rfl,rfl,rfl,rfl,(hbT [_,_,_,_,_,_,_,_] (y3 (pv:=t.pv) (s:=s) (m:=m1) (b:=b1)) rfl)⟩,?_⟩
     have hm1B:∀ i j,qw (ent m1 i j)≤B:=fun i' j=>by rw [hm1,T5 r1.1 hin hpn]; exact g0p hme H.b0
     have hb1B:∀ i j,qw (ent b1 i j)≤B:=fun i' j=>by rw [hb1,T5 r2.1 hin hpn]; exact g0p hbe H.b0
     have hb3:=Y1q s cols m1 b1 p (1 / L5 m1 p c) oM (by rw [hrb1.1,hn1]) (by rw [hrc1.get hpn]; omega) (fun a ha=>by obtain ⟨j,rfl⟩:=g0s ha; have:=hm1B p j; omega) oM (by rw [hrb1.get hpn]; have:=H.dl; omega) (fun a ha=>by obtain ⟨j,rfl⟩:=g0s ha; have:=hb1B p j; omega)
     rw [hn1] at hb3
     refine m0m (nsw (Y1 ag73 rF rF L) t1 t1 ?_)
     refine nsw (v0g (vs:=[]) (us:=[_,_]) rfl rfl L) t2 t0 (nsI hG hX hN [(1,.at_ 1 0 1),(2,pvV 1003 (K6 t.pv)),(3,.at_ 3 0 4),(4,.at_ 4 0 1),(5,.at_ 5 0 1)] ([(1,_),(3,_),(4,_),(5,_),(999,_)]++(tlP t.pv (Y3 s (I9 m1 p (1 / L5 m1 p c)) (I9 b1 p (1 / L5 m1 p c))))) hb3 L (U4 (ys:=[_,_]) cl92 rfl rfl) t2 (by exact ncE (pre:=[_,_,_,_,_,_]) (pre':=[_,_,_,_,_]) (bx:=[bxI 5 p,bxQ 8 (1 / L5 m1 p c),wV cols m.length (bv s m.length)]) (by simp [I9]) (by simp [I9]) hn1 (hrb1.1.trans H6.symm) G rfl t3 t5 (by cases s <;> rfl) (by simp [i0]) (by cases s <;> rfl) (by simp [PV.only,F0b]) t5) (fun q h=>by cases h) rfl ?_)
     refine .nil ⟨[(1,_),(2,_),(3,_),(4,_),(5,_)],(1,_) :: (3,_) :: (4,_) :: (5,_) :: (999,_) :: tlP t.pv (Y3 s (I9 m1 p (1 / L5 m1 p c)) (I9 b1 p (1 / L5 m1 p c))),t5,⟨rfl,rfl,rfl,rfl,rfl,(hbT [_,_,_,_,_] (y3 (pv:=t.pv) (s:=s) (m:=I9 m1 p (1 / L5 m1 p c)) (b:=I9 b1 p (1 / L5 m1 p c))) rfl)⟩,?_⟩
     have hrc2:=hrc1.scl (q:=1 / L5 m1 p c) hpn
     have hrb2:=hrb1.scl (q:=1 / L5 m1 p c) hpn
     have hm2B:∀ i j,qw (ent (I9 m1 p (1 / L5 m1 p c)) i j)≤B+(B+1):=fun i' j=>by
      rw [b0x hrc1 hpn]
      split
      ·have:=T8 (ent m1 p j) (1 / L5 m1 p c); have:=hm1B p j; omega
      ·have:=hm1B i' j; omega
     have hb2B:∀ i j,qw (ent (I9 b1 p (1 / L5 m1 p c)) i j)≤B+(B+1):=fun i' j=>by
      rw [b0x hrb1 hpn]
      split
      ·have:=T8 (ent b1 p j) (1 / L5 m1 p c); have:=hb1B p j; omega
      ·have:=hb1B i' j; omega
     have hst2:stp t.m t.b t.pv t.det i c=⟨q0m (I9 m1 p (1 / L5 m1 p c)) (I9 m1 p (1 / L5 m1 p c)) p c,q0m (I9 m1 p (1 / L5 m1 p c)) (I9 b1 p (1 / L5 m1 p c)) p c,t.pv++[c],d1*L5 m1 p c⟩:=by
      rw [stp,hm1,hb1,hd1,hpp]
     obtain ⟨m2,hm2⟩:∃ m2,m2=I9 m1 p (1 / L5 m1 p c):=⟨_,rfl⟩
     obtain ⟨b2,hb2⟩:∃ b2,b2=I9 b1 p (1 / L5 m1 p c):=⟨_,rfl⟩
     obtain ⟨q2,hq⟩:∃ q2,q2=d1*L5 m1 p c:=⟨_,rfl⟩
     rw [← hm2,← hb2,← hq] at hst2
     rw [← hm2] at hrc2 hm2B
     rw [← hb2] at hrb2 hb2B
     rw [← hm2,← hb2,← hq]
     obtain ⟨N,hN2⟩:∃ N,N=(D5 m2 p c).length:=⟨_,rfl⟩
     have hpin:∀ k,k<1000→k≠999→F.pin k=none:=fun k hk hk9=>G.p0 k (by rw [T1,(I7 s m b).low k (by simpa [Nat.blt_eq] using hk),Option.or_none,i0,show (k == 999)=false by simpa using hk9]; rfl)
     refine R1 (m0m (nsw (Y1 ag73 rF rF L) t1 t1 ?_))
     refine nsw (Y1 ag3 rF rF L) t1 t1 ?_
     refine nsw (Y1 ag3 rF rF L) t1 t1 ?_
     refine nsI hG hX hN [(1,.at_ 1 0 1),(2,pvV 1003 (K6 t.pv)),(3,.at_ 3 0 4),(4,.at_ 4 0 1),(5,.at_ 5 0 1)] ([(603,_),(604,_),(605,_),(999,_),(1,_),(3,_),(4,_),(5,_)]++(tlP t.pv (Y3 s m2 b2))) (Q0z s cols m.length p c (tlP t.pv (Y3 s m2 b2)) y3) L (U4 (ys:=[_,_,_]) cl97 rfl rfl) t3 (by exact ncO (q:=q2) (c:=c) (p:=p) (pre:=[_,_,_,_,_]) t5 rfl (fun k hk=>hpin k oM oM) (by simp [PV.only,F0b]) t5) (fun q h=>by rcases p1w h with rfl | rfl | rfl <;> exact m0c (by simp [i0])) rfl ?_
     refine .nil ⟨[(1,_),(2,_),(3,_),(4,_),(5,_),(73,_)],(1,_) :: (3,_) :: (4,_) :: (5,_) :: (603,_) :: (604,_) :: (605,_) :: (999,_) :: tlP t.pv (Y3 s m2 b2),t6,⟨rfl,rfl,rfl,rfl,rfl,rfl,rfl,rfl,(hbT [_,_,_,_,_,_,_,_] (y3 (pv:=t.pv) (s:=s) (m:=m2) (b:=b2)) rfl)⟩,?_⟩
     refine V1 ?_
     have hMr:∀ k,k≤N→RC m.length cols (E6 m2 m2 p c k):=fun k hk=>k0b hrc2.1 hrc2 hpn k oM
     have hBr:∀ k,k≤N→RC m.length d (E6 m2 b2 p c k):=fun k hk=>k0b hrc2.1 hrb2 hpn k oM
     refine G1a (fn:=Tryz.f126) (n:=N) (nI:=42) (Hc:=bx3 p c) (Hc':=bx3 p c) (fun k=>hR s cols m.length c p q2 t.pv (E6 m2 m2 p c k) (E6 m2 b2 p c k)) (fun k=>(vZ ((D5 m2 p c).getD k 0:Nat),pQ (ent m2 ((D5 m2 p c).getD k 0) c))) (sl:=[(1,.at_ 1 0 1),(2,pvV 1003 (K6 t.pv)),(3,.at_ 3 0 4),(4,.at_ 4 0 1),(5,.at_ 5 0 1)]) hG hX hN G.ro rfl ?_ cl126 Tryz.func126 rfl Tryz.ntmps126 Tryz.results126 dC ⟨L,L⟩ ?_ ?_ ?_ ?_ (fun q h=>h) ?_ ?_ ?_ ?_
     ·exact l3 t5 ⟨rfl,rfl,rfl,rfl,rfl,rfl,rfl,rfl,hbT [_,_,_,_,_,_,_,_] y3 rfl⟩
     ·intro k hk j hj
      rcases j1r hk with rfl | rfl | rfl <;> exact k1h dC dC dC dC dC dC
     ·intro k hk q'
      have h1:=f0g (hMr k oM) (hMr (k+1) oM)
      have h2:=f0g (hBr k oM) (hBr (k+1) oM)
      constructor
      ·intro h
       obtain ⟨B1,hB1⟩:=j1.1 h
       obtain ⟨B0,h0,_⟩:=d1y h1 h2 hB1
       rw [h0]; simp
      ·intro h
       obtain ⟨B1,hB1⟩:=j1.1 h
       obtain ⟨B0,h0,_⟩:=d1y (D0n h1) (D0n h2) hB1
       rw [h0]; simp
     ·intro k hk q' B0 B1 h0 h1
      obtain ⟨B2,h2,h3⟩:=d1y (f0g (hMr k oM) (hMr (k+1) oM)) (f0g (hBr k oM) (hBr (k+1) oM)) h1
      rw [h0] at h2
      injection h2 with h2
      subst h2; exact h3
     ·exact fun k hk=>b2m
     ·intro tt v hv q' hq'
      have hm:(tt,v)∈_:=s8 hv
      simp only [List.mem_cons,List.not_mem_nil,or_false,Prod.mk.injEq] at hm
      have hb:∀ k,(k=1∨k=3∨k=4∨k=5)→(hR s cols m.length c p q2 t.pv (E6 m2 m2 p c 0) (E6 m2 b2 p c 0)).lookup k≠none:=fun k hk=>m0c (by rcases hk with rfl | rfl | rfl | rfl <;> simp [i0])
      rcases hm with ⟨_,rfl⟩ | ⟨_,rfl⟩ | ⟨_,rfl⟩ | ⟨_,rfl⟩ | ⟨_,rfl⟩
      ·obtain rfl:1=q':=by simpa [PV.free] using hq'
       exact hb 1 sM
      ·cases hpv:t.pv with
       | nil=>rw [hpv] at hq'; cases hq'
       | cons a l =>
        rw [hpv] at hq'
        obtain rfl:1003=q':=by simpa [PV.free,K6] using hq'
        exact K8 (by simp [tlP,K6,pvB])
      ·obtain rfl:3=q':=by simpa [PV.free] using hq'
       exact hb 3 sM
      ·obtain rfl:4=q':=by simpa [PV.free] using hq'
       exact hb 4 sM
      ·obtain rfl:5=q':=by simpa [PV.free] using hq'
       exact hb 5 sM
     ·intro l F' XF hro' hY
      have hlen2:m2.length=m.length:=hrc2.1
      have hit:=W0m cols p c N l m2 (bv s m.length) (fun k=>E6 m2 m2 p c k) (fun k=>[(1,⟨73,1,.mix [.at_ 999 0 3]⟩),(3,bQ q2),bxI 4 c,bxI 5 p]++tlP t.pv (Y3 s (E6 m2 m2 p c k) (E6 m2 b2 p c k))) (fun k=>(vZ ((D5 m2 p c).getD k 0:Nat),pQ (ent m2 ((D5 m2 p c).getD k 0) c))) (fun k hk=>b2r) (fun k hk q' B' h=>by
        rw [T1,show ([(1,⟨73,1,.mix [.at_ 999 0 3]⟩),(3,bQ q2),bxI 4 c,bxI 5 p]:List (Nat×Blk)).lookup q'=none from s5 rF (d5 dC h),l0]
        exact B0r q' B' h) (fun k hk=>(hMr k hk).1.trans hlen2.symm) (fun i' hi'=>w1h hrc2 hpn hi') (fun i' hi'=>by rw [hrc2.get oM]; exact hcc) (fun i' hi'=>by have:=hm2B i' c; unfold ent at this; omega) (by rw [hN2]; exact p1d) (fun i' hi' ho=>by rw [(y1s hi' ho).1]; rfl) oM
      rw [hlen2] at hit
      exact hit F' _ rfl XF hY
     ·intro k hk
      obtain ⟨ix,hix⟩:∃ ix,ix=(D5 m2 p c).getD k 0:=⟨_,rfl⟩
      have hmem:=j9.1 (F7 (show k<(D5 m2 p c).length by omega))
      have hat:=W0p (k:=k) hrc2.1 hrc2 hpn (by omega:k<(D5 m2 p c).length)
      have hatb:=W0p (m:=m2) (c:=c) (k:=k) hrc2.1 hrb2 hpn (by omega:k<(D5 m2 p c).length)
      have hMk:=hMr k oM
      have hBk:=hBr k oM
      have e1:E6 m2 m2 p c (k+1)=V7 (E6 m2 m2 p c k) ix p (ent m2 ix c):=by rw [g0v oM,hix]; rfl
      have e2:E6 m2 b2 p c (k+1)=V7 (E6 m2 b2 p c k) ix p (ent m2 ix c):=by rw [g0v oM,hix]; rfl
      rw [← hix] at hmem hat hatb
      simp only
      rw [e1,e2,← hix]
      obtain ⟨mk,hmk⟩:∃ mk,mk=E6 m2 m2 p c k:=⟨_,rfl⟩
      obtain ⟨bk,hbk⟩:∃ bk,bk=E6 m2 b2 p c k:=⟨_,rfl⟩
      rw [← hmk] at hat hMk ⊢
      rw [← hbk] at hatb hBk ⊢
      have hixn:ix<m.length:=by have:=hrc2.1; omega
      refine ⟨⟨[(10,.at_ 10 0 1),(11,.at_ 11 0 4),(1,.at_ 1 0 1),(2,pvV 1003 (K6 t.pv)),(3,.at_ 3 0 4),(4,.at_ 4 0 1),(5,.at_ 5 0 1)],[bxI 10 ix,bxQ 11 (ent m2 ix c),wV cols m.length (bv s m.length),(1,⟨73,1,.mix [.at_ 999 0 3]⟩),(3,bQ q2),bxI 4 c,bxI 5 p]++tlP t.pv (Y3 s mk bk)⟩,fun F' XF=>?_,fun F' XF=>?_⟩
      ·have L:=@lti _ _ (XF.nt.trans G.nt)
       have P0:∀ k,(k == 10 || k == 11)=true→F'.pin k=none:=fun k hk=>XF.p0 k (by simp only [Bool.or_eq_true,beq_iff_eq] at hk; rcases hk with rfl | rfl <;> exact k1h dC dC dC dC dC dC)
       skip
       refine exr (swb (O3 (k:=10) (n:=1) zv3 (.cons rfl .nil) rfl (P0 _ rfl) L) t0 t0 (frT [_,_,_,_,_] (y3 (pv:=t.pv) (s:=s) (m:=mk) (b:=bk)) rfl rfl (by simp [D3,U2,Cells.free,PV.freeL,PV.free,T3,i3])) ?_)
       refine sb (R2 sz3 rF (.atom rfl) rfl pu1) t2 t1 ?_
       refine O1 ⟨[(1,_),(2,_),(3,_),(4,_),(5,_),(10,_),(74,_),(75,_)],(1,_) :: (3,_) :: (4,_) :: (5,_) :: (10,_) :: (999,_) :: ((tlP t.pv (Y3 s mk bk))),t8,⟨rfl,rfl,rfl,rfl,rfl,rfl,(hbT [_,_,_,_,_,_,_] (y3 (pv:=t.pv) (s:=s) (m:=mk) (b:=bk)) rfl)⟩,?_⟩
       refine j3 (swb (O3 (k:=11) (n:=4) zv47 (.cons rfl (.cons rfl (.cons rfl (.cons rfl .nil)))) rfl (P0 _ rfl) L) t0 t0 (frT [_,_,_,_,_,_] (y3 (pv:=t.pv) (s:=s) (m:=mk) (b:=bk)) rfl rfl (by simp [D3,U2,Cells.free,PV.freeL,PV.free,T3,i3])) ?_)
       refine sb (R2 sz47 rF pa4 rfl pu4) t2 t1 ?_
       refine O1 ?_
       exact ⟨rfl,l3 t7 ⟨rfl,rfl,rfl,rfl,rfl,rfl,rfl,hbT [_,_,_,_,_,_,_,_] y3 rfl⟩⟩
      ·have L:=@lti _ _ (XF.nt.trans G.nt)
       have hG:=XF.g
       have hX:=XF.x
       have hN:=XF.ng
       have hb4:=V1k s cols mk bk ix p (ent m2 ix c) (B+(B+1)) (B+(B+1)) (B+(B+1)) (by rw [hMk.1]; exact hixn) (by rw [hMk.1]; exact hpn) hmem.2.1 (by rw [hBk.1,hMk.1]) (by rw [hMk.get hpn,hMk.get hixn]) (by rw [hMk.get hixn]; omega) (fun a ha=>by rw [hat.1] at ha; obtain ⟨j,rfl⟩:=g0s ha; exact hm2B ix j) (fun a ha=>by rw [hat.2] at ha; obtain ⟨j,rfl⟩:=g0s ha; exact hm2B p j) (hm2B ix c) (by rw [hBk.get hpn,hBk.get hixn]) (by rw [hBk.get hixn]; have:=H.dl; omega) (fun a ha=>by rw [hatb.1] at ha; obtain ⟨j,rfl⟩:=g0s ha; exact hb2B ix j) (fun a ha=>by rw [hatb.2] at ha; obtain ⟨j,rfl⟩:=g0s ha; exact hb2B p j) oM
       rw [hMk.1] at hb4
       have hs1:=f0g hMk (hMk.take (q:=ent m2 ix c) hixn hpn)
       have hs2:=f0g hBk (hBk.take (q:=ent m2 ix c) hixn hpn)
       skip
       refine V1 (D0f (nsw (Y1 ag73 rF rF L) t1 t1 ?_))
       refine nsw (v0g (vs:=[]) (us:=[_,_,_]) rfl rfl L) t3 t0 (nsI hG hX hN [] ([(999,_),(1,_),(3,_),(4,_),(5,_)]++(tlP t.pv (Y3 s (V7 mk ix p (ent m2 ix c)) (V7 bk ix p (ent m2 ix c))))) hb4 L (U4 (ys:=[_,_]) cl92 rfl rfl) t2 (by exact b2s (pre:=[_,_,_,_,_,_,_]) (pre':=[_,_,_,_,_]) (bx:=[bxI 5 p,bxI 10 ix,bxQ 11 (ent m2 ix c),wV cols m.length (bv s m.length)]) hs1 hs2 rfl t4 t5 (by cases s <;> rfl) (by simp [i0]) trivial) (fun q h=>by cases h) rfl ?_)
       refine .nil ?_
       exact ⟨rfl,rfl,rfl,rfl,rfl,rfl,hbT [_,_,_,_,_] y3 rfl⟩
     ·show i4 _ _ _ ⟨_,bx3 p c++(bxs s cols m.length c p q2++tlP t.pv (Y3 s (E6 m2 m2 p c N) (E6 m2 b2 p c N)))⟩ _
      obtain ⟨mN,hmN⟩:∃ mN,mN=E6 m2 m2 p c N:=⟨_,rfl⟩
      obtain ⟨bN,hbN⟩:∃ bN,bN=E6 m2 b2 p c N:=⟨_,rfl⟩
      have hst3:ech m b (c+1)=⟨mN,bN,t.pv++[c],q2⟩:=by rw [hst,hst2,q0m,q0m,← hN2,hmN,hbN]
      rw [← hmN,← hbN]
      skip
      refine j3 (mV L rfl (sw (Y1 ag3 rF rF L) t1 t1 ?_))
      refine sw (n4 (vs:=[_]) un27 ti3 rfl rfl dC dC rfl (K2 (.cons rfl .nil) rfl) rfl (.cons rfl (.atom rfl) rfl pu1 .nil) (.cons .nil) L) t1 t0 (swA (K0y (k:=1003) un27 un27 ti3 rfl rfl rfl (by first | (simp [Tryz.t3]; done) | (simp [Tryz.t3]; omega)) sO hpin3 L) t2 ((J1s [_,_,_,_,_,_,_,_] rfl dC)) (d2b (pre:=[_,_,_,_,_,_,_,_]) rfl (fun e=>by rw [e]; simp [D3,U2,Cells.free,PV.freeL,PV.free,K6])) ?_)
      refine aV L rfl ?_
      refine O1 (show i4 _ _ _ _ _ from exw (sl:=[(1,_),(2,pvV 1003 (K6 (t.pv++[c]))),(3,_),(4,_)]) (hb:=(1,_) :: (3,_) :: (4,_) :: (999,_) :: ((tlP (t.pv++[c]) (Y3 s mN bN)))) ⟨rfl,(by rw [Y0n]; rfl),rfl,rfl,trivial⟩ ⟨(g1a (pre:=[_,_,_,_,_,_,_,_]) dC rfl),(g1a (pre:=[_,_,_,_,_,_,_,_]) dC rfl),(g1a (pre:=[_,_,_,_,_,_,_,_]) dC rfl),(g1a (pre:=[_,_,_,_,_,_,_,_]) dC rfl),(b2d (pre:=[_,_,_,_,_,_,_,_]) rfl)⟩ ?_)
      refine R1 (exr (sw (Y1 ag3 rF rF L) t1 t1 ?_))
      refine O1 ⟨[(1,_),(2,_),(3,_),(83,_)],(1,_) :: (3,_) :: (999,_) :: ((tlP (t.pv++[c]) (Y3 s mN bN))),t4,⟨rfl,rfl,rfl,(hbT [_,_,_,_] (y3 (pv:=t.pv++[c]) (s:=s) (m:=mN) (b:=bN)) rfl)⟩,?_⟩
      refine j3 (swb (O3 (k:=4) (n:=1) zv3 (.cons rfl .nil) rfl (P0 _ rfl) L) t0 t0 (frT [_,_,_] (y3 (pv:=t.pv++[c]) (s:=s) (m:=mN) (b:=bN)) rfl rfl (by simp [D3,U2,Cells.free,PV.freeL,PV.free,T3,i3])) ?_)
      refine sb (R2 sz3 rF (.atom rfl) rfl pu1) t2 t1 ?_
      refine O1 (show i4 _ _ _ _ _ from exw (sl:=[(1,_),(2,_),(3,_),(4,_)]) (hb:=(1,_) :: (3,_) :: (4,_) :: (999,_) :: ((tlP (t.pv++[c]) (Y3 s mN bN)))) t4 ⟨rfl,rfl,rfl,rfl,(hbT [_,_,_,_,_] (y3 (pv:=t.pv++[c]) (s:=s) (m:=mN) (b:=bN)) rfl)⟩ ?_)
      refine j3 (sw (Y1 ag3 rF rF L) t1 t1 ?_)
      refine sw (F3 L (w64 oM oM)) t2 t0 (sb (R2 sz3 rF (.atom rfl) rfl pu1) t2 t1 ?_)
      refine O1 ?_
      exact ⟨(c+1,⟨mN,bN,t.pv++[c],q2⟩),⟨by simp only; omega,hst3.symm⟩,(by simp only; omega),l3 ⟨oR,rfl,rfl,rfl,trivial⟩ ⟨rfl,rfl,rfl,rfl,(hbT [_,_,_,_,_] (y3 (pv:=t.pv++[c]) (s:=s) (m:=mN) (b:=bN)) rfl)⟩⟩
  ·have hp:=df hp
   rw [m8] at hp
   have hfin:ech m b cols=t:=by
    have:=W0j (m:=m) (b:=b) (c:=c) (by rw [← hs]; omega) (cols - c)
    rw [show c+(cols - c)=cols by omega,← hs] at this; exact this
   rw [hfin]
   refine J2 (xq ?_)
   refine exd rF ?_
   refine mV L rfl (lp4 ag47 sz47 L rfl rfl (aV L rfl (sb (R2 sz47 rF pa4 rfl pu4) t2 t1 ?_)))
   refine O1 ⟨h0j [⟨[2],[],[84],[]⟩,⟨[3],[3],[85],[]⟩,⟨[84],[],[2],[]⟩,⟨[3,85],[3],[],[3]⟩] (.cons (cf0 rfl) (.cons (cf0 rfl) (.cons (cf0 rfl) (.cons (cf0 rfl)  .nil)))) rfl (frS [] [_,_,_,_] (y3 (pv:=t.pv) (s:=s) (m:=t.m) (b:=t.b)) rfl (by simp [D3,U2,Cells.free,PV.freeL,PV.free,T3,i3])) dC,[(2,_),(3,_)],(3,_) :: (999,_) :: ((tlP t.pv (Y3 s t.m t.b))),t2,⟨rfl,rfl,(hbT [_,_,_,_,_] (y3 (pv:=t.pv) (s:=s) (m:=t.m) (b:=t.b)) rfl)⟩,?_⟩
   refine P4 [1003] (sl:=[(2,.p (.sl t.pv.length (K6 t.pv))),(3,.at_ 3 0 4)]) (hb:=[(3,bQ t.det),wV cols m.length (bv s m.length)]++Y3 s t.m t.b) (f0w (by simp [hlo])) ⟨⟨_,rfl,Y1z (pre:=[_,_]) rfl⟩,⟨_,rfl,.same⟩,trivial⟩ (W1n (pre:=[_,_]) rfl t2 rfl) ?_
   refine X1 ?_
   exact ⟨.inr rfl,.cons (.tmp rfl) (.cons (.agg rfl rfl rfl ag47 sz47 (.cons (.cons (.cons (.cons .nil))))) .nil),rfl,hbT [_,_] (I7 s t.m t.b) rfl⟩
 ·refine R1 (exd rF ?_)
  refine sw (Y1 ag3 rF rF L) t1 t1 ?_
  refine sw (Y1 ag73 rF rF L) t1 t1 ?_
  refine sw (Z2 rX L) t1 t1 ?_
  refine sw (Z1 un79 rfl sz3 dC rX L) t1 t1 ?_
  refine sw (Y1 ag3 rF rF L) t1 t1 ?_
  refine sw (V3 L) t2 t0 (mV L rfl (swn (g:=19) rfl sO L rfl (swn (g:=19) rfl sO L rfl (swn (g:=19) rfl sO L rfl (swn (g:=19) rfl sO L rfl (swn (g:=19) rfl sO L rfl (swn (g:=19) rfl sO L rfl (swn (g:=19) rfl sO L rfl (swn (g:=19) rfl sO L rfl (sw (v4 sO L) t2 t0 ?_))))))))))
  refine O1 ⟨h0j [⟨[4],[4],[13],[]⟩,⟨[1],[1],[14],[]⟩,⟨[14],[999],[15],[]⟩,⟨[15],[999],[16],[]⟩,⟨[16],[999],[17],[]⟩,⟨[13,17],[],[18],[]⟩,⟨[18],[],[19],[]⟩,⟨[19],[],[20],[]⟩,⟨[19],[],[21],[]⟩,⟨[19],[],[22],[]⟩,⟨[19],[],[23],[]⟩,⟨[19],[],[24],[]⟩,⟨[19],[],[25],[]⟩,⟨[19],[],[26],[]⟩,⟨[19],[],[27],[]⟩,⟨[19],[],[28],[]⟩] (.cons (cf0 rfl) (.cons (cf0 rfl) (.cons (cf0 rfl) (.cons (cf0 rfl) (.cons (cf0 rfl) (.cons (cf0 rfl) (.cons (cf0 rfl) (.cons (cf0 rfl) (.cons (cf0 rfl) (.cons (cf0 rfl) (.cons (cf0 rfl) (.cons (cf0 rfl) (.cons (cf0 rfl) (.cons (cf0 rfl) (.cons (cf0 rfl) (.cons (cf0 rfl)  .nil)))))))))))))))) rfl (frS [] [_,_,_,_] (y3 (pv:=t.pv) (s:=s) (m:=t.m) (b:=t.b)) rfl (by simp [D3,U2,Cells.free,PV.freeL,PV.free,T3,i3])) dC,[(1,_),(2,_),(3,_),(4,_),(28,_)],(1,_) :: (3,_) :: (4,_) :: (999,_) :: ((tlP t.pv (Y3 s t.m t.b))),t5,⟨rfl,rfl,rfl,rfl,(hbT [_,_,_,_] (y3 (pv:=t.pv) (s:=s) (m:=t.m) (b:=t.b)) rfl)⟩,?_⟩
  refine P3 rfl rfl ?_
  have hfin:ech m b cols=t:=by rw [hs,show c=cols by omega]
  rw [hfin]
  refine J2 (xq ?_)
  refine exd rF ?_
  refine mV L rfl (lp4 ag47 sz47 L rfl rfl (aV L rfl (sb (R2 sz47 rF pa4 rfl pu4) t2 t1 ?_)))
  refine O1 ⟨h0j [⟨[2],[],[84],[]⟩,⟨[3],[3],[85],[]⟩,⟨[84],[],[2],[]⟩,⟨[3,85],[3],[],[3]⟩] (.cons (cf0 rfl) (.cons (cf0 rfl) (.cons (cf0 rfl) (.cons (cf0 rfl)  .nil)))) rfl (frS [] [_,_,_,_] (y3 (pv:=t.pv) (s:=s) (m:=t.m) (b:=t.b)) rfl (by simp [D3,U2,Cells.free,PV.freeL,PV.free,T3,i3])) dC,[(2,_),(3,_)],(3,_) :: (999,_) :: ((tlP t.pv (Y3 s t.m t.b))),t2,⟨rfl,rfl,(hbT [_,_,_,_,_] (y3 (pv:=t.pv) (s:=s) (m:=t.m) (b:=t.b)) rfl)⟩,?_⟩
  refine P4 [1003] (sl:=[(2,.p (.sl t.pv.length (K6 t.pv))),(3,.at_ 3 0 4)]) (hb:=[(3,bQ t.det),wV cols m.length (bv s m.length)]++Y3 s t.m t.b) (f0w (by simp [hlo])) ⟨⟨_,rfl,Y1z (pre:=[_,_]) rfl⟩,⟨_,rfl,.same⟩,trivial⟩ (W1n (pre:=[_,_]) rfl t2 rfl) ?_
  refine X1 ?_
  exact ⟨.inr rfl,.cons (.tmp rfl) (.cons (.agg rfl rfl rfl ag47 sz47 (.cons (.cons (.cons (.cons .nil))))) .nil),rfl,hbT [_,_] (I7 s t.m t.b) rfl⟩
end Go.Proofs.YtjagfionflbjbaaGreat.N
set_option maxRecDepth 100000
set_option maxHeartbeats 4000000
namespace Go.Proofs.YtjagfionflbjbaaGreat.SH
open Go Go.RowKit
def rvV (k:Nat):List PV→PV
 | []=>.p (.a (.slice none 0 0))
 | _ :: v=>.ref k 0 (v.length+1) (v.length+1)
def rvB (k:Nat)(e:TypeId):List PV→List (Nat×Blk)
 | []=>[]
 | a :: v=>[(k,⟨e,1,.mix (a :: v)⟩)]
def rvF (k:Nat):List PV→Option Nat
 | []=>some k
 | _ :: _=>none
section
variable {P:Program} {F:Fr} {d:Nat} {T:TypeId} {pos:String} {aft:Array Edge} {g:Option (Nat×Bool)} {t tx:TypeId}
theorem q1g {x y:Operand}{k j:Nat}{e:TypeId}{ie:TypeInfo}{z:Value}{cs:List PV}{u:PV}(hu:P.underlying t=some (.slice e))(hux:P.underlying tx=some (.slice e))(hi:∀ w,(typeInfo e).run P w = .ok ie w)(hz:ie.zero=some z)(hsz:ie.size=1)
  (hzl:z.cells.size=1) (hf:u.free k=true) (hby:2*(cs.length+1)*ie.bytes≤281474976710656) (h63:cs.length+1≤9223372036854775807) (hpk:F.pin k=none) (hlt:d<F.nt) :
  O2 P F ⟨some d,.call ⟨.builtin .append,#[x,y],#[t,tx]⟩,T,pos,aft,g⟩ ⟨[(x,rvV k cs),(y,.ref j 0 1 1)],rvB k e cs++[(j,⟨e,1,.mix [u]⟩)],rvF k cs,[(d,rvV k (cs++[u]))],rvB k e (cs++[u])⟩:=by
 cases cs with
 | nil=>exact M0a (k:=k) (m:=1) (us:=[u]) hu hi hz hsz hzl oM (Q1h hux rfl rfl rfl) rfl (.inr rfl) (by simp [PV.freeL,hf]) rfl (by simpa using hby) oM hpk hlt
 | cons a v =>
  have:=G0j (P:=P) (F:=F) (d:=d) (T:=T) (pos:=pos) (aft:=aft) (g:=g) (t:=t) (tx:=tx) (x:=x) (y:=y) (k:=k) (n:=v.length+1) (m:=1) (sz:=1) (cs:=.mix (a :: v)) (us:=[u]) hu hi hz hsz hzl oM rfl sM (Q1h (B:=⟨e,1,.mix [u]⟩) (k:=j) (o:=0) hux rfl rfl rfl) rfl .mix rfl (by simpa using hby) (by simpa using h63) hpk hlt
  simpa [rvV,rvB,rvF] using this
theorem q1r {x y:Operand}{k j:Nat}{e:TypeId}{ie:TypeInfo}{z:Value}{cs:List PV}{u:PV}(hu:P.underlying t=some (.slice e))(hux:P.underlying tx=some (.slice e))(hi:∀ w,(typeInfo e).run P w = .ok ie w)(hz:ie.zero=some z)(hsz:ie.size=1)
  (hzl:z.cells.size=1) (hf:u.free k=true) (hby:2*(cs.length+1)*ie.bytes≤281474976710656) (h63:cs.length+1≤9223372036854775807) (hpk:F.pin k=none) (hlt:d<F.nt) :
  O2 P F ⟨some d,.call ⟨.builtin .append,#[x,y],#[t,tx]⟩,T,pos,aft,g⟩ ⟨[(x,rvV k cs),(y,.ref j 0 1 1)],rvB k e cs++[(j,⟨e,1,.mix [u]⟩)],rvF k cs,[(d,.ref k 0 (cs.length+1) (cs.length+1))],[(k,⟨e,1,.mix (cs++[u])⟩)]⟩:=by
 have:=q1g (P:=P) (F:=F) (d:=d) (T:=T) (pos:=pos) (aft:=aft) (g:=g) (x:=x) (y:=y) (j:=j) hu hux hi hz hsz hzl hf hby h63 hpk hlt
 cases cs <;> simpa [rvV,rvB] using this
end
theorem j0k {k q:Nat}{cs:List PV}(h:k≠q):(rvV k cs).free q=true:=by cases cs <;> simp [rvV,PV.free,h]
theorem B1v {k q:Nat}{e:TypeId}{cs:List PV}(h:PV.freeL q cs=true):U2 q (rvB k e cs)=true:=by
 cases cs with
 | nil=>rfl
 | cons a v=>simp only [rvB,U2,Cells.free,h]; rfl
theorem K1r {k:Nat}{e:TypeId}{cs:List PV}{u:PV}:rvB k e (cs++[u])=[(k,⟨e,1,.mix (cs++[u])⟩)]:=by cases cs <;> rfl
theorem J1n {k:Nat}{cs:List PV}{u:PV}:rvV k (cs++[u]) = .ref k 0 (cs.length+1) (cs.length+1):=by cases cs <;> simp [rvV]
end Go.Proofs.YtjagfionflbjbaaGreat.SH
namespace Go.Proofs.YtjagfionflbjbaaGreat.N
open Go Go.Proofs.YtjagfionflbjbaaGreat.SH Go.Proofs.YtjagfionflbjbaaGreat.NumA
theorem k0y {s:Nat}:∀ {i:Nat} {a:List (List Rat)} {v:List Rat},M4 s i (a++[v])=M4 s i a++[.ref (E3 s (i+a.length)) 0 v.length (v.length*4)]
 | i,[],v=>rfl
 | i,x :: a,v=>by simp only [L1,M4,k0y (i:=i+1) (a:=a),D1]; rw [show i+1+a.length=i+(a.length+1) by omega]
theorem w0q {s:Nat}:∀ {i:Nat} {a:List (List Rat)} {v:List Rat},T6 s i (a++[v])=T6 s i a++[(E3 s (i+a.length),Z3 v)]
 | i,[],v=>rfl
 | i,x :: a,v=>by simp only [L1,T6,w0q (i:=i+1) (a:=a),D1]; rw [show i+1+a.length=i+(a.length+1) by omega]
def y0x (s:Nat)(m:List (List Rat)):List (Nat×Blk):=rvB (s+1001) 40 (M4 s 0 m)++T6 s 0 m
theorem v0q {s:Nat}{m:List (List Rat)}(h:0<m.length):y0x s m=I2 s m:=by
 cases m with
 | nil=>cases h
 | cons v m=>rfl
theorem J0y {s j:Nat}{m:List (List Rat)}(h2:s<9)(h:(y0x s m).lookup j≠none):j=s+1001∨∃ q,q<m.length∧j=E3 s q:=by
 cases m with
 | nil=>exact absurd rfl h
 | cons v m=>exact P5 h2 h
end Go.Proofs.YtjagfionflbjbaaGreat.N
namespace Go.Proofs.YtjagfionflbjbaaGreat.SH
open Go
end Go.Proofs.YtjagfionflbjbaaGreat.SH
namespace Go.Proofs.YtjagfionflbjbaaGreat.SH
open Go Go.RowKit
end Go.Proofs.YtjagfionflbjbaaGreat.SH
namespace Go.Proofs.YtjagfionflbjbaaGreat.SH
open Go Go.RowKit
end Go.Proofs.YtjagfionflbjbaaGreat.SH
namespace Go.Proofs.YtjagfionflbjbaaGreat.SH
open Go Go.RowKit
section
variable {P:Program} {F:Fr} {ops:Array Oper} {sl:List (Nat×PV)} {hb:List (Nat×Blk)} {op:Op} {T:TypeId} {pos:String} {aft:Array Edge} {os:List Oper} {dst:Option Nat} {rs:List (Operand×PV)} {rb:List (Nat×Blk)} {K:St→Prop}
end
end Go.Proofs.YtjagfionflbjbaaGreat.SH
namespace Go.Proofs.YtjagfionflbjbaaGreat.SH
open Go Go.RowKit
end Go.Proofs.YtjagfionflbjbaaGreat.SH
namespace Go.Proofs.YtjagfionflbjbaaGreat.SH
open Go Go.RowKit
end Go.Proofs.YtjagfionflbjbaaGreat.SH
namespace Go.Proofs.YtjagfionflbjbaaGreat.SH
open Go Go.RowKit
section
variable {P:Program} {F:Fr} {Q:Exit→St→Prop} {S:St}
end
section
variable {P:Program} {F:Fr} {d:Nat} {T:TypeId} {pos:String} {aft:Array Edge} {g:Option (Nat×Bool)} {x:Operand} {t xT yT:TypeId} {y:L2} {c:Value} {ms:Array (String×TypeId)} {fs:Array Field}
end
end Go.Proofs.YtjagfionflbjbaaGreat.SH
namespace Go.Proofs.YtjagfionflbjbaaGreat.SH
open Go Go.RowKit
end Go.Proofs.YtjagfionflbjbaaGreat.SH
namespace Go.Proofs.YtjagfionflbjbaaGreat.SH
open Go Go.RowKit
structure Mk (cf:Nat→Nat) (A:Ann) (f:List Nat×List Nat):Prop where
 fr:∀ k,A.fresh=some k→cf k∈f.1
 me:∀ k,A.free k=false→cf k∈f.2
inductive Mks (cf:Nat→Nat):List Ann→List (List Nat×List Nat)→Prop
 | nil:Mks cf [] []
 | cons {A:Ann} {f:List Nat×List Nat} {As:List Ann} {fs:List (List Nat×List Nat)}:Mk cf A f→Mks cf As fs→Mks cf (A :: As) (f :: fs)
theorem H1k {cf:Nat→Nat}{As:List Ann}{fs:List (List Nat×List Nat)}(h:Mks cf As fs):∀ (i:Nat) (A:Ann),As[i]? = some A→∃ f,fs[i]? = some f∧Mk cf A f:=by
 induction h with
 | nil=>intro i A h; simp at h
 | cons hc _ ih =>
  intro i A hA
  cases i with
  | zero =>
    obtain rfl := by simpa using hA
    exact ⟨_,rfl,hc⟩
  | succ i=>simpa using ih i A (by simpa using hA)
theorem J1z {cf:Nat→Nat}{As As':List Ann}{fs fs':List (List Nat×List Nat)}(h:Mks cf As fs)(h':Mks cf As' fs'):Mks cf (As++As') (fs++fs'):=by
 induction h with
 | nil=>exact h'
 | cons hc _ ih=>exact .cons hc ih
theorem p1j {cf:Nat→Nat}{A B:Ann}{a b:List Nat×List Nat}(hA:Mk cf A a)(hB:Mk cf B b)(h1:hit a.1 b.2=false)(h2:hit b.1 a.2=false):w0j A B=true:=by
 simp only [w0j,j0]
 constructor
 ·cases e:A.fresh with
  | none=>rfl
  | some k =>
   cases e2:B.free k with
   | true=>simp [e2]
   | false=>exact absurd (hB.me k e2) (o8.1 h1 _ (hA.fr k e))
 ·cases e:B.fresh with
  | none=>rfl
  | some k =>
   cases e2:A.free k with
   | true=>simp [e2]
   | false=>exact absurd (hA.me k e2) (o8.1 h2 _ (hB.fr k e))
def K1x:List Oper→List (List Nat×List Nat)→List Nat→List (List Nat×List Nat)→Bool
 | [],[],_,_=>true
 | o :: os,b :: fs,ms,done=>((List.range ms.length).all fun i=>(W8 ms o).testBit i || (done[i]?.all fun a=>!hit a.1 b.2 && !hit b.1 a.2)) && K1x os fs (ms++[W8 ms o]) (done++[b])
 | _,_,_,_=>false
theorem G0m {cf cg:Nat→Nat}:∀ (os:List Oper) (As:List Ann) (sks:List Sk) (fs:List (List Nat×List Nat)) (ms:List Nat) (done:List Ann) (dsk:List Sk) (dfs:List (List Nat×List Nat)),b0f cf As sks→b0f cf done dsk→Mks cg As fs→Mks cg done dfs→done.length=ms.length→K1x os fs ms dfs=true→U7 os sks ms dsk=true→R7 os As ms done=true
 | [],[],_,_,_,_,_,_,_,_,_,_,_,_,_=>rfl
 | [],_ :: _,_ :: _,_,_,_,_,_,_,_,_,_,_,_,hh=>by simp [U7] at hh
 | _ :: _,[],[],_,_,_,_,_,_,_,_,_,_,_,hh=>by simp [U7] at hh
 | _ :: _,_ :: _,[],_,_,_,_,_,h,_,_,_,_,_,_=>by cases h
 | _,[],_ :: _,_,_,_,_,_,h,_,_,_,_,_,_=>by cases h
 | [],_ :: _,[],_,_,_,_,_,h,_,_,_,_,_,_=>by cases h
 | _,_ :: _,_,[],_,_,_,_,_,_,h,_,_,_,_=>by cases h
 | o :: os,B :: As,b :: sks,f :: fs,ms,done,dsk,dfs,h,h',g,g',hl,hf,hh=>by
  cases h with
  | cons hB hAs =>
   cases g with
   | cons gB gAs =>
    simp only [U7,j0] at hh
    simp only [K1x,j0] at hf
    obtain ⟨⟨h1,h2⟩,h3⟩:=hh
    simp only [R7,j0]
    refine ⟨⟨h1,?_⟩,G0m os As sks fs _ _ _ _ hAs (M0g h' (.cons hB .nil)) gAs (J1z g' (.cons gB .nil)) (by simp [hl]) hf.2 h3⟩
    rw [s0] at h2 ⊢
    intro i hi
    have hi':i<done.length:=by simpa using hi
    have:=h2 i (by simpa [← hl] using hi')
    have h5:=s0.1 hf.1 i (by simpa [← hl] using hi')
    rw [Bool.or_eq_true] at this h5 ⊢
    rcases this with h | h
    ·exact .inl h
    rcases h5 with h5 | h5
    ·exact .inl h5
    ·refine .inr ?_
     obtain ⟨A,hA⟩:∃ A,done[i]? = some A:=⟨done[i],by simp [hi']⟩
     obtain ⟨sk,hs,hc⟩:=J0n h' i A hA
     obtain ⟨fk,hfs,hfc⟩:=H1k g' i A hA
     rw [hs] at h
     rw [hfs] at h5
     rw [hA]
     simp only [Option.all_some,j0,Bool.not_eq_true'] at h5
     exact F0q hc hB (p1j hfc gB h5.1 h5.2) h
theorem b2x (cf cg:Nat→Nat){os:List Oper}{As:List Ann}{S:St}(sks:List Sk)(fs:List (List Nat×List Nat))(h1:b0f cf As sks)(g1:Mks cg As fs)(hS:∀ k∈b7 As,S.free k=true)(h2:U7 os sks [] []=true)(h3:K1x os fs [] []=true):(R7 os As [] [] && V5 S As)=true:=by
 rw [G0m os As sks fs [] [] [] [] h1 .nil g1 .nil rfl h3 h2,O9 hS]; rfl
theorem h0w {E:Env}{st:Nat→Bool}{f:FuncId}{xs:List L2}{r:L2}(h:E4 E st f (xs.map .p) [] [] (.p r)):s3 E f xs r:=by
 intro ok w vals hG hrel
 have hv:∀ (xs:List L2) (vals:List Value),I5 ok (hp w) xs vals→C3 (lk []) (fun j=>j) ok (hp w) (xs.map .p) vals:=by
  intro xs
  induction xs with
  | nil=>intro vals h; simpa [I5,C3] using h
  | cons x xs ih =>
   intro vals h
   simp only [I5] at h
   simp only [R0,C3]
   obtain ⟨v,r,h1,h2,h3⟩:=h
   exact ⟨v,r,h1,by simpa [M2] using h2,ih _ h3⟩
 refine Calls.mono (h ok (fun j=>j) w vals hG (fun j B hj=>by cases hj) (fun j j' hj=>absurd rfl hj) (hv xs vals hrel)) fun e w' ⟨v,ρ',he,hp⟩=>?_
 refine ⟨v,he,?_,⟨hp.os,hp.tape,hp.output,hp.size,fun b hb=>hp.frame b hb fun j hj=>absurd rfl hj⟩⟩
 have:=hp.res
 simp only [M2] at this
 exact Rel.mono (fun b hb _=>⟨hb.1,rfl⟩) _ _ this
end Go.Proofs.YtjagfionflbjbaaGreat.SH
set_option maxRecDepth 100000
set_option maxHeartbeats 4000000
namespace Go.Proofs.YtjagfionflbjbaaGreat.N
open Go Go.Proofs.YtjagfionflbjbaaGreat.SH Go.Proofs.YtjagfionflbjbaaGreat.NumA
theorem H1s {s:Bool}{n:Nat}:L6 (bv s n) [bv s n]:=by
 cases s
 ·exact .atom rfl
 ·exact .ref
theorem q5 (s:Bool)(b:List (List Rat)):K5 (bsT s b):=by
 cases s
 ·exact ⟨fun _ _=>rfl,List.nodup_nil,fun _ _=>rfl,fun j B hj=>by cases hj⟩
 ·exact i2 dC b
@[reducible] def wU (c:Nat)(m:List (List Rat))(v:PV):Nat×Blk:=(999,⟨79,3,.mix [rvV 1001 (M4 0 0 m),.p (vZ c),v]⟩)
def i5 (s:Bool)(m b:List (List Rat)):List (Nat×Blk):=y0x 0 m++bsT s b
theorem Q0k {s:Bool}{m b:List (List Rat)}(h:0<m.length):i5 s m b=Y3 s m b:=by rw [i5,v0q h]; rfl
theorem Y1a {c:Nat}{m:List (List Rat)}{v:PV}(h:0<m.length):wU c m v=wV c m.length v:=by
 cases m with
 | nil=>cases h
 | cons r m=>simp [wU,wV,rvV,M4]
theorem Z5 (s:Bool)(m b:List (List Rat)):K5 (i5 s m b):=by
 cases m with
 | nil=>exact q5 s b
 | cons r m=>rw [Q0k sM]; exact I7 s _ b
theorem F1q {s:Bool}{b:List (List Rat)}{k:Nat}(h:(bsT s b).lookup k≠none):k=1002∨∃ q,k=E3 1 q:=by
 cases s
 ·exact absurd rfl h
 ·rcases P5 dC h with h | ⟨q,_,h⟩
  ·exact .inl h
  ·exact .inr ⟨q,h⟩
theorem P0w {s:Bool}{b:List (List Rat)}{k:Nat}(h1:k≠1002)(h2:∀ q,k≠E3 1 q):(bsT s b).lookup k=none:=by
 cases e:(bsT s b).lookup k with
 | none=>rfl
 | some B =>
  rcases F1q (show (bsT s b).lookup k≠none by rw [e]; simp) with h | ⟨q,h⟩
  ·exact absurd h h1
  ·exact absurd h (h2 q)
theorem D1h {s:Bool}{b:List (List Rat)}{k:Nat}(h:∀ q,k≠E3 1 q):U2 k (bsT s b)=true:=by
 cases s
 ·rfl
 ·have hr:∀ (i:Nat) (m:List (List Rat)),PV.freeL k (M4 1 i m)=true:=by
   intro i m
   induction m generalizing i with
   | nil=>rfl
   | cons v m ih=>simp only [M4,PV.freeL,PV.free,ih,Bool.and_true,bne_iff_ne]; exact fun e=>h i e.symm
  simp only [bsT,if_true,I2,U2,Cells.free,hr,f0m,Bool.and_self]
theorem n0g {k:Nat}:∀ {i:Nat} {m:List (List Rat)},(∀ q,q<i+m.length→k≠E3 0 q)→PV.freeL k (M4 0 i m)=true
 | _,[],_=>rfl
 | i,v :: m,h=>by
  simp only [M4,PV.freeL,PV.free,j0,bne_iff_ne]
  exact ⟨fun e=>h i sM e.symm,n0g fun q hq=>h q sO⟩
theorem v0c {s:Bool}{m b:List (List Rat)}{k:Nat}(h1:∀ q,q<m.length→k≠E3 0 q)(h2:∀ q,k≠E3 1 q):U2 k (i5 s m b)=true:=by
 rw [i5,y0x,L4,L4,D1h h2,f0m,B1v (n0g (by simpa using h1))]; rfl
theorem b1c {s:Bool}{m b:List (List Rat)}{k:Nat}(h1:∀ q,q<m.length→k≠E3 0 q)(h2:∀ q,k≠E3 1 q)(h3:k=1001→m=[])(h4:k≠1002):(i5 s m b).lookup k=none:=by
 rw [i5,T1,P0w h4 h2,Option.or_none]
 cases e:(y0x 0 m).lookup k with
 | none=>rfl
 | some B =>
  rcases J0y dC (show (y0x 0 m).lookup k≠none by rw [e]; simp) with h | ⟨q,hq,h⟩
  ·rw [h3 h] at e; cases e
  ·exact absurd h (h1 q hq)
theorem g1d (i q:Nat):E3 0 i≠E3 1 q:=by unfold E3; omega
theorem B0q {i q:Nat}(h:q<i):E3 0 i≠E3 0 q:=by unfold E3; omega
theorem j1z {k:Nat}{e:TypeId}{cs:List PV}{p:Nat×Blk}(h:p∈rvB k e cs):p.1=k:=by
 cases cs with
 | nil=>cases h
 | cons a l=>obtain rfl:=List.mem_singleton.1 h; rfl
theorem f1d {k q:Nat}{cs:List PV}(h:rvF k cs=some q):q=k∧cs=[]:=by
 cases cs with
 | nil=>injection h with h; exact ⟨h.symm,rfl⟩
 | cons a l=>cases h
theorem D0a {S:St}:∀ {a b:List (Nat×Blk)},F6 S a→F6 S b→F6 S (a++b)
 | [],_,_,h=>h
 | _ :: _,_,h,h'=>⟨h.1,D0a h.2 h'⟩
theorem K0a {k q:Nat}{cs:List PV}(h:(rvV k cs).free q=false):q=k:=by
 cases cs with
 | nil=>cases h
 | cons a l =>
  have h:(k != q)=false:=h
  exact (bne_eq_false_iff_eq.1 h).symm
def cgB (i k:Nat):Nat:=if k=E3 0 i then 2000 else if k<1003 then k else 1003
theorem j1g {i:Nat}:cgB i (E3 0 i)=2000:=by rw [cgB,if_pos rfl]
theorem j0s {i k:Nat}(h:k<1003):cgB i k=k:=by
 have h1:¬ k=E3 0 i:=by unfold E3; omega
 rw [cgB,if_neg h1,if_pos h]
theorem M1s {i q:Nat}:∀ {a:Nat} {m:List (List Rat)},PV.freeL q (M4 0 a m)=false→a+m.length≤i→cgB i q=1003
 | _,[],h,_=>by cases h
 | a,v :: m,h,hl=>by
  simp only [M4,PV.freeL,PV.free,Bool.and_eq_false_iff,bne_eq_false_iff_eq] at h
  simp only [D1] at hl
  rcases h with h | h
  ·subst h
   have h1:¬ E3 0 a=E3 0 i:=by unfold E3; omega
   have h2:¬ E3 0 a<1003:=by unfold E3; omega
   rw [cgB,if_neg h1,if_neg h2]
  ·exact M1s h oM
theorem f7 {k j:Nat}{B:Blk}{l:List (Nat×Blk)}(h:k≠j):List.lookup k ((j,B) :: l)=List.lookup k l:=by rw [i0,show (k == j)=false by simpa using h]
theorem P1r {s:Bool}{sl:List (Nat×PV)}{i:Nat}{m b:List (List Rat)}{v:List Rat}{X Y Z:Blk}(hm:m.length=i) :
  O5 ⟨sl,(999,X) :: ([(1001,⟨40,1,.mix (M4 0 0 m++[.ref (E3 0 i) 0 v.length (v.length*4)])⟩)]++(27,Y) :: (E3 0 i,Z3 v) :: ([(999,Z)]++i5 s m b))⟩ (i5 s (m++[v]) b):=by
 have hr:∀ q j,E3 q j≠999∧E3 q j≠1001∧E3 q j≠27:=fun q j=>by unfold E3; omega
 refine v5 (Z5 s (m++[v]) b).nd fun k B hk=>?_
 show List.lookup k _=some B
 rw [i5,y0x,k0y,K1r,w0q,hm] at hk
 simp only [L1,List.nil_append,List.append_assoc,F1] at hk ⊢
 by_cases e1:k=1001
 ·subst e1
  rw [f7 dC]
  rw [i0] at hk ⊢
  exact hk
 ·rw [f7 e1,T1] at hk
  have h999:k≠999:=by
   rintro rfl
   have h1:(T6 0 0 m).lookup 999=none:=p0z fun j _=>by have:=(hr 0 (0+j)).1; omega
   rw [h1,l0,f7 (Ne.symm (hr 0 i).1),P0w dC (fun q=>Ne.symm (hr 1 q).1)] at hk; cases hk
  have h27:k≠27:=by
   rintro rfl
   have h1:(T6 0 0 m).lookup 27=none:=p0z fun j _=>by have:=(hr 0 (0+j)).2.2; omega
   rw [h1,l0,f7 (Ne.symm (hr 0 i).2.2),P0w dC (fun q=>Ne.symm (hr 1 q).2.2)] at hk; cases hk
  rw [f7 h999,f7 e1,f7 h27]
  by_cases e2:k=E3 0 i
  ·subst e2
   have h1:(T6 0 0 m).lookup (E3 0 i)=none:=p0z fun j hj=>by rw [F1]; exact B0q oM
   rw [h1,l0,List.lookup_cons_self] at hk
   rw [List.lookup_cons_self]; exact hk
  ·rw [f7 e2,f7 h999,i5,y0x,T1,T1]
   have h2:(rvB (0+1001) 40 (M4 0 0 m)).lookup k=none:=by
    cases e:(rvB (0+1001) 40 (M4 0 0 m)).lookup k with
    | none=>rfl
    | some C=>exact absurd (j1z (L3 e)) oM
   rw [h2,l0]
   rw [f7 e2] at hk
   exact hk
theorem v1k {i d k o t:Nat}{rs:List (Operand×PV)}{rb:List (Nat×Blk)}(hk:k<1003):Mk (cgB i) ⟨rs,rb,none,[(d,.at_ k o t)],[]⟩ ([],[k]):=by
 refine ⟨fun q hq=>(by cases hq),fun q hq=>?_⟩
 simp only [Ann.free,D3,U2,PV.free,Bool.and_true,bne_eq_false_iff_eq] at hq
 subst hq
 rw [j0s hk]; simp
theorem b2w {i d:Nat}{rs:List (Operand×PV)}{rb:List (Nat×Blk)}{cs:List PV}:Mk (cgB i) ⟨rs,rb,none,[(d,rvV 1001 cs)],[]⟩ ([],[1001]):=by
 refine ⟨fun q hq=>(by cases hq),fun q hq=>?_⟩
 simp only [Ann.free,D3,U2,Bool.and_true] at hq
 rw [K0a hq,j0s dC]; simp
theorem mkP {i d:Nat}{rs:List (Operand×PV)}{rb:List (Nat×Blk)}{x:L2}:Mk (cgB i) ⟨rs,rb,none,[(d,.p x)],[]⟩ ([],[]):=by
 refine ⟨fun q hq=>(by cases hq),fun q hq=>?_⟩
 simp [Ann.free,D3,U2,PV.free] at hq
theorem mkN {i d n t:Nat}{rs:List (Operand×PV)}{rb:List (Nat×Blk)}{T:TypeId}{sz:Nat}{xs:List L2}:Mk (cgB i) ⟨rs,rb,some (E3 0 i),[(d,.ref (E3 0 i) 0 n t)],[(E3 0 i,⟨T,sz,.pure xs⟩)]⟩ ([2000],[2000]):=by
 refine ⟨fun q hq=>(by injection hq with hq; subst hq; rw [j1g]; simp),fun q hq=>?_⟩
 simp only [Ann.free,D3,U2,PV.free,Cells.free,Bool.and_true,bne_eq_false_iff_eq] at hq
 subst hq
 rw [j1g]; simp
theorem mkS {i d a n t a' n' t':Nat}{rs:List (Operand×PV)}{rb:List (Nat×Blk)}{T:TypeId}{sz:Nat}(ha:a<1000):Mk (cgB i) ⟨rs,rb,some a,[(d,.ref a 0 n t)],[(a,⟨T,sz,.mix [.ref (E3 0 i) a' n' t']⟩)]⟩ ([a],[a,2000]):=by
 refine ⟨fun q hq=>(by injection hq with hq; subst hq; rw [j0s oM]; simp),fun q hq=>?_⟩
 simp only [Ann.free,D3,U2,PV.free,PV.freeL,Cells.free,Bool.and_true,Bool.and_eq_false_iff,bne_eq_false_iff_eq] at hq
 rcases hq with hq | hq <;> subst hq
 ·rw [j0s oM]; simp
 ·rw [j1g]; simp
theorem mkH {i d n t n' t':Nat}{rs:List (Operand×PV)}{rb:List (Nat×Blk)}{T:TypeId}{sz:Nat}{m:List (List Rat)}(hm:m.length=i):Mk (cgB i) ⟨rs,rb,rvF 1001 (M4 0 0 m),[(d,.ref 1001 0 n t)],[(1001,⟨T,sz,.mix (M4 0 0 m++[.ref (E3 0 i) 0 n' t'])⟩)]⟩ ([1001],[1001,1003,2000]):=by
 have hap:∀ (q:Nat) (l r:List PV),PV.freeL q (l++r)=(PV.freeL q l && PV.freeL q r):=fun q l r=>by
  induction l with
  | nil=>rfl
  | cons x l ih=>simp [PV.freeL,ih,Bool.and_assoc]
 refine ⟨fun q hq=>(by rw [(f1d hq).1,j0s dC]; simp),fun q hq=>?_⟩
 simp only [Ann.free,D3,U2,PV.free,PV.freeL,Cells.free,hap,Bool.and_true,Bool.and_eq_false_iff,bne_eq_false_iff_eq] at hq
 rcases hq with hq | hq | hq
 ·subst hq; rw [j0s dC]; simp
 ·rw [M1s (i:=i) hq oM]; simp
 ·subst hq; rw [j1g]; simp
theorem mkW {i n t:Nat}{s:Bool}{c:L2}{rs:List (Operand×PV)}{rb:List (Nat×Blk)}{T:TypeId}{sz n':Nat}:Mk (cgB i) ⟨rs,rb,none,[],[(999,⟨T,sz,.mix [.ref 1001 0 n t,.p c,bv s n']⟩)]⟩ ([],[999,1001,1002]):=by
 refine ⟨fun q hq=>(by cases hq),fun q hq=>?_⟩
 simp only [Ann.free,D3,U2,PV.free,PV.freeL,Cells.free,Bool.and_true,Bool.true_and,Bool.and_eq_false_iff,bne_eq_false_iff_eq] at hq
 rcases hq with hq | hq
 ·subst hq; rw [j0s dC]; simp
 ·have:=PV.only_mem (H1v (s:=s) (n:=n')) hq
  simp only [List.mem_cons,List.not_mem_nil,or_false] at this
  rcases this with rfl | rfl | rfl <;> (rw [j0s dC]; simp)
theorem b2y {s:Bool}{sl:List (Nat×PV)}{pre:List (Nat×Blk)}{m b:List (List Rat)}(hp:∀ B,(1001,B) ∉ pre):F6 ⟨sl,pre++i5 s m b⟩ (rvB 1001 40 (M4 0 0 m)):=by
 cases m with
 | nil=>trivial
 | cons v m =>
  refine ⟨?_,trivial⟩
  show (pre++_).lookup 1001=_
  rw [T1]
  have:pre.lookup 1001=none:=by
   cases e:pre.lookup 1001 with
   | none=>rfl
   | some B=>exact absurd (L3 e) (hp B)
  rw [this,l0]; rfl
end Go.Proofs.YtjagfionflbjbaaGreat.N
