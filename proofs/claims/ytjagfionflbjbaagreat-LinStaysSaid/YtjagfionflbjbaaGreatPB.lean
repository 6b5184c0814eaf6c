/- Part B of the proof: lemmas for the walks of the given functions. No statement of its own. -/
import Derived.Test.YtjagfionflbjbaaGreatProg
import Derived.Test.YtjagfionflbjbaaGreatPA
set_option linter.unusedVariables false
set_option linter.unusedSimpArgs false
set_option linter.deprecated false
namespace Go.Proofs.YtjagfionflbjbaaGreat.NumA
open Go
def G6 (ws:List Int):Nat→Nat
 | 0=>0
 | n+1=>if ws.getD n 0=0 then G6 ws n else n+1
def trim (ws:List Int):List Int:=ws.take (G6 ws ws.length)
theorem D0m (ws:List Int):∀ n,G6 ws n≤n
 | 0=>Nat.le_refl _
 | n+1=>by
  simp only [G6]
  split
  ·exact Nat.le_succ_of_le (D0m ws n)
  ·exact Nat.le_refl _
def Wd (ws:List Int):Prop:=∀ w∈ws,0≤w∧w<4294967296
def val:List Int→Int
 | []=>0
 | w :: ws=>w+4294967296*val ws
theorem Wd.get {ws:List Int}(h:Wd ws){i:Nat}(hi:i<ws.length):0≤ws.getD i 0∧ws.getD i 0<4294967296:=by
 have:ws.getD i 0=ws[i]:=by simp [f0,hi]
 rw [this]; exact h _ (List.getElem_mem hi)
theorem Wd.getD {ws:List Int}(h:Wd ws)(i:Nat):0≤ws.getD i 0∧ws.getD i 0<4294967296:=by
 by_cases hi:i<ws.length
 ·exact h.get hi
 ·rw [f0,List.getElem?_eq_none (by omega)]; simp
theorem Wd.nil:Wd []:=fun _ h=>by cases h
theorem Wd.cons {w:Int}{ws:List Int}:Wd (w :: ws)↔(0≤w∧w<4294967296)∧Wd ws:=by simp [Wd]
theorem Wd.take {ws:List Int}(h:Wd ws)(n:Nat):Wd (ws.take n):=fun w hw=>h w (List.mem_of_mem_take hw)
theorem Wd.drop {ws:List Int}(h:Wd ws)(n:Nat):Wd (ws.drop n):=fun w hw=>h w (List.mem_of_mem_drop hw)
theorem Wd.append {ws vs:List Int}(h:Wd ws)(h2:Wd vs):Wd (ws++vs):=fun w hw=>by
 rcases List.mem_append.1 hw with hw | hw
 ·exact h w hw
 ·exact h2 w hw
theorem Wd.set {ws:List Int}(h:Wd ws)(i:Nat){v:Int}(h0:0≤v)(h1:v<4294967296):Wd (ws.set i v):=fun w hw=>by
 rcases List.mem_or_eq_of_mem_set hw with hw | hw
 ·exact h w hw
 ·subst hw; exact ⟨h0,h1⟩
theorem Wd.rep (n:Nat):Wd (List.replicate n 0):=fun w hw=>by
 have:=(List.mem_replicate.1 hw).2; subst this; decide
theorem Wd.trim {ws:List Int}(h:Wd ws):Wd (trim ws):=h.take _
theorem G2:∀ {ws:List Int},Wd ws→0≤val ws
 | [],_=>by simp [val]
 | w :: ws,h=>by have:=G2 (Wd.cons.1 h).2; have:=(Wd.cons.1 h).1; simp only [val]; omega
theorem T6:∀ (ws vs:List Int),val (ws++vs)=val ws+4294967296 ^ ws.length*val vs
 | [],vs=>by simp [val]
 | w :: ws,vs=>by
  simp only [L1,val,D1,T6 ws vs,Int.pow_succ]
  rw [Int.mul_add,Int.add_assoc]
  congr 2
  rw [← Int.mul_assoc,Int.mul_comm (4294967296 ^ ws.length)]
theorem l5:∀ {ws:List Int},Wd ws→val ws<4294967296 ^ ws.length
 | [],_=>by simp [val]
 | w :: ws,h=>by
  have h1:=l5 (Wd.cons.1 h).2
  have h2:=(Wd.cons.1 h).1
  simp only [val,D1,Int.pow_succ]
  rw [Int.mul_comm (4294967296 ^ ws.length)]
  omega
theorem d0p {ws:List Int}{n:Nat}(h:n<ws.length):val (ws.take (n+1))=val (ws.take n)+4294967296 ^ n*ws.getD n 0:=by
 rw [I1,J1 h,Option.toList_some,T6,J0,G1 (by omega)]
 simp [val,f0,h]
theorem J0c (ws:List Int):∀ n,n≤ws.length→val (ws.take (G6 ws n))=val (ws.take n)
 | 0,_=>rfl
 | n+1,h=>by
  simp only [G6]
  split
  ·rename_i e
   rw [J0c ws n (by omega),d0p (by omega),e]; simp
  ·rfl
theorem W0a (ws:List Int):val (trim ws)=val ws:=by rw [trim,J0c _ _ (Nat.le_refl _),I0]
def Tr (ws:List Int):Prop:=ws.length=0∨ws.getD (ws.length - 1) 0≠0
theorem D0s (ws:List Int):∀ n,G6 ws n=0∨ws.getD (G6 ws n - 1) 0≠0
 | 0=>.inl rfl
 | n+1=>by
  simp only [G6]
  split
  ·exact D0s ws n
  ·rename_i h; exact .inr (by simpa using h)
theorem s9 (ws:List Int):(trim ws).length=G6 ws ws.length:=by
 rw [trim,J0,G1 (D0m _ _)]
theorem P0d (ws:List Int):Tr (trim ws):=by
 rcases D0s ws ws.length with h | h
 ·exact .inl (by rw [s9,h])
 ·by_cases h0:G6 ws ws.length=0
  ·exact .inl (by rw [s9,h0])
  ·refine .inr ?_
   rw [s9,trim,f0,List.getElem?_take,if_pos (by omega),← f0]
   exact h
theorem Tr.tail {w:Int}{ws:List Int}(h:Tr (w :: ws))(hn:ws≠[]):Tr ws:=by
 rcases h with h | h
 ·cases h
 ·refine .inr ?_
  obtain ⟨v,vs,rfl⟩:=List.exists_cons_of_ne_nil hn
  simpa using h
def j3 (n:Nat):List Int:=if h:n=0 then [] else ((n % 4294967296:Nat):Int) :: j3 (n / 4294967296)
 termination_by n
 decreasing_by exact Nat.div_lt_self (Nat.pos_of_ne_zero h) (by decide)
theorem X4:j3 0=[]:=by rw [j3]; simp
theorem j0g {n:Nat}(h:n≠0):j3 n=((n % 4294967296:Nat):Int) :: j3 (n / 4294967296):=by rw [j3]; simp [h]
theorem U3 (n:Nat):Wd (j3 n):=by
 induction n using Nat.strongRecOn with
 | ind n ih =>
  by_cases h:n=0
  ·rw [h,X4]; exact Wd.nil
  ·rw [j0g h]
   refine Wd.cons.2 ⟨?_,ih _ (Nat.div_lt_self (Nat.pos_of_ne_zero h) (by decide))⟩
   omega
theorem T4 (n:Nat):val (j3 n)=n:=by
 induction n using Nat.strongRecOn with
 | ind n ih =>
  by_cases h:n=0
  ·rw [h,X4]; rfl
  ·rw [j0g h,val,ih _ (Nat.div_lt_self (Nat.pos_of_ne_zero h) (by decide))]
   omega
theorem l9:∀ {ws:List Int},Wd ws→Tr ws→j3 (val ws).toNat=ws
 | [],_,_=>by simp [val,X4]
 | w :: ws,h,ht=>by
  have h1:=(Wd.cons.1 h).1
  have h2:=G2 (Wd.cons.1 h).2
  have hne:(val (w :: ws)).toNat≠0:=by
   intro e
   simp only [val] at e
   have hv:val ws=0:=by omega
   have hw:w=0:=by omega
   by_cases hn:ws=[]
   ·subst hn; subst hw; rcases ht with ht | ht
    ·cases ht
    ·simp at ht
   ·have:=l9 (Wd.cons.1 h).2 (ht.tail hn)
    rw [hv] at this
    simp [X4] at this
    exact hn this
  rw [j0g hne]
  have e1:(((val (w :: ws)).toNat % 4294967296:Nat):Int)=w:=by simp only [val]; omega
  have e2:(val (w :: ws)).toNat / 4294967296=(val ws).toNat:=by simp only [val]; omega
  rw [e1,e2]
  by_cases hn:ws=[]
  ·subst hn; simp [val,X4]
  ·rw [l9 (Wd.cons.1 h).2 (ht.tail hn)]
theorem H9 (n:Nat):Tr (j3 n):=by
 have h:=l9 (Wd.trim (U3 n)) (P0d _)
 rw [W0a,T4,Int.toNat_natCast] at h
 rw [h]
 exact P0d _
theorem j6 {ws:List Int}(h:Wd ws):trim ws=j3 (val ws).toNat:=by
 rw [← W0a,l9 h.trim (P0d ws)]
theorem j0q {n:Nat}:j3 n=[]↔n=0:=by
 constructor
 ·intro h
  have:=T4 n
  rw [h] at this
  simp [val] at this
  omega
 ·rintro rfl; exact X4
theorem n1v {n k:Nat}(h:n<4294967296 ^ k):(j3 n).length≤k:=by
 induction k generalizing n with
 | zero =>
   have : n = 0 := by rw [Nat.pow_zero] at h; omega
   rw [this,X4]; simp
 | succ k ih =>
  by_cases h0:n=0
  ·rw [h0,X4]; simp
  ·rw [j0g h0,D1]
   have:=ih (n:=n / 4294967296) (by rw [Nat.pow_succ] at h; exact Nat.div_lt_of_lt_mul (by rw [Nat.mul_comm]; exact h))
   omega
def sg (neg:Bool)(n:Int):Int:=if neg then -n else n
def P2 (neg:Bool)(ws:List Int):Bool:=if ws.length=0 then !neg else !decide (ws.getD (ws.length - 1) 0=0)
theorem P5 {neg:Bool}{ws:List Int}(h:P2 neg ws=true):Tr ws∧(ws=[]→neg=false):=by
 unfold P2 at h
 split at h
 ·rename_i e; exact ⟨.inl e,fun _=>by simpa using h⟩
 ·rename_i e; refine ⟨.inr (by simpa using h),fun h=>by subst h; simp at e⟩
theorem B7 {ws:List Int}(h:Wd ws)(ht:Tr ws)(h0:val ws=0):ws=[]:=by
 have:=l9 h ht
 rw [h0] at this
 simpa [X4] using this.symm
theorem f0q {neg:Bool}{ws:List Int}(h:Wd ws)(hc:P2 neg ws=true):decide (sg neg (val ws)<0)=neg∧j3 (sg neg (val ws)).natAbs=ws:=by
 obtain ⟨ht,hn⟩:=P5 hc
 have hv:=G2 h
 constructor
 ·cases neg with
  | false=>simp [sg]; omega
  | true =>
   have:val ws≠0:=fun e=>by have:=hn (B7 h ht e); cases this
   simp [sg]; omega
 ·have:(sg neg (val ws)).natAbs=(val ws).toNat:=by cases neg <;> simp [sg] <;> omega
  rw [this,l9 h ht]
theorem L3 (n:Int):P2 (decide (n<0)) (j3 n.natAbs)=true:=by
 unfold P2
 split
 ·rename_i e
  have:=E0 e
  rw [j0q] at this
  simp; omega
 ·rename_i e
  rcases H9 n.natAbs with h | h
  ·exact absurd h e
  ·simpa using h
theorem D5 (n:Int):sg (decide (n<0)) (val (j3 n.natAbs))=n:=by
 rw [T4]
 by_cases h:n<0
 ·simp [sg,h]; omega
 ·simp [sg,h]; omega
end Go.Proofs.YtjagfionflbjbaaGreat.NumA
namespace Go.Proofs.YtjagfionflbjbaaGreat.NumA
open Go
def bl (n:Nat):Nat:=if n=0 then 0 else n.log2+1
theorem Y0v {n k:Nat}(h:2 ^ k≤n):bl n=k+bl (n / 2 ^ k):=by
 have hp:0<2 ^ k:=Nat.pow_pos (by decide)
 have hn:n≠0:=by omega
 have hd:n / 2 ^ k≠0:=by
  have:=Nat.div_pos h hp
  omega
 unfold bl
 rw [if_neg hn,if_neg hd]
 have e:n.log2=k+(n / 2 ^ k).log2:=by
  apply (Nat.log2_eq_iff hn).2
  have h1:=(Nat.log2_eq_iff hd).1 rfl
  constructor
  ·rw [Nat.pow_add]
   exact Nat.le_trans (Nat.mul_le_mul_left _ h1.1) (Nat.mul_div_le _ _)
  ·rw [Nat.add_assoc,Nat.pow_add]
   have:=Nat.lt_mul_of_div_lt h1.2 hp
   rwa [Nat.mul_comm] at this
 omega
theorem g0h {n k:Nat}:bl n≤k↔n<2 ^ k:=by
 unfold bl
 split
 ·rename_i e; subst e; simp [Nat.pow_pos]
 ·rename_i e
  have:=Nat.log2_lt (n:=n) (k:=k) e
  omega
def X7 (a b:Int):Int:=if a<b then -1 else if b<a then 1 else 0
theorem W6 {ws:List Int}{n:Nat}(h:n<ws.length):ws.drop n=ws.getD n 0 :: ws.drop (n+1):=by
 rw [List.drop_eq_getElem_cons h]; simp [f0,h]
theorem m0k {ws vs:List Int}(h:Wd ws)(h2:Wd vs)(ht:Tr vs)(hl:ws.length<vs.length):val ws<val vs:=by
 have h1:=l5 h
 rcases ht with ht | ht
 ·omega
 ·have e : vs = vs.take (vs.length - 1) ++ [vs.getD (vs.length - 1) 0] := by
   have h3:=W6 (ws:=vs) (n:=vs.length - 1) (by omega)
   rw [show vs.length - 1+1=vs.length by omega,List.drop_length] at h3
   rw [← h3,List.take_append_drop]
  have hv:=T6 (vs.take (vs.length - 1)) [vs.getD (vs.length - 1) 0]
  rw [← e] at hv
  have h3:=G2 (h2.take (vs.length - 1))
  have h4:=h2.getD (vs.length - 1)
  simp only [val,J0] at hv
  rw [G1 (by omega)] at hv
  have h5:(4294967296:Int) ^ ws.length≤4294967296 ^ (vs.length - 1):=by
   have:=Nat.pow_le_pow_right (n:=4294967296) (by decide) (show ws.length≤vs.length - 1 by omega)
   rw [show (4294967296:Int)=((4294967296:Nat):Int) from rfl,← Int.natCast_pow,← Int.natCast_pow]
   exact Int.ofNat_le.2 this
  have h6:(4294967296:Int) ^ (vs.length - 1)*1≤4294967296 ^ (vs.length - 1)*(vs.getD (vs.length - 1) 0+4294967296*0) :=
   F0 (by omega) (E1 (Int.pow_pos (by decide)))
  omega
theorem h0y (ws:List Int)(n:Nat):val ws=val (ws.take n)+4294967296 ^ (min n ws.length)*val (ws.drop n):=by
 conv=>lhs; rw [← List.take_append_drop n ws,T6,J0]
theorem W0v {ws vs:List Int}(h:Wd ws)(h2:Wd vs)(hl:ws.length=vs.length){i:Nat}(hi:i<ws.length)(hd:ws.drop (i+1)=vs.drop (i+1))(hlt:ws.getD i 0<vs.getD i 0):val ws<val vs:=by
 rw [h0y ws i,h0y vs i,G1 (by omega),G1 (by omega),W6 hi,W6 (ws:=vs) (n:=i) (by omega),hd]
 simp only [val]
 have h1:=l5 (h.take i)
 rw [J0,G1 (by omega)] at h1
 have h3:=G2 (h2.take i)
 have hp:(0:Int)<4294967296 ^ i:=Int.pow_pos (by decide)
 generalize val (vs.drop (i+1))=r at *
 have h6:(4294967296:Int) ^ i*(ws.getD i 0+1+4294967296*r)≤4294967296 ^ i*(vs.getD i 0+4294967296*r):=F0 (by omega) (E1 hp)
 have h7:(4294967296:Int) ^ i*(ws.getD i 0+1+4294967296*r)=4294967296 ^ i*(ws.getD i 0+4294967296*r)+4294967296 ^ i:=by
  rw [show ws.getD i 0+1+4294967296*r=(ws.getD i 0+4294967296*r)+1 by omega,Int.mul_add,Int.mul_one]
 omega
end Go.Proofs.YtjagfionflbjbaaGreat.NumA
namespace Go.Proofs.YtjagfionflbjbaaGreat.NumA
open Go
theorem G0p {α:Type}{p:α→Bool}{l:List α}{i:Nat}(h:i<l.length)(ht:(l.take i).all p=true)(hp:p l[i]=true):(l.take (i+1)).all p=true:=by
 rw [I1,J1 h,Option.toList_some,List.all_append,ht]
 simp [hp]
end Go.Proofs.YtjagfionflbjbaaGreat.NumA
namespace Go.Proofs.YtjagfionflbjbaaGreat.NumA
open Go
theorem p0x {ws vs:List Int}(h:Wd ws)(h2:Wd vs)(ht:Tr ws)(ht2:Tr vs)(hl:ws.length≠vs.length):X7 (val ws) (val vs)=if ws.length<vs.length then -1 else 1:=by
 unfold X7
 by_cases e:ws.length<vs.length
 ·rw [if_pos e,if_pos (m0k h h2 ht2 e)]
 ·have:=m0k h2 h ht (by omega)
  rw [if_neg e,if_neg (by omega),if_pos this]
theorem k0d {ws vs:List Int}(h:Wd ws)(h2:Wd vs)(hl:ws.length=vs.length){i:Nat}(hi:i<ws.length)(hd:ws.drop (i+1)=vs.drop (i+1))(hne:ws.getD i 0≠vs.getD i 0):X7 (val ws) (val vs)=if ws.getD i 0<vs.getD i 0 then -1 else 1:=by
 unfold X7
 by_cases e:ws.getD i 0<vs.getD i 0
 ·rw [if_pos e,if_pos (W0v h h2 hl hi hd e)]
 ·have:=W0v h2 h hl.symm (by omega) hd.symm (i:=i) (by omega)
  rw [if_neg e,if_neg (by omega),if_pos this]
theorem p0q {ws vs:List Int}{i:Nat}(hi:i<ws.length)(hl:ws.length=vs.length)(hd:ws.drop (i+1)=vs.drop (i+1))(he:ws.getD i 0=vs.getD i 0):ws.drop i=vs.drop i:=by
 rw [W6 hi,W6 (ws:=vs) (n:=i) (by omega),hd,he]
theorem J0a (a:Int):X7 a a=0:=by simp [X7]
theorem b1y {ws:List Int}(h:Wd ws)(ht:Tr ws)(hn:ws≠[]):(bl (val ws).toNat:Int)=32*((ws.length:Int) - 1)+bl (ws.getD (ws.length - 1) 0).toNat:=by
 have h0:0<ws.length:=List.length_pos_iff.2 hn
 rcases ht with ht | ht
 ·omega
 have hv:=h0y ws (ws.length - 1)
 rw [G1 (by omega),W6 (ws:=ws) (n:=ws.length - 1) (by omega),show ws.length - 1+1=ws.length by omega,List.drop_length] at hv
 simp only [val,Int.mul_zero,Int.add_zero] at hv
 have h1:=l5 (h.take (ws.length - 1))
 have h2:=G2 (h.take (ws.length - 1))
 rw [J0,G1 (by omega)] at h1
 have h3:=h.getD (ws.length - 1)
 obtain ⟨x,hx⟩:=Int.eq_ofNat_of_zero_le h2
 obtain ⟨y,hy⟩:=Int.eq_ofNat_of_zero_le h3.1
 have hp:(4294967296:Int) ^ (ws.length - 1)=((2 ^ (32*(ws.length - 1)):Nat):Int):=by
  rw [Nat.pow_mul,Int.natCast_pow]; rfl
 rw [hp] at hv h1
 rw [hx] at hv h1
 rw [hy] at hv ⊢
 have hy0:0<y:=by omega
 have e:(val ws).toNat=x+2 ^ (32*(ws.length - 1))*y:=by
  rw [hv]
  have:((x:Int)+((2 ^ (32*(ws.length - 1)):Nat):Int)*(y:Int))=((x+2 ^ (32*(ws.length - 1))*y:Nat):Int):=by push_cast; rfl
  rw [this,Int.toNat_natCast]
 have hx':x<2 ^ (32*(ws.length - 1)):=by exact Int.ofNat_lt.1 h1
 have hdiv:(x+2 ^ (32*(ws.length - 1))*y) / 2 ^ (32*(ws.length - 1))=y:=by
  rw [Nat.add_mul_div_left _ _ (Nat.pow_pos (by decide)),Nat.div_eq_of_lt hx',F1]
 rw [e,Y0v (k:=32*(ws.length - 1)) (by have:=Nat.mul_le_mul_left (2 ^ (32*(ws.length - 1))) hy0; omega),hdiv]
 rw [Int.toNat_natCast]
 omega
end Go.Proofs.YtjagfionflbjbaaGreat.NumA
namespace Go.Proofs.YtjagfionflbjbaaGreat.NumA
open Go
theorem K1d {m n:Bool}{ws vs:List Int}(h:Wd ws)(h2:Wd vs)(hc:P2 m ws=true)(hc2:P2 n vs=true):X7 (sg m (val ws)) (sg n (val vs))=if m≠n then (if m then -1 else 1) else if m then -X7 (val ws) (val vs) else X7 (val ws) (val vs):=by
 have hv:=G2 h
 have hv2:=G2 h2
 have z:m=true→val ws≠0:=fun hm e=>by have:=(P5 hc).2 (B7 h (P5 hc).1 e); rw [hm] at this; cases this
 have z2:n=true→val vs≠0:=fun hm e=>by have:=(P5 hc2).2 (B7 h2 (P5 hc2).1 e); rw [hm] at this; cases this
 unfold X7 sg
 cases m <;> cases n <;> simp only [Bool.false_eq_true,if_false,if_true,ne_eq,not_true,not_false_eq_true,reduceCtorEq,true_implies,false_implies] at z z2 ⊢ <;> (repeat' split) <;> omega
end Go.Proofs.YtjagfionflbjbaaGreat.NumA
namespace Go.Proofs.YtjagfionflbjbaaGreat.NumA
open Go
theorem P1x {ws:List Int}(h:Wd ws)(ht:Tr ws)(hl:2<ws.length):18446744073709551616≤val ws:=by
 match ws,h,ht,hl with
 | a :: b :: c :: r,h,ht,_ =>
  have h1:=Wd.cons.1 h
  have h2:=Wd.cons.1 h1.2
  have hv:=G2 h2.2
  have:val (c :: r)≠0:=fun e=>by
   have:=B7 h2.2 ((ht.tail (by simp)).tail (by simp)) e
   cases this
  simp only [val] at this hv ⊢
  omega
theorem F0x {ws:List Int}(h:Wd ws)(hl:ws.length≤2):val ws<18446744073709551616:=by
 have h1:=l5 h
 rcases (show ws.length=0∨ws.length=1∨ws.length=2 by omega) with e | e | e <;> rw [e] at h1 <;> simp at h1 <;> omega
end Go.Proofs.YtjagfionflbjbaaGreat.NumA
namespace Go.Proofs.YtjagfionflbjbaaGreat.NumA
open Go
theorem N0d {ws vs:List Int}{i:Nat}(hi:i<ws.length)(hl:ws.length=vs.length)(hd:ws.take i=vs.take i)(he:ws.getD i 0=vs.getD i 0):ws.take (i+1)=vs.take (i+1):=by
 rw [I1,I1,hd,J1 hi,J1 (show i<vs.length by omega)]
 simp only [f0,J1 hi,J1 (show i<vs.length by omega),Option.getD_some] at he
 rw [he]
theorem F1c {n:Nat}(h:n≠0):bl n=1+bl (n / 2):=by
 by_cases h1:n=1
 ·subst h1; decide
 ·exact Y0v (k:=1) (by rw [Nat.pow_one]; omega)
end Go.Proofs.YtjagfionflbjbaaGreat.NumA
namespace Go.Proofs.YtjagfionflbjbaaGreat.NumA
open Go
theorem Y3 {ws:List Int}(n:Nat):val (ws.take (n+1))=val (ws.take n)+4294967296 ^ n*ws.getD n 0:=by
 by_cases h:n<ws.length
 ·exact d0p h
 ·rw [C0 (by omega),C0 (by omega),f0,List.getElem?_eq_none (by omega)]; simp
theorem i8 (ws:List Int)(v:Int):val (ws++[v])=val ws+4294967296 ^ ws.length*v:=by rw [T6]; simp [val]
theorem p1j {ws vs ys:List Int}{i:Nat}{c:Int}(hl:ys.length=i)(hv:val ys+4294967296 ^ i*c=val (ws.take i)+val (vs.take i)){s d c':Int}(hs:s=ws.getD i 0+vs.getD i 0+c)(hd:d+4294967296*c'=s) :
  val (ys++[d])+4294967296 ^ (i+1)*c'=val (ws.take (i+1))+val (vs.take (i+1)):=by
 rw [i8,Y3,Y3,hl,Int.pow_succ]
 have e:(4294967296:Int) ^ i*s=4294967296 ^ i*ws.getD i 0+4294967296 ^ i*vs.getD i 0+4294967296 ^ i*c:=by rw [hs,Int.mul_add,Int.mul_add]
 have e2:(4294967296:Int) ^ i*s=4294967296 ^ i*d+4294967296 ^ i*4294967296*c':=by rw [← hd,Int.mul_add,Int.mul_assoc]
 omega
theorem w1j {ws vs ys:List Int}{i:Nat}{c:Int}(hl:ys.length=i)(hv:val ys - 4294967296 ^ i*c=val (ws.take i) - val (vs.take i)){s d c':Int}(hs:s=ws.getD i 0 - vs.getD i 0 - c)(hd:d - 4294967296*c'=s) :
  val (ys++[d]) - 4294967296 ^ (i+1)*c'=val (ws.take (i+1)) - val (vs.take (i+1)):=by
 rw [i8,Y3,Y3,hl,Int.pow_succ]
 have e:(4294967296:Int) ^ i*s=4294967296 ^ i*ws.getD i 0 - 4294967296 ^ i*vs.getD i 0 - 4294967296 ^ i*c:=by rw [hs,Int.mul_sub,Int.mul_sub]
 have e2:(4294967296:Int) ^ i*s=4294967296 ^ i*d - 4294967296 ^ i*4294967296*c':=by rw [← hd,Int.mul_sub,Int.mul_assoc]
 omega
theorem d0v {ws:List Int}{n:Nat}(h:ws.length≤n):ws.take n=ws:=C0 h
end Go.Proofs.YtjagfionflbjbaaGreat.NumA
namespace Go.Proofs.YtjagfionflbjbaaGreat.NumA
open Go
theorem k0q {ws:List Int}(h:ws.length=1):ws.getD 0 0=val ws:=by
 match ws,h with
 | [a],_=>simp [val]
theorem k0r {ws:List Int}(h:Wd ws)(hl:ws.length≤1):val ws<4294967296:=by
 have h1:=l5 h
 rcases (show ws.length=0∨ws.length=1 by omega) with e | e <;> rw [e] at h1 <;> simp at h1 <;> omega
end Go.Proofs.YtjagfionflbjbaaGreat.NumA
namespace Go.Proofs.YtjagfionflbjbaaGreat.NumA
open Go
def E4:Nat→Int→List Int
 | 0,_=>[]
 | n+1,m=>m % 4294967296 :: E4 n (m / 4294967296)
theorem C3:∀ (n:Nat)(m:Int),(E4 n m).length=n
 | 0,_=>rfl
 | n+1,m=>by simp [E4,C3 n]
theorem y6:∀ (n:Nat)(m:Int),Wd (E4 n m)
 | 0,_=>Wd.nil
 | n+1,m=>Wd.cons.2 ⟨by omega,y6 n _⟩
theorem j7:∀ {ys:List Int},Wd ys→E4 ys.length (val ys)=ys
 | [],_=>rfl
 | y :: ys,h=>by
  have h1:=(Wd.cons.1 h).1
  simp only [D1,E4,val]
  rw [show (y+4294967296*val ys) % 4294967296=y by omega,show (y+4294967296*val ys) / 4294967296=val ys by omega,j7 (Wd.cons.1 h).2]
theorem m6 {n:Nat}{m:Int}(h0:0≤m)(h1:m<4294967296 ^ n):val (E4 n m)=m:=by
 induction n generalizing m with
 | zero=>simp at h1; simp [E4,val]; omega
 | succ n ih =>
  simp only [E4,val]
  rw [ih (by omega) (by rw [Int.pow_succ] at h1; omega)]
  omega
theorem b0a {ws vs:List Int}(h:Wd ws)(h2:Wd vs):val ws+val vs<4294967296 ^ (max ws.length vs.length+1):=by
 have h3:=l5 h
 have h4:=l5 h2
 have mono:∀ {a b:Nat},a≤b→(4294967296:Int) ^ a≤4294967296 ^ b:=fun {a b} hab=>by
  have:=Nat.pow_le_pow_right (n:=4294967296) (by decide) hab
  rw [show (4294967296:Int)=((4294967296:Nat):Int) from rfl,← Int.natCast_pow,← Int.natCast_pow]
  exact Int.ofNat_le.2 this
 have h5:=mono (Nat.le_max_left ws.length vs.length)
 have h6:=mono (Nat.le_max_right ws.length vs.length)
 rw [Int.pow_succ]
 have:(0:Int)<4294967296 ^ (max ws.length vs.length):=Int.pow_pos (by decide)
 omega
theorem V0d {ys:List Int}{i n:Nat}(hl:ys.length=i)(hi:i<n)(d:Int):(ys++List.replicate (n - i) 0).set i d=(ys++[d])++List.replicate (n - (i+1)) 0:=by
 subst hl
 rw [List.set_append_right _ _ (Nat.le_refl _),Nat.sub_self,show n - ys.length=(n - (ys.length+1))+1 by omega,List.replicate_succ,List.set_cons_zero,List.append_assoc]
 rfl
theorem Wd.snoc {ys:List Int}{d:Int}(h:Wd ys)(h0:0≤d)(h1:d<4294967296):Wd (ys++[d]):=h.append (Wd.cons.2 ⟨⟨h0,h1⟩,Wd.nil⟩)
theorem D1f {ws vs ys:List Int}{n:Nat}{c:Int}(h:Wd ws)(h2:Wd vs)(hy:Wd ys)(hl:ys.length=n)(hn:n=max ws.length vs.length+1)(hc:0≤c)(hv:val ys+4294967296 ^ n*c=val (ws.take n)+val (vs.take n)):c=0∧ys=E4 n (val ws+val vs):=by
 rw [d0v (by omega),d0v (by omega)] at hv
 have h3:=b0a h h2
 rw [← hn] at h3
 have h4:=G2 hy
 have h5:c=0:=by
  by_cases e:c=0
  ·exact e
  ·have h6:(4294967296:Int) ^ n*1≤4294967296 ^ n*c:=F0 (by omega) (E1 (Int.pow_pos (by decide)))
   omega
 refine ⟨h5,?_⟩
 rw [h5,Int.mul_zero,Int.add_zero] at hv
 rw [← hv,← hl,j7 hy]
end Go.Proofs.YtjagfionflbjbaaGreat.NumA
namespace Go.Proofs.YtjagfionflbjbaaGreat.NumA
open Go
structure n0z (ws vs:List Int) (n:Nat) (x:Nat×List Int×Int):Prop where
 le:x.1≤n
 len:x.2.1.length=x.1
 wd:Wd x.2.1
 c0:0≤x.2.2
 c1:x.2.2≤1
 eq:val x.2.1+4294967296 ^ x.1*x.2.2=val (ws.take x.1)+val (vs.take x.1)
theorem n0z.zero (ws vs:List Int)(n:Nat):n0z ws vs n (0,[],0):=⟨Nat.zero_le _,rfl,Wd.nil,Int.le_refl _,by decide,by simp [val]⟩
theorem n0z.next {ws vs:List Int}(h:Wd ws)(h2:Wd vs){n i:Nat}{ys:List Int}{c:Int}(ha:n0z ws vs n (i,ys,c))(hi:i<n) :
  n0z ws vs n (i+1,ys++[(ws.getD i 0+vs.getD i 0+c) % 4294967296],(ws.getD i 0+vs.getD i 0+c) / 4294967296):=by
 have hw:=h.getD i
 have hv:=h2.getD i
 have h3:=ha.c0
 have h4:=ha.c1
 simp only at h3 h4
 exact ⟨hi,by simp [ha.len],ha.wd.snoc (by omega) (by omega),by simp only; omega,by simp only; omega,p1j (ws:=ws) (vs:=vs) (ys:=ys) (i:=i) (c:=c) (d:=(ws.getD i 0+vs.getD i 0+c) % 4294967296) (c':=(ws.getD i 0+vs.getD i 0+c) / 4294967296) ha.len ha.eq rfl (by omega)⟩
structure m0b (ws vs:List Int) (n:Nat) (x:Nat×List Int×Int):Prop where
 le:x.1≤n
 len:x.2.1.length=x.1
 wd:Wd x.2.1
 c0:0≤x.2.2
 c1:x.2.2≤1
 eq:val x.2.1 - 4294967296 ^ x.1*x.2.2=val (ws.take x.1) - val (vs.take x.1)
theorem m0b.zero (ws vs:List Int)(n:Nat):m0b ws vs n (0,[],0):=⟨Nat.zero_le _,rfl,Wd.nil,Int.le_refl _,by decide,by simp [val]⟩
theorem m0b.next {ws vs:List Int}(h:Wd ws)(h2:Wd vs){n i:Nat}{ys:List Int}{c:Int}(ha:m0b ws vs n (i,ys,c))(hi:i<n) :
  m0b ws vs n (i+1,ys++[(ws.getD i 0 - vs.getD i 0 - c) % 4294967296],if ws.getD i 0<vs.getD i 0+c then 1 else 0):=by
 have hw:=h.getD i
 have hv:=h2.getD i
 have h3:=ha.c0
 have h4:=ha.c1
 simp only at h3 h4
 exact ⟨hi,by simp [ha.len],ha.wd.snoc (by omega) (by omega),by simp only; split <;> omega,by simp only; split <;> omega,w1j (ws:=ws) (vs:=vs) (ys:=ys) (i:=i) (c:=c) (d:=(ws.getD i 0 - vs.getD i 0 - c) % 4294967296) (c':=if ws.getD i 0<vs.getD i 0+c then 1 else 0) ha.len ha.eq rfl (by split <;> omega)⟩
theorem g1b {ws vs ys:List Int}{n:Nat}{c:Int}(h:Wd ws)(h2:Wd vs)(hle:val vs≤val ws)(hn:ws.length≤n)(hn2:vs.length≤n)(ha:m0b ws vs n (n,ys,c)):c=0∧ys=E4 n (val ws - val vs):=by
 have hv:=ha.eq
 simp only at hv
 rw [d0v hn,d0v hn2] at hv
 have h4:=l5 ha.wd
 simp only [ha.len] at h4
 have h3:=ha.c0
 simp only at h3
 have h5:c=0:=by
  by_cases e:c=0
  ·exact e
  ·have h6:(4294967296:Int) ^ n*1≤4294967296 ^ n*c:=F0 (by omega) (E1 (Int.pow_pos (by decide)))
   omega
 refine ⟨h5,?_⟩
 rw [h5,Int.mul_zero,Int.sub_zero] at hv
 have hal:ys.length=n:=ha.len
 rw [← hv,← hal]
 exact (j7 ha.wd).symm
end Go.Proofs.YtjagfionflbjbaaGreat.NumA
namespace Go.Proofs.YtjagfionflbjbaaGreat.NumA
open Go
theorem p9 {ws:List Int}{i:Nat}(h:ws.length≤i):ws.getD i 0=0:=by rw [f0,List.getElem?_eq_none h]; rfl
end Go.Proofs.YtjagfionflbjbaaGreat.NumA
namespace Go.Proofs.YtjagfionflbjbaaGreat.NumA
open Go
theorem h1a {n x:Int}(m:Bool)(h:0≤x)(h1:x<n) : -n<sg m x∧sg m x<n:=by cases m <;> simp [sg] <;> omega
theorem b1n (m:Bool)(x y:Int):sg m (x+y)=sg m x+sg m y:=by cases m <;> simp [sg]; omega
theorem N0z {m n:Bool}(h:m≠n){x y:Int}:sg m (x - y)=sg m x+sg n y:=by cases m <;> cases n <;> simp [sg] at h ⊢ <;> omega
theorem J1y (m:Bool)(x:Int):sg (!m) x = -sg m x:=by cases m <;> simp [sg]
theorem g1f {x y:Int}(h:0≤X7 x y):y≤x:=by unfold X7 at h; split at h <;> omega
theorem f1s {x y:Int}(h:¬ 0≤X7 x y):x<y:=by
 unfold X7 at h
 split at h
 ·assumption
 ·split at h <;> omega
end Go.Proofs.YtjagfionflbjbaaGreat.NumA
namespace Go.Proofs.YtjagfionflbjbaaGreat.NumA
open Go
theorem g1z {ws:List Int}:∀ {i:Nat},i<ws.length→∀ v:Int,val (ws.set i v)=val ws+4294967296 ^ i*(v - ws.getD i 0):=by
 induction ws with
 | nil=>intro i h; simp at h
 | cons w ws ih =>
  intro i h v
  cases i with
  | zero=>simp [val]; omega
  | succ i =>
   simp only [List.set_cons_succ,val,List.getD_cons_succ,Int.pow_succ]
   rw [ih (by simpa using h) v]
   grind
theorem g0d {x y:Int}(hx:0≤x∧x<4294967296)(hy:0≤y∧y<4294967296):0≤x*y∧x*y≤18446744065119617025:=by
 constructor
 ·exact Int.mul_nonneg hx.1 hy.1
 ·have h1:x*y≤x*4294967295:=F0 (by omega) hx.1
  omega
theorem N0p {ws:List Int}(h:Wd ws)(h0:val ws=0)(i:Nat):ws.getD i 0=0:=by
 induction ws generalizing i with
 | nil=>rfl
 | cons w ws ih =>
  have h1:=Wd.cons.1 h
  have h2:=G2 h1.2
  simp only [val] at h0
  cases i with
  | zero=>simp; omega
  | succ i=>simpa using ih h1.2 (by omega) i
theorem k1d {ws:List Int}(h:Wd ws){k i:Nat}(hv:val ws<4294967296 ^ k)(hi:k≤i):ws.getD i 0=0:=by
 by_cases hk:ws.length≤k
 ·exact p9 (by omega)
 ·have h1:=h0y ws k
  rw [G1 (by omega)] at h1
  have h2:=G2 (h.take k)
  have h3:=G2 (h.drop k)
  have hp:(0:Int)<4294967296 ^ k:=Int.pow_pos (by decide)
  have h4:val (ws.drop k)=0:=by
   by_cases e:val (ws.drop k)=0
   ·exact e
   ·have h6:(4294967296:Int) ^ k*1≤4294967296 ^ k*val (ws.drop k):=F0 (by omega) (E1 hp)
    omega
  have h5:=N0p (h.drop k) h4 (i - k)
  rw [f0,List.getElem?_drop,show k+(i - k)=i by omega,← f0] at h5
  exact h5
structure v0w (ws vs:List Int) (x:Nat×List Int):Prop where
 le:x.1≤ws.length
 len:x.2.length=ws.length+vs.length
 wd:Wd x.2
 eq:val x.2=val (ws.take x.1)*val vs
structure j0k (ws vs:List Int) (i:Nat) (x:Nat×List Int×Int):Prop where
 le:x.1≤vs.length
 len:x.2.1.length=ws.length+vs.length
 wd:Wd x.2.1
 c0:0≤x.2.2
 c1:x.2.2<4294967296
 top:x.2.1.getD (i+vs.length) 0=0
 eq:val x.2.1+4294967296 ^ (i+x.1)*x.2.2=val (ws.take i)*val vs+4294967296 ^ i*(ws.getD i 0*val (vs.take x.1))
theorem n0g (n:Nat):val (List.replicate n 0)=0:=by
 induction n with
 | zero=>rfl
 | succ n ih=>rw [List.replicate_succ,val,ih]; rfl
theorem v0w.zero (ws vs:List Int):v0w ws vs (0,List.replicate (ws.length+vs.length) 0):=⟨Nat.zero_le _,by simp,Wd.rep _,by simp [val,n0g]⟩
theorem h0x {ws vs:List Int}(h:Wd ws)(h2:Wd vs){i:Nat}(hi:i≤ws.length):val (ws.take i)*val vs<4294967296 ^ (i+vs.length):=by
 have h3:=l5 (h.take i)
 rw [J0,G1 hi] at h3
 have h4:=l5 h2
 have h5:=G2 (h.take i)
 have h6:=G2 h2
 rw [Int.pow_add]
 have hp:(0:Int)<4294967296 ^ i:=Int.pow_pos (by decide)
 have hp2:(0:Int)<4294967296 ^ vs.length:=Int.pow_pos (by decide)
 have e1:val (ws.take i)*val vs≤val (ws.take i)*4294967296 ^ vs.length:=F0 (by omega) h5
 have e2:val (ws.take i)*4294967296 ^ vs.length<4294967296 ^ i*4294967296 ^ vs.length:=Int.mul_lt_mul_of_pos_right h3 hp2
 omega
theorem j0k.zero {ws vs:List Int}(h:Wd ws)(h2:Wd vs){i:Nat}{r:List Int}(ha:v0w ws vs (i,r))(hi:i<ws.length):j0k ws vs i (0,r,0) :=
 ⟨Nat.zero_le _,ha.len,ha.wd,Int.le_refl _,by show (0:Int)<4294967296; decide,k1d ha.wd (by have:=ha.eq; simp only at this; rw [this]; exact h0x h h2 (by omega)) (Nat.le_refl _),by have:=ha.eq; simp only at this; simp [val,this]⟩
theorem j0k.next {ws vs:List Int}(h:Wd ws)(h2:Wd vs){i j:Nat}{r:List Int}{c:Int}(ha:j0k ws vs i (j,r,c))(hi:i<ws.length)(hj:j<vs.length){t:Int}(ht:t=ws.getD i 0*vs.getD j 0+r.getD (i+j) 0+c) :
  j0k ws vs i (j+1,r.set (i+j) (t % 4294967296),t / 4294967296)∧0≤t∧t<18446744073709551616:=by
 have hw:=h.getD i
 have hv:=h2.getD j
 have hb:=g0d hw hv
 have hr:=ha.wd.getD (i+j)
 have hc0:=ha.c0
 have hc1:=ha.c1
 have hl:=ha.len
 have heq:=ha.eq
 have htop:=ha.top
 simp only at hr hc0 hc1 hl heq htop
 refine ⟨⟨hj,by simp [hl],ha.wd.set _ (by omega) (by omega),by simp only; omega,by simp only; omega,?_,?_⟩,by omega,by omega⟩
 ·simp only
  rw [f0,List.getElem?_set_ne (by omega),← f0]
  exact htop
 ·simp only
  rw [g1z (by omega),Y3 (ws:=vs) j,← Nat.add_assoc,Int.pow_succ,Int.pow_add]
  rw [Int.pow_add] at heq
  have e:t % 4294967296+4294967296*(t / 4294967296)=t:=by omega
  generalize (4294967296:Int) ^ i=A at *
  generalize (4294967296:Int) ^ j=B at *
  generalize t % 4294967296=d at *
  generalize t / 4294967296=q at *
  subst ht
  grind
theorem j0k.done {ws vs:List Int}{i:Nat}{r:List Int}{c:Int}(ha:j0k ws vs i (vs.length,r,c))(hi:i<ws.length):v0w ws vs (i+1,r.set (i+vs.length) c):=by
 have hl:=ha.len
 have heq:=ha.eq
 have htop:=ha.top
 simp only at hl heq htop
 refine ⟨hi,by simp [hl],ha.wd.set _ ha.c0 ha.c1,?_⟩
 simp only
 rw [g1z (by omega),htop,Y3 (ws:=ws) i]
 rw [I0] at heq
 grind
end Go.Proofs.YtjagfionflbjbaaGreat.NumA
namespace Go.Proofs.YtjagfionflbjbaaGreat.NumA
open Go
theorem v0q {ws:List Int}(_h:Wd ws)(hl:ws.length≤2):ws.getD 0 0+ws.getD 1 0*4294967296=val ws:=by
 match ws,hl with
 | [],_=>simp [val]
 | [a],_=>simp [val]
 | [a,b],_=>simp [val]; omega
theorem F1f {ws:List Int}(h:Wd ws)(ht:Tr ws)(hv:val ws<4611686018427387904):ws.length≤2:=by
 by_cases e:ws.length≤2
 ·exact e
 ·have:=P1x h ht (by omega); omega
end Go.Proofs.YtjagfionflbjbaaGreat.NumA
namespace Go.Proofs.YtjagfionflbjbaaGreat.NumA
open Go
theorem W0y {x y c:Int}:(x+4294967296 - y - c) % 4294967296=(x - y - c) % 4294967296:=by omega
end Go.Proofs.YtjagfionflbjbaaGreat.NumA
namespace Go.Proofs.YtjagfionflbjbaaGreat.NumA
open Go
theorem G0x {m:Int}{k:Nat}(h0:0≤m)(h:m<4294967296 ^ k):(j3 m.toNat).length≤k:=by
 refine n1v ?_
 obtain ⟨x,rfl⟩:=Int.eq_ofNat_of_zero_le h0
 rw [show (4294967296:Int)=((4294967296:Nat):Int) from rfl,← Int.natCast_pow] at h
 rw [Int.toNat_natCast]
 exact Int.ofNat_lt.1 h
theorem K9 {m:Int}(h0:0≤m):val (j3 m.toNat)=m:=by rw [T4]; omega
theorem v0d {ws vs:List Int}(h:Wd ws)(h2:Wd vs)(ht2:Tr vs)(hle:val vs≤val ws):vs.length≤ws.length:=by
 by_cases e:vs.length≤ws.length
 ·exact e
 ·have:=m0k h h2 ht2 (by omega); omega
theorem F1r {ws vs:List Int}(h:Wd ws)(h2:Wd vs):(j3 (val ws+val vs).toNat).length≤max ws.length vs.length+1:=G0x (by have:=G2 h; have:=G2 h2; omega) (b0a h h2)
theorem g1x {ws vs:List Int}(h:Wd ws)(h2:Wd vs)(hle:val vs≤val ws):(j3 (val ws - val vs).toNat).length≤ws.length:=G0x (by omega) (by have:=l5 h; have:=G2 h2; omega)
theorem G1f {ws vs:List Int}(h:Wd ws)(h2:Wd vs):(j3 (val ws*val vs).toNat).length≤ws.length+vs.length:=G0x (Int.mul_nonneg (G2 h) (G2 h2)) (by have:=h0x h h2 (i:=ws.length) (Nat.le_refl _); rwa [I0] at this)
end Go.Proofs.YtjagfionflbjbaaGreat.NumA
namespace Go.Proofs.YtjagfionflbjbaaGreat.NumA
open Go
theorem d1y {w V d:Int}(hd:0<d)(hw:0≤w∧w<4294967296)(hV:0≤V) :
  (w+4294967296*V) / d=(V % d*4294967296+w) / d+4294967296*(V / d)∧(w+4294967296*V) % d=(V % d*4294967296+w) % d∧0≤(V % d*4294967296+w) / d∧(V % d*4294967296+w) / d<4294967296:=by
 have h1:=Int.emod_nonneg V (show d≠0 by omega)
 have h2:=Int.emod_lt_of_pos V hd
 have h3:=Int.mul_ediv_add_emod V d
 have e:w+4294967296*V=(V % d*4294967296+w)+d*(4294967296*(V / d)):=by
  conv=>lhs; rw [← h3]
  grind
 refine ⟨?_,?_,?_,?_⟩
 ·rw [e,Int.add_mul_ediv_left _ _ (by omega)]
 ·rw [e,Int.add_mul_emod_self_left]
 ·exact Int.ediv_nonneg (by omega) (by omega)
 ·refine Int.ediv_lt_of_lt_mul hd ?_
  have:(V % d+1)*4294967296≤d*4294967296:=Z0 (by omega) (by decide)
  omega
theorem k1c {k:Nat}{q Q:Int}(hq:0≤q∧q<4294967296):E4 (k+1) (q+4294967296*Q)=q :: E4 k Q:=by
 simp only [E4]
 rw [show (q+4294967296*Q) % 4294967296=q by omega,show (q+4294967296*Q) / 4294967296=Q by omega]
theorem W0n {xs qs:List Int}{n:Nat}(hl:xs.length=n+1)(q:Int):(xs++qs).set n q=xs.take n++q :: qs:=by
 rw [List.set_append_left _ _ (by omega)]
 have:xs.set n q=xs.take n++[q]:=by
  apply List.ext_getElem?
  intro i
  rw [List.getElem?_set]
  by_cases e:n=i
  ·subst e; simp [hl]
  ·rw [if_neg e,List.getElem?_append]
   simp only [J0,hl,G1 (Nat.le_succ n)]
   by_cases e2:i<n
   ·rw [if_pos e2,List.getElem?_take,if_pos e2]
   ·rw [if_neg e2,List.getElem?_eq_none (by omega),List.getElem?_eq_none (by simp; omega)]
 rw [this,List.append_assoc]; rfl
structure I9 (ws:List Int) (d:Int) (x:Nat×List Int×Int):Prop where
 le:x.1≤ws.length
 q:x.2.1=E4 (ws.length - x.1) (val (ws.drop x.1) / d)
 r:x.2.2=val (ws.drop x.1) % d
theorem I9.start (ws:List Int)(d:Int):I9 ws d (ws.length,[],0):=⟨Nat.le_refl _,by simp [E4],by simp [val]⟩
theorem I9.next {ws:List Int}{d:Int}(h:Wd ws)(hd:0<d){n:Nat}{qs:List Int}{r:Int}(ha:I9 ws d (n,qs,r))(hn:0<n) :
  I9 ws d (n - 1,(r*4294967296+ws.getD (n - 1) 0) / d :: qs,(r*4294967296+ws.getD (n - 1) 0) % d)∧0≤(r*4294967296+ws.getD (n - 1) 0) / d∧(r*4294967296+ws.getD (n - 1) 0) / d<4294967296:=by
 have hle:=ha.le
 have hq:=ha.q
 have hr:=ha.r
 simp only at hle hq hr
 have hs:=d1y (V:=val (ws.drop n)) hd (h.getD (n - 1)) (G2 (h.drop n))
 have hdr:=W6 (ws:=ws) (n:=n - 1) (by omega)
 rw [show n - 1+1=n by omega] at hdr
 rw [← hr] at hs
 refine ⟨⟨by simp only; omega,?_,?_⟩,hs.2.2.1,hs.2.2.2⟩
 ·simp only
  rw [hdr,val,hs.1,show ws.length - (n - 1)=(ws.length - n)+1 by omega,k1c ⟨hs.2.2.1,hs.2.2.2⟩,hq]
 ·simp only
  rw [hdr,val,hs.2.1]
end Go.Proofs.YtjagfionflbjbaaGreat.NumA
namespace Go.Proofs.YtjagfionflbjbaaGreat.NumA
open Go
theorem k1m {ws qs:List Int}{n i:Nat}(hi:i<n)(hl:n≤ws.length):(ws.take n++qs).getD i 0=ws.getD i 0:=by
 rw [f0,X0 (by simp; omega),List.getElem?_take,if_pos hi,← f0]
end Go.Proofs.YtjagfionflbjbaaGreat.NumA
namespace Go.Proofs.YtjagfionflbjbaaGreat.NumA
open Go
structure l8 (ws:List Int) (k:Nat) (x:Nat×List Int×Int):Prop where
 le:x.1≤ws.length
 len:x.2.1.length=x.1
 wd:Wd x.2.1
 h0:0≤x.2.2
 h1:x.2.2<2 ^ k
 eq:val x.2.1+4294967296 ^ x.1*x.2.2=val (ws.take x.1)*2 ^ k
theorem l8.zero (ws:List Int)(k:Nat):l8 ws k (0,[],0):=⟨Nat.zero_le _,rfl,Wd.nil,Int.le_refl _,by show (0:Int)<2 ^ k; exact Int.pow_pos (by decide),by simp [val]⟩
theorem l8.next {ws:List Int}{k:Nat}(h:Wd ws){i:Nat}{ys:List Int}{c:Int}(ha:l8 ws k (i,ys,c))(hi:i<ws.length) :
  l8 ws k (i+1,ys++[(ws.getD i 0*2 ^ k+c) % 4294967296],(ws.getD i 0*2 ^ k+c) / 4294967296):=by
 have hw:=h.getD i
 have h0:=ha.h0
 have h1:=ha.h1
 have hl:=ha.len
 have heq:=ha.eq
 simp only at h0 h1 hl heq
 have hp:(0:Int)<2 ^ k:=Int.pow_pos (by decide)
 have hs0:0≤ws.getD i 0*2 ^ k:=Int.mul_nonneg hw.1 (E1 hp)
 have hs:ws.getD i 0*2 ^ k+c<2 ^ k*4294967296:=by
  have:(ws.getD i 0+1)*2 ^ k≤4294967296*2 ^ k:=Z0 (by omega) (E1 hp)
  rw [Int.add_mul,Int.one_mul] at this
  rw [Int.mul_comm (2 ^ k)]
  omega
 refine ⟨hi,by simp [hl],ha.wd.snoc (by omega) (by omega),Int.ediv_nonneg (by omega) (by decide),Int.ediv_lt_of_lt_mul (by decide) hs,?_⟩
 simp only
 rw [i8,hl,d0p hi,Int.pow_succ]
 have e:(ws.getD i 0*2 ^ k+c) % 4294967296+4294967296*((ws.getD i 0*2 ^ k+c) / 4294967296)=ws.getD i 0*2 ^ k+c:=by omega
 generalize (4294967296:Int) ^ i=A at *
 generalize (ws.getD i 0*2 ^ k+c) % 4294967296=d at *
 generalize (ws.getD i 0*2 ^ k+c) / 4294967296=q at *
 grind
theorem l8.end_ {ws:List Int}{k:Nat}{ys:List Int}{c:Int}(ha:l8 ws k (ws.length,ys,c))(hk:k≤32):ys++[c]=E4 (ws.length+1) (val ws*2 ^ k)∧Wd (ys++[c]):=by
 have h0:=ha.h0
 have h1:=ha.h1
 have hl:=ha.len
 have heq:=ha.eq
 simp only at h0 h1 hl heq
 have hp:(2:Int) ^ k≤4294967296:=by
  have:=Nat.pow_le_pow_right (n:=2) (by decide) hk
  have h2:((2 ^ k:Nat):Int)≤((2 ^ 32:Nat):Int):=Int.ofNat_le.2 this
  rw [Int.natCast_pow] at h2
  exact h2
 have hwd:Wd (ys++[c]):=ha.wd.snoc h0 (by omega)
 refine ⟨?_,hwd⟩
 rw [I0] at heq
 rw [← heq,← hl,← i8]
 have:=j7 hwd
 rw [K1] at this
 exact this.symm
end Go.Proofs.YtjagfionflbjbaaGreat.NumA
namespace Go.Proofs.YtjagfionflbjbaaGreat.NumA
open Go
open Go Go.Proofs.YtjagfionflbjbaaGreat.SH
theorem k0m {k:Nat}(hk:k≤32):(4294967296:Int)=2 ^ (32 - k)*2 ^ k:=by
 rw [← Int.pow_add,Nat.sub_add_cancel hk]; rfl
theorem M0z {k:Nat}(hk:k≤32)(w:Int):w*2 ^ k % 4294967296=(w % 2 ^ (32 - k))*2 ^ k:=by
 rw [k0m hk,Int.mul_comm w,Int.mul_comm (2 ^ (32 - k)),Int.mul_emod_mul_of_pos _ _ (Int.pow_pos (by decide)),Int.mul_comm]
theorem N0f {k:Nat}(hk:k≤32)(w:Int){c:Int}(h0:0≤c)(h1:c<2 ^ k):(w*2 ^ k+c) / 4294967296=w / 2 ^ (32 - k):=by
 rw [k0m hk,Int.mul_comm (2 ^ (32 - k)),← Int.ediv_ediv_of_nonneg (E1 (Int.pow_pos (by decide)))]
 rw [Int.add_comm,Int.add_mul_ediv_right _ _ (by have:(0:Int)<2 ^ k:=Int.pow_pos (by decide); omega),Int.ediv_eq_zero_of_lt h0 h1,Int.zero_add]
theorem h1f {k:Nat}(hk:k≤32)(w:Int){c:Int}(h0:0≤c)(h1:c<2 ^ k):(w*2 ^ k+c) % 4294967296=c+(w % 2 ^ (32 - k))*2 ^ k∧c+(w % 2 ^ (32 - k))*2 ^ k<4294967296∧0≤(w % 2 ^ (32 - k))∧(w % 2 ^ (32 - k))*2 ^ k<4294967296:=by
 have hp:(0:Int)<2 ^ k:=Int.pow_pos (by decide)
 have hp2:(0:Int)<2 ^ (32 - k):=Int.pow_pos (by decide)
 have hm:=M0z hk w
 have h2:=Int.emod_lt_of_pos w hp2
 have h3:=Int.emod_nonneg w (show (2:Int) ^ (32 - k)≠0 by omega)
 have h4:(w % 2 ^ (32 - k)+1)*2 ^ k≤2 ^ (32 - k)*2 ^ k:=Z0 (by omega) (E1 hp)
 rw [Int.add_mul,Int.one_mul,← k0m hk] at h4
 have h5:0≤w % 2 ^ (32 - k)*2 ^ k:=Int.mul_nonneg h3 (E1 hp)
 refine ⟨?_,by omega,h3,by omega⟩
 rw [Int.add_emod,hm,Int.emod_eq_of_lt h0 (by omega),Int.emod_eq_of_lt (by omega) (by omega)]
 omega
theorem M1d {k:Nat}(hk:k≤32){m:Int}:IntKind.u32.wrap (m*2 ^ (min ((k:Int)).toNat IntKind.u32.bits))=(m % 2 ^ (32 - k))*2 ^ k:=by
 rw [j8,Int.toNat_natCast,show min k IntKind.u32.bits=k from G1 hk,M0z hk]
theorem Y0c {k:Nat}(hk:k≤64){m:Int}:m.fdiv (2 ^ (min ((k:Int)).toNat IntKind.u64.bits))=m / 2 ^ k:=by
 rw [Int.toNat_natCast,show min k IntKind.u64.bits=k from G1 hk,Int.fdiv_eq_ediv_of_nonneg _ (E1 (Int.pow_pos (by decide)))]
end Go.Proofs.YtjagfionflbjbaaGreat.NumA
namespace Go.Proofs.YtjagfionflbjbaaGreat.NumA
open Go
open Go Go.Proofs.YtjagfionflbjbaaGreat.SH
theorem M1h {k:Nat}(hk:k<32){m:Int}:m.fdiv (2 ^ (min ((32:Int) - (k:Int)).toNat IntKind.u64.bits))=m / 2 ^ (32 - k):=by
 have:((32:Int) - (k:Int)).toNat=32 - k:=by omega
 rw [this,show min (32 - k) IntKind.u64.bits=32 - k from G1 (by show 32 - k≤64; omega),Int.fdiv_eq_ediv_of_nonneg _ (E1 (Int.pow_pos (by decide)))]
theorem F0b {ys:List Int}{c d q:Int}{i n:Nat}(hl:ys.length=i)(hi:i<n):((ys++c :: List.replicate (n - i) 0).set i d).set (i+1) q=(ys++[d])++q :: List.replicate (n - (i+1)) 0:=by
 subst hl
 rw [List.set_append_right _ _ (Nat.le_refl _),Nat.sub_self,List.set_cons_zero,List.set_append_right _ _ (Nat.le_succ _),show ys.length.succ - ys.length=1 by omega,List.set_cons_succ,show n - ys.length=(n - (ys.length+1))+1 by omega,List.replicate_succ,List.set_cons_zero,List.append_assoc]
 rfl
end Go.Proofs.YtjagfionflbjbaaGreat.NumA
namespace Go.Proofs.YtjagfionflbjbaaGreat.NumA
open Go
theorem H0h {k:Nat}(hk:k≤32):(2:Int) ^ k≤4294967296:=by
 have h2:((2 ^ k:Nat):Int)≤((2 ^ 32:Nat):Int):=Int.ofNat_le.2 (Nat.pow_le_pow_right (by decide) hk)
 rw [Int.natCast_pow] at h2
 exact h2
end Go.Proofs.YtjagfionflbjbaaGreat.NumA
namespace Go.Proofs.YtjagfionflbjbaaGreat.NumA
open Go
end Go.Proofs.YtjagfionflbjbaaGreat.NumA
namespace Go.Proofs.YtjagfionflbjbaaGreat.NumA
open Go
end Go.Proofs.YtjagfionflbjbaaGreat.NumA
namespace Go.Proofs.YtjagfionflbjbaaGreat.NumA
open Go
theorem G0k {w0 w1 V2:Int}{s:Nat}(hs:s≤32)(h0:0≤w0∧w0<4294967296)(h1:0≤w1)(h2:0≤V2) :
  (w0+w1*4294967296) / 2 ^ s % 4294967296=(w0+4294967296*(w1+4294967296*V2)) / 2 ^ s % 4294967296∧(w0+4294967296*(w1+4294967296*V2)) / 2 ^ s / 4294967296=(w1+4294967296*V2) / 2 ^ s:=by
 have hp:(0:Int)<2 ^ s:=Int.pow_pos (by decide)
 have e:=k0m hs
 constructor
 ·have : w0 + 4294967296 * (w1 + 4294967296 * V2) = (w0 + w1 * 4294967296) + 2 ^ s * (2 ^ (32 - s) * (4294967296 * V2)) := by
   have e2:(2:Int) ^ s*(2 ^ (32 - s)*(4294967296*V2))=4294967296*(4294967296*V2):=by
    rw [← Int.mul_assoc,Int.mul_comm (2 ^ s),← e]
   rw [e2]; omega
  rw [this,Int.add_mul_ediv_left _ _ (by omega),show (2:Int) ^ (32 - s)*(4294967296*V2)=4294967296*(2 ^ (32 - s)*V2) by grind,Int.add_mul_emod_self_left]
 ·rw [Int.ediv_ediv_of_nonneg (by omega),Int.mul_comm (2 ^ s),← Int.ediv_ediv_of_nonneg (by decide),show (w0+4294967296*(w1+4294967296*V2)) / 4294967296=w1+4294967296*V2 by omega]
theorem F0s (ws:List Int)(i:Nat):val (ws.drop i)=ws.getD i 0+4294967296*val (ws.drop (i+1)):=by
 by_cases h:i<ws.length
 ·rw [W6 h,val]
 ·rw [List.drop_of_length_le (by omega),List.drop_of_length_le (by omega),p9 (by omega)]; rfl
theorem M0p {ws ys:List Int}{s i:Nat}(h:Wd ws)(hs:s≤32)(hl:ys.length=i)(hv:val ys+4294967296 ^ i*(val (ws.drop i) / 2 ^ s)=val ws / 2 ^ s) :
  val (ys++[(ws.getD i 0+ws.getD (i+1) 0*4294967296) / 2 ^ s % 4294967296])+4294967296 ^ (i+1)*(val (ws.drop (i+1)) / 2 ^ s)=val ws / 2 ^ s:=by
 have h1:=F0s ws i
 have h2:=F0s ws (i+1)
 have hd:=G0k (V2:=val (ws.drop (i+1+1))) hs (h.getD i) (h.getD (i+1)).1 (G2 (h.drop _))
 rw [← h2,← h1] at hd
 rw [i8,hl,hd.1,Int.pow_succ,← hd.2,← hv]
 have e:val (ws.drop i) / 2 ^ s % 4294967296+4294967296*(val (ws.drop i) / 2 ^ s / 4294967296)=val (ws.drop i) / 2 ^ s:=by omega
 generalize val (ws.drop i) / 2 ^ s=M at *
 generalize M % 4294967296=a at *
 generalize M / 4294967296=b at *
 rw [← e]
 grind
end Go.Proofs.YtjagfionflbjbaaGreat.NumA
namespace Go.Proofs.YtjagfionflbjbaaGreat.NumA
open Go
structure y0a (ws:List Int) (s:Nat) (x:Nat×List Int):Prop where
 le:x.1≤ws.length
 len:x.2.length=x.1
 wd:Wd x.2
 eq:val x.2+4294967296 ^ x.1*(val (ws.drop x.1) / 2 ^ s)=val ws / 2 ^ s
theorem y0a.zero (ws:List Int)(s:Nat):y0a ws s (0,[]):=⟨Nat.zero_le _,rfl,Wd.nil,by simp [val]⟩
theorem y0a.next {ws ys:List Int}{s i:Nat}(h:Wd ws)(hs:s≤32)(ha:y0a ws s (i,ys))(hi:i<ws.length):y0a ws s (i+1,ys++[(ws.getD i 0+ws.getD (i+1) 0*4294967296) / 2 ^ s % 4294967296]) :=
 ⟨hi,by simp [ha.len],ha.wd.snoc (by omega) (by omega),M0p h hs ha.len ha.eq⟩
theorem y0a.end_ {ws ys:List Int}{s:Nat}(ha:y0a ws s (ws.length,ys)):val ys=val ws / 2 ^ s:=by
 have:=ha.eq
 simp only [List.drop_length] at this
 rw [← this]; simp [val]
theorem f1b {a:Int}{s:Nat}(h0:0≤a)(h1:a<18446744073709551616):0≤a / 2 ^ s∧a / 2 ^ s<18446744073709551616:=by
 have hp:(0:Int)<2 ^ s:=Int.pow_pos (by decide)
 exact ⟨Int.ediv_nonneg h0 (by omega),by have:=Int.ediv_le_self (2 ^ s) h0; omega⟩
end Go.Proofs.YtjagfionflbjbaaGreat.NumA
namespace Go.Proofs.YtjagfionflbjbaaGreat.NumA
open Go
open Go Go.Proofs.YtjagfionflbjbaaGreat.SH
theorem N0x {m n r:Int}(h:m / n=r)(h0:0≤m:=by omega)(hr : -9223372036854775808≤r∧r<9223372036854775808:=by omega):IntKind.i64.wrap (m.tdiv n)=r:=by
 rw [Int.tdiv_eq_ediv_of_nonneg h0,h]; exact w64 hr.1 hr.2
theorem V0a (q n:Nat):List.replicate (q+n+1) (0:Int)=List.replicate q 0++([]++0 :: List.replicate (n - 0) 0):=by
 rw [List.nil_append,Nat.sub_zero,← List.replicate_succ,List.replicate_append_replicate,Nat.add_assoc]
end Go.Proofs.YtjagfionflbjbaaGreat.NumA
namespace Go.Proofs.YtjagfionflbjbaaGreat.NumA
open Go
open Go Go.Proofs.YtjagfionflbjbaaGreat.SH
theorem K1w {s:Nat}(hs:s<32){w:Int}(hw:0≤w∧w<4294967296):0≤w*2 ^ s∧w*2 ^ s<18446744073709551616:=by
 have hp:(0:Int)<2 ^ s:=Int.pow_pos (by decide)
 have h2:=H0h (Nat.le_of_lt hs)
 refine ⟨Int.mul_nonneg hw.1 (E1 hp),?_⟩
 have h3:w*2 ^ s≤4294967295*2 ^ s:=Z0 (by omega) (E1 hp)
 omega
theorem M1n {s:Nat}(hs:s≤64){m:Int}(hb:0≤m*2 ^ s∧m*2 ^ s<18446744073709551616):IntKind.u64.wrap (m*2 ^ (min ((s:Int)).toNat IntKind.u64.bits))=m*2 ^ s:=by
 rw [Int.toNat_natCast,show min s IntKind.u64.bits=s from G1 hs,D0h,Int.emod_eq_of_lt hb.1 hb.2]
theorem h1x {q i n:Nat}{ys:List Int}{c:Int}(hl:ys.length=i):(List.replicate q 0++(ys++c :: List.replicate n 0)).getD (i+q) 0=c:=by
 rw [f0,D0 (by simp),List.length_replicate,Nat.add_sub_cancel,D0 (by omega),hl,Nat.sub_self]; rfl
theorem Q0w {ys:List Int}{c d x:Int}{q i n:Nat}(hl:ys.length=i)(hi:i<n):((List.replicate q 0++(ys++c :: List.replicate (n - i) 0)).set (i+q) d).set (i+q+1) x=List.replicate q 0++((ys++[d])++x :: List.replicate (n - (i+1)) 0):=by
 rw [List.set_append_right _ _ (by simp),List.length_replicate,Nat.add_sub_cancel,List.set_append_right _ _ (by simp; omega),List.length_replicate,show i+q+1 - q=i+1 by omega,F0b hl hi]
end Go.Proofs.YtjagfionflbjbaaGreat.NumA
namespace Go.Proofs.YtjagfionflbjbaaGreat.NumA
open Go
theorem j1x {ws:List Int}{s q k:Nat}{ys X:List Int}{c:Int}(ha:l8 ws s (ws.length,ys,c))(hs:s≤32)(hX:X=List.replicate q 0++(ys++[c]))(hk:k=32*q+s):trim X=j3 (val ws*2 ^ k).toNat∧(j3 (val ws*2 ^ k).toNat).length=G6 X X.length:=by
 obtain ⟨e1,e2⟩:=ha.end_ hs
 have hl:=ha.len
 have heq:=ha.eq
 simp only at hl heq
 have hwd:Wd X:=by rw [hX]; exact (Wd.rep q).append e2
 have hv:val X=val ws*2 ^ k:=by
  rw [hX,T6,n0g,List.length_replicate,Int.zero_add,i8,hl]
  rw [I0] at heq
  rw [heq,hk,Int.pow_add,Int.pow_mul]
  have:(2:Int) ^ 32=4294967296:=by rfl
  rw [this]
  grind
 have ht:=j6 hwd
 rw [hv] at ht
 exact ⟨ht,by rw [← ht,s9]⟩
end Go.Proofs.YtjagfionflbjbaaGreat.NumA
set_option maxRecDepth 100000
set_option maxHeartbeats 4000000
namespace Go.Proofs.YtjagfionflbjbaaGreat.N
open Go Go.Proofs.YtjagfionflbjbaaGreat.SH Go.Proofs.YtjagfionflbjbaaGreat.NumA
noncomputable abbrev E:Env:={ P:=Tryz.prog,G:=fun _=>True,ng:=0,stab:=fun _ _ _ _=>trivial }
theorem W5 {w:World}(_:E.G w):E.ng≤w.heap.size:=Nat.zero_le _
theorem pro {F:Fr}{n:Nat}(h:F.nt=n)(h0:∀ b,¬ F.X b)(hG:E.G F.w0):(∀ {d},(k:Nat.blt d n=true:=by rfl)→d<F.nt)∧(∀ b,F.X b→E.ng≤b)∧E.ng≤F.w0.heap.size:=⟨fun {_} k=>ltn h _ k,fun b h=>absurd h (h0 b),W5 hG⟩
theorem s64:∀ (u v c:Nat)(w:World),c≤1→(callFunc 170 #[.int .u64 u,.int .u64 v,.int .u64 c]).run Tryz.prog w = .ok (.value (.tuple #[.int .u64 (((u+18446744073709551616 - v - c) % 18446744073709551616:Nat):Int),.int .u64 ((if u<v+c then 1 else 0:Nat):Int)])) w :=
 k1b Tryz.func170 rF rF rF rF (fun _ _ _=>rfl) (fun _ _ _=>rfl)
def K4 (ws:List Int):List J2:=ws.map fun n=>.a (.int .u32 n)
@[reducible] def pW (ws:List Int):J2:=.sl ws.length (K4 ws)
@[reducible] def pI (neg:Bool)(ws:List Int):J2:=.agg [.a (.bool neg),.sl ws.length (K4 ws)]
@[reducible] def pZ (n:Int):J2:=pI (decide (n<0)) (j3 n.natAbs)
@[reducible] def vZ (n:Int):J2:=.a (.int .i64 n)
@[reducible] def uZ (n:Int):J2:=.a (.int .u64 n)
@[reducible] def oZ (n:Int):J2:=.a (.int .u32 n)
@[reducible] def bZ (b:Bool):J2:=.a (.bool b)
@[simp] theorem h0v (ws:List Int):(K4 ws).length=ws.length:=by simp [K4]
theorem Z5 {ws:List Int}{i:Nat}(h:i<ws.length):(K4 ws)[i]? = some (.a (.int .u32 (ws.getD i 0))):=by
 simp [K4,h,f0]
theorem o5 (ws:List Int)(i:Nat)(v:Int):(K4 ws).set i (.a (.int .u32 v))=K4 (ws.set i v):=by simp [K4,List.map_set]
theorem p0s (ws:List Int)(v:Int):K4 ws++[.a (.int .u32 v)]=K4 (ws++[v]):=by simp [K4]
theorem k0s (ws:List Int)(n:Nat):(K4 ws).take n=K4 (ws.take n):=by simp [K4]
theorem X9 (n:Nat):List.replicate n (.a (.int .u32 0))=K4 (List.replicate n 0):=by simp [K4]
theorem v7 {p q:Prop}[Decidable p][Decidable q](h:p↔q):decide p=decide q:=by simp [h]
theorem K0r {a b:Int}(h:a=b):[vZ a]=[vZ b]:=by rw [h]
theorem dt {p:Prop}[Decidable p](h:decide p=true):p:=of_decide_eq_true h
theorem df {p:Prop}[Decidable p](h:decide p=false):¬ p:=of_decide_eq_false h
theorem ndt {p:Prop}[Decidable p](h:(!decide p)=true):¬ p:=by simpa using h
theorem ndf {p:Prop}[Decidable p](h:(!decide p)=false):p:=by simpa using h
def p0p (neg:Bool)(ws:List Int):J2:=if trim ws=[] then pI false [] else pI neg (trim ws)
theorem D8:pZ 0=pI false []:=by simp [pZ,X4]
theorem P0y {neg:Bool}{ws:List Int}(h:Wd ws):p0p neg ws=pZ (sg neg (val ws)):=by
 have hv:=G2 h
 unfold p0p
 rw [j6 h]
 split
 ·rename_i e
  rw [j0q] at e
  have:val ws=0:=by omega
  rw [this]; cases neg <;> simp [sg,pZ,X4]
 ·rename_i e
  rw [j0q] at e
  cases neg with
  | false =>
   have e1:decide (sg false (val ws)<0)=false:=by simp [sg]; omega
   have e2:(sg false (val ws)).natAbs=(val ws).toNat:=by simp [sg]; omega
   rw [pZ,e1,e2]
  | true =>
   have e1:decide (sg true (val ws)<0)=true:=by simp [sg]; omega
   have e2:(sg true (val ws)).natAbs=(val ws).toNat:=by simp [sg]; omega
   rw [pZ,e1,e2]
def m1n (l:List (Bool×List Int)):List J2:=l.flatMap fun p=>[.a (.bool p.1),.sl p.2.length (K4 p.2)]
theorem Q0s (l:List (Bool×List Int)):(m1n l).length=l.length*2:=by
 induction l with
 | nil=>rfl
 | cons p l ih=>simp only [m1n,List.flatMap_cons,K1,D1,List.length_nil] at ih ⊢; omega
theorem N1s:∀ {l:List (Bool×List Int)}{i:Nat},i<l.length→((m1n l).drop (i*2)).take 2=[.a (.bool (l.getD i (false,[])).1),.sl (l.getD i (false,[])).2.length (K4 (l.getD i (false,[])).2)]
 | [],i,h=>by simp at h
 | p :: l,0,_=>by simp [m1n]
 | p :: l,i+1,h=>by
  have:=N1s (l:=l) (i:=i) (by simpa using h)
  rw [show (i+1)*2=i*2+2 by omega]
  simpa [m1n] using this
end Go.Proofs.YtjagfionflbjbaaGreat.N
namespace Go.Proofs.YtjagfionflbjbaaGreat.N
open Go Go.Proofs.YtjagfionflbjbaaGreat.SH Go.Proofs.YtjagfionflbjbaaGreat.NumA
end Go.Proofs.YtjagfionflbjbaaGreat.N
set_option maxRecDepth 100000
set_option maxHeartbeats 4000000
namespace Go.Proofs.YtjagfionflbjbaaGreat.N
open Go Go.Proofs.YtjagfionflbjbaaGreat.SH Go.Proofs.YtjagfionflbjbaaGreat.NumA
open Go.Proofs.Tryz renaming call101→cl101,call118→cl118,call119→cl119,call122→cl122,call123→cl123,call129→cl129,call130→cl130,call131→cl131,call138→cl138,call139→cl139,call141→cl141,call142→cl142,call143→cl143,call144→cl144,call145→cl145,call147→cl147,call153→cl153,call162→cl162,call163→cl163,call164→cl164,call169→cl169,call171→cl171,call172→cl172,call173→cl173,call174→cl174,call175→cl175,call77→cl77,isAgg119→ag119,isAgg43→ag43,isAgg45→ag45,isAgg4→ag4,sizeOf119→sz119,sizeOf43→sz43,sizeOf45→sz45,sizeOf4→sz4,typeInfo119→ti119,typeInfo45→ti45,underlying119→un119,underlying127→un127,underlying139→un139,underlying2→un2,underlying3→un3,underlying43→un43,underlying45→un45,underlying4→un4,underlying5→un5,underlying9→un9,zeroValue119→zv119,zeroValue45→zv45
theorem E9 (neg:Bool)(ws:List Int)(hl:ws.length<10000000000000):Y2 E 130 [pI neg ws] (bZ (P2 neg ws)):=by
 refine j2 (xs:=[bZ (P2 neg ws)]) Tryz.func130 rfl Tryz.ntmps130 Tryz.results130 sM fun F hG hX0 hnt hdf P0=>?_
 obtain ⟨L,hX,hN⟩:=pro hnt hX0 hG
 refine exr (swb (R3 (k:=1) (n:=2) pa2 rfl rfl (P0 _ rfl) L) t1 t0 ⟨rfl,rfl⟩ (aV L rfl (zn [(1,_)] [(1,_)] t1 t1 (exr (sw (Z1 un45 rfl sz43 dC rX L) t1 t1 ?_)))))
 refine sw (Y1 ag43 rF rF L) t1 t1 ?_
 refine sw (R2 un43 L) t1 t0 (aV L rfl (zn [(1,_),(3,_)] [(1,_)] t2 t1 (R1 (exr (mV L rfl (sw (c_e L) t2 t0 (zn [(1,_),(3,_),(8,_)] [(1,_)] t3 t1 ?_)))))))
 refine D2 rfl (fun h0=>?_) (fun h0=>?_)
 ·refine exr (sw (Z1 un45 rfl sz4 dC rX L) t1 t1 ?_)
  refine sw (Y1 ag4 rF rF L) t1 t1 ?_
  refine sw (P3 L) t1 t0 (aV L rfl (zn [(2,_)] [] t1 trivial (V1 ?_)))
  refine Q0 (.tmp rfl) ?_
  have h0:=dt h0; have h1:ws.length=0:=by omega
  simp only [P2,h1,if_true]
 ·have h0:=df h0
  refine U1 (xq ?_)
  refine exr (sw (Z1 un45 rfl sz43 dC rX L) t1 t1 ?_)
  refine sw (Y1 ag43 rF rF L) t1 t1 ?_
  refine mV L rfl (sw (q6 L (w64 oM oM)) t2 t0 (sw (ixJ un43 sz119 (j:=ws.length - 1) rO oM sM L) t2 t0 ?_))
  refine sw (v4 ag119 (by first | exact Z5 oM | rfl) L) t1 t0 ?_
  refine sw (c_n L) t2 t0 (aV L rfl (zn [(2,_)] [] t1 trivial (V1 ?_)))
  refine Q0 (.tmp rfl) ?_
  have h1:ws.length≠0:=by omega
  simp only [P2,h1,if_false]
theorem d1p (neg:Bool)(ws:List Int)(hl:ws.length<10000000000000):Y2 E 131 [.a (.bool neg),pW ws] (p0p neg ws):=by
 refine j2 (xs:=[p0p neg ws]) Tryz.func131 rfl Tryz.ntmps131 Tryz.results131 sM fun F hG hX0 hnt hdf P0=>?_
 obtain ⟨L,hX,hN⟩:=pro hnt hX0 hG
 refine exr (swb (T3 (k:=4) (n:=2) zv45 (.cons rfl (.cons rfl .nil)) rfl (P0 _ rfl) L) t0 t0 ⟨rfl,rfl⟩ (zn [(0,_),(1,_),(4,_)] [(4,_)] t3 t1 (exr (mV L rfl (sw (R2 un43 L) t1 t0 (aV L rfl (zn [(0,_),(1,_),(4,_),(5,_)] [(4,_)] t4 t1 (R1 (X1 ?_)))))))))
 refine exl (α:=Nat) (fun n=>[(5,vi (n:Int))]) (fun n=>[]) (fun n=>n≤ws.length∧G6 ws n=G6 ws ws.length) (fun n=>n) (ws.length) (sl:=[(0,_),(1,_),(4,_)]) (hb:=[(4,_)]) ?_ ⟨oR,rfl,rfl,rfl,trivial⟩ t1 ?_
 ·exact ⟨Nat.le_refl _,rfl⟩
 intro n hn
 refine R1 ?_
 refine exm (sl:=[(18,vb (decide (0<n∧ws.getD (n - 1) 0=0)))]) (sl0:=[(0,_),(1,_),(4,_),(5,_)]) (hb:=[]) (hb0:=[(4,_)]) t4 t1 ?_ ?_
 ·by_cases h:n=0
  ·refine mV L rfl (sw (X6 L) t2 t0 (mV L rfl (swn (g:=11) rfl (by simp [h]) L rfl ?_)))
   refine swn (g:=11) rfl (by simp [h]) L rfl ?_
   refine swn (g:=11) rfl (by simp [h]) L rfl ?_
   refine swn (g:=11) rfl (by simp [h]) L rfl ?_
   refine swn (g:=11) rfl (by simp [h]) L rfl ?_
   refine swn (g:=11) rfl (by simp [h]) L rfl ?_
   refine sw (V3 (by simp [h]) L) t2 t0 ?_
   exact O1 ⟨⟨ob rfl (by simp [h]),rfl,rfl,rfl,rfl,trivial⟩,t1⟩
  ·refine mV L rfl (sw (X6 L) t2 t0 (mV L rfl (gV (g:=11) rfl sO L rfl rfl (gV (g:=11) rfl sO L rfl rfl (swg (g:=11) rfl sO (q6 L (w64 oM oM)) rfl t2 t0 (swg (g:=11) rfl sO (ixJ un43 sz119 (j:=n - 1) rO oM sM L) rfl t2 t0 ?_))))))
   refine swg (g:=11) rfl sO (v4 ag119 (by first | exact Z5 oM | rfl) L) rfl t1 t0 ?_
   refine swg (g:=11) rfl sO (c_e L) rfl t2 t0 (sw (m4 sO L) t2 t0 ?_)
   exact O1 ⟨⟨ob rfl sO,rfl,rfl,rfl,rfl,trivial⟩,t1⟩
 refine D2 rfl (fun hc=>?_) (fun hc=>?_)
 ·have hc:=dt hc
  refine U1 (xq ?_)
  refine X1 (y3 (mV L rfl (sw (q6 L (w64 oM oM)) t2 t0 (aV L rfl (O1 ?_)))))
  exact ⟨n - 1,⟨by omega,by rw [← hn.2]; conv=>rhs; rw [show n=(n - 1)+1 by omega]; simp only [G6,hc.2,if_true]⟩,by omega,E3 ⟨oR,rfl,rfl,rfl,trivial⟩ t1⟩
 ·have hc:=df hc
  have e:G6 ws ws.length=n:=by
   rw [← hn.2]
   cases n with
   | zero=>rfl
   | succ n=>simp only [G6]; rw [if_neg]; intro h; exact hc ⟨by omega,by simpa using h⟩
  have e1:trim ws=ws.take n:=by rw [trim,e]
  refine L2 (xq ?_)
  refine R1 (exr (mV L rfl (sw (c_e L) t2 t0 (zn [(0,_),(1,_),(4,_),(5,_),(22,_)] [(4,_)] t5 t1 ?_))))
  refine D2 rfl (fun h0=>?_) (fun h0=>?_)
  ·have h0:=dt h0
   refine exr (sw (Y7 (E6 (vs:=[]) un45 zv45 (.cons rfl (.cons rfl .nil)) ((y2.cons sz4 (y2.cons sz43 y2.nil))).to rfl .nil (.cons (.cons .nil)) L) (.agg (.cons .same (.cons .nil .nil)))) t0 t0 (sb (U2 sz45 rF pa2 rfl pu2) t2 t1 ?_))
   refine zn [(4,_)] [(4,_)] t1 t1 (V1 ?_)
   refine Q0 (.agg rfl rfl rfl ag45 sz45 (.cons (.cons .nil))) ?_
   have h1:n=0:=by omega
   simp [p0p,e1,h1,K4]
  ·have h0:=df h0
   refine U1 (xq ?_)
   refine exr (mV L rfl (swb (v0b (k:=25) un43 ti119 rfl rfl rfl rfl rfl rfl (Nat.le_refl _) (by simp [Tryz.t119]; omega) oM (P0 _ rfl) L) t2 t0 ⟨rfl,rfl⟩ ?_))
   refine aV L rfl (zn [(0,_),(1,_),(4,_),(6,_)] [(4,_),(25,_)] t4 t2 (exr (mV L rfl (mV L rfl (swb (N1x un43 ti119 (by exact List.length_replicate) rfl sM L) t2 t1 t0 ?_)))))
   refine zn [(0,_),(4,_),(6,_)] [(4,_),(25,_)] t3 t2 (exr (mV L rfl (mV L rfl (sw (b0r (vs:=[_,_]) un45 zv45 (.cons rfl (.cons rfl .nil)) ((y2.cons sz4 (y2.cons sz43 y2.nil))).to rfl (.cons rfl (.atom rfl) rfl pu1 (.cons rfl .ref rfl (.skip pu1) .nil)) L) t2 t0 (sb (U2 sz45 rF .agg rfl pu2) t2 t1 ?_)))))
   refine zn [(4,_)] [(4,_),(25,_)] t1 t2 (G4 [25] (sl:=[(4,_)]) (hb:=[(4,_)]) (M3 hX0) ⟨⟨_,rfl,.same⟩,trivial⟩ ⟨⟨rfl,_,rfl,(.mix (.cons .same (.cons (.ref rfl rfl (by exact (by first | (simp; done) | (simp; omega))) (by first | rfl | omega)) .nil)))⟩,trivial⟩ ?_)
   refine V1 ?_
   refine Q0 (.agg rfl rfl rfl ag45 sz45 (.cons (.cons .nil))) ?_
   have h2:¬ ws.take n=[]:=by intro h; have:=congrArg List.length h; rw [J0] at this; simp only [List.length_nil] at this; omega
   simp [p0p,e1,h2,K4,G1 hn.1]
   omega
theorem n7 (neg:Bool)(ws:List Int)(hl:ws.length<10000000000000)(h:Wd ws):Y2 E 131 [.a (.bool neg),pW ws] (pZ (sg neg (val ws))):=by
 rw [← P0y h]; exact d1p neg ws hl
theorem f0g (l:List (Bool×List Int))(hl:l.length<1000000)(hw:∀ p∈l,p.2.length<10000000000000):Y2 E 138 [.sl l.length (m1n l)] (bZ (l.all fun p=>P2 p.1 p.2)):=by
 refine j2 (xs:=[bZ (l.all fun p=>P2 p.1 p.2)]) Tryz.func138 rfl Tryz.ntmps138 Tryz.results138 sM fun F hG hX0 hnt hdf P0=>?_
 obtain ⟨L,hX,hN⟩:=pro hnt hX0 hG
 refine exr (aV L rfl (zn [(0,_)] [] t1 trivial (R1 (exr (mV L rfl (sw (R2 un139 L) t1 t0 (mV L rfl (zn [(5,_),(6,_),(7,_)] [] t3 trivial (X1 ?_)))))))))
 refine exl (α:=Nat) (fun i=>[(7,vi (i:Int))]) (fun i=>[]) (fun i=>i≤l.length∧(l.take i).all (fun p=>P2 p.1 p.2)=true) (fun i=>l.length - i) (0) (sl:=[(5,_),(6,_)]) (hb:=[]) ?_ ⟨oR,rfl,rfl,trivial⟩ t0 ?_
 ·exact ⟨Nat.zero_le _,rfl⟩
 intro i hi
 refine exr (sw (d4 L) t2 t0 (zn [(5,_),(6,_),(7,_),(8,_)] [] t4 trivial (R1 ?_)))
 refine D2 rfl (fun hc=>?_) (fun hc=>?_)
 ·have hc:=dt hc
  have hi2:i<l.length:=by omega
  have e:l.getD i (false,[])=l[i]:=by simp [f0,hi2]
  refine U1 (xq ?_)
  refine R1 (X1 (exr (sw (F2 un139 sz45 oM oM (Q0s l) dC L) t2 t0 (sw (F7 ag45 sz45 (N1s hi2) rfl L) t1 t0 (swb (T3 (k:=4) (n:=2) zv45 (.cons rfl (.cons rfl .nil)) rfl (P0 _ rfl) L) t0 t0 ⟨rfl,rfl⟩ (sb (U2 sz45 rF pa2 rfl pu2) t2 t1 ?_))))))
  refine zn [(4,_),(5,_),(6,_),(7,_)] [(4,_)] t4 t1 (exr (lp2 ag45 sz45 L rfl rfl (cK hG hX cl130 hN (E9 (l.getD i (false,[])).1 (l.getD i (false,[])).2 (hw _ (by rw [e]; exact List.getElem_mem hi2))) L t1 ?_)))
  refine sw (P3 L) t1 t0 (zn [(5,_),(6,_),(7,_),(13,_)] [] t4 trivial ?_)
  refine D2 rfl (fun hb=>?_) (fun hb=>?_)
  ·refine exr (aV L rfl (zn [(2,_)] [] t1 trivial (V1 ?_)))
   refine Q0 (.tmp rfl) ?_
   have hb:P2 l[i].1 l[i].2=false:=by rw [← e]; simpa using hb
   congr 3
   rw [eq_comm,List.all_eq_false]
   exact ⟨l[i],List.getElem_mem hi2,by simp [hb]⟩
  ·have hb:P2 l[i].1 l[i].2=true:=by rw [← e]; simpa using hb
   refine U1 (xq ?_)
   refine y3 (sw (K3 L (w64 oM oM)) t2 t0 (mV L rfl (O1 ?_)))
   exact ⟨i+1,⟨by omega,G0p hi2 hi.2 hb⟩,by omega,E3 ⟨oR,rfl,rfl,trivial⟩ trivial⟩
 ·have hc:=df hc
  refine L2 (xq ?_)
  refine exr (aV L rfl (zn [(2,_)] [] t1 trivial (V1 ?_)))
  refine Q0 (.tmp rfl) ?_
  have e:l.take i=l:=C0 oM
  have:=hi.2; rw [e] at this; rw [this]
theorem D9 (neg:Bool)(n:Int)(h0:0≤n)(h1:n<18446744073709551616):Y2 E 129 [.a (.bool neg),uZ n] (pZ (sg neg n)):=by
 refine j2 (xs:=[pZ (sg neg n)]) Tryz.func129 rfl Tryz.ntmps129 Tryz.results129 sM fun F hG hX0 hnt hdf P0=>?_
 obtain ⟨L,hX,hN⟩:=pro hnt hX0 hG
 refine exr (swb (T3 (k:=4) (n:=2) zv45 (.cons rfl (.cons rfl .nil)) rfl (P0 _ rfl) L) t0 t0 ⟨rfl,rfl⟩ (zn [(0,_),(1,_),(4,_)] [(4,_)] t3 t1 (exr (mV L rfl (mV L rfl (sw (y4 un127 un119 L j8) t1 t0 (mV L rfl (sw (v9 L dC (d0r (c:=4294967296) rF dC)) t2 t0 ?_))))))))
 refine sw (y4 un127 un119 L j8) t1 t0 (sw (F4 (vs:=[_,_]) un43 ti119 rfl rfl dC dC rfl (M2 (.cons rfl .nil) rfl) rfl (.cons rfl (.atom rfl) rfl pu1 (.cons rfl (.atom rfl) rfl (.skip pu1) .nil)) (.cons (.cons .nil)) L) t2 t0 (cK hG hX cl131 hN (n7 neg [n % 4294967296,n / 4294967296 % 4294967296] sM (by simp [Wd]; omega)) L t2 ?_))
 refine sb (U2 sz45 rF pa2 rfl pu2) t2 t1 ?_
 refine zn [(4,_)] [(4,_)] t1 t1 (V1 ?_)
 refine Q0 (.agg rfl rfl rfl ag45 sz45 (.cons (.cons .nil))) ?_
 have:val [n % 4294967296,n / 4294967296 % 4294967296]=n:=by simp only [val]; omega
 rw [this]
theorem M0n (n:Int)(h0 : -9223372036854775808≤n)(h1:n<9223372036854775808):Y2 E 101 [vZ n] (pZ n):=by
 refine j2 (xs:=[pZ n]) Tryz.func101 rfl Tryz.ntmps101 Tryz.results101 sM fun F hG hX0 hnt hdf P0=>?_
 obtain ⟨L,hX,hN⟩:=pro hnt hX0 hG
 refine exr (swb (T3 (k:=2) (n:=2) zv45 (.cons rfl (.cons rfl .nil)) rfl (P0 _ rfl) L) t0 t0 ⟨rfl,rfl⟩ (zn [(0,_),(2,_)] [(2,_)] t2 t1 (R1 (exr (mV L rfl (sw (d4 L) t2 t0 (zn [(0,_),(2,_),(4,_)] [(2,_)] t3 t1 ?_)))))))
 refine D2 rfl (fun hc=>?_) (fun hc=>?_)
 ·have hc:=dt hc
  refine exr (mV L rfl (sw (y4 un3 un127 L D0h) t1 t0 (sw (j1n L (show _ = -n by rw [D0h]; omega)) t1 t0 ?_)))
  refine cK hG hX cl129 hN (D9 true (-n) oM oM) L t2 (sb (U2 sz45 rF pa2 rfl pu2) t2 t1 ?_)
  refine zn [(2,_)] [(2,_)] t1 t1 (V1 ?_)
  refine Q0 (.agg rfl rfl rfl ag45 sz45 (.cons (.cons .nil))) ?_
  simp [sg]
 ·have hc:=df hc
  refine U1 (xq ?_)
  refine exr (mV L rfl (sw (y4 un3 un127 L (J4 oM oM)) t1 t0 (cK hG hX cl129 hN (D9 false n oM oM) L t2 (sb (U2 sz45 rF pa2 rfl pu2) t2 t1 ?_))))
  refine zn [(2,_)] [(2,_)] t1 t1 (V1 ?_)
  refine Q0 (.agg rfl rfl rfl ag45 sz45 (.cons (.cons .nil))) ?_
  simp [sg]
theorem blb (j:Nat)(h:j<256):(((UInt8.ofNat (bl j)).toNat:Nat):Int)=bl j:=by
 have:bl j≤8:=g0h.2 oM
 simp
 omega
theorem c8 {j:Nat}(h:j<256):IntKind.i64.wrap (((UInt8.ofNat (bl j)).toNat:Nat):Int)=bl j:=by
 rw [blb j h]; have:bl j≤8:=g0h.2 (by omega); exact w64 oM oM
theorem bl8 {x:Int}(h:x<256)(h0:0≤x):bl x.toNat≤8:=g0h.2 oM
theorem p0f {x:Int}(k:Nat){c:Int}(hc:c=((2 ^ k:Nat):Int))(h:c≤x):bl x.toNat=k+bl (x / c).toNat:=by
 subst hc
 have:(x / ((2 ^ k:Nat):Int)).toNat=x.toNat / 2 ^ k:=by
  obtain ⟨y,rfl⟩:=Int.eq_ofNat_of_zero_le (show 0≤x by have:=Nat.pow_pos (n:=k) (show 0<2 by decide); omega)
  rw [← Int.natCast_ediv,Int.toNat_natCast,Int.toNat_natCast]
 rw [this,Y0v (k:=k) oM]
theorem d1a (x:Int)(h0:0≤x)(h1:x<4294967296):Y2 E 169 [.a (.int .u32 x)] (vZ (bl x.toNat)):=by
 refine j2 (xs:=[vZ (bl x.toNat)]) Tryz.func169 rfl Tryz.ntmps169 Tryz.results169 sM fun F hG hX0 hnt hdf P0=>?_
 obtain ⟨L,hX,hN⟩:=pro hnt hX0 hG
 refine exr (aV L rfl (zn [(0,_),(2,_)] [] t2 trivial (R1 (exr (mV L rfl (sw (b0p L) t2 t0 (zn [(0,_),(2,_),(4,_)] [] t3 trivial ?_)))))))
 refine D2 rfl (fun hc=>?_) (fun hc=>?_)
 ·have hc:=dt hc
  refine exr (mV L rfl (sw (v9 L dC (d0r (c:=65536) rF dC)) t2 t0 ?_))
  refine aV L rfl (zn [(0,_)] [] t1 trivial (y3 (aV L rfl (O1 (R1 (exr (mV L rfl (sw (b0p L) t2 t0 (zn [(0,_),(2,_),(8,_)] [] t3 trivial ?_)))))))))
  refine D2 rfl (fun hd=>?_) (fun hd=>?_)
  ·have hd:=dt hd
   have h8:=bl8 (x:=x / 65536 / 256) oM oM
   refine exr (mV L rfl (sw (v9 L dC (d0r (c:=256) rF dC)) t2 t0 ?_))
   refine aV L rfl (zn [(0,_),(2,_)] [] t2 trivial (y3 (mV L rfl (sw (K3 L (w64 oM oM)) t2 t0 (aV L rfl (O1 (exr (mV L rfl (mV L rfl (sw (y4 un119 un5 L (fu8 oM oM)) t1 t0 (sw (D1x un9 oM (f1v (n:=256) (f:=fun j=>UInt8.ofNat (bl j)) dC oM oM) L) t2 t0 ?_)))))))))))
   refine sw (y4 un5 un3 L (c8 (j:=(x / 65536 / 256).toNat) oM)) t1 t0 (sw (K3 L (w64 oM oM)) t2 t0 (aV L rfl (zn [(2,_)] [] t1 trivial (V1 ?_))))
   refine Q0 (.tmp rfl) ?_
   exact K0r (by rw [p0f (x:=x) 16 (c:=65536) rfl oM,p0f (x:=x / 65536) 8 (c:=256) rfl oM]; push_cast; omega)
  ·have hd:=df hd
   have h8:=bl8 (x:=x / 65536) oM oM
   refine U1 (xq ?_)
   refine exr (mV L rfl (mV L rfl (sw (y4 un119 un5 L (fu8 oM oM)) t1 t0 (sw (D1x un9 oM (f1v (n:=256) (f:=fun j=>UInt8.ofNat (bl j)) dC oM oM) L) t2 t0 ?_))))
   refine sw (y4 un5 un3 L (c8 (j:=(x / 65536).toNat) oM)) t1 t0 (sw (K3 L (w64 oM oM)) t2 t0 (aV L rfl (zn [(2,_)] [] t1 trivial (V1 ?_))))
   refine Q0 (.tmp rfl) ?_
   exact K0r (by rw [p0f (x:=x) 16 (c:=65536) rfl oM]; push_cast; rfl)
 ·have hc:=df hc
  refine U1 (xq ?_)
  refine R1 (exr (mV L rfl (sw (b0p L) t2 t0 (zn [(0,_),(2,_),(8,_)] [] t3 trivial ?_))))
  refine D2 rfl (fun hd=>?_) (fun hd=>?_)
  ·have hd:=dt hd
   have h8:=bl8 (x:=x / 256) oM oM
   refine exr (mV L rfl (sw (v9 L dC (d0r (c:=256) rF dC)) t2 t0 ?_))
   refine aV L rfl (zn [(0,_),(2,_)] [] t2 trivial (y3 (mV L rfl (sw (K3 L (w64 oM oM)) t2 t0 (aV L rfl (O1 (exr (mV L rfl (mV L rfl (sw (y4 un119 un5 L (fu8 oM oM)) t1 t0 (sw (D1x un9 oM (f1v (n:=256) (f:=fun j=>UInt8.ofNat (bl j)) dC oM oM) L) t2 t0 ?_)))))))))))
   refine sw (y4 un5 un3 L (c8 (j:=(x / 256).toNat) oM)) t1 t0 (sw (K3 L (w64 oM oM)) t2 t0 (aV L rfl (zn [(2,_)] [] t1 trivial (V1 ?_))))
   refine Q0 (.tmp rfl) ?_
   exact K0r (by rw [p0f (x:=x) 8 (c:=256) rfl oM]; push_cast; omega)
  ·have hd:=df hd
   have h8:=bl8 (x:=x) oM oM
   refine U1 (xq ?_)
   refine exr (mV L rfl (mV L rfl (sw (y4 un119 un5 L (fu8 oM oM)) t1 t0 (sw (D1x un9 oM (f1v (n:=256) (f:=fun j=>UInt8.ofNat (bl j)) dC oM oM) L) t2 t0 ?_))))
   refine sw (y4 un5 un3 L (c8 (j:=x.toNat) oM)) t1 t0 (sw (K3 L (w64 oM oM)) t2 t0 (aV L rfl (zn [(2,_)] [] t1 trivial (V1 ?_))))
   refine Q0 (.tmp rfl) ?_
   exact K0r oM
theorem j1b (neg:Bool)(ws:List Int)(hl:ws.length<10000000000000)(h:Wd ws):Y2 E 134 [pI neg ws] (vZ (if P2 neg ws=true then (sg neg (val ws)).sign else 0)):=by
 refine j2 (xs:=[vZ (if P2 neg ws=true then (sg neg (val ws)).sign else 0)]) Tryz.func134 rfl Tryz.ntmps134 Tryz.results134 sM fun F hG hX0 hnt hdf P0=>?_
 obtain ⟨L,hX,hN⟩:=pro hnt hX0 hG
 refine exr (swb (R3 (k:=1) (n:=2) pa2 rfl rfl (P0 _ rfl) L) t1 t0 ⟨rfl,rfl⟩ (aV L rfl (zn [(1,_)] [(1,_)] t1 t1 (R1 (X1 ?_)))))
 refine exm (sl:=[(3,vb (!(P2 neg ws && !decide (ws.length=0))))]) (sl0:=[(1,_)]) (hb:=[]) (hb0:=[(1,_)]) t1 t1 ?_ ?_
 ·by_cases hc:P2 neg ws=true
  ·refine lp2 ag45 sz45 L rfl rfl (cK hG hX cl130 hN (E9 neg ws hl) L t1 (sw (P3 L) t1 t0 (mV L rfl (swg (g:=7) rfl (by simp [hc]) (Z1 un45 rfl sz43 dC rX L) rfl t1 t1 ?_))))
   refine swg (g:=7) rfl (by simp [hc]) (Y1 ag43 rF rF L) rfl t1 t1 ?_
   refine swg (g:=7) rfl (by simp [hc]) (R2 un43 L) rfl t1 t0 ?_
   refine swg (g:=7) rfl (by simp [hc]) (c_e L) rfl t2 t0 ?_
   refine sw (V3 (by simp [hc]) L) t2 t0 ?_
   refine aV L rfl ?_
   exact O1 ⟨⟨ob rfl (by simp [hc]),rfl,trivial⟩,t1⟩
  ·refine lp2 ag45 sz45 L rfl rfl (cK hG hX cl130 hN (E9 neg ws hl) L t1 (sw (P3 L) t1 t0 (mV L rfl (swn (g:=7) rfl (by simp [hc]) L rfl ?_))))
   refine swn (g:=7) rfl (by simp [hc]) L rfl ?_
   refine swn (g:=7) rfl (by simp [hc]) L rfl ?_
   refine swn (g:=7) rfl (by simp [hc]) L rfl ?_
   refine sw (m4 (by simp [hc]) L) t2 t0 ?_
   refine aV L rfl ?_
   exact O1 ⟨⟨ob rfl (by simp [hc]),rfl,trivial⟩,t1⟩
 refine D2 rfl (fun hd=>?_) (fun hd=>?_)
 ·refine exr (aV L rfl (zn [(2,_)] [] t1 trivial (V1 ?_)))
  refine Q0 (.tmp rfl) ?_
  have hd:P2 neg ws=true→ws=[]:=by intro hc; simpa [hc] using hd
  split
  ·rename_i hc; rw [hd hc]; cases neg <;> simp [sg,val]
  ·rfl
 ·have hd:P2 neg ws=true∧¬ ws=[]:=by simpa using hd
  have hv:=G2 h
  have hv2:val ws≠0:=fun e=>hd.2 (B7 h (P5 hd.1).1 e)
  refine exr (sw (Z1 un45 rfl sz4 dC rX L) t1 t1 ?_)
  refine sw (Y1 ag4 rF rF L) t1 t1 ?_
  refine aV L rfl (zn [(13,_)] [] t1 trivial ?_)
  refine D2 rfl (fun hn=>?_) (fun hn=>?_)
  ·refine exr (aV L rfl (zn [(2,_)] [] t1 trivial (V1 ?_)))
   refine Q0 (.tmp rfl) ?_
   rw [if_pos hd.1,hn,sg,if_pos rfl,Int.sign_eq_neg_one_of_neg oM]
  ·refine U1 (xq ?_)
   refine exr (aV L rfl (zn [(2,_)] [] t1 trivial (V1 ?_)))
   refine Q0 (.tmp rfl) ?_
   rw [if_pos hd.1,hn,sg]
   simp only [Bool.false_eq_true,if_false]
   rw [Int.sign_eq_one_of_pos oM]
theorem d0m (ws vs:List Int)(hl:ws.length<10000000000000)(hl2:vs.length<10000000000000)(h:Wd ws)(h2:Wd vs)(ht:Tr ws)(ht2:Tr vs):Y2 E 141 [pW ws,pW vs] (vZ (X7 (val ws) (val vs))):=by
 refine j2 (xs:=[vZ (X7 (val ws) (val vs))]) Tryz.func141 rfl Tryz.ntmps141 Tryz.results141 sM fun F hG hX0 hnt hdf P0=>?_
 obtain ⟨L,hX,hN⟩:=pro hnt hX0 hG
 refine exr (aV L rfl (zn [(0,_),(1,_)] [] t2 trivial (R1 (exr (mV L rfl (sw (R2 un43 L) t1 t0 (mV L rfl (sw (R2 un43 L) t1 t0 (sw (c_n L) t2 t0 (zn [(0,_),(1,_),(10,_)] [] t3 trivial ?_))))))))))
 refine D2 rfl (fun hc=>?_) (fun hc=>?_)
 ·have hc:=ndt hc
  refine R1 (exr (mV L rfl (sw (R2 un43 L) t1 t0 (mV L rfl (sw (R2 un43 L) t1 t0 (sw (d4 L) t2 t0 (zn [(15,_)] [] t1 trivial ?_)))))))
  refine D2 rfl (fun hd=>?_) (fun hd=>?_)
  ·have hd:=dt hd
   refine exr (aV L rfl (zn [(4,_)] [] t1 trivial (V1 ?_)))
   refine Q0 (.tmp rfl) ?_
   rw [p0x h h2 ht ht2 oM,if_pos oM]
  ·have hd:=df hd
   refine U1 (xq ?_)
   refine exr (aV L rfl (zn [(4,_)] [] t1 trivial (V1 ?_)))
   refine Q0 (.tmp rfl) ?_
   rw [p0x h h2 ht ht2 oM,if_neg oM]
 ·have hc:=ndf hc
  refine U1 (xq ?_)
  refine R1 (exr (mV L rfl (sw (R2 un43 L) t1 t0 (sw (q6 L (w64 oM oM)) t2 t0 (aV L rfl (zn [(0,_),(1,_),(5,_)] [] t3 trivial (X1 ?_)))))))
  refine exl (α:=Nat) (fun n=>[(5,vi ((n:Int) - 1))]) (fun n=>[]) (fun n=>n≤ws.length∧ws.drop n=vs.drop n) (fun n=>n) (ws.length) (sl:=[(0,_),(1,_)]) (hb:=[]) ?_ ⟨oR,rfl,rfl,trivial⟩ t0 ?_
  ·exact ⟨Nat.le_refl _,by rw [List.drop_length,List.drop_of_length_le oM]⟩
  intro n hn
  refine R1 (exr (mV L rfl (sw (b0p L) t2 t0 (zn [(0,_),(1,_),(5,_),(20,_)] [] t4 trivial ?_))))
  refine D2 rfl (fun hd=>?_) (fun hd=>?_)
  ·have hd:=dt hd
   have hs:n - 1+1=n:=by omega
   refine U1 (xq ?_)
   refine R1 (X1 (exd rF ?_))
   refine mV L rfl (mV L rfl (sw (ixJ un43 sz119 (j:=n - 1) rO oM sM L) t2 t0 ?_))
   refine sw (v4 ag119 (by first | exact Z5 oM | rfl) L) t1 t0 ?_
   refine mV L rfl (mV L rfl (sw (ixJ un43 sz119 (j:=n - 1) rO oM sM L) t2 t0 ?_))
   refine sw (v4 ag119 (by first | exact Z5 oM | rfl) L) t1 t0 ?_
   refine sw (c_n L) t2 t0 ?_
   refine O1 ⟨B5 [⟨[0],[],[23],[]⟩,⟨[5],[],[24],[]⟩,⟨[23,24],[],[25],[]⟩,⟨[25],[],[26],[]⟩,⟨[1],[],[27],[]⟩,⟨[5],[],[28],[]⟩,⟨[27,28],[],[29],[]⟩,⟨[29],[],[30],[]⟩,⟨[26,30],[],[31],[]⟩] rF rF dC,[(0,_),(1,_),(5,_),(31,_)],[],t4,trivial,?_⟩
   refine D2 rfl (fun he=>?_) (fun he=>?_)
   ·have he:=ndt he
    refine R1 (exd rF ?_)
    refine mV L rfl (mV L rfl (sw (ixJ un43 sz119 (j:=n - 1) rO oM sM L) t2 t0 ?_))
    refine sw (v4 ag119 (by first | exact Z5 oM | rfl) L) t1 t0 ?_
    refine mV L rfl (mV L rfl (sw (ixJ un43 sz119 (j:=n - 1) rO oM sM L) t2 t0 ?_))
    refine sw (v4 ag119 (by first | exact Z5 oM | rfl) L) t1 t0 ?_
    refine sw (d4 L) t2 t0 ?_
    refine O1 ⟨B5 [⟨[0],[],[32],[]⟩,⟨[5],[],[33],[]⟩,⟨[32,33],[],[34],[]⟩,⟨[34],[],[35],[]⟩,⟨[1],[],[36],[]⟩,⟨[5],[],[37],[]⟩,⟨[36,37],[],[38],[]⟩,⟨[38],[],[39],[]⟩,⟨[35,39],[],[40],[]⟩] rF rF dC,[(40,_)],[],t1,trivial,?_⟩
    refine D2 rfl (fun hf=>?_) (fun hf=>?_)
    ·have hf:=dt hf
     refine exr (aV L rfl (zn [(4,_)] [] t1 trivial (V1 ?_)))
     refine Q0 (.tmp rfl) ?_
     rw [k0d h h2 oM (i:=n - 1) oM (by rw [hs]; exact hn.2) he,if_pos hf]
    ·have hf:=df hf
     refine U1 (xq ?_)
     refine exr (aV L rfl (zn [(4,_)] [] t1 trivial (V1 ?_)))
     refine Q0 (.tmp rfl) ?_
     rw [k0d h h2 oM (i:=n - 1) oM (by rw [hs]; exact hn.2) he,if_neg hf]
   ·have he:=ndf he
    refine U1 (xq ?_)
    refine y3 (mV L rfl (sw (q6 L (w64 oM oM)) t2 t0 (aV L rfl (O1 ?_))))
    exact ⟨n - 1,⟨by omega,p0q oM oM (by rw [hs]; exact hn.2) he⟩,by omega,E3 ⟨oR,rfl,rfl,trivial⟩ trivial⟩
  ·have hd:=df hd
   have h3:n=0:=by omega
   subst h3
   refine L2 (xq ?_)
   refine exr (aV L rfl (zn [(4,_)] [] t1 trivial (V1 ?_)))
   refine Q0 (.tmp rfl) ?_
   have e:ws=vs:=by simpa using hn.2
   rw [e,J0a]
theorem F1h {x:Int}(h:x<4294967296):bl x.toNat≤32:=g0h.2 oM
theorem B1m (neg:Bool)(ws:List Int)(hl:ws.length<10000000000000)(h:Wd ws):Y2 E 102 [pI neg ws] (pZ (if P2 neg ws=true then -(sg neg (val ws)) else 0)):=by
 refine j2 (xs:=[pZ (if P2 neg ws=true then -(sg neg (val ws)) else 0)]) Tryz.func102 rfl Tryz.ntmps102 Tryz.results102 sM fun F hG hX0 hnt hdf P0=>?_
 obtain ⟨L,hX,hN⟩:=pro hnt hX0 hG
 refine exr (swb (R3 (k:=1) (n:=2) pa2 rfl rfl (P0 _ rfl) L) t1 t0 ⟨rfl,rfl⟩ (swb (T3 (k:=2) (n:=2) zv45 (.cons rfl (.cons rfl .nil)) rfl (P0 _ rfl) L) t0 t0 ⟨rfl,rfl⟩ (zn [(1,_),(2,_)] [(1,_),(2,_)] t2 t2 (R1 (exr (lp2 ag45 sz45 L rfl rfl (cK hG hX cl130 hN (E9 neg ws hl) L t1 (sw (P3 L) t1 t0 (zn [(1,_),(2,_),(5,_)] [(1,_),(2,_)] t3 t2 ?_)))))))))
 refine D2 rfl (fun hc=>?_) (fun hc=>?_)
 ·have hc:P2 neg ws=false:=by simpa using hc
  refine exr (sw (Y7 (E6 (vs:=[]) un45 zv45 (.cons rfl (.cons rfl .nil)) ((y2.cons sz4 (y2.cons sz43 y2.nil))).to rfl .nil (.cons (.cons .nil)) L) (.agg (.cons .same (.cons .nil .nil)))) t0 t0 (sb (U2 sz45 rF pa2 rfl pu2) t2 t1 ?_))
  refine zn [(2,_)] [(2,_)] t1 t1 (V1 ?_)
  refine Q0 (.agg rfl rfl rfl ag45 sz45 (.cons (.cons .nil))) ?_
  simp [hc,pZ,X4]; rfl
 ·have hc:P2 neg ws=true:=by simpa using hc
  refine U1 (xq ?_)
  refine exr (sw (Z1 un45 rfl sz4 dC rX L) t1 t1 ?_)
  refine sw (Y1 ag4 rF rF L) t1 t1 ?_
  refine sw (P3 L) t1 t0 (sw (Z1 un45 rfl sz43 dC rX L) t1 t1 ?_)
  refine sw (Y1 ag43 rF rF L) t1 t1 ?_
  refine cK hG hX cl131 hN (n7 (!neg) ws hl h) L t2 (sb (U2 sz45 rF pa2 rfl pu2) t2 t1 ?_)
  refine zn [(2,_)] [(2,_)] t1 t1 (V1 ?_)
  refine Q0 (.agg rfl rfl rfl ag45 sz45 (.cons (.cons .nil))) ?_
  rw [if_pos hc]; cases neg <;> simp [sg]
theorem B0b (neg:Bool)(ws:List Int)(hl:ws.length<10000000000000)(h:Wd ws):Y2 E 149 [pI neg ws] (pZ (if P2 neg ws=true then ((sg neg (val ws)).natAbs:Int) else 0)):=by
 refine j2 (xs:=[pZ (if P2 neg ws=true then ((sg neg (val ws)).natAbs:Int) else 0)]) Tryz.func149 rfl Tryz.ntmps149 Tryz.results149 sM fun F hG hX0 hnt hdf P0=>?_
 obtain ⟨L,hX,hN⟩:=pro hnt hX0 hG
 refine exr (swb (R3 (k:=1) (n:=2) pa2 rfl rfl (P0 _ rfl) L) t1 t0 ⟨rfl,rfl⟩ (swb (T3 (k:=2) (n:=2) zv45 (.cons rfl (.cons rfl .nil)) rfl (P0 _ rfl) L) t0 t0 ⟨rfl,rfl⟩ (zn [(1,_),(2,_)] [(1,_),(2,_)] t2 t2 (R1 (exr (lp2 ag45 sz45 L rfl rfl (cK hG hX cl130 hN (E9 neg ws hl) L t1 (sw (P3 L) t1 t0 (zn [(1,_),(2,_),(5,_)] [(1,_),(2,_)] t3 t2 ?_)))))))))
 refine D2 rfl (fun hc=>?_) (fun hc=>?_)
 ·have hc:P2 neg ws=false:=by simpa using hc
  refine exr (sw (Y7 (E6 (vs:=[]) un45 zv45 (.cons rfl (.cons rfl .nil)) ((y2.cons sz4 (y2.cons sz43 y2.nil))).to rfl .nil (.cons (.cons .nil)) L) (.agg (.cons .same (.cons .nil .nil)))) t0 t0 (sb (U2 sz45 rF pa2 rfl pu2) t2 t1 ?_))
  refine zn [(2,_)] [(2,_)] t1 t1 (V1 ?_)
  refine Q0 (.agg rfl rfl rfl ag45 sz45 (.cons (.cons .nil))) ?_
  simp [hc,pZ,X4]; rfl
 ·have hc:P2 neg ws=true:=by simpa using hc
  refine U1 (xq ?_)
  refine exr (sw (Z1 un45 rfl sz43 dC rX L) t1 t1 ?_)
  refine sw (Y1 ag43 rF rF L) t1 t1 ?_
  refine cK hG hX cl131 hN (n7 false ws hl h) L t2 (sb (U2 sz45 rF pa2 rfl pu2) t2 t1 ?_)
  refine zn [(2,_)] [(2,_)] t1 t1 (V1 ?_)
  refine Q0 (.agg rfl rfl rfl ag45 sz45 (.cons (.cons .nil))) ?_
  have e:((sg neg (val ws)).natAbs:Int)=sg false (val ws):=by have:=G2 h; cases neg <;> simp [sg] <;> omega
  rw [if_pos hc,e]
theorem q1k (m n:Bool)(ws vs:List Int)(hl:ws.length<10000000000000)(hl2:vs.length<10000000000000)(h:Wd ws)(h2:Wd vs):Y2 E 114 [pI m ws,pI n vs] (vZ (if P2 m ws=true∧P2 n vs=true then X7 (sg m (val ws)) (sg n (val vs)) else 0)):=by
 refine j2 (xs:=[vZ (if P2 m ws=true∧P2 n vs=true then X7 (sg m (val ws)) (sg n (val vs)) else 0)]) Tryz.func114 rfl Tryz.ntmps114 Tryz.results114 sM fun F hG hX0 hnt hdf P0=>?_
 obtain ⟨L,hX,hN⟩:=pro hnt hX0 hG
 refine exr (swb (R3 (k:=2) (n:=2) pa2 rfl rfl (P0 _ rfl) L) t1 t0 ⟨rfl,rfl⟩ (swb (R3 (k:=3) (n:=2) pa2 rfl rfl (P0 _ rfl) L) t1 t0 ⟨rfl,rfl⟩ (aV L rfl (zn [(2,_),(3,_)] [(2,_),(3,_)] t2 t2 (R1 (exr (lp2 ag45 sz45 L rfl rfl (lp2 ag45 sz45 L rfl rfl (sw (F4 (vs:=[_,_]) un139 ti45 rfl rfl dC dC rfl (M2 (.cons rfl (.cons rfl .nil)) rfl) rfl (.cons rfl pa2 rfl pu2 (.cons rfl pa2 rfl (.skip (.skip pu2)) .nil)) (.cons (.cons (.cons (.cons .nil)))) L) t2 t0 (cK hG hX cl138 hN (f0g [(m,ws),(n,vs)] sM sO) L t1 ?_))))))))))
 refine sw (P3 L) t1 t0 (zn [(2,_),(3,_),(10,_)] [(2,_),(3,_)] t3 t2 ?_)
 refine D2 rfl (fun hc=>?_) (fun hc=>?_)
 ·have hc:¬ (P2 m ws=true∧P2 n vs=true):=by rintro ⟨h1,h2⟩; simp [h1,h2] at hc
  refine exr (aV L rfl (zn [(4,_)] [] t1 trivial (V1 ?_)))
  refine Q0 (.tmp rfl) ?_
  rw [if_neg hc]
 ·have hc:P2 m ws=true∧P2 n vs=true:=by simpa using hc
  have e:=K1d h h2 hc.1 hc.2
  refine U1 (xq ?_)
  refine R1 (exr (sw (Z1 un45 rfl sz4 dC rX L) t1 t1 ?_))
  refine sw (Y1 ag4 rF rF L) t1 t1 ?_
  refine sw (Z1 un45 rfl sz4 dC rX L) t1 t1 ?_
  refine sw (Y1 ag4 rF rF L) t1 t1 ?_
  refine sw (v0h un4 L) t2 t0 (zn [(2,_),(3,_),(15,_)] [(2,_),(3,_)] t3 t2 ?_)
  refine D2 rfl (fun hd=>?_) (fun hd=>?_)
  ·have hd:m≠n:=by simpa using hd
   refine R1 (exr (sw (Z1 un45 rfl sz4 dC rX L) t1 t1 ?_))
   refine sw (Y1 ag4 rF rF L) t1 t1 ?_
   refine zn [(17,_)] [] t1 trivial ?_
   refine D2 rfl (fun hm=>?_) (fun hm=>?_)
   ·refine exr (aV L rfl (zn [(4,_)] [] t1 trivial (V1 ?_)))
    refine Q0 (.tmp rfl) ?_
    rw [if_pos hc,e,if_pos hd,if_pos hm]
   ·refine U1 (xq ?_)
    refine exr (aV L rfl (zn [(4,_)] [] t1 trivial (V1 ?_)))
    refine Q0 (.tmp rfl) ?_
    rw [if_pos hc,e,if_pos hd,if_neg (by simp [hm])]
  ·have hd:¬ m≠n:=by simpa using hd
   have hb : -1≤X7 (val ws) (val vs)∧X7 (val ws) (val vs)≤1:=by unfold X7; split <;> (try split) <;> omega
   refine U1 (xq ?_)
   refine exr (sw (Z1 un45 rfl sz43 dC rX L) t1 t1 ?_)
   refine sw (Y1 ag43 rF rF L) t1 t1 ?_
   refine sw (Z1 un45 rfl sz43 dC rX L) t1 t1 ?_
   refine sw (Y1 ag43 rF rF L) t1 t1 ?_
   refine cK hG hX cl141 hN (d0m ws vs hl hl2 h h2 (P5 hc.1).1 (P5 hc.2).1) L t2 (aV L rfl (zn [(2,_),(5,_)] [(2,_)] t2 t1 (R1 (exr (sw (Z1 un45 rfl sz4 dC rX L) t1 t1 ?_)))))
   refine sw (Y1 ag4 rF rF L) t1 t1 ?_
   refine zn [(5,_),(24,_)] [] t2 trivial ?_
   refine D2 rfl (fun hm=>?_) (fun hm=>?_)
   ·refine exr (mV L rfl (sw (j1n L (w64 oM oM)) t1 t0 (aV L rfl (zn [(4,_)] [] t1 trivial (V1 ?_)))))
    refine Q0 (.tmp rfl) ?_
    exact K0r (by rw [if_pos hc,e,if_neg hd,if_pos hm]; omega)
   ·refine U1 (xq ?_)
    refine exr (mV L rfl (aV L rfl (zn [(4,_)] [] t1 trivial (V1 ?_))))
    refine Q0 (.tmp rfl) ?_
    rw [if_pos hc,e,if_neg hd,if_neg (by simp [hm])]
theorem J5 (neg:Bool)(ws:List Int)(hl:ws.length<10000000000000):Y2 E 77 [pI neg ws] (bZ (P2 neg ws)):=by
 refine j2 (xs:=[bZ (P2 neg ws)]) Tryz.func77 rfl Tryz.ntmps77 Tryz.results77 sM fun F hG hX0 hnt hdf P0=>?_
 obtain ⟨L,hX,hN⟩:=pro hnt hX0 hG
 refine exr (swb (R3 (k:=1) (n:=2) pa2 rfl rfl (P0 _ rfl) L) t1 t0 ⟨rfl,rfl⟩ (aV L rfl (zn [(1,_)] [(1,_)] t1 t1 (exr (sw (Z1 un45 rfl sz43 dC rX L) t1 t1 ?_)))))
 refine sw (Y1 ag43 rF rF L) t1 t1 ?_
 refine sw (R2 un43 L) t1 t0 (aV L rfl (zn [(1,_),(3,_)] [(1,_)] t2 t1 (R1 (exr (mV L rfl (sw (c_e L) t2 t0 (zn [(1,_),(3,_),(8,_)] [(1,_)] t3 t1 ?_)))))))
 refine D2 rfl (fun h0=>?_) (fun h0=>?_)
 ·refine exr (sw (Z1 un45 rfl sz4 dC rX L) t1 t1 ?_)
  refine sw (Y1 ag4 rF rF L) t1 t1 ?_
  refine sw (P3 L) t1 t0 (aV L rfl (zn [(2,_)] [] t1 trivial (V1 ?_)))
  refine Q0 (.tmp rfl) ?_
  have h0:=dt h0; have h1:ws.length=0:=by omega
  simp only [P2,h1,if_true]
 ·have h0:=df h0
  refine U1 (xq ?_)
  refine exr (sw (Z1 un45 rfl sz43 dC rX L) t1 t1 ?_)
  refine sw (Y1 ag43 rF rF L) t1 t1 ?_
  refine mV L rfl (sw (q6 L (w64 oM oM)) t2 t0 (sw (ixJ un43 sz119 (j:=ws.length - 1) rO oM sM L) t2 t0 ?_))
  refine sw (v4 ag119 (by first | exact Z5 oM | rfl) L) t1 t0 ?_
  refine sw (c_n L) t2 t0 (aV L rfl (zn [(2,_)] [] t1 trivial (V1 ?_)))
  refine Q0 (.tmp rfl) ?_
  have h1:ws.length≠0:=by omega
  simp only [P2,h1,if_false]
theorem d1h (m n:Bool)(ws vs:List Int)(hl:ws.length<10000000000000)(hl2:vs.length<10000000000000):Y2 E 79 [pI m ws,pI n vs] (bZ (decide (m=n∧ws=vs))):=by
 refine j2 (xs:=[bZ (decide (m=n∧ws=vs))]) Tryz.func79 rfl Tryz.ntmps79 Tryz.results79 sM fun F hG hX0 hnt hdf P0=>?_
 obtain ⟨L,hX,hN⟩:=pro hnt hX0 hG
 refine exr (swb (R3 (k:=2) (n:=2) pa2 rfl rfl (P0 _ rfl) L) t1 t0 ⟨rfl,rfl⟩ (swb (R3 (k:=3) (n:=2) pa2 rfl rfl (P0 _ rfl) L) t1 t0 ⟨rfl,rfl⟩ (aV L rfl (zn [(2,_),(3,_)] [(2,_),(3,_)] t2 t2 (R1 ?_)))))
 refine exm (sl:=[(19,vb (!decide (m=n∧ws.length=vs.length)))]) (sl0:=[(2,_),(3,_)]) (hb:=[]) (hb0:=[(2,_),(3,_)]) t2 t2 ?_ ?_
 ·by_cases hc:m=n
  ·refine sw (Z1 un45 rfl sz4 dC rX L) t1 t1 ?_
   refine sw (Y1 ag4 rF rF L) t1 t1 ?_
   refine sw (Z1 un45 rfl sz4 dC rX L) t1 t1 ?_
   refine sw (Y1 ag4 rF rF L) t1 t1 ?_
   refine sw (v0h un4 L) t2 t0 (mV L rfl (swg (g:=11) rfl (by simp [hc]) (Z1 un45 rfl sz43 dC rX L) rfl t1 t1 ?_))
   refine swg (g:=11) rfl (by simp [hc]) (Y1 ag43 rF rF L) rfl t1 t1 ?_
   refine swg (g:=11) rfl (by simp [hc]) (R2 un43 L) rfl t1 t0 ?_
   refine swg (g:=11) rfl (by simp [hc]) (Z1 un45 rfl sz43 dC rX L) rfl t1 t1 ?_
   refine swg (g:=11) rfl (by simp [hc]) (Y1 ag43 rF rF L) rfl t1 t1 ?_
   refine swg (g:=11) rfl (by simp [hc]) (R2 un43 L) rfl t1 t0 ?_
   refine swg (g:=11) rfl (by simp [hc]) (c_n L) rfl t2 t0 ?_
   refine sw (V3 (by simp [hc]) L) t2 t0 ?_
   exact O1 ⟨⟨ob rfl (by simp [hc]; omega),rfl,rfl,trivial⟩,t2⟩
  ·refine sw (Z1 un45 rfl sz4 dC rX L) t1 t1 ?_
   refine sw (Y1 ag4 rF rF L) t1 t1 ?_
   refine sw (Z1 un45 rfl sz4 dC rX L) t1 t1 ?_
   refine sw (Y1 ag4 rF rF L) t1 t1 ?_
   refine sw (v0h un4 L) t2 t0 (mV L rfl (swn (g:=11) rfl (by simpa using hc) L rfl ?_))
   refine swn (g:=11) rfl (by simpa using hc) L rfl ?_
   refine swn (g:=11) rfl (by simpa using hc) L rfl ?_
   refine swn (g:=11) rfl (by simpa using hc) L rfl ?_
   refine swn (g:=11) rfl (by simpa using hc) L rfl ?_
   refine swn (g:=11) rfl (by simpa using hc) L rfl ?_
   refine swn (g:=11) rfl (by simpa using hc) L rfl ?_
   refine sw (m4 (by simpa using hc) L) t2 t0 ?_
   exact O1 ⟨⟨ob rfl (by simp [hc]),rfl,rfl,trivial⟩,t2⟩
 refine D2 rfl (fun hd=>?_) (fun hd=>?_)
 ·have hd:¬ (m=n∧ws.length=vs.length):=by rintro ⟨h1,h2⟩; simp [h1,h2] at hd
  refine exr (aV L rfl (zn [(4,_)] [] t1 trivial (V1 ?_)))
  refine Q0 (.tmp rfl) ?_
  rw [eq_comm]; congr 3; simp only [decide_eq_false_iff_not]; exact fun h=>hd ⟨h.1,by rw [h.2]⟩
 ·have hd:m=n∧ws.length=vs.length:=by simpa using hd
  refine U1 (xq ?_)
  refine R1 (exr (aV L rfl (zn [(2,_),(3,_),(5,_)] [(2,_),(3,_)] t3 t2 (X1 ?_))))
  refine exl (α:=Nat) (fun i=>[(5,vi (i:Int))]) (fun i=>[]) (fun i=>i≤ws.length∧ws.take i=vs.take i) (fun i=>ws.length - i) (0) (sl:=[(2,_),(3,_)]) (hb:=[(2,_),(3,_)]) ?_ ⟨oR,rfl,rfl,trivial⟩ t2 ?_
  ·exact ⟨Nat.zero_le _,rfl⟩
  intro i hi
  refine R1 (exr (mV L rfl (sw (Z1 un45 rfl sz43 dC rX L) t1 t1 ?_)))
  refine sw (Y1 ag43 rF rF L) t1 t1 ?_
  refine sw (R2 un43 L) t1 t0 (sw (d4 L) t2 t0 (zn [(2,_),(3,_),(5,_),(24,_)] [(2,_),(3,_)] t4 t2 ?_))
  refine D2 rfl (fun he=>?_) (fun he=>?_)
  ·have he:=dt he
   refine U1 (xq ?_)
   refine R1 (X1 (exd rF ?_))
   refine sw (Z1 un45 rfl sz43 dC rX L) t1 t1 ?_
   refine sw (Y1 ag43 rF rF L) t1 t1 ?_
   refine mV L rfl (sw (ixJ un43 sz119 (j:=i) rO oM sM L) t2 t0 ?_)
   refine sw (v4 ag119 (by first | exact Z5 oM | rfl) L) t1 t0 ?_
   refine sw (Z1 un45 rfl sz43 dC rX L) t1 t1 ?_
   refine sw (Y1 ag43 rF rF L) t1 t1 ?_
   refine mV L rfl (sw (ixJ un43 sz119 (j:=i) rO oM sM L) t2 t0 ?_)
   refine sw (v4 ag119 (by first | exact Z5 oM | rfl) L) t1 t0 ?_
   refine sw (c_n L) t2 t0 ?_
   refine O1 ⟨B5 [⟨[2],[2],[27],[]⟩,⟨[27],[2],[28],[]⟩,⟨[5],[],[29],[]⟩,⟨[28,29],[],[30],[]⟩,⟨[30],[],[31],[]⟩,⟨[3],[3],[32],[]⟩,⟨[32],[3],[33],[]⟩,⟨[5],[],[34],[]⟩,⟨[33,34],[],[35],[]⟩,⟨[35],[],[36],[]⟩,⟨[31,36],[],[37],[]⟩] rF rF dC,[(2,_),(3,_),(5,_),(37,_)],[(2,_),(3,_)],t4,t2,?_⟩
   refine D2 rfl (fun hf=>?_) (fun hf=>?_)
   ·have hf:=ndt hf
    refine exr (aV L rfl (zn [(4,_)] [] t1 trivial (V1 ?_)))
    refine Q0 (.tmp rfl) ?_
    rw [eq_comm]; congr 3; simp only [decide_eq_false_iff_not]; exact fun h=>hf (by rw [h.2])
   ·have hf:=ndf hf
    refine U1 (xq ?_)
    refine y3 (mV L rfl (sw (K3 L (w64 oM oM)) t2 t0 (aV L rfl (O1 ?_))))
    exact ⟨i+1,⟨by omega,N0d oM hd.2 hi.2 hf⟩,by omega,E3 ⟨oR,rfl,rfl,trivial⟩ t2⟩
  ·have he:=df he
   refine L2 (xq ?_)
   refine exr (aV L rfl (zn [(4,_)] [] t1 trivial (V1 ?_)))
   refine Q0 (.tmp rfl) ?_
   have e:ws=vs:=by have:=hi.2; rwa [C0 oM,C0 oM] at this
   rw [eq_comm]; congr 3; simp [hd.1,e]
theorem s6 (ws:List Int)(hl:ws.length<10000000000000):Y2 E 147 [pW ws] (pW (trim ws)):=by
 refine j2 (xs:=[pW (trim ws)]) Tryz.func147 rfl Tryz.ntmps147 Tryz.results147 sM fun F hG hX0 hnt hdf P0=>?_
 obtain ⟨L,hX,hN⟩:=pro hnt hX0 hG
 refine exr (aV L rfl (zn [(0,_)] [] t1 trivial (exr (mV L rfl (sw (R2 un43 L) t1 t0 (aV L rfl (zn [(0,_),(3,_)] [] t2 trivial (R1 (X1 ?_)))))))))
 refine exl (α:=Nat) (fun n=>[(3,vi (n:Int))]) (fun n=>[]) (fun n=>n≤ws.length∧G6 ws n=G6 ws ws.length) (fun n=>n) (ws.length) (sl:=[(0,_)]) (hb:=[]) ?_ ⟨oR,rfl,trivial⟩ t0 ?_
 ·exact ⟨Nat.le_refl _,rfl⟩
 intro n hn
 refine R1 ?_
 refine exm (sl:=[(15,vb (decide (0<n∧ws.getD (n - 1) 0=0)))]) (sl0:=[(0,_),(3,_)]) (hb:=[]) (hb0:=[]) t2 t0 ?_ ?_
 ·by_cases h:n=0
  ·refine mV L rfl (sw (X6 L) t2 t0 (mV L rfl (swn (g:=8) rfl (by simp [h]) L rfl ?_)))
   refine swn (g:=8) rfl (by simp [h]) L rfl ?_
   refine swn (g:=8) rfl (by simp [h]) L rfl ?_
   refine swn (g:=8) rfl (by simp [h]) L rfl ?_
   refine swn (g:=8) rfl (by simp [h]) L rfl ?_
   refine swn (g:=8) rfl (by simp [h]) L rfl ?_
   refine sw (V3 (by simp [h]) L) t2 t0 ?_
   exact O1 ⟨⟨ob rfl (by simp [h]),rfl,rfl,trivial⟩,trivial⟩
  ·refine mV L rfl (sw (X6 L) t2 t0 (mV L rfl (gV (g:=8) rfl sO L rfl rfl (gV (g:=8) rfl sO L rfl rfl (swg (g:=8) rfl sO (q6 L (w64 oM oM)) rfl t2 t0 (swg (g:=8) rfl sO (ixJ un43 sz119 (j:=n - 1) rO oM sM L) rfl t2 t0 ?_))))))
   refine swg (g:=8) rfl sO (v4 ag119 (by first | exact Z5 oM | rfl) L) rfl t1 t0 ?_
   refine swg (g:=8) rfl sO (c_e L) rfl t2 t0 (sw (m4 sO L) t2 t0 ?_)
   exact O1 ⟨⟨ob rfl sO,rfl,rfl,trivial⟩,trivial⟩
 refine D2 rfl (fun hc=>?_) (fun hc=>?_)
 ·have hc:=dt hc
  refine U1 (xq ?_)
  refine X1 (y3 (mV L rfl (sw (q6 L (w64 oM oM)) t2 t0 (aV L rfl (O1 ?_)))))
  exact ⟨n - 1,⟨by omega,by rw [← hn.2]; conv=>rhs; rw [show n=(n - 1)+1 by omega]; simp only [G6,hc.2,if_true]⟩,by omega,E3 ⟨oR,rfl,trivial⟩ trivial⟩
 ·have hc:=df hc
  have e:G6 ws ws.length=n:=by
   rw [← hn.2]
   cases n with
   | zero=>rfl
   | succ n=>simp only [G6]; rw [if_neg]; intro h; exact hc ⟨by omega,by simpa using h⟩
  have e1:trim ws=ws.take n:=by rw [trim,e]
  refine L2 (xq ?_)
  refine exr (mV L rfl (mV L rfl (sw (M1y un43 sz119 (h:=n) rO oM (by rw [Nat.mul_one,k0s]) L) t2 t0 ?_)))
  refine aV L rfl (zn [(2,_)] [] t1 trivial (V1 ?_))
  refine Q0 (.tmp rfl) ?_
  rw [e1]; simp [G1 hn.1]
theorem v5 (ws:List Int)(hl:ws.length<10000000000000)(h:Wd ws)(i:Nat)(hi:i<10000000000000):Y2 E 145 [pW ws,vZ i] (uZ (ws.getD i 0)):=by
 refine j2 (xs:=[uZ (ws.getD i 0)]) Tryz.func145 rfl Tryz.ntmps145 Tryz.results145 sM fun F hG hX0 hnt hdf P0=>?_
 obtain ⟨L,hX,hN⟩:=pro hnt hX0 hG
 refine exr (aV L rfl (zn [(0,_),(1,_)] [] t2 trivial (R1 (exr (mV L rfl (mV L rfl (sw (R2 un43 L) t1 t0 (sw (d4 L) t2 t0 (zn [(0,_),(1,_),(8,_)] [] t3 trivial ?_)))))))))
 refine D2 rfl (fun hc=>?_) (fun hc=>?_)
 ·have hc:=dt hc
  have hw:=h.get (i:=i) oM
  refine exr (mV L rfl (mV L rfl (sw (ixJ un43 sz119 (j:=i) rO oM sM L) t2 t0 ?_)))
  refine sw (v4 ag119 (by first | exact Z5 oM | rfl) L) t1 t0 ?_
  refine sw (y4 un119 un127 L (J4 oM oM)) t1 t0 (aV L rfl (zn [(4,_)] [] t1 trivial (V1 ?_)))
  refine Q0 (.tmp rfl) ?_
  rfl
 ·have hc:=df hc
  refine U1 (xq ?_)
  refine exr (aV L rfl (zn [(4,_)] [] t1 trivial (V1 ?_)))
  refine Q0 (.tmp rfl) ?_
  rw [f0,List.getElem?_eq_none oM]; rfl
theorem N0k (ws:List Int)(hl:ws.length<10000000000000)(h:Wd ws)(ht:Tr ws):Y2 E 166 [pW ws] (vZ (bl (val ws).toNat)):=by
 refine j2 (xs:=[vZ (bl (val ws).toNat)]) Tryz.func166 rfl Tryz.ntmps166 Tryz.results166 sM fun F hG hX0 hnt hdf P0=>?_
 obtain ⟨L,hX,hN⟩:=pro hnt hX0 hG
 refine exr (aV L rfl (zn [(0,_)] [] t1 trivial (R1 (exr (mV L rfl (sw (R2 un43 L) t1 t0 (sw (c_e L) t2 t0 (zn [(0,_),(7,_)] [] t2 trivial ?_))))))))
 refine D2 rfl (fun hc=>?_) (fun hc=>?_)
 ·have hc:=dt hc
  refine exr (aV L rfl (zn [(2,_)] [] t1 trivial (V1 ?_)))
  refine Q0 (.tmp rfl) ?_
  have e:ws=[]:=E0 oM
  rw [e]; simp [val,bl]
 ·have hc:=df hc
  have hw:=h.getD (ws.length - 1)
  refine U1 (xq ?_)
  refine exr (mV L rfl (sw (R2 un43 L) t1 t0 (sw (q6 L (w64 oM oM)) t2 t0 (sw (Q0c L (w64 oM oM)) t2 t0 (aV L rfl (zn [(0,_),(3,_)] [] t2 trivial (R1 (exr (mV L rfl (mV L rfl (sw (R2 un43 L) t1 t0 ?_)))))))))))
  refine sw (q6 L (w64 oM oM)) t2 t0 (sw (ixJ un43 sz119 (j:=ws.length - 1) rO oM sM L) t2 t0 ?_)
  refine sw (v4 ag119 (by first | exact Z5 oM | rfl) L) t1 t0 ?_
  refine aV L rfl (zn [(3,_),(4,_)] [] t2 trivial (X1 ?_))
  refine exl (α:=Nat) (fun x=>[(4,vu (x:Int)),(3,vi (32*((ws.length:Int) - 1)+(bl (ws.getD (ws.length - 1) 0).toNat:Int) - (bl x:Int)))]) (fun x=>[]) (fun x=>x≤(ws.getD (ws.length - 1) 0).toNat∧bl x≤bl (ws.getD (ws.length - 1) 0).toNat) (fun x=>x) ((ws.getD (ws.length - 1) 0).toNat) (sl:=[]) (hb:=[]) ?_ ⟨oi oM rfl,oi oM rfl,trivial⟩ t0 ?_
  ·exact ⟨Nat.le_refl _,Nat.le_refl _⟩
  intro x hx
  have h32:=F1h hw.2
  refine R1 (exr (mV L rfl (sw (c_n L) t2 t0 (zn [(3,_),(4,_),(19,_)] [] t3 trivial ?_))))
  refine D2 rfl (fun hd=>?_) (fun hd=>?_)
  ·have hd:=ndt hd
   have hs:=F1c (n:=x) oM
   refine U1 (xq ?_)
   refine R1 (X1 (y3 (mV L rfl (sw (K3 L (w64 oM oM)) t2 t0 (aV L rfl (O1 (y3 (mV L rfl (sw (v9 L dC (d0r (c:=2) rF dC)) t2 t0 ?_)))))))))
   refine aV L rfl (O1 ?_)
   exact ⟨x / 2,⟨by omega,by omega⟩,by omega,E3 ⟨oR,oR,trivial⟩ trivial⟩
  ·have hd:=ndf hd
   have hx0:x=0:=by omega
   subst hx0
   refine L2 (xq ?_)
   refine exr (mV L rfl (aV L rfl (zn [(2,_)] [] t1 trivial (V1 ?_))))
   refine Q0 (.tmp rfl) ?_
   have hne:ws≠[]:=by intro e; subst e; simp at hc
   exact K0r (by rw [b1y h ht hne]; simp [bl])
theorem v6 (neg:Bool)(ws:List Int)(hl:ws.length<10000000000000)(h:Wd ws):Y2 E 122 [.a (.bool neg),pW ws] (pZ (sg neg (val ws))):=by
 refine j2 (xs:=[pZ (sg neg (val ws))]) Tryz.func122 rfl Tryz.ntmps122 Tryz.results122 sM fun F hG hX0 hnt hdf P0=>?_
 obtain ⟨L,hX,hN⟩:=pro hnt hX0 hG
 have hb:(trim ws).length≤ws.length:=by rw [s9]; exact D0m _ _
 have hr:pZ (sg neg (val ws))=p0p neg ws:=(P0y h).symm
 rw [hr]
 refine exr (swb (T3 (k:=4) (n:=2) zv45 (.cons rfl (.cons rfl .nil)) rfl (P0 _ rfl) L) t0 t0 ⟨rfl,rfl⟩ (zn [(0,_),(1,_),(4,_)] [(4,_)] t3 t1 (exr (mV L rfl (cK hG hX cl147 hN (s6 ws hl) L t1 (aV L rfl (zn [(0,_),(1,_),(4,_)] [(4,_)] t3 t1 (R1 (exr (mV L rfl (sw (R2 un43 L) t1 t0 ?_)))))))))))
 refine sw (c_e L) t2 t0 (zn [(0,_),(1,_),(4,_),(9,_)] [(4,_)] t4 t1 ?_)
 refine D2 rfl (fun hc=>?_) (fun hc=>?_)
 ·have hc:=dt hc
  have e:trim ws=[]:=E0 oM
  refine exr (sw (Y7 (E6 (vs:=[]) un45 zv45 (.cons rfl (.cons rfl .nil)) ((y2.cons sz4 (y2.cons sz43 y2.nil))).to rfl .nil (.cons (.cons .nil)) L) (.agg (.cons .same (.cons .nil .nil)))) t0 t0 (sb (U2 sz45 rF pa2 rfl pu2) t2 t1 ?_))
  refine zn [(4,_)] [(4,_)] t1 t1 (V1 ?_)
  refine Q0 (.agg rfl rfl rfl ag45 sz45 (.cons (.cons .nil))) ?_
  simp only [p0p,e,if_true]; rfl
 ·have hc:=df hc
  have e:¬ trim ws=[]:=by intro e; rw [e] at hc; simp at hc
  refine U1 (xq ?_)
  refine exr (mV L rfl (swb (O9 (k:=12) (sz:=1) un43 ti119 (P0 _ rfl) L) t0 t0 ⟨rfl,rfl⟩ (mV L rfl (swb (apP (sz:=1) un43 un43 ti119 rfl rfl rfl dC rX oF sM rfl rfl rfl (by first | (simp [Tryz.t119]; done) | (simp [Tryz.t119]; omega)) oM (P0 _ rfl) L) t2 t1 t0 ?_))))
  refine sw (b0r (vs:=[_,_]) un45 zv45 (.cons rfl (.cons rfl .nil)) ((y2.cons sz4 (y2.cons sz43 y2.nil))).to rfl (.cons rfl (.atom rfl) rfl pu1 (.cons rfl .ref rfl (.skip pu1) .nil)) L) t2 t0 (sb (U2 sz45 rF .agg rfl pu2) t2 t1 ?_)
  refine zn [(4,_)] [(4,_),(12,_)] t1 t2 (G4 [12] (sl:=[(4,_)]) (hb:=[(4,_)]) (M3 hX0) ⟨⟨_,rfl,.same⟩,trivial⟩ ⟨⟨rfl,_,rfl,(.mix (.cons .same (.cons (.ref rfl rfl (by exact sM) (by first | rfl | omega)) .nil)))⟩,trivial⟩ ?_)
  refine V1 ?_
  refine Q0 (.agg rfl rfl rfl ag45 sz45 (.cons (.cons .nil))) ?_
  simp [p0p,e]
theorem H0j (ws vs:List Int)(hl:ws.length<10000000000000)(hl2:vs.length<10000000000000)(h:Wd ws)(h2:Wd vs)(ht:Tr ws)(ht2:Tr vs):Y2 E 143 [pW ws,pW vs] (vZ (X7 (val ws) (val vs))):=by
 refine j2 (xs:=[vZ (X7 (val ws) (val vs))]) Tryz.func143 rfl Tryz.ntmps143 Tryz.results143 sM fun F hG hX0 hnt hdf P0=>?_
 obtain ⟨L,hX,hN⟩:=pro hnt hX0 hG
 refine exr (aV L rfl (zn [(0,_),(1,_)] [] t2 trivial (R1 (exr (mV L rfl (sw (R2 un43 L) t1 t0 (mV L rfl (sw (R2 un43 L) t1 t0 (sw (c_n L) t2 t0 (zn [(0,_),(1,_),(10,_)] [] t3 trivial ?_))))))))))
 refine D2 rfl (fun hc=>?_) (fun hc=>?_)
 ·have hc:=ndt hc
  refine R1 (exr (mV L rfl (sw (R2 un43 L) t1 t0 (mV L rfl (sw (R2 un43 L) t1 t0 (sw (d4 L) t2 t0 (zn [(15,_)] [] t1 trivial ?_)))))))
  refine D2 rfl (fun hd=>?_) (fun hd=>?_)
  ·have hd:=dt hd
   refine exr (aV L rfl (zn [(4,_)] [] t1 trivial (V1 ?_)))
   refine Q0 (.tmp rfl) ?_
   rw [p0x h h2 ht ht2 oM,if_pos oM]
  ·have hd:=df hd
   refine U1 (xq ?_)
   refine exr (aV L rfl (zn [(4,_)] [] t1 trivial (V1 ?_)))
   refine Q0 (.tmp rfl) ?_
   rw [p0x h h2 ht ht2 oM,if_neg oM]
 ·have hc:=ndf hc
  refine U1 (xq ?_)
  refine R1 (exr (mV L rfl (sw (R2 un43 L) t1 t0 (sw (q6 L (w64 oM oM)) t2 t0 (aV L rfl (zn [(0,_),(1,_),(5,_)] [] t3 trivial (X1 ?_)))))))
  refine exl (α:=Nat) (fun n=>[(5,vi ((n:Int) - 1))]) (fun n=>[]) (fun n=>n≤ws.length∧ws.drop n=vs.drop n) (fun n=>n) (ws.length) (sl:=[(0,_),(1,_)]) (hb:=[]) ?_ ⟨oR,rfl,rfl,trivial⟩ t0 ?_
  ·exact ⟨Nat.le_refl _,by rw [List.drop_length,List.drop_of_length_le oM]⟩
  intro n hn
  refine R1 (exr (mV L rfl (sw (b0p L) t2 t0 (zn [(0,_),(1,_),(5,_),(20,_)] [] t4 trivial ?_))))
  refine D2 rfl (fun hd=>?_) (fun hd=>?_)
  ·have hd:=dt hd
   have hs:n - 1+1=n:=by omega
   refine U1 (xq ?_)
   refine R1 (X1 (R1 (exd rF ?_)))
   refine mV L rfl (mV L rfl (sw (ixJ un43 sz119 (j:=n - 1) rO oM sM L) t2 t0 ?_))
   refine sw (v4 ag119 (by first | exact Z5 oM | rfl) L) t1 t0 ?_
   refine mV L rfl (mV L rfl (sw (ixJ un43 sz119 (j:=n - 1) rO oM sM L) t2 t0 ?_))
   refine sw (v4 ag119 (by first | exact Z5 oM | rfl) L) t1 t0 ?_
   refine sw (d4 L) t2 t0 ?_
   refine O1 ⟨B5 [⟨[0],[],[23],[]⟩,⟨[5],[],[24],[]⟩,⟨[23,24],[],[25],[]⟩,⟨[25],[],[26],[]⟩,⟨[1],[],[27],[]⟩,⟨[5],[],[28],[]⟩,⟨[27,28],[],[29],[]⟩,⟨[29],[],[30],[]⟩,⟨[26,30],[],[31],[]⟩] rF rF dC,[(0,_),(1,_),(5,_),(31,_)],[],t4,trivial,?_⟩
   refine D2 rfl (fun he=>?_) (fun he=>?_)
   ·have he:=dt he
    refine exr (aV L rfl (zn [(4,_)] [] t1 trivial (V1 ?_)))
    refine Q0 (.tmp rfl) ?_
    rw [k0d h h2 oM (i:=n - 1) oM (by rw [hs]; exact hn.2) oM,if_pos he]
   ·have he:=df he
    refine U1 (xq ?_)
    refine exd rF ?_
    refine mV L rfl (mV L rfl (sw (ixJ un43 sz119 (j:=n - 1) rO oM sM L) t2 t0 ?_))
    refine sw (v4 ag119 (by first | exact Z5 oM | rfl) L) t1 t0 ?_
    refine mV L rfl (mV L rfl (sw (ixJ un43 sz119 (j:=n - 1) rO oM sM L) t2 t0 ?_))
    refine sw (v4 ag119 (by first | exact Z5 oM | rfl) L) t1 t0 ?_
    refine sw (X6 L) t2 t0 ?_
    refine O1 ⟨B5 [⟨[0],[],[32],[]⟩,⟨[5],[],[33],[]⟩,⟨[32,33],[],[34],[]⟩,⟨[34],[],[35],[]⟩,⟨[1],[],[36],[]⟩,⟨[5],[],[37],[]⟩,⟨[36,37],[],[38],[]⟩,⟨[38],[],[39],[]⟩,⟨[35,39],[],[40],[]⟩] rF rF dC,[(0,_),(1,_),(5,_),(40,_)],[],t4,trivial,?_⟩
    refine D2 rfl (fun hf=>?_) (fun hf=>?_)
    ·have hf:=dt hf
     refine exr (aV L rfl (zn [(4,_)] [] t1 trivial (V1 ?_)))
     refine Q0 (.tmp rfl) ?_
     rw [k0d h h2 oM (i:=n - 1) oM (by rw [hs]; exact hn.2) oM,if_neg he]
    ·have hf:=df hf
     refine U1 (xq ?_)
     refine y3 (mV L rfl (sw (q6 L (w64 oM oM)) t2 t0 (aV L rfl (O1 ?_))))
     exact ⟨n - 1,⟨by omega,p0q oM oM (by rw [hs]; exact hn.2) oM⟩,by omega,E3 ⟨oR,rfl,rfl,trivial⟩ trivial⟩
  ·have hd:=df hd
   have h3:n=0:=by omega
   subst h3
   refine L2 (xq ?_)
   refine exr (aV L rfl (zn [(4,_)] [] t1 trivial (V1 ?_)))
   refine Q0 (.tmp rfl) ?_
   have e:ws=vs:=by simpa using hn.2
   rw [e,J0a]
theorem b0k (n:Int)(h0 : -9223372036854775808≤n)(h1:n<9223372036854775808):Y2 E 119 [vZ n] (pZ n):=by
 refine j2 (xs:=[pZ n]) Tryz.func119 rfl Tryz.ntmps119 Tryz.results119 sM fun F hG hX0 hnt hdf P0=>?_
 obtain ⟨L,hX,hN⟩:=pro hnt hX0 hG
 refine exr (swb (T3 (k:=2) (n:=2) zv45 (.cons rfl (.cons rfl .nil)) rfl (P0 _ rfl) L) t0 t0 ⟨rfl,rfl⟩ (zn [(0,_),(2,_)] [(2,_)] t2 t1 (exr (mV L rfl (sw (y4 un3 un127 L D0h) t1 t0 (aV L rfl (zn [(0,_),(2,_),(3,_)] [(2,_)] t3 t1 (R1 (exr (mV L rfl (sw (d4 L) t2 t0 ?_)))))))))))
 refine zn [(0,_),(2,_),(3,_),(7,_)] [(2,_)] t4 t1 ?_
 refine D2 rfl (fun hc=>?_) (fun hc=>?_)
 ·have hc:=dt hc
  refine y3 (mV L rfl (sw (j1n L (show _ = -n by rw [D0h]; omega)) t1 t0 ?_))
  refine aV L rfl (O1 (exr (mV L rfl (sw (d4 L) t2 t0 (mV L rfl (sw (y4 un127 un119 L j8) t1 t0 (mV L rfl (sw (v9 L dC (d0r (c:=4294967296) rF dC)) t2 t0 ?_))))))))
  refine sw (y4 un127 un119 L j8) t1 t0 (sw (F4 (vs:=[_,_]) un43 ti119 rfl rfl dC dC rfl (M2 (.cons rfl .nil) rfl) rfl (.cons rfl (.atom rfl) rfl pu1 (.cons rfl (.atom rfl) rfl (.skip pu1) .nil)) (.cons (.cons .nil)) L) t2 t0 (cK hG hX cl122 hN (v6 (decide (n<0)) [-n % 4294967296,-n / 4294967296 % 4294967296] sM (by simp [Wd]; omega)) L t2 ?_))
  refine sb (U2 sz45 rF pa2 rfl pu2) t2 t1 ?_
  refine zn [(2,_)] [(2,_)] t1 t1 (V1 ?_)
  refine Q0 (.agg rfl rfl rfl ag45 sz45 (.cons (.cons .nil))) ?_
  have:val [-n % 4294967296,-n / 4294967296 % 4294967296] = -n:=by simp only [val]; omega
  rw [this]; simp [sg,hc]
 ·have hc:=df hc
  refine U1 (xq ?_)
  refine exr (mV L rfl (sw (d4 L) t2 t0 (mV L rfl (sw (y4 un127 un119 L j8) t1 t0 (mV L rfl (sw (v9 L dC (d0r (c:=4294967296) rF dC)) t2 t0 ?_))))))
  refine sw (y4 un127 un119 L j8) t1 t0 (sw (F4 (vs:=[_,_]) un43 ti119 rfl rfl dC dC rfl (M2 (.cons rfl .nil) rfl) rfl (.cons rfl (.atom rfl) rfl pu1 (.cons rfl (.atom rfl) rfl (.skip pu1) .nil)) (.cons (.cons .nil)) L) t2 t0 (cK hG hX cl122 hN (v6 (decide (n<0)) [n % 18446744073709551616 % 4294967296,n % 18446744073709551616 / 4294967296 % 4294967296] sM (by simp [Wd]; omega)) L t2 ?_))
  refine sb (U2 sz45 rF pa2 rfl pu2) t2 t1 ?_
  refine zn [(2,_)] [(2,_)] t1 t1 (V1 ?_)
  refine Q0 (.agg rfl rfl rfl ag45 sz45 (.cons (.cons .nil))) ?_
  have:val [n % 18446744073709551616 % 4294967296,n % 18446744073709551616 / 4294967296 % 4294967296]=n:=by simp only [val]; omega
  rw [this]; simp [sg,hc]
theorem b1w (neg:Bool)(ws:List Int)(hl:ws.length<10000000000000)(h:Wd ws):Y2 E 78 [pI neg ws] (vZ (if P2 neg ws=true then (sg neg (val ws)).sign else 0)):=by
 refine j2 (xs:=[vZ (if P2 neg ws=true then (sg neg (val ws)).sign else 0)]) Tryz.func78 rfl Tryz.ntmps78 Tryz.results78 sM fun F hG hX0 hnt hdf P0=>?_
 obtain ⟨L,hX,hN⟩:=pro hnt hX0 hG
 refine exr (swb (R3 (k:=1) (n:=2) pa2 rfl rfl (P0 _ rfl) L) t1 t0 ⟨rfl,rfl⟩ (aV L rfl (zn [(1,_)] [(1,_)] t1 t1 (R1 ?_))))
 refine exm (sl:=[(11,vb (!(P2 neg ws && !decide (ws.length=0))))]) (sl0:=[(1,_)]) (hb:=[]) (hb0:=[(1,_)]) t1 t1 ?_ ?_
 ·by_cases hc:P2 neg ws=true
  ·refine lp2 ag45 sz45 L rfl rfl (cK hG hX cl77 hN (J5 neg ws hl) L t1 (sw (P3 L) t1 t0 (mV L rfl (swg (g:=6) rfl (by simp [hc]) (Z1 un45 rfl sz43 dC rX L) rfl t1 t1 ?_))))
   refine swg (g:=6) rfl (by simp [hc]) (Y1 ag43 rF rF L) rfl t1 t1 ?_
   refine swg (g:=6) rfl (by simp [hc]) (R2 un43 L) rfl t1 t0 ?_
   refine swg (g:=6) rfl (by simp [hc]) (c_e L) rfl t2 t0 ?_
   refine sw (V3 (by simp [hc]) L) t2 t0 ?_
   exact O1 ⟨⟨ob rfl (by simp [hc]),rfl,trivial⟩,t1⟩
  ·refine lp2 ag45 sz45 L rfl rfl (cK hG hX cl77 hN (J5 neg ws hl) L t1 (sw (P3 L) t1 t0 (mV L rfl (swn (g:=6) rfl (by simp [hc]) L rfl ?_))))
   refine swn (g:=6) rfl (by simp [hc]) L rfl ?_
   refine swn (g:=6) rfl (by simp [hc]) L rfl ?_
   refine swn (g:=6) rfl (by simp [hc]) L rfl ?_
   refine sw (m4 (by simp [hc]) L) t2 t0 ?_
   exact O1 ⟨⟨ob rfl (by simp [hc]),rfl,trivial⟩,t1⟩
 refine D2 rfl (fun hd=>?_) (fun hd=>?_)
 ·refine exr (aV L rfl (zn [(2,_)] [] t1 trivial (V1 ?_)))
  refine Q0 (.tmp rfl) ?_
  have hd:P2 neg ws=true→ws=[]:=by intro hc; simpa [hc] using hd
  split
  ·rename_i hc; rw [hd hc]; cases neg <;> simp [sg,val]
  ·rfl
 ·have hd:P2 neg ws=true∧¬ ws=[]:=by simpa using hd
  have hv:=G2 h
  have hv2:val ws≠0:=fun e=>hd.2 (B7 h (P5 hd.1).1 e)
  refine U1 (xq ?_)
  refine R1 (exr (sw (Z1 un45 rfl sz4 dC rX L) t1 t1 ?_))
  refine sw (Y1 ag4 rF rF L) t1 t1 ?_
  refine zn [(13,_)] [] t1 trivial ?_
  refine D2 rfl (fun hn=>?_) (fun hn=>?_)
  ·refine exr (aV L rfl (zn [(2,_)] [] t1 trivial (V1 ?_)))
   refine Q0 (.tmp rfl) ?_
   rw [if_pos hd.1,hn,sg,if_pos rfl,Int.sign_eq_neg_one_of_neg oM]
  ·refine U1 (xq ?_)
   refine exr (aV L rfl (zn [(2,_)] [] t1 trivial (V1 ?_)))
   refine Q0 (.tmp rfl) ?_
   rw [if_pos hd.1,hn,sg]
   simp only [Bool.false_eq_true,if_false]
   rw [Int.sign_eq_one_of_pos oM]
theorem m1k (neg:Bool)(ws:List Int)(hl:ws.length<10000000000000)(h:Wd ws):Y2 E 105 [pI neg ws] (pZ (if P2 neg ws=true then -(sg neg (val ws)) else 0)):=by
 refine j2 (xs:=[pZ (if P2 neg ws=true then -(sg neg (val ws)) else 0)]) Tryz.func105 rfl Tryz.ntmps105 Tryz.results105 sM fun F hG hX0 hnt hdf P0=>?_
 obtain ⟨L,hX,hN⟩:=pro hnt hX0 hG
 refine exr (swb (R3 (k:=1) (n:=2) pa2 rfl rfl (P0 _ rfl) L) t1 t0 ⟨rfl,rfl⟩ (swb (T3 (k:=2) (n:=2) zv45 (.cons rfl (.cons rfl .nil)) rfl (P0 _ rfl) L) t0 t0 ⟨rfl,rfl⟩ (zn [(1,_),(2,_)] [(1,_),(2,_)] t2 t2 (R1 (exr (lp2 ag45 sz45 L rfl rfl (cK hG hX cl77 hN (J5 neg ws hl) L t1 (sw (P3 L) t1 t0 (zn [(1,_),(2,_),(5,_)] [(1,_),(2,_)] t3 t2 ?_)))))))))
 refine D2 rfl (fun hc=>?_) (fun hc=>?_)
 ·have hc:P2 neg ws=false:=by simpa using hc
  refine exr (sw (Y7 (E6 (vs:=[]) un45 zv45 (.cons rfl (.cons rfl .nil)) ((y2.cons sz4 (y2.cons sz43 y2.nil))).to rfl .nil (.cons (.cons .nil)) L) (.agg (.cons .same (.cons .nil .nil)))) t0 t0 (sb (U2 sz45 rF pa2 rfl pu2) t2 t1 ?_))
  refine zn [(2,_)] [(2,_)] t1 t1 (V1 ?_)
  refine Q0 (.agg rfl rfl rfl ag45 sz45 (.cons (.cons .nil))) ?_
  simp [hc,pZ,X4]; rfl
 ·have hc:P2 neg ws=true:=by simpa using hc
  refine U1 (xq ?_)
  refine exr (sw (Z1 un45 rfl sz4 dC rX L) t1 t1 ?_)
  refine sw (Y1 ag4 rF rF L) t1 t1 ?_
  refine sw (P3 L) t1 t0 (sw (Z1 un45 rfl sz43 dC rX L) t1 t1 ?_)
  refine sw (Y1 ag43 rF rF L) t1 t1 ?_
  refine cK hG hX cl122 hN (v6 (!neg) ws hl h) L t2 (sb (U2 sz45 rF pa2 rfl pu2) t2 t1 ?_)
  refine zn [(2,_)] [(2,_)] t1 t1 (V1 ?_)
  refine Q0 (.agg rfl rfl rfl ag45 sz45 (.cons (.cons .nil))) ?_
  rw [if_pos hc]; cases neg <;> simp [sg]
theorem J0h (neg:Bool)(ws:List Int)(hl:ws.length<10000000000000)(h:Wd ws):Y2 E 117 [pI neg ws] (pZ (if P2 neg ws=true then ((sg neg (val ws)).natAbs:Int) else 0)):=by
 refine j2 (xs:=[pZ (if P2 neg ws=true then ((sg neg (val ws)).natAbs:Int) else 0)]) Tryz.func117 rfl Tryz.ntmps117 Tryz.results117 sM fun F hG hX0 hnt hdf P0=>?_
 obtain ⟨L,hX,hN⟩:=pro hnt hX0 hG
 refine exr (swb (R3 (k:=1) (n:=2) pa2 rfl rfl (P0 _ rfl) L) t1 t0 ⟨rfl,rfl⟩ (swb (T3 (k:=2) (n:=2) zv45 (.cons rfl (.cons rfl .nil)) rfl (P0 _ rfl) L) t0 t0 ⟨rfl,rfl⟩ (zn [(1,_),(2,_)] [(1,_),(2,_)] t2 t2 (R1 (exr (lp2 ag45 sz45 L rfl rfl (cK hG hX cl77 hN (J5 neg ws hl) L t1 (sw (P3 L) t1 t0 (zn [(1,_),(2,_),(5,_)] [(1,_),(2,_)] t3 t2 ?_)))))))))
 refine D2 rfl (fun hc=>?_) (fun hc=>?_)
 ·have hc:P2 neg ws=false:=by simpa using hc
  refine exr (sw (Y7 (E6 (vs:=[]) un45 zv45 (.cons rfl (.cons rfl .nil)) ((y2.cons sz4 (y2.cons sz43 y2.nil))).to rfl .nil (.cons (.cons .nil)) L) (.agg (.cons .same (.cons .nil .nil)))) t0 t0 (sb (U2 sz45 rF pa2 rfl pu2) t2 t1 ?_))
  refine zn [(2,_)] [(2,_)] t1 t1 (V1 ?_)
  refine Q0 (.agg rfl rfl rfl ag45 sz45 (.cons (.cons .nil))) ?_
  simp [hc,pZ,X4]; rfl
 ·have hc:P2 neg ws=true:=by simpa using hc
  refine U1 (xq ?_)
  refine exr (sw (Z1 un45 rfl sz43 dC rX L) t1 t1 ?_)
  refine sw (Y1 ag43 rF rF L) t1 t1 ?_
  refine cK hG hX cl122 hN (v6 false ws hl h) L t2 (sb (U2 sz45 rF pa2 rfl pu2) t2 t1 ?_)
  refine zn [(2,_)] [(2,_)] t1 t1 (V1 ?_)
  refine Q0 (.agg rfl rfl rfl ag45 sz45 (.cons (.cons .nil))) ?_
  have e:((sg neg (val ws)).natAbs:Int)=sg false (val ws):=by have:=G2 h; cases neg <;> simp [sg] <;> omega
  rw [if_pos hc,e]
theorem B0n (x y c:Int)(hx:0≤x∧x<4294967296)(hy:0≤y∧y<4294967296)(hc:0≤c∧c≤1):Y2 E 171 [oZ x,oZ y,oZ c] (.tup [oZ ((x+y+c) % 4294967296),oZ ((x+y+c) / 4294967296)]):=by
 refine j2 (xs:=[oZ ((x+y+c) % 4294967296),oZ ((x+y+c) / 4294967296)]) Tryz.func171 rfl Tryz.ntmps171 Tryz.results171 sM fun F hG hX0 hnt hdf P0=>?_
 obtain ⟨L,hX,hN⟩:=pro hnt hX0 hG
 refine exr (aV L rfl (aV L rfl (zn [(0,_),(1,_),(2,_)] [] t3 trivial (exr (mV L rfl (sw (y4 un119 un127 L (J4 oM oM)) t1 t0 (mV L rfl (sw (y4 un119 un127 L (J4 oM oM)) t1 t0 (sw (K3 L (J4 oM oM)) t2 t0 (mV L rfl (sw (y4 un119 un127 L (J4 oM oM)) t1 t0 ?_)))))))))))
 refine sw (K3 L (J4 oM oM)) t2 t0 (aV L rfl (zn [(8,_)] [] t1 trivial (exr (mV L rfl (sw (y4 un127 un119 L j8) t1 t0 (aV L rfl (zn [(6,_),(8,_)] [] t2 trivial (exr (mV L rfl (sw (v9 L dC (d0r (c:=4294967296) rF dC)) t2 t0 ?_))))))))))
 refine sw (y4 un127 un119 L (w0w oM oM)) t1 t0 (aV L rfl (zn [(6,_),(7,_)] [] t2 trivial (V1 ?_)))
 refine Y0 (.tmp rfl) (.tmp rfl) ?_
 rfl
theorem b1p (x y c:Int)(hx:0≤x∧x<4294967296)(hy:0≤y∧y<4294967296)(hc:0≤c∧c≤1):w0g E 173 [.p (oZ x),.p (oZ y),.at_ 1000 0 1] [(1000,⟨119,1,.mix [.p (oZ c)]⟩)] [(1000,⟨119,1,.mix [.p (oZ ((x+y+c) / 4294967296))]⟩)] (oZ ((x+y+c) % 4294967296)):=by
 refine f0n (xs:=[oZ ((x+y+c) % 4294967296)]) Tryz.func173 rfl Tryz.ntmps173 Tryz.results173 sM rfl (m0s rfl) fun F hG hX hnt hdf P0 hXp=>?_
 have L:=@lti _ _ hnt
 have hN:=W5 hG
 refine exr (aV L rfl (zn [(0,_),(1,_),(2,_)] [(1000,_)] t3 t1 (exr (mV L rfl (mV L rfl (sw (Y1 ag119 rF rF L) t1 t1 ?_))))))
 refine cK hG hX cl171 hN (B0n x y c hx hy hc) L t3 (mV L rfl (sw (i4 rfl L) t1 t0 (sw (i4 rfl L) t1 t0 (aV L rfl (aV L rfl (zn [(2,_),(6,_),(7,_)] [(1000,_)] t3 t1 (exr (mV L rfl (sb (U2 sz119 rF (.atom rfl) rfl pu1) t2 t1 ?_)))))))))
 refine zn [(6,_)] [(1000,_)] t1 t1 (exr (mV L rfl (aV L rfl (zn [(5,_)] [(1000,_)] t1 t1 (V1 ?_)))))
 refine ⟨.inr rfl,U4.cast (.cons (.tmp rfl) .nil) ?_,t1⟩
 rfl
theorem K0d (neg:Bool)(ws:List Int)(hl:ws.length<10000000000000)(h:Wd ws):Y2 E 162 [.a (.bool neg),pW ws] (.tup [vZ (if ws.length≤1 then sg neg (val ws) else 0),bZ (decide (ws.length≤1))]):=by
 refine j2 (xs:=[vZ (if ws.length≤1 then sg neg (val ws) else 0),bZ (decide (ws.length≤1))]) Tryz.func162 rfl Tryz.ntmps162 Tryz.results162 sM fun F hG hX0 hnt hdf P0=>?_
 obtain ⟨L,hX,hN⟩:=pro hnt hX0 hG
 refine exr (aV L rfl (aV L rfl (zn [(0,_),(1,_)] [] t2 trivial (R1 (exr (mV L rfl (sw (R2 un43 L) t1 t0 (sw (X6 L) t2 t0 (zn [(0,_),(1,_),(9,_)] [] t3 trivial ?_)))))))))
 refine D2 rfl (fun hc=>?_) (fun hc=>?_)
 ·have hc:=dt hc
  refine exr (aV L rfl (aV L rfl (zn [(4,_),(5,_)] [] t2 trivial (V1 ?_))))
  refine Y0 (.tmp rfl) (.tmp rfl) ?_
  rw [if_neg oM,decide_eq_false oM]
 ·have hc:=df hc
  refine U1 (xq ?_)
  refine exr (aV L rfl (zn [(0,_),(1,_),(6,_)] [] t3 trivial (R1 (exr (mV L rfl (sw (R2 un43 L) t1 t0 (sw (c_e L) t2 t0 (zn [(0,_),(1,_),(6,_),(12,_)] [] t4 trivial ?_))))))))
  refine f0y (sl:=[(6,vi (val ws))]) (sl0:=[(0,_)]) (hb:=[]) (hb0:=[]) t1 t0 ?_ ?_
  ·refine D2 rfl (fun hd=>?_) (fun hd=>?_)
   ·have hd:=dt hd
    have hw:=h.get (i:=0) oM
    refine y3 (mV L rfl (sw (ixJ un43 sz119 (j:=0) rfl oM sM L) t2 t0 ?_))
    refine sw (v4 ag119 (by first | exact Z5 oM | rfl) L) t1 t0 ?_
    refine sw (y4 un119 un2 L (w64 oM oM)) t1 t0 (aV L rfl (O1 ?_))
    exact ⟨⟨oi (k0q oM) rfl,oR,trivial⟩,trivial⟩
   ·have hd:=df hd
    have e:ws=[]:=E0 oM
    refine U1 ?_
    exact ⟨⟨oi (by rw [e]; rfl) rfl,oR,trivial⟩,trivial⟩
  ·have hv:=G2 h
   have hv2:=k0r h oM
   refine R1 (exr (mV L rfl (zn [(6,_),(17,_)] [] t2 trivial ?_)))
   refine f0y (sl:=[(6,vi (sg neg (val ws)))]) (sl0:=[]) (hb:=[]) (hb0:=[]) t0 t0 ?_ ?_
   ·refine D2 rfl (fun hn=>?_) (fun hn=>?_)
    ·refine y3 (mV L rfl (sw (j1n L (w64 oM oM)) t1 t0 (aV L rfl (O1 ?_))))
     exact ⟨⟨oi (by rw [hn,sg,if_pos rfl]; omega) rfl,trivial⟩,trivial⟩
    ·refine U1 ?_
     exact ⟨⟨oi (by rw [hn]; rfl) rfl,trivial⟩,trivial⟩
   ·refine exr (mV L rfl (aV L rfl (aV L rfl (zn [(4,_),(5,_)] [] t2 trivial (V1 ?_)))))
    refine Y0 (.tmp rfl) (.tmp rfl) ?_
    rw [if_pos oM,decide_eq_true oM]
theorem q1g (X Y:BitVec 32)(b:Int)(hb:0≤b∧b≤1):Y2 E 175 [oZ X.toNat,oZ Y.toNat,oZ b] (.tup [oZ (((X.toNat:Int) - Y.toNat - b) % 4294967296),oZ (if (X.toNat:Int)<Y.toNat+b then 1 else 0)]):=by
 refine j2 (xs:=[oZ (((X.toNat:Int) - Y.toNat - b) % 4294967296),oZ (if (X.toNat:Int)<Y.toNat+b then 1 else 0)]) Tryz.func175 rfl Tryz.ntmps175 Tryz.results175 sM fun F hG hX0 hnt hdf P0=>?_
 obtain ⟨L,hX,hN⟩:=pro hnt hX0 hG
 have hx:=X.isLt
 have hy:=Y.isLt
 obtain ⟨D,hD⟩:∃ D:BitVec 32,(D.toNat:Int)=((X.toNat:Int) - Y.toNat - b) % 4294967296:=⟨BitVec.ofInt 32 ((X.toNat:Int) - Y.toNat - b),by rw [BitVec.toNat_ofInt]; omega⟩
 refine exr (aV L rfl (aV L rfl (zn [(0,_),(1,_),(2,_)] [] t3 trivial (exr (mV L rfl (mV L rfl (sw (q6 L j8) t2 t0 (mV L rfl (sw (q6 L (show _=(D.toNat:Int) by rw [j8,hD]; omega)) t2 t0 ?_)))))))))
 refine aV L rfl (zn [(0,_),(1,_),(6,_)] [] t3 trivial (exr (mV L rfl (sw (H0p rfl L (v1s X)) t1 t0 (mV L rfl (sw (D1p L (w1b (~~~X) Y)) t2 t0 (mV L rfl (mV L rfl (sw (c_x L (J1x X Y)) t2 t0 (sw (H0p rfl L (v1s (X ^^^ Y))) t1 t0 (mV L rfl ?_)))))))))))
 refine sw (D1p L (w1b (~~~(X ^^^ Y)) D)) t2 t0 (sw (q0q L (P1y (~~~X &&& Y) (~~~(X ^^^ Y) &&& D))) t2 t0 (sw (v9 L dC (d0r (c:=2147483648) rF dC)) t2 t0 ?_))
 refine aV L rfl (zn [(6,_),(7,_)] [] t2 trivial (V1 ?_))
 refine Y0 (.tmp rfl) (.tmp rfl) ?_
 rw [y1m X Y b hb D hD,hD]
theorem Y0m (x y c:Int)(hx:0≤x∧x<4294967296)(hy:0≤y∧y<4294967296)(hc:0≤c∧c≤1):Y2 E 175 [oZ x,oZ y,oZ c] (.tup [oZ ((x - y - c) % 4294967296),oZ (if x<y+c then 1 else 0)]):=by
 have e:∀ {z:Int},0≤z∧z<4294967296→((BitVec.ofInt 32 z).toNat:Int)=z:=fun {z} hz=>by rw [BitVec.toNat_ofInt]; omega
 have:=q1g (BitVec.ofInt 32 x) (BitVec.ofInt 32 y) c hc
 rwa [e hx,e hy] at this
theorem Q0v (x y c:Int)(hx:0≤x∧x<4294967296)(hy:0≤y∧y<4294967296)(hc:0≤c∧c≤1):w0g E 174 [.p (oZ x),.p (oZ y),.at_ 1000 0 1] [(1000,⟨119,1,.mix [.p (oZ c)]⟩)] [(1000,⟨119,1,.mix [.p (oZ (if x<y+c then 1 else 0))]⟩)] (oZ ((x - y - c) % 4294967296)):=by
 refine f0n (xs:=[oZ ((x - y - c) % 4294967296)]) Tryz.func174 rfl Tryz.ntmps174 Tryz.results174 sM rfl (m0s rfl) fun F hG hX hnt hdf P0 hXp=>?_
 have L:=@lti _ _ hnt
 have hN:=W5 hG
 refine exr (aV L rfl (zn [(0,_),(1,_),(2,_)] [(1000,_)] t3 t1 (exr (mV L rfl (mV L rfl (sw (Y1 ag119 rF rF L) t1 t1 ?_))))))
 refine cK hG hX cl175 hN (Y0m x y c hx hy hc) L t3 (mV L rfl (sw (i4 rfl L) t1 t0 (sw (i4 rfl L) t1 t0 (aV L rfl (aV L rfl (zn [(2,_),(6,_),(7,_)] [(1000,_)] t3 t1 (exr (mV L rfl (sb (U2 sz119 rF (.atom rfl) rfl pu1) t2 t1 ?_)))))))))
 refine zn [(6,_)] [(1000,_)] t1 t1 (exr (mV L rfl (aV L rfl (zn [(5,_)] [(1000,_)] t1 t1 (V1 ?_)))))
 refine ⟨.inr rfl,U4.cast (.cons (.tmp rfl) .nil) ?_,t1⟩
 rfl
theorem n1p (ws vs:List Int)(hl:ws.length<10000000000000)(hl2:vs.length<10000000000000)(h:Wd ws)(h2:Wd vs):w0g E 172 [.p (pW ws),.p (pW vs),.clo (.func 173) [] [.at_ 1000 0 1]] [(1000,⟨119,1,.mix [.p (oZ 0)]⟩)] [(1000,⟨119,1,.mix [.p (oZ 0)]⟩)] (pW (E4 (max ws.length vs.length+1) (val ws+val vs))):=by
 refine f0n (xs:=[pW (E4 (max ws.length vs.length+1) (val ws+val vs))]) Tryz.func172 rfl Tryz.ntmps172 Tryz.results172 sM rfl (m0s rfl) fun F hG hX hnt hdf P0 hXp=>?_
 have L:=@lti _ _ hnt
 have hN:=W5 hG
 obtain ⟨n,hn⟩:∃ n,n=max ws.length vs.length+1:=⟨_,rfl⟩
 rw [← hn]
 refine exr (aV L rfl (zn [(0,_),(1,_),(2,_)] [(1000,_)] t3 t1 (exr (mV L rfl (sw (R2 un43 L) t1 t0 (mV L rfl (sw (R2 un43 L) t1 t0 (sw (M1q L) t2 t0 (sw (K3 L (w64 oM oM)) t2 t0 (aV L rfl ?_))))))))))
 refine O1 ⟨[(0,_),(1,_),(2,_),(7,vi (n:Int))],[(1000,_)],⟨rfl,rfl,rfl,oi oM rfl,trivial⟩,t1,?_⟩
 refine exr (mV L rfl (swb (v0b (k:=19) un43 ti119 rfl rfl rfl rfl rfl rfl (Nat.le_refl _) (by simp [Tryz.t119]; omega) oM (P0 _ rfl) L) t2 t0 ⟨rfl,rfl⟩ ?_))
 refine aV L rfl (zn [(0,_),(1,_),(2,_),(7,_),(8,_)] [(19,_),(1000,_)] t5 t2 (R1 (exr (mV L rfl (mV L rfl (zn [(0,_),(1,_),(2,_),(8,_),(20,_),(21,_)] [(19,_),(1000,_)] t6 t2 (X1 ?_)))))))
 refine exl (α:=(Nat×List Int×Int)) (fun x=>[(21,vi (x.1:Int))]) (fun x=>[(19,⟨119,1,.pure (K4 (x.2.1++List.replicate (n - x.1) 0))⟩),(1000,⟨119,1,.mix [.p (oZ x.2.2)]⟩)]) (fun x=>n0z ws vs n x) (fun x=>n - x.1) (((0:Nat),([]:List Int),(0:Int))) (sl:=[(0,_),(1,_),(2,_),(8,_),(20,_)]) (hb:=[]) ?_ ⟨oR,rfl,rfl,rfl,rfl,rfl,trivial⟩ ⟨obl rfl (by simp [K4]),rfl,trivial⟩ ?_
 ·exact n0z.zero ws vs n
 intro x hx
 obtain ⟨i,ys,c⟩:=x
 have hlen:=hx.len
 have hle:=hx.le
 have hc0:=hx.c0
 have hc1:=hx.c1
 simp only at hlen hle hc0 hc1
 dsimp only
 have hw:=h.getD i
 have hw2:=h2.getD i
 refine exr (sw (d4 L) t2 t0 (zn [(0,_),(1,_),(2,_),(8,_),(20,_),(21,_),(22,_)] [(19,_),(1000,_)] t7 t2 (R1 ?_)))
 refine D2 rfl (fun he=>?_) (fun he=>?_)
 ·have he:=dt he
  refine U1 (xq ?_)
  refine R1 (X1 (exr (mV L rfl (aV L rfl (zn [(0,_),(1,_),(2,_),(8,_),(9,_),(20,_),(21,_)] [(19,_),(1000,_)] t7 t2 (exr (aV L rfl (aV L rfl (zn [(0,_),(1,_),(2,_),(8,_),(9,_),(10,_),(11,_),(20,_),(21,_)] [(19,_),(1000,_)] t9 t2 (R1 (exr ?_)))))))))))
  refine mV L rfl (mV L rfl (sw (R2 un43 L) t1 t0 (sw (d4 L) t2 t0 (zn [(0,_),(1,_),(2,_),(8,_),(9,_),(10,_),(11,_),(20,_),(21,_),(27,_)] [(19,_),(1000,_)] t10 t2 ?_))))
  refine f0y (sl:=[(10,vu (ws.getD i 0))]) (sl0:=[(0,_),(1,_),(2,_),(8,_),(9,_),(11,_),(20,_),(21,_)]) (hb:=[]) (hb0:=[(19,_),(1000,_)]) t8 t2 ?_ ?_
  ·refine D2 rfl (fun hd=>?_) (fun hd=>?_)
   ·have hd:=dt hd
    refine y3 (mV L rfl (mV L rfl (sw (ixJ un43 sz119 (j:=i) rO oM sM L) t2 t0 ?_)))
    refine sw (v4 ag119 (by first | exact Z5 oM | rfl) L) t1 t0 ?_
    refine aV L rfl (O1 ?_)
    exact ⟨⟨oR,oR,oR,oR,oR,oR,oR,oR,oR,trivial⟩,t2⟩
   ·have hd:=df hd
    refine U1 ?_
    exact ⟨⟨oi (p9 oM).symm rfl,oR,oR,oR,oR,oR,oR,oR,oR,trivial⟩,t2⟩
  ·refine R1 (exr (mV L rfl (mV L rfl (sw (R2 un43 L) t1 t0 (sw (d4 L) t2 t0 (zn [(0,_),(1,_),(2,_),(8,_),(9,_),(10,_),(11,_),(20,_),(21,_),(35,_)] [(19,_),(1000,_)] t10 t2 ?_))))))
   refine f0y (sl:=[(11,vu (vs.getD i 0))]) (sl0:=[(0,_),(1,_),(2,_),(8,_),(9,_),(10,_),(20,_),(21,_)]) (hb:=[]) (hb0:=[(19,_),(1000,_)]) t8 t2 ?_ ?_
   ·refine D2 rfl (fun hd=>?_) (fun hd=>?_)
    ·have hd:=dt hd
     refine y3 (mV L rfl (mV L rfl (sw (ixJ un43 sz119 (j:=i) rO oM sM L) t2 t0 ?_)))
     refine sw (v4 ag119 (by first | exact Z5 oM | rfl) L) t1 t0 ?_
     refine aV L rfl (O1 ?_)
     exact ⟨⟨oR,oR,oR,oR,oR,oR,oR,oR,oR,trivial⟩,t2⟩
    ·have hd:=df hd
     refine U1 ?_
     exact ⟨⟨oi (p9 oM).symm rfl,oR,oR,oR,oR,oR,oR,oR,oR,trivial⟩,t2⟩
   ·refine y3 (mV L rfl (mV L rfl (mV L rfl (mV L rfl (mV L rfl (swB (m1j hG hX [1000] hN (b1p (ws.getD i 0) (vs.getD i 0) c hw hw2 ⟨hc0,hc1⟩) rfl (l7 (fst:=[]) (ys:=[_,_]) (cap:=[_]) cl173 rfl rF) rF rF rF rF (h0b.to (.cons rfl .nil)) rF rF L) t3 t1 ?_))))))
    refine sw (C6 un43 sz119 (by exact sO) (j:=i) rO oM L) t2 t1 ?_
    refine sb (b0n sz119 (by exact sO) (.atom rfl) oM) t2 t1 ?_
    refine O1 (y3 (sw (K3 L (w64 oM oM)) t2 t0 (mV L rfl (O1 ?_))))
    exact ⟨(i+1,ys++[(ws.getD i 0+vs.getD i 0+c) % 4294967296],(ws.getD i 0+vs.getD i 0+c) / 4294967296),hx.next h h2 oM,(by simp only; omega),E3 ⟨oR,rfl,rfl,rfl,rfl,rfl,trivial⟩ ⟨obl rfl (by rw [o5,V0d hlen oM]),rfl,trivial⟩⟩
 ·have he:=df he
  have hi:i=n:=by omega
  subst hi
  obtain ⟨e1,e2⟩:c=0∧ys=E4 i (val ws+val vs):=D1f h h2 hx.wd hlen hn hc0 hx.eq
  subst e1
  refine L2 (xq ?_)
  refine exr (mV L rfl (aV L rfl (zn [(6,_)] [(19,_),(1000,_)] t1 t2 (G4 [19] (sl:=[(6,_)]) (hb:=[(1000,_)]) (B1b hXp rfl) ⟨⟨_,rfl,(.ref rfl rfl (by exact sO) (by first | rfl | omega))⟩,trivial⟩ ⟨⟨rfl,_,rfl,.same⟩,trivial⟩ ?_))))
  refine V1 ?_
  refine ⟨.inr rfl,U4.cast (.cons (.tmp rfl) .nil) ?_,t1⟩
  rw [e2]; simp [C3]
theorem h1z (ws vs:List Int)(hl:ws.length<10000000000000)(hl2:vs.length<10000000000000)(h:Wd ws)(h2:Wd vs)(hle0:val vs≤val ws):w0g E 172 [.p (pW ws),.p (pW vs),.clo (.func 174) [] [.at_ 1000 0 1]] [(1000,⟨119,1,.mix [.p (oZ 0)]⟩)] [(1000,⟨119,1,.mix [.p (oZ 0)]⟩)] (pW (E4 (max ws.length vs.length+1) (val ws - val vs))):=by
 refine f0n (xs:=[pW (E4 (max ws.length vs.length+1) (val ws - val vs))]) Tryz.func172 rfl Tryz.ntmps172 Tryz.results172 sM rfl (m0s rfl) fun F hG hX hnt hdf P0 hXp=>?_
 have L:=@lti _ _ hnt
 have hN:=W5 hG
 obtain ⟨n,hn⟩:∃ n,n=max ws.length vs.length+1:=⟨_,rfl⟩
 rw [← hn]
 refine exr (aV L rfl (zn [(0,_),(1,_),(2,_)] [(1000,_)] t3 t1 (exr (mV L rfl (sw (R2 un43 L) t1 t0 (mV L rfl (sw (R2 un43 L) t1 t0 (sw (M1q L) t2 t0 (sw (K3 L (w64 oM oM)) t2 t0 (aV L rfl ?_))))))))))
 refine O1 ⟨[(0,_),(1,_),(2,_),(7,vi (n:Int))],[(1000,_)],⟨rfl,rfl,rfl,oi oM rfl,trivial⟩,t1,?_⟩
 refine exr (mV L rfl (swb (v0b (k:=19) un43 ti119 rfl rfl rfl rfl rfl rfl (Nat.le_refl _) (by simp [Tryz.t119]; omega) oM (P0 _ rfl) L) t2 t0 ⟨rfl,rfl⟩ ?_))
 refine aV L rfl (zn [(0,_),(1,_),(2,_),(7,_),(8,_)] [(19,_),(1000,_)] t5 t2 (R1 (exr (mV L rfl (mV L rfl (zn [(0,_),(1,_),(2,_),(8,_),(20,_),(21,_)] [(19,_),(1000,_)] t6 t2 (X1 ?_)))))))
 refine exl (α:=(Nat×List Int×Int)) (fun x=>[(21,vi (x.1:Int))]) (fun x=>[(19,⟨119,1,.pure (K4 (x.2.1++List.replicate (n - x.1) 0))⟩),(1000,⟨119,1,.mix [.p (oZ x.2.2)]⟩)]) (fun x=>m0b ws vs n x) (fun x=>n - x.1) (((0:Nat),([]:List Int),(0:Int))) (sl:=[(0,_),(1,_),(2,_),(8,_),(20,_)]) (hb:=[]) ?_ ⟨oR,rfl,rfl,rfl,rfl,rfl,trivial⟩ ⟨obl rfl (by simp [K4]),rfl,trivial⟩ ?_
 ·exact m0b.zero ws vs n
 intro x hx
 obtain ⟨i,ys,c⟩:=x
 have hlen:=hx.len
 have hle:=hx.le
 have hc0:=hx.c0
 have hc1:=hx.c1
 simp only at hlen hle hc0 hc1
 dsimp only
 have hw:=h.getD i
 have hw2:=h2.getD i
 refine exr (sw (d4 L) t2 t0 (zn [(0,_),(1,_),(2,_),(8,_),(20,_),(21,_),(22,_)] [(19,_),(1000,_)] t7 t2 (R1 ?_)))
 refine D2 rfl (fun he=>?_) (fun he=>?_)
 ·have he:=dt he
  refine U1 (xq ?_)
  refine R1 (X1 (exr (mV L rfl (aV L rfl (zn [(0,_),(1,_),(2,_),(8,_),(9,_),(20,_),(21,_)] [(19,_),(1000,_)] t7 t2 (exr (aV L rfl (aV L rfl (zn [(0,_),(1,_),(2,_),(8,_),(9,_),(10,_),(11,_),(20,_),(21,_)] [(19,_),(1000,_)] t9 t2 (R1 (exr ?_)))))))))))
  refine mV L rfl (mV L rfl (sw (R2 un43 L) t1 t0 (sw (d4 L) t2 t0 (zn [(0,_),(1,_),(2,_),(8,_),(9,_),(10,_),(11,_),(20,_),(21,_),(27,_)] [(19,_),(1000,_)] t10 t2 ?_))))
  refine f0y (sl:=[(10,vu (ws.getD i 0))]) (sl0:=[(0,_),(1,_),(2,_),(8,_),(9,_),(11,_),(20,_),(21,_)]) (hb:=[]) (hb0:=[(19,_),(1000,_)]) t8 t2 ?_ ?_
  ·refine D2 rfl (fun hd=>?_) (fun hd=>?_)
   ·have hd:=dt hd
    refine y3 (mV L rfl (mV L rfl (sw (ixJ un43 sz119 (j:=i) rO oM sM L) t2 t0 ?_)))
    refine sw (v4 ag119 (by first | exact Z5 oM | rfl) L) t1 t0 ?_
    refine aV L rfl (O1 ?_)
    exact ⟨⟨oR,oR,oR,oR,oR,oR,oR,oR,oR,trivial⟩,t2⟩
   ·have hd:=df hd
    refine U1 ?_
    exact ⟨⟨oi (p9 oM).symm rfl,oR,oR,oR,oR,oR,oR,oR,oR,trivial⟩,t2⟩
  ·refine R1 (exr (mV L rfl (mV L rfl (sw (R2 un43 L) t1 t0 (sw (d4 L) t2 t0 (zn [(0,_),(1,_),(2,_),(8,_),(9,_),(10,_),(11,_),(20,_),(21,_),(35,_)] [(19,_),(1000,_)] t10 t2 ?_))))))
   refine f0y (sl:=[(11,vu (vs.getD i 0))]) (sl0:=[(0,_),(1,_),(2,_),(8,_),(9,_),(10,_),(20,_),(21,_)]) (hb:=[]) (hb0:=[(19,_),(1000,_)]) t8 t2 ?_ ?_
   ·refine D2 rfl (fun hd=>?_) (fun hd=>?_)
    ·have hd:=dt hd
     refine y3 (mV L rfl (mV L rfl (sw (ixJ un43 sz119 (j:=i) rO oM sM L) t2 t0 ?_)))
     refine sw (v4 ag119 (by first | exact Z5 oM | rfl) L) t1 t0 ?_
     refine aV L rfl (O1 ?_)
     exact ⟨⟨oR,oR,oR,oR,oR,oR,oR,oR,oR,trivial⟩,t2⟩
    ·have hd:=df hd
     refine U1 ?_
     exact ⟨⟨oi (p9 oM).symm rfl,oR,oR,oR,oR,oR,oR,oR,oR,trivial⟩,t2⟩
   ·refine y3 (mV L rfl (mV L rfl (mV L rfl (mV L rfl (mV L rfl (swB (m1j hG hX [1000] hN (Q0v (ws.getD i 0) (vs.getD i 0) c hw hw2 ⟨hc0,hc1⟩) rfl (l7 (fst:=[]) (ys:=[_,_]) (cap:=[_]) cl174 rfl rF) rF rF rF rF (h0b.to (.cons rfl .nil)) rF rF L) t3 t1 ?_))))))
    refine sw (C6 un43 sz119 (by exact sO) (j:=i) rO oM L) t2 t1 ?_
    refine sb (b0n sz119 (by exact sO) (.atom rfl) oM) t2 t1 ?_
    refine O1 (y3 (sw (K3 L (w64 oM oM)) t2 t0 (mV L rfl (O1 ?_))))
    exact ⟨(i+1,ys++[(ws.getD i 0 - vs.getD i 0 - c) % 4294967296],if ws.getD i 0<vs.getD i 0+c then 1 else 0),hx.next h h2 oM,(by simp only; omega),E3 ⟨oR,rfl,rfl,rfl,rfl,rfl,trivial⟩ ⟨obl rfl (by rw [o5,V0d hlen oM]),rfl,trivial⟩⟩
 ·have he:=df he
  have hi:i=n:=by omega
  subst hi
  obtain ⟨e1,e2⟩:c=0∧ys=E4 i (val ws - val vs):=g1b h h2 hle0 oM oM hx
  subst e1
  refine L2 (xq ?_)
  refine exr (mV L rfl (aV L rfl (zn [(6,_)] [(19,_),(1000,_)] t1 t2 (G4 [19] (sl:=[(6,_)]) (hb:=[(1000,_)]) (B1b hXp rfl) ⟨⟨_,rfl,(.ref rfl rfl (by exact sO) (by first | rfl | omega))⟩,trivial⟩ ⟨⟨rfl,_,rfl,.same⟩,trivial⟩ ?_))))
  refine V1 ?_
  refine ⟨.inr rfl,U4.cast (.cons (.tmp rfl) .nil) ?_,t1⟩
  rw [e2]; simp [C3]
theorem n1c (ws vs:List Int)(hl:ws.length<10000000000000)(hl2:vs.length<10000000000000)(h:Wd ws)(h2:Wd vs):Y2 E 163 [pW ws,pW vs] (pW (E4 (max ws.length vs.length+1) (val ws+val vs))):=by
 refine j2 (xs:=[pW (E4 (max ws.length vs.length+1) (val ws+val vs))]) Tryz.func163 rfl Tryz.ntmps163 Tryz.results163 sM fun F hG hX0 hnt hdf P0=>?_
 obtain ⟨L,hX,hN⟩:=pro hnt hX0 hG
 refine exr (aV L rfl (zn [(0,_),(1,_)] [] t2 trivial (exr (swb (T3 (k:=5) (n:=1) zv119 (.cons rfl .nil) rfl (P0 _ rfl) L) t0 t0 ⟨rfl,rfl⟩ (zn [(0,_),(1,_),(5,_)] [(5,_)] t3 t1 (exr (mV L rfl (mV L rfl (sw (j0d (vs:=[]) (us:=[_]) rfl rfl L) t1 t0 (swB (m1j hG hX [5] hN (n1p ws vs hl hl2 h h2) rfl (C4 (ys:=[_,_,_]) cl172 rfl rF) rF rF rF rF (h0b.to (.cons rfl .nil)) rF rF L) t3 t1 ?_))))))))))
 refine aV L rfl (zn [(4,_)] [] t1 trivial (V1 ?_))
 refine Q0 (.tmp rfl) ?_
 rfl
theorem D0p (ws vs:List Int)(hl:ws.length<10000000000000)(hl2:vs.length<10000000000000)(h:Wd ws)(h2:Wd vs)(hle:val vs≤val ws):Y2 E 164 [pW ws,pW vs] (pW (E4 (max ws.length vs.length+1) (val ws - val vs))):=by
 refine j2 (xs:=[pW (E4 (max ws.length vs.length+1) (val ws - val vs))]) Tryz.func164 rfl Tryz.ntmps164 Tryz.results164 sM fun F hG hX0 hnt hdf P0=>?_
 obtain ⟨L,hX,hN⟩:=pro hnt hX0 hG
 refine exr (aV L rfl (zn [(0,_),(1,_)] [] t2 trivial (exr (swb (T3 (k:=5) (n:=1) zv119 (.cons rfl .nil) rfl (P0 _ rfl) L) t0 t0 ⟨rfl,rfl⟩ (zn [(0,_),(1,_),(5,_)] [(5,_)] t3 t1 (exr (mV L rfl (mV L rfl (sw (j0d (vs:=[]) (us:=[_]) rfl rfl L) t1 t0 (swB (m1j hG hX [5] hN (h1z ws vs hl hl2 h h2 hle) rfl (C4 (ys:=[_,_,_]) cl172 rfl rF) rF rF rF rF (h0b.to (.cons rfl .nil)) rF rF L) t3 t1 ?_))))))))))
 refine aV L rfl (zn [(4,_)] [] t1 trivial (V1 ?_))
 refine Q0 (.tmp rfl) ?_
 rfl
theorem j0j (ws vs:List Int)(m n:Bool)(hl:ws.length<9999999999999)(hl2:vs.length<9999999999999)(h:Wd ws)(h2:Wd vs)(ht:Tr ws)(ht2:Tr vs):Y2 E 153 [pW ws,bZ m,pW vs,bZ n] (pZ (sg m (val ws)+sg n (val vs))):=by
 refine j2 (xs:=[pZ (sg m (val ws)+sg n (val vs))]) Tryz.func153 rfl Tryz.ntmps153 Tryz.results153 sM fun F hG hX0 hnt hdf P0=>?_
 obtain ⟨L,hX,hN⟩:=pro hnt hX0 hG
 have hv:=G2 h
 have hv2:=G2 h2
 refine exr (swb (T3 (k:=8) (n:=2) zv45 (.cons rfl (.cons rfl .nil)) rfl (P0 _ rfl) L) t0 t0 ⟨rfl,rfl⟩ (zn [(0,_),(1,_),(2,_),(3,_),(8,_)] [(8,_)] t5 t1 (R1 (exr (mV L rfl (mV L rfl (cK hG hX cl162 hN (K0d m ws oM h) L t2 (mV L rfl (sw (i4 rfl L) t1 t0 (sw (i4 rfl L) t1 t0 (aV L rfl ?_)))))))))))
 refine aV L rfl (zn [(0,_),(1,_),(2,_),(3,_),(8,_),(9,_),(10,_)] [(8,_)] t7 t1 (exr (mV L rfl (zn [(0,_),(1,_),(2,_),(3,_),(8,_),(9,_),(19,_)] [(8,_)] t7 t1 ?_))))
 refine f0y (sl:=[]) (sl0:=[(0,_),(1,_),(2,_),(3,_),(8,_)]) (hb:=[]) (hb0:=[(8,_)]) t5 t1 ?_ ?_
 ·refine D2 rfl (fun hd=>?_) (fun hd=>?_)
  ·have hd:=dt hd
   have hw:=k0r h hd
   refine exr (mV L rfl (mV L rfl (cK hG hX cl162 hN (K0d n vs oM h2) L t2 (mV L rfl (sw (i4 rfl L) t1 t0 (sw (i4 rfl L) t1 t0 (aV L rfl (aV L rfl (zn [(0,_),(1,_),(2,_),(3,_),(8,_),(9,_),(11,_),(12,_)] [(8,_)] t8 t1 (exr (mV L rfl ?_)))))))))))
   refine zn [(0,_),(1,_),(2,_),(3,_),(8,_),(9,_),(11,_),(26,_)] [(8,_)] t8 t1 ?_
   refine D2 rfl (fun he=>?_) (fun he=>?_)
   ·have he:=dt he
    have hw2:=k0r h2 he
    rw [if_pos hd,if_pos he]
    have b1:=h1a m hv hw
    have b2:=h1a n hv2 hw2
    refine exr (mV L rfl (mV L rfl (sw (K3 L (w64 oM oM)) t2 t0 (cK hG hX cl101 hN (M0n (sg m (val ws)+sg n (val vs)) oM oM) L t1 (sb (U2 sz45 rF pa2 rfl pu2) t2 t1 ?_)))))
    refine zn [(8,_)] [(8,_)] t1 t1 (V1 ?_)
    refine Q0 (.agg rfl rfl rfl ag45 sz45 (.cons (.cons .nil))) ?_
    rfl
   ·refine U1 ?_
    exact ⟨⟨oR,oR,oR,oR,oR,trivial⟩,t1⟩
  ·refine U1 ?_
   exact ⟨⟨oR,oR,oR,oR,oR,trivial⟩,t1⟩
 ·refine R1 (exr (mV L rfl (mV L rfl (sw (N1w un4 L) t2 t0 (zn [(0,_),(1,_),(2,_),(3,_),(8,_),(33,_)] [(8,_)] t6 t1 ?_)))))
  refine D2 rfl (fun hd=>?_) (fun hd=>?_)
  ·have hd:m=n:=by simpa using hd
   subst hd
   refine exr (mV L rfl (mV L rfl (mV L rfl (cK hG hX cl163 hN (n1c ws vs oM oM h h2) L t2 (cK hG hX cl131 hN (n7 m (E4 (max ws.length vs.length+1) (val ws+val vs)) (by rw [C3]; omega) (y6 _ _)) L t2 ?_)))))
   refine sb (U2 sz45 rF pa2 rfl pu2) t2 t1 ?_
   refine zn [(8,_)] [(8,_)] t1 t1 (V1 ?_)
   refine Q0 (.agg rfl rfl rfl ag45 sz45 (.cons (.cons .nil))) ?_
   rw [m6 oM (b0a h h2),b1n]
  ·have hd:m≠n:=by simpa using hd
   refine U1 (xq ?_)
   refine R1 (exr (mV L rfl (mV L rfl (cK hG hX cl141 hN (d0m ws vs oM oM h h2 ht ht2) L t2 (sw (b0p L) t2 t0 (zn [(0,_),(1,_),(2,_),(3,_),(8,_),(42,_)] [(8,_)] t6 t1 ?_))))))
   have hx:val ws<4294967296 ^ (max ws.length vs.length+1):=by have:=b0a h h2; omega
   have hx2:val vs<4294967296 ^ (max ws.length vs.length+1):=by have:=b0a h h2; omega
   refine D2 rfl (fun he=>?_) (fun he=>?_)
   ·have he:=g1f (dt he)
    refine exr (mV L rfl (mV L rfl (mV L rfl (cK hG hX cl164 hN (D0p ws vs oM oM h h2 he) L t2 (cK hG hX cl131 hN (n7 m (E4 (max ws.length vs.length+1) (val ws - val vs)) (by rw [C3]; omega) (y6 _ _)) L t2 ?_)))))
    refine sb (U2 sz45 rF pa2 rfl pu2) t2 t1 ?_
    refine zn [(8,_)] [(8,_)] t1 t1 (V1 ?_)
    refine Q0 (.agg rfl rfl rfl ag45 sz45 (.cons (.cons .nil))) ?_
    rw [m6 oM oM,N0z hd]
   ·have he:=f1s (df he)
    refine U1 (xq ?_)
    refine exr (mV L rfl (mV L rfl (mV L rfl (cK hG hX cl164 hN (D0p vs ws oM oM h2 h oM) L t2 (cK hG hX cl131 hN (n7 n (E4 (max vs.length ws.length+1) (val vs - val ws)) (by rw [C3]; omega) (y6 _ _)) L t2 ?_)))))
    refine sb (U2 sz45 rF pa2 rfl pu2) t2 t1 ?_
    refine zn [(8,_)] [(8,_)] t1 t1 (V1 ?_)
    refine Q0 (.agg rfl rfl rfl ag45 sz45 (.cons (.cons .nil))) ?_
    rw [m6 oM (by rw [Nat.max_comm]; omega),N0z hd.symm,Int.add_comm]
theorem B1z (m n:Bool)(ws vs:List Int)(hl:ws.length<9999999999999)(hl2:vs.length<9999999999999)(h:Wd ws)(h2:Wd vs):Y2 E 140 [pI m ws,pI n vs] (pZ (if P2 m ws=true∧P2 n vs=true then sg m (val ws)+sg n (val vs) else 0)):=by
 refine j2 (xs:=[pZ (if P2 m ws=true∧P2 n vs=true then sg m (val ws)+sg n (val vs) else 0)]) Tryz.func140 rfl Tryz.ntmps140 Tryz.results140 sM fun F hG hX0 hnt hdf P0=>?_
 obtain ⟨L,hX,hN⟩:=pro hnt hX0 hG
 refine exr (swb (R3 (k:=2) (n:=2) pa2 rfl rfl (P0 _ rfl) L) t1 t0 ⟨rfl,rfl⟩ (swb (R3 (k:=3) (n:=2) pa2 rfl rfl (P0 _ rfl) L) t1 t0 ⟨rfl,rfl⟩ (swb (T3 (k:=4) (n:=2) zv45 (.cons rfl (.cons rfl .nil)) rfl (P0 _ rfl) L) t0 t0 ⟨rfl,rfl⟩ (zn [(2,_),(3,_),(4,_)] [(2,_),(3,_),(4,_)] t3 t3 (R1 (exr (lp2 ag45 sz45 L rfl rfl (lp2 ag45 sz45 L rfl rfl (sw (F4 (vs:=[_,_]) un139 ti45 rfl rfl dC dC rfl (M2 (.cons rfl (.cons rfl .nil)) rfl) rfl (.cons rfl pa2 rfl pu2 (.cons rfl pa2 rfl (.skip (.skip pu2)) .nil)) (.cons (.cons (.cons (.cons .nil)))) L) t2 t0 (cK hG hX cl138 hN (f0g [(m,ws),(n,vs)] sM sO) L t1 ?_))))))))))
 refine sw (P3 L) t1 t0 (zn [(2,_),(3,_),(4,_),(9,_)] [(2,_),(3,_),(4,_)] t4 t3 ?_)
 refine D2 rfl (fun hc=>?_) (fun hc=>?_)
 ·have hc:¬ (P2 m ws=true∧P2 n vs=true):=by rintro ⟨h1,h2⟩; simp [h1,h2] at hc
  refine exr (sw (Y7 (E6 (vs:=[]) un45 zv45 (.cons rfl (.cons rfl .nil)) ((y2.cons sz4 (y2.cons sz43 y2.nil))).to rfl .nil (.cons (.cons .nil)) L) (.agg (.cons .same (.cons .nil .nil)))) t0 t0 (sb (U2 sz45 rF pa2 rfl pu2) t2 t1 ?_))
  refine zn [(4,_)] [(4,_)] t1 t1 (V1 ?_)
  refine Q0 (.agg rfl rfl rfl ag45 sz45 (.cons (.cons .nil))) ?_
  rw [if_neg hc,D8]; rfl
 ·have hc:P2 m ws=true∧P2 n vs=true:=by simpa using hc
  refine U1 (xq ?_)
  refine exr (sw (Z1 un45 rfl sz43 dC rX L) t1 t1 ?_)
  refine sw (Y1 ag43 rF rF L) t1 t1 ?_
  refine sw (Z1 un45 rfl sz4 dC rX L) t1 t1 ?_
  refine sw (Y1 ag4 rF rF L) t1 t1 ?_
  refine sw (Z1 un45 rfl sz43 dC rX L) t1 t1 ?_
  refine sw (Y1 ag43 rF rF L) t1 t1 ?_
  refine sw (Z1 un45 rfl sz4 dC rX L) t1 t1 ?_
  refine sw (Y1 ag4 rF rF L) t1 t1 ?_
  refine cK hG hX cl153 hN (j0j ws vs m n hl hl2 h h2 (P5 hc.1).1 (P5 hc.2).1) L t4 (sb (U2 sz45 rF pa2 rfl pu2) t2 t1 ?_)
  refine zn [(4,_)] [(4,_)] t1 t1 (V1 ?_)
  refine Q0 (.agg rfl rfl rfl ag45 sz45 (.cons (.cons .nil))) ?_
  rw [if_pos hc]
theorem w1f (m n:Bool)(ws vs:List Int)(hl:ws.length<9999999999999)(hl2:vs.length<9999999999999)(h:Wd ws)(h2:Wd vs):Y2 E 161 [pI m ws,pI n vs] (pZ (if P2 m ws=true∧P2 n vs=true then sg m (val ws) - sg n (val vs) else 0)):=by
 refine j2 (xs:=[pZ (if P2 m ws=true∧P2 n vs=true then sg m (val ws) - sg n (val vs) else 0)]) Tryz.func161 rfl Tryz.ntmps161 Tryz.results161 sM fun F hG hX0 hnt hdf P0=>?_
 obtain ⟨L,hX,hN⟩:=pro hnt hX0 hG
 refine exr (swb (R3 (k:=2) (n:=2) pa2 rfl rfl (P0 _ rfl) L) t1 t0 ⟨rfl,rfl⟩ (swb (R3 (k:=3) (n:=2) pa2 rfl rfl (P0 _ rfl) L) t1 t0 ⟨rfl,rfl⟩ (swb (T3 (k:=4) (n:=2) zv45 (.cons rfl (.cons rfl .nil)) rfl (P0 _ rfl) L) t0 t0 ⟨rfl,rfl⟩ (zn [(2,_),(3,_),(4,_)] [(2,_),(3,_),(4,_)] t3 t3 (R1 (exr (lp2 ag45 sz45 L rfl rfl (lp2 ag45 sz45 L rfl rfl (sw (F4 (vs:=[_,_]) un139 ti45 rfl rfl dC dC rfl (M2 (.cons rfl (.cons rfl .nil)) rfl) rfl (.cons rfl pa2 rfl pu2 (.cons rfl pa2 rfl (.skip (.skip pu2)) .nil)) (.cons (.cons (.cons (.cons .nil)))) L) t2 t0 (cK hG hX cl138 hN (f0g [(m,ws),(n,vs)] sM sO) L t1 ?_))))))))))
 refine sw (P3 L) t1 t0 (zn [(2,_),(3,_),(4,_),(9,_)] [(2,_),(3,_),(4,_)] t4 t3 ?_)
 refine D2 rfl (fun hc=>?_) (fun hc=>?_)
 ·have hc:¬ (P2 m ws=true∧P2 n vs=true):=by rintro ⟨h1,h2⟩; simp [h1,h2] at hc
  refine exr (sw (Y7 (E6 (vs:=[]) un45 zv45 (.cons rfl (.cons rfl .nil)) ((y2.cons sz4 (y2.cons sz43 y2.nil))).to rfl .nil (.cons (.cons .nil)) L) (.agg (.cons .same (.cons .nil .nil)))) t0 t0 (sb (U2 sz45 rF pa2 rfl pu2) t2 t1 ?_))
  refine zn [(4,_)] [(4,_)] t1 t1 (V1 ?_)
  refine Q0 (.agg rfl rfl rfl ag45 sz45 (.cons (.cons .nil))) ?_
  rw [if_neg hc,D8]; rfl
 ·have hc:P2 m ws=true∧P2 n vs=true:=by simpa using hc
  refine U1 (xq ?_)
  refine exr (sw (Z1 un45 rfl sz43 dC rX L) t1 t1 ?_)
  refine sw (Y1 ag43 rF rF L) t1 t1 ?_
  refine sw (Z1 un45 rfl sz4 dC rX L) t1 t1 ?_
  refine sw (Y1 ag4 rF rF L) t1 t1 ?_
  refine sw (Z1 un45 rfl sz43 dC rX L) t1 t1 ?_
  refine sw (Y1 ag43 rF rF L) t1 t1 ?_
  refine sw (Z1 un45 rfl sz4 dC rX L) t1 t1 ?_
  refine sw (Y1 ag4 rF rF L) t1 t1 ?_
  refine sw (P3 L) t1 t0 (cK hG hX cl153 hN (j0j ws vs m (!n) hl hl2 h h2 (P5 hc.1).1 (P5 hc.2).1) L t4 (sb (U2 sz45 rF pa2 rfl pu2) t2 t1 ?_))
  refine zn [(4,_)] [(4,_)] t1 t1 (V1 ?_)
  refine Q0 (.agg rfl rfl rfl ag45 sz45 (.cons (.cons .nil))) ?_
  rw [if_pos hc,J1y,Int.sub_eq_add_neg]
theorem d1k (ws vs:List Int)(hl:ws.length<4000000000000)(hl2:vs.length<4000000000000)(h:Wd ws)(h2:Wd vs):Y2 E 139 [pW ws,pW vs] (pW (E4 (ws.length+vs.length) (val ws*val vs))):=by
 refine j2 (xs:=[pW (E4 (ws.length+vs.length) (val ws*val vs))]) Tryz.func139 rfl Tryz.ntmps139 Tryz.results139 sM fun F hG hX0 hnt hdf P0=>?_
 obtain ⟨L,hX,hN⟩:=pro hnt hX0 hG
 refine exr (aV L rfl (zn [(0,_),(1,_)] [] t2 trivial (exr (mV L rfl (sw (R2 un43 L) t1 t0 (mV L rfl (sw (R2 un43 L) t1 t0 (sw (K3 L (w64 oM oM)) t2 t0 (swb (v0b (k:=17) un43 ti119 rfl rfl rfl rfl (show _=((ws.length+vs.length:Nat):Int) by omega) (show _=((ws.length+vs.length:Nat):Int) by omega) (Nat.le_refl _) (by simp [Tryz.t119]; omega) oM (P0 _ rfl) L) t2 t0 ⟨rfl,rfl⟩ ?_)))))))))
 refine aV L rfl (zn [(0,_),(1,_),(5,_)] [(17,_)] t3 t1 (R1 (exr (mV L rfl (sw (R2 un43 L) t1 t0 (mV L rfl (zn [(1,_),(5,_),(18,_),(19,_),(20,_)] [(17,_)] t5 t1 (X1 ?_))))))))
 refine exl (α:=(Nat×List Int)) (fun x=>[(20,vi (x.1:Int))]) (fun x=>[(17,⟨119,1,.pure (K4 x.2)⟩)]) (fun x=>v0w ws vs x) (fun x=>ws.length - x.1) (((0:Nat),List.replicate (ws.length+vs.length) (0:Int))) (sl:=[(1,_),(5,_),(18,_),(19,_)]) (hb:=[]) ?_ ⟨oR,rfl,rfl,rfl,rfl,trivial⟩ ⟨obl rfl (by rw [X9]),trivial⟩ ?_
 ·exact v0w.zero ws vs
 intro x hx
 obtain ⟨i,r⟩:=x
 have hlen:=hx.len
 have hle:=hx.le
 simp only at hlen hle
 dsimp only
 refine exr (sw (d4 L) t2 t0 (zn [(1,_),(5,_),(18,_),(19,_),(20,_),(21,_)] [(17,_)] t6 t1 (R1 ?_)))
 refine D2 rfl (fun he=>?_) (fun he=>?_)
 ·have he:=dt he
  have hw:=h.getD i
  refine U1 (xq ?_)
  refine R1 (X1 (exr (mV L rfl (sw (ixJ un43 sz119 (j:=i) rO oM sM L) t2 t0 ?_))))
  refine sw (v4 ag119 (by first | exact Z5 oM | rfl) L) t1 t0 ?_
  refine aV L rfl (aV L rfl (zn [(1,_),(5,_),(6,_),(7,_),(18,_),(19,_),(20,_)] [(17,_)] t7 t1 (exr (aV L rfl (zn [(1,_),(5,_),(6,_),(7,_),(8,_),(18,_),(19,_),(20,_)] [(17,_)] t8 t1 (R1 (exr (mV L rfl (sw (R2 un43 L) t1 t0 (mV L rfl (zn [(1,_),(5,_),(6,_),(7,_),(8,_),(18,_),(19,_),(20,_),(25,_),(26,_),(27,_)] [(17,_)] t11 t1 ?_)))))))))))
  refine X1 ?_
  refine exl (α:=(Nat×List Int×Int)) (fun y=>[(27,vi (y.1:Int)),(8,vw y.2.2)]) (fun y=>[(17,⟨119,1,.pure (K4 y.2.1)⟩)]) (fun y=>j0k ws vs i y) (fun y=>vs.length - y.1) (((0:Nat),r,(0:Int))) (sl:=[(1,_),(5,_),(6,_),(7,_),(18,_),(19,_),(20,_),(25,_),(26,_)]) (hb:=[]) ?_ ⟨oR,oR,rfl,rfl,rfl,rfl,rfl,rfl,rfl,rfl,rfl,trivial⟩ t1 ?_
  ·exact j0k.zero h h2 hx oM
  intro y hy
  obtain ⟨j,s,c⟩:=y
  have hlen2:=hy.len
  have hle2:=hy.le
  have hc0:=hy.c0
  have hc1:=hy.c1
  simp only at hlen2 hle2 hc0 hc1
  dsimp only
  refine exr (sw (d4 L) t2 t0 (zn [(1,_),(5,_),(6,_),(7,_),(8,_),(18,_),(19,_),(20,_),(25,_),(26,_),(27,_),(28,_)] [(17,_)] t12 t1 (R1 ?_)))
  refine D2 rfl (fun hf=>?_) (fun hf=>?_)
  ·have hf:=dt hf
   have hv:=h2.getD j
   have hb:=g0d hw hv
   have hs:=hy.wd.getD (i+j)
   simp only at hs
   obtain ⟨key,k1,k2⟩:=hy.next h h2 oM oM rfl
   refine U1 (xq ?_)
   refine R1 (X1 (exr (mV L rfl (sw (ixJ un43 sz119 (j:=j) rO oM sM L) t2 t0 ?_))))
   refine sw (v4 ag119 (by first | exact Z5 oM | rfl) L) t1 t0 ?_
   refine aV L rfl (aV L rfl (zn [(1,_),(5,_),(6,_),(7,_),(8,_),(9,_),(10,_),(18,_),(19,_),(20,_),(25,_),(26,_),(27,_)] [(17,_)] t13 t1 (exr (mV L rfl (sw (y4 un119 un127 L (J4 oM oM)) t1 t0 (mV L rfl (sw (y4 un119 un127 L (J4 oM oM)) t1 t0 (sw (Q0c L (J4 oM oM)) t2 t0 (mV L rfl (mV L rfl (mV L rfl ?_)))))))))))
   refine sw (K3 L (w64 oM oM)) t2 t0 (sw (C6 un43 sz119 (by exact sO) (j:=i+j) rO oM L) t2 t1 ?_)
   refine sw (Y1 ag119 (by exact sO) (g0m (by first | exact Z5 oM | rfl)) L) t1 t1 ?_
   refine sw (y4 un119 un127 L (J4 oM oM)) t1 t0 (sw (K3 L (J4 oM oM)) t2 t0 (mV L rfl (sw (K3 L (J4 oM oM)) t2 t0 (aV L rfl (zn [(1,_),(5,_),(6,_),(7,_),(9,_),(11,_),(18,_),(19,_),(20,_),(25,_),(26,_),(27,_)] [(17,_)] t12 t1 (exr (mV L rfl (mV L rfl (mV L rfl (sw (K3 L (w64 oM oM)) t2 t0 (mV L rfl ?_)))))))))))
   refine sw (y4 un127 un119 L j8) t1 t0 (sw (C6 un43 sz119 (by exact sO) (j:=i+j) rO oM L) t2 t1 ?_)
   refine sb (b0n sz119 (by exact sO) (.atom rfl) oM) t2 t1 ?_
   refine zn [(1,_),(5,_),(6,_),(7,_),(11,_),(18,_),(19,_),(20,_),(25,_),(26,_),(27,_)] [(17,_)] t11 t1 (y3 (mV L rfl (sw (v9 L dC (d0r (c:=4294967296) rF dC)) t2 t0 ?_)))
   refine aV L rfl (O1 (y3 (sw (K3 L (w64 oM oM)) t2 t0 (mV L rfl (O1 ?_)))))
   exact ⟨(j+1,s.set (i+j) ((ws.getD i 0*vs.getD j 0+s.getD (i+j) 0+c) % 4294967296),(ws.getD i 0*vs.getD j 0+s.getD (i+j) 0+c) / 4294967296),key,(by simp only; omega),E3 ⟨oR,oR,rfl,rfl,rfl,rfl,rfl,rfl,rfl,rfl,rfl,trivial⟩ ⟨obl rfl (by rw [o5]),trivial⟩⟩
  ·have hf:=df hf
   have hj:j=vs.length:=by omega
   subst hj
   refine L2 (xq ?_)
   refine y3 (mV L rfl (mV L rfl (mV L rfl (sw (R2 un43 L) t1 t0 (sw (K3 L (w64 oM oM)) t2 t0 (mV L rfl (sw (y4 un127 un119 L (w0w oM oM)) t1 t0 (sw (C6 un43 sz119 (by exact sO) (j:=i+vs.length) rO oM L) t2 t1 ?_))))))))
   refine sb (b0n sz119 (by exact sO) (.atom rfl) oM) t2 t1 ?_
   refine O1 (y3 (sw (K3 L (w64 oM oM)) t2 t0 (mV L rfl (O1 ?_))))
   exact ⟨(i+1,s.set (i+vs.length) c),hy.done oM,(by simp only; omega),E3 ⟨oR,rfl,rfl,rfl,rfl,trivial⟩ ⟨obl rfl (by rw [o5]),trivial⟩⟩
 ·have he:=df he
  have hi:i=ws.length:=by omega
  subst hi
  have e:r=E4 (ws.length+vs.length) (val ws*val vs):=by
   have:=hx.eq
   simp only [I0] at this
   rw [← this,← hlen,j7 hx.wd]
  refine L2 (xq ?_)
  refine exr (mV L rfl (aV L rfl (zn [(4,_)] [(17,_)] t1 t1 (G4 [17] (sl:=[(4,_)]) (hb:=[]) (M3 hX0) ⟨⟨_,rfl,(.ref rfl rfl (by exact sO) (by first | rfl | omega))⟩,trivial⟩ t0 ?_))))
  refine V1 ?_
  refine Q0 (.tmp rfl) ?_
  rw [e]; simp [C3]
theorem y1a (m n:Bool)(ws vs:List Int)(hl:ws.length<4000000000000)(hl2:vs.length<4000000000000)(h:Wd ws)(h2:Wd vs):Y2 E 111 [pI m ws,pI n vs] (pZ (if P2 m ws=true∧P2 n vs=true then sg m (val ws)*sg n (val vs) else 0)):=by
 refine j2 (xs:=[pZ (if P2 m ws=true∧P2 n vs=true then sg m (val ws)*sg n (val vs) else 0)]) Tryz.func111 rfl Tryz.ntmps111 Tryz.results111 sM fun F hG hX0 hnt hdf P0=>?_
 obtain ⟨L,hX,hN⟩:=pro hnt hX0 hG
 have hv:=G2 h
 have hv2:=G2 h2
 have hvv:0≤val ws*val vs:=Int.mul_nonneg hv hv2
 refine exr (swb (R3 (k:=2) (n:=2) pa2 rfl rfl (P0 _ rfl) L) t1 t0 ⟨rfl,rfl⟩ (swb (R3 (k:=3) (n:=2) pa2 rfl rfl (P0 _ rfl) L) t1 t0 ⟨rfl,rfl⟩ (swb (T3 (k:=4) (n:=2) zv45 (.cons rfl (.cons rfl .nil)) rfl (P0 _ rfl) L) t0 t0 ⟨rfl,rfl⟩ (zn [(2,_),(3,_),(4,_)] [(2,_),(3,_),(4,_)] t3 t3 (R1 (exr (lp2 ag45 sz45 L rfl rfl (lp2 ag45 sz45 L rfl rfl (sw (F4 (vs:=[_,_]) un139 ti45 rfl rfl dC dC rfl (M2 (.cons rfl (.cons rfl .nil)) rfl) rfl (.cons rfl pa2 rfl pu2 (.cons rfl pa2 rfl (.skip (.skip pu2)) .nil)) (.cons (.cons (.cons (.cons .nil)))) L) t2 t0 (cK hG hX cl138 hN (f0g [(m,ws),(n,vs)] sM sO) L t1 ?_))))))))))
 refine sw (P3 L) t1 t0 (zn [(2,_),(3,_),(4,_),(9,_)] [(2,_),(3,_),(4,_)] t4 t3 ?_)
 refine D2 rfl (fun hc=>?_) (fun hc=>?_)
 ·have hc:¬ (P2 m ws=true∧P2 n vs=true):=by rintro ⟨h1,h2⟩; simp [h1,h2] at hc
  refine exr (sw (Y7 (E6 (vs:=[]) un45 zv45 (.cons rfl (.cons rfl .nil)) ((y2.cons sz4 (y2.cons sz43 y2.nil))).to rfl .nil (.cons (.cons .nil)) L) (.agg (.cons .same (.cons .nil .nil)))) t0 t0 (sb (U2 sz45 rF pa2 rfl pu2) t2 t1 ?_))
  refine zn [(4,_)] [(4,_)] t1 t1 (V1 ?_)
  refine Q0 (.agg rfl rfl rfl ag45 sz45 (.cons (.cons .nil))) ?_
  rw [if_neg hc,D8]; rfl
 ·have hc:P2 m ws=true∧P2 n vs=true:=by simpa using hc
  have es:sg (m != n) (val ws*val vs)=sg m (val ws)*sg n (val vs):=by cases m <;> cases n <;> simp [sg,Int.mul_neg,Int.neg_mul]
  refine U1 (xq ?_)
  refine R1 ?_
  refine exm (sl:=[(20,vb (decide (ws.length=1∧vs.length=1)))]) (sl0:=[(2,_),(3,_),(4,_)]) (hb:=[]) (hb0:=[(2,_),(3,_),(4,_)]) t3 t3 ?_ ?_
  ·by_cases hd:ws.length=1
   ·refine sw (Z1 un45 rfl sz43 dC rX L) t1 t1 ?_
    refine sw (Y1 ag43 rF rF L) t1 t1 ?_
    refine sw (R2 un43 L) t1 t0 (sw (c_e L) t2 t0 (mV L rfl (swg (g:=15) rfl (decide_eq_true oM) (Z1 un45 rfl sz43 dC rX L) rfl t1 t1 ?_)))
    refine swg (g:=15) rfl (decide_eq_true oM) (Y1 ag43 rF rF L) rfl t1 t1 ?_
    refine swg (g:=15) rfl (decide_eq_true oM) (R2 un43 L) rfl t1 t0 (swg (g:=15) rfl (decide_eq_true oM) (c_e L) rfl t2 t0 (sw (m4 (decide_eq_true oM) L) t2 t0 ?_))
    exact O1 ⟨⟨ob rfl (v7 oM),rfl,rfl,rfl,trivial⟩,t3⟩
   ·refine sw (Z1 un45 rfl sz43 dC rX L) t1 t1 ?_
    refine sw (Y1 ag43 rF rF L) t1 t1 ?_
    refine sw (R2 un43 L) t1 t0 (sw (c_e L) t2 t0 (mV L rfl (swn (g:=15) rfl (decide_eq_false oM) L rfl (swn (g:=15) rfl (decide_eq_false oM) L rfl (swn (g:=15) rfl (decide_eq_false oM) L rfl (swn (g:=15) rfl (decide_eq_false oM) L rfl (sw (V3 (decide_eq_false oM) L) t2 t0 ?_)))))))
    exact O1 ⟨⟨ob rfl (by simp [hd]),rfl,rfl,rfl,trivial⟩,t3⟩
  refine D2 rfl (fun hd=>?_) (fun hd=>?_)
  ·have hd:=dt hd
   have hw:=h.getD 0
   have hw2:=h2.getD 0
   have hb:=g0d hw hw2
   refine exd rF ?_
   refine sw (Z1 un45 rfl sz4 dC rX L) t1 t1 ?_
   refine sw (Y1 ag4 rF rF L) t1 t1 ?_
   refine sw (Z1 un45 rfl sz4 dC rX L) t1 t1 ?_
   refine sw (Y1 ag4 rF rF L) t1 t1 ?_
   refine sw (v0h un4 L) t2 t0 (sw (Z1 un45 rfl sz43 dC rX L) t1 t1 ?_)
   refine sw (Y1 ag43 rF rF L) t1 t1 ?_
   refine sw (ixJ un43 sz119 (j:=0) rfl oM sM L) t2 t0 ?_
   refine sw (v4 ag119 (by first | exact Z5 oM | rfl) L) t1 t0 ?_
   refine sw (y4 un119 un127 L (J4 oM oM)) t1 t0 (sw (Z1 un45 rfl sz43 dC rX L) t1 t1 ?_)
   refine sw (Y1 ag43 rF rF L) t1 t1 ?_
   refine sw (ixJ un43 sz119 (j:=0) rfl oM sM L) t2 t0 ?_
   refine sw (v4 ag119 (by first | exact Z5 oM | rfl) L) t1 t0 ?_
   refine sw (y4 un119 un127 L (J4 oM oM)) t1 t0 (sw (Q0c L (J4 oM oM)) t2 t0 (cK hG hX cl129 hN (D9 (m != n) (ws.getD 0 0*vs.getD 0 0) hb.1 oM) L t2 (sb (U2 sz45 rF pa2 rfl pu2) t2 t1 ?_)))
   refine O1 ⟨B5 [⟨[2],[2],[21],[]⟩,⟨[21],[2],[22],[]⟩,⟨[3],[3],[23],[]⟩,⟨[23],[3],[24],[]⟩,⟨[22,24],[],[25],[]⟩,⟨[2],[2],[26],[]⟩,⟨[26],[2],[27],[]⟩,⟨[27],[],[28],[]⟩,⟨[28],[],[29],[]⟩,⟨[29],[],[30],[]⟩,⟨[3],[3],[31],[]⟩,⟨[31],[3],[32],[]⟩,⟨[32],[],[33],[]⟩,⟨[33],[],[34],[]⟩,⟨[34],[],[35],[]⟩,⟨[30,35],[],[36],[]⟩,⟨[25,36],[],[37],[]⟩,⟨[4,37],[4],[],[4]⟩] rF rF dC,[(4,_)],[(4,_)],t1,t1,?_⟩
   refine V1 ?_
   refine Q0 (.agg rfl rfl rfl ag45 sz45 (.cons (.cons .nil))) ?_
   rw [if_pos hc,k0q hd.1,k0q hd.2,es]
  ·have hd:=df hd
   refine U1 (xq ?_)
   refine exd rF ?_
   refine sw (Z1 un45 rfl sz4 dC rX L) t1 t1 ?_
   refine sw (Y1 ag4 rF rF L) t1 t1 ?_
   refine sw (Z1 un45 rfl sz4 dC rX L) t1 t1 ?_
   refine sw (Y1 ag4 rF rF L) t1 t1 ?_
   refine sw (v0h un4 L) t2 t0 (sw (Z1 un45 rfl sz43 dC rX L) t1 t1 ?_)
   refine sw (Y1 ag43 rF rF L) t1 t1 ?_
   refine sw (Z1 un45 rfl sz43 dC rX L) t1 t1 ?_
   refine sw (Y1 ag43 rF rF L) t1 t1 ?_
   refine cK hG hX cl139 hN (d1k ws vs hl hl2 h h2) L t2 (cK hG hX cl131 hN (n7 (m != n) (E4 (ws.length+vs.length) (val ws*val vs)) (by rw [C3]; omega) (y6 _ _)) L t2 ?_)
   refine sb (U2 sz45 rF pa2 rfl pu2) t2 t1 ?_
   refine O1 ⟨B5 [⟨[2],[2],[38],[]⟩,⟨[38],[2],[39],[]⟩,⟨[3],[3],[40],[]⟩,⟨[40],[3],[41],[]⟩,⟨[39,41],[],[42],[]⟩,⟨[2],[2],[43],[]⟩,⟨[43],[2],[44],[]⟩,⟨[3],[3],[45],[]⟩,⟨[45],[3],[46],[]⟩,⟨[44,46],[],[47],[]⟩,⟨[42,47],[],[48],[]⟩,⟨[4,48],[4],[],[4]⟩] rF rF dC,[(4,_)],[(4,_)],t1,t1,?_⟩
   refine V1 ?_
   refine Q0 (.agg rfl rfl rfl ag45 sz45 (.cons (.cons .nil))) ?_
   rw [if_pos hc,m6 hvv (by have:=h0x h h2 (i:=ws.length) (Nat.le_refl _); rwa [I0] at this),es]
theorem L8 (neg:Bool)(ws:List Int)(hl:ws.length<10000000000000)(h:Wd ws)(ht:Tr ws):Y2 E 118 [pI neg ws] (.tup [vZ (if val ws<4611686018427387904 then sg neg (val ws) else 0),bZ (decide (val ws<4611686018427387904))]):=by
 refine j2 (xs:=[vZ (if val ws<4611686018427387904 then sg neg (val ws) else 0),bZ (decide (val ws<4611686018427387904))]) Tryz.func118 rfl Tryz.ntmps118 Tryz.results118 sM fun F hG hX0 hnt hdf P0=>?_
 obtain ⟨L,hX,hN⟩:=pro hnt hX0 hG
 have hw:=h.getD 0
 have hw1:=h.getD 1
 have hv:=G2 h
 refine exr (swb (R3 (k:=1) (n:=2) pa2 rfl rfl (P0 _ rfl) L) t1 t0 ⟨rfl,rfl⟩ (aV L rfl (aV L rfl (zn [(1,_)] [(1,_)] t1 t1 (exd rF ?_)))))
 refine sw (Z1 un45 rfl sz43 dC rX L) t1 t1 ?_
 refine sw (Y1 ag43 rF rF L) t1 t1 ?_
 refine cK hG hX cl145 hN (v5 ws hl h 0 oM) L t2 (sw (Z1 un45 rfl sz43 dC rX L) t1 t1 ?_)
 refine sw (Y1 ag43 rF rF L) t1 t1 ?_
 refine cK hG hX cl145 hN (v5 ws hl h 1 oM) L t2 (sw (w0z L dC (H0a (c:=4294967296) rF (J4 oM oM))) t2 t0 ?_)
 refine sw (q0q L (G1p (b:=ws.getD 1 0) 32 rfl hw.1 hw.2 hw1.1 dC oM oM)) t2 t0 (aV L rfl ?_)
 refine O1 ⟨B5 [⟨[1],[1],[5],[]⟩,⟨[5],[1],[6],[]⟩,⟨[6],[],[7],[]⟩,⟨[1],[1],[8],[]⟩,⟨[8],[1],[9],[]⟩,⟨[9],[],[10],[]⟩,⟨[10],[],[11],[]⟩,⟨[7,11],[],[12],[]⟩,⟨[12],[],[4],[]⟩] rF rF dC,[(1,_),(4,vw (ws.getD 0 0+ws.getD 1 0*4294967296))],[(1,_)],t2,t1,?_⟩
 refine R1 ?_
 refine exm (sl:=[(20,vb (!decide (val ws<4611686018427387904)))]) (sl0:=[(1,_),(4,_)]) (hb:=[]) (hb0:=[(1,_)]) t2 t1 ?_ ?_
 ·by_cases hc:2<ws.length
  ·have hb:=P1x h ht hc
   refine sw (Z1 un45 rfl sz43 dC rX L) t1 t1 ?_
   refine sw (Y1 ag43 rF rF L) t1 t1 ?_
   refine sw (R2 un43 L) t1 t0 (sw (X6 L) t2 t0 (mV L rfl (swn (g:=17) rfl (decide_eq_true oM) L rfl (swn (g:=17) rfl (decide_eq_true oM) L rfl (sw (m4 (decide_eq_true oM) L) t2 t0 ?_)))))
   exact O1 ⟨⟨ob rfl sO,rfl,rfl,trivial⟩,t1⟩
  ·have hb:=v0q h oM
   refine sw (Z1 un45 rfl sz43 dC rX L) t1 t1 ?_
   refine sw (Y1 ag43 rF rF L) t1 t1 ?_
   refine sw (R2 un43 L) t1 t0 (sw (X6 L) t2 t0 (mV L rfl (gV (g:=17) rfl (decide_eq_false oM) L rfl rfl (swg (g:=17) rfl (decide_eq_false oM) (b0p L) rfl t2 t0 (sw (V3 (decide_eq_false oM) L) t2 t0 ?_)))))
   exact O1 ⟨⟨ob rfl (by rw [hb]; simp only [← decide_not]; exact v7 oM),rfl,rfl,trivial⟩,t1⟩
 refine D2 rfl (fun hd=>?_) (fun hd=>?_)
 ·have hd:=ndt hd
  refine exr (aV L rfl (aV L rfl (zn [(2,_),(3,_)] [] t2 trivial (V1 ?_))))
  refine Y0 (.tmp rfl) (.tmp rfl) ?_
  rw [if_neg hd,decide_eq_false hd]
 ·have hd:=ndf hd
  have hb:=v0q h (F1f h ht hd)
  refine U1 (xq ?_)
  refine R1 (exr (sw (Z1 un45 rfl sz4 dC rX L) t1 t1 ?_))
  refine sw (Y1 ag4 rF rF L) t1 t1 ?_
  refine zn [(4,_),(22,_)] [] t2 trivial ?_
  refine D2 rfl (fun hn=>?_) (fun hn=>?_)
  ·refine exr (mV L rfl (sw (y4 un127 un3 L (w64 oM oM)) t1 t0 (sw (j1n L (w64 oM oM)) t1 t0 (aV L rfl (aV L rfl (zn [(2,_),(3,_)] [] t2 trivial (V1 ?_)))))))
   refine Y0 (.tmp rfl) (.tmp rfl) ?_
   rw [if_pos hd,decide_eq_true hd,hb,hn]; simp [sg]
  ·refine U1 (xq ?_)
   refine exr (mV L rfl (sw (y4 un127 un3 L (w64 oM oM)) t1 t0 (aV L rfl (aV L rfl (zn [(2,_),(3,_)] [] t2 trivial (V1 ?_))))))
   refine Y0 (.tmp rfl) (.tmp rfl) ?_
   rw [if_pos hd,decide_eq_true hd,hb,hn]; simp [sg]
theorem J0n (ws vs:List Int)(hl:ws.length<1000000000000)(hl2:vs.length<1000000000000)(h:Wd ws)(h2:Wd vs):Y2 E 142 [pW ws,pW vs] (pW (j3 (val ws+val vs).toNat)):=by
 refine j2 (xs:=[pW (j3 (val ws+val vs).toNat)]) Tryz.func142 rfl Tryz.ntmps142 Tryz.results142 sM fun F hG hX0 hnt hdf P0=>?_
 obtain ⟨L,hX,hN⟩:=pro hnt hX0 hG
 have hv:=G2 h
 have hv2:=G2 h2
 obtain ⟨n,hn⟩:∃ n,n=max ws.length vs.length:=⟨_,rfl⟩
 refine exr (aV L rfl (zn [(0,_),(1,_)] [] t2 trivial (exr (aV L rfl (zn [(0,_),(1,_),(5,_)] [] t3 trivial (exr (aV L rfl (zn [(0,_),(1,_),(5,_),(6,_)] [] t4 trivial (R1 (exr (aV L rfl ?_)))))))))))
 refine zn [(0,_),(1,_),(5,_),(6,_),(7,_)] [] t5 trivial (X1 ?_)
 refine D1h (α:=(Nat×List Int×Int)) (fun x=>[(7,vi (x.1:Int)),(6,vw x.2.2),(5,.ref 34 0 x.2.1.length x.2.1.length)]) (fun x=>[(34,⟨119,1,.pure (K4 x.2.1)⟩)]) (fun x=>n0z ws vs n x∧0<x.1) (fun x=>n - x.1) (n+1) (sl:=[(0,_),(1,_)]) (hb:=[]) t2 t0 ?_ ?_
 ·refine R1 ?_
  refine exm (sl:=[(18,vb (decide (0<n)))]) (sl0:=[(0,_),(1,_),(5,_),(6,_),(7,_)]) (hb:=[]) (hb0:=[]) t5 t0 ?_ ?_
  ·by_cases hc:0<ws.length
   ·refine mV L rfl (mV L rfl (sw (R2 un43 L) t1 t0 (sw (d4 L) t2 t0 (mV L rfl (swn (g:=13) rfl (decide_eq_true oM) L rfl (swn (g:=13) rfl (decide_eq_true oM) L rfl (swn (g:=13) rfl (decide_eq_true oM) L rfl (swn (g:=13) rfl (decide_eq_true oM) L rfl (sw (m4 (decide_eq_true oM) L) t2 t0 ?_)))))))))
    exact O1 ⟨⟨ob rfl sO,rfl,rfl,rfl,rfl,rfl,trivial⟩,trivial⟩
   ·refine mV L rfl (mV L rfl (sw (R2 un43 L) t1 t0 (sw (d4 L) t2 t0 (mV L rfl (gV (g:=13) rfl (decide_eq_false oM) L rfl rfl (gV (g:=13) rfl (decide_eq_false oM) L rfl rfl (swg (g:=13) rfl (decide_eq_false oM) (R2 un43 L) rfl t1 t0 (swg (g:=13) rfl (decide_eq_false oM) (d4 L) rfl t2 t0 (sw (V3 (decide_eq_false oM) L) t2 t0 ?_)))))))))
    exact O1 ⟨⟨ob rfl (v7 oM),rfl,rfl,rfl,rfl,rfl,trivial⟩,trivial⟩
  refine D2 rfl (fun hd=>?_) (fun hd=>?_)
  ·have hd:=dt hd
   have hw:=h.getD 0
   have hw2:=h2.getD 0
   have key:=(n0z.zero ws vs n).next h h2 hd
   refine U1 (xq ?_)
   refine R1 (X1 (exr (mV L rfl (mV L rfl (cK hG hX cl145 hN (v5 ws oM h 0 oM) L t2 (mV L rfl (mV L rfl (cK hG hX cl145 hN (v5 vs oM h2 0 oM) L t2 (sw (K3 L (J4 oM oM)) t2 t0 (mV L rfl (sw (K3 L (J4 oM oM)) t2 t0 ?_)))))))))))
   refine aV L rfl (zn [(0,_),(1,_),(5,_),(7,_),(8,_)] [] t5 trivial (exr (mV L rfl (mV L rfl (sw (y4 un127 un119 L j8) t1 t0 (sw (F4 (vs:=[_]) un43 ti119 rfl rfl dC dC rfl (M2 (.cons rfl .nil) rfl) rfl (.cons rfl (.atom rfl) rfl pu1 .nil) (.cons .nil) L) t1 t0 (swb (apN (k:=34) (sz:=1) un43 un43 ti119 rfl rfl rfl dC sM rfl (by first | (simp [Tryz.t119]; done) | (simp [Tryz.t119]; omega)) oM (P0 _ rfl) L) t2 t0 ⟨rfl,rfl⟩ ?_)))))))
   refine aV L rfl (zn [(0,_),(1,_),(5,_),(7,_),(8,_)] [(34,_)] t5 t1 (y3 (mV L rfl (sw (v9 L dC (d0r (c:=4294967296) rF dC)) t2 t0 ?_))))
   refine aV L rfl (O1 (y3 (mV L rfl (sw (K3 L (w64 oM oM)) t2 t0 (aV L rfl (O1 ?_))))))
   exact ⟨(1,[(ws.getD 0 0+vs.getD 0 0+0) % 4294967296],(ws.getD 0 0+vs.getD 0 0+0) / 4294967296),⟨key,Nat.one_pos⟩,(by simp only; omega),E3 ⟨oR,oR,oR,rfl,rfl,trivial⟩ t1⟩
  ·have hd:=df hd
   refine L2 (xq ?_)
   refine exr (mV L rfl (mV L rfl (sw (y4 un127 un119 L j8) t1 t0 (sw (F4 (vs:=[_]) un43 ti119 rfl rfl dC dC rfl (M2 (.cons rfl .nil) rfl) rfl (.cons rfl (.atom rfl) rfl pu1 .nil) (.cons .nil) L) t1 t0 (swb (apN (k:=41) (sz:=1) un43 un43 ti119 rfl rfl rfl dC sM rfl (by first | (simp [Tryz.t119]; done) | (simp [Tryz.t119]; omega)) oM (P0 _ rfl) L) t2 t0 ⟨rfl,rfl⟩ ?_)))))
   refine aV L rfl (zn [(5,_)] [(41,_)] t1 t1 (G4 [41] (sl:=[(5,_)]) (hb:=[]) (M3 hX0) ⟨⟨_,rfl,(.ref rfl rfl (by exact sM) (by first | rfl | omega))⟩,trivial⟩ t0 ?_))
   refine exr (mV L rfl (cK hG hX cl147 hN (s6 [0] sM) L t1 ?_))
   refine aV L rfl (zn [(4,_)] [] t1 trivial (V1 ?_))
   refine Q0 (.tmp rfl) ?_
   have e1:ws=[]:=E0 oM
   have e2:vs=[]:=E0 oM
   rw [e1,e2]; simp [trim,G6,val,X4]
 ·intro x hx
  obtain ⟨i,ys,c⟩:=x
  obtain ⟨hx,hi0⟩:=hx
  have hlen:=hx.len
  have hle:=hx.le
  have hc0:=hx.c0
  have hc1:=hx.c1
  simp only at hlen hle hc0 hc1 hi0
  dsimp only
  have hw:=h.getD i
  have hw2:=h2.getD i
  refine R1 ?_
  refine exm (sl:=[(18,vb (decide (i<n)))]) (sl0:=[(0,_),(1,_),(5,_),(6,_),(7,_)]) (hb:=[]) (hb0:=[(34,_)]) t5 t1 ?_ ?_
  ·by_cases hc:i<ws.length
   ·refine mV L rfl (mV L rfl (sw (R2 un43 L) t1 t0 (sw (d4 L) t2 t0 (mV L rfl (swn (g:=13) rfl (decide_eq_true oM) L rfl (swn (g:=13) rfl (decide_eq_true oM) L rfl (swn (g:=13) rfl (decide_eq_true oM) L rfl (swn (g:=13) rfl (decide_eq_true oM) L rfl (sw (m4 (decide_eq_true oM) L) t2 t0 ?_)))))))))
    exact O1 ⟨⟨ob rfl sO,rfl,rfl,rfl,rfl,rfl,trivial⟩,t1⟩
   ·refine mV L rfl (mV L rfl (sw (R2 un43 L) t1 t0 (sw (d4 L) t2 t0 (mV L rfl (gV (g:=13) rfl (decide_eq_false oM) L rfl rfl (gV (g:=13) rfl (decide_eq_false oM) L rfl rfl (swg (g:=13) rfl (decide_eq_false oM) (R2 un43 L) rfl t1 t0 (swg (g:=13) rfl (decide_eq_false oM) (d4 L) rfl t2 t0 (sw (V3 (decide_eq_false oM) L) t2 t0 ?_)))))))))
    exact O1 ⟨⟨ob rfl (v7 oM),rfl,rfl,rfl,rfl,rfl,trivial⟩,t1⟩
  refine D2 rfl (fun hd=>?_) (fun hd=>?_)
  ·have hd:=dt hd
   have key:=hx.next h h2 hd
   refine U1 (xq ?_)
   refine R1 (X1 (exr (mV L rfl (mV L rfl (cK hG hX cl145 hN (v5 ws oM h i oM) L t2 (mV L rfl (mV L rfl (cK hG hX cl145 hN (v5 vs oM h2 i oM) L t2 (sw (K3 L (J4 oM oM)) t2 t0 (mV L rfl (sw (K3 L (J4 oM oM)) t2 t0 ?_)))))))))))
   refine aV L rfl (zn [(0,_),(1,_),(5,_),(7,_),(8,_)] [(34,_)] t5 t1 (exr (mV L rfl (mV L rfl (sw (y4 un127 un119 L j8) t1 t0 (sw (F4 (vs:=[_]) un43 ti119 rfl rfl dC dC rfl (M2 (.cons rfl .nil) rfl) rfl (.cons rfl (.atom rfl) rfl pu1 .nil) (.cons .nil) L) t1 t0 (swb (apP (sz:=1) un43 un43 ti119 rfl rfl rfl dC (by exact sM) oF sM rfl rfl rfl (by first | (simp [Tryz.t119]; done) | (simp [Tryz.t119]; omega)) oM (P0 _ rfl) L) t2 t1 t0 ?_)))))))
   refine aV L rfl (zn [(0,_),(1,_),(5,_),(7,_),(8,_)] [(34,_)] t5 t1 (y3 (mV L rfl (sw (v9 L dC (d0r (c:=4294967296) rF dC)) t2 t0 ?_))))
   refine aV L rfl (O1 (y3 (mV L rfl (sw (K3 L (w64 oM oM)) t2 t0 (aV L rfl (O1 ?_))))))
   exact ⟨(i+1,ys++[(ws.getD i 0+vs.getD i 0+c) % 4294967296],(ws.getD i 0+vs.getD i 0+c) / 4294967296),⟨key,Nat.succ_pos _⟩,(by simp only; omega),E3 ⟨oR,oR,ov rfl sM,rfl,rfl,trivial⟩ ⟨obl rfl (by rw [p0s]),trivial⟩⟩
  ·have hd:=df hd
   have hi:i=n:=by omega
   subst hi
   have hwd:Wd (ys++[c % 4294967296]):=hx.wd.snoc oM oM
   have he:val (ys++[c % 4294967296])=val ws+val vs:=by
    have:=hx.eq
    simp only at this
    rw [d0v oM,d0v oM] at this
    rw [i8,hlen,← this,Int.emod_eq_of_lt hc0 oM]
   refine L2 (xq ?_)
   refine exr (mV L rfl (mV L rfl (sw (y4 un127 un119 L j8) t1 t0 (sw (F4 (vs:=[_]) un43 ti119 rfl rfl dC dC rfl (M2 (.cons rfl .nil) rfl) rfl (.cons rfl (.atom rfl) rfl pu1 .nil) (.cons .nil) L) t1 t0 (swb (apP (sz:=1) un43 un43 ti119 rfl rfl rfl dC (by exact sM) oF sM rfl rfl rfl (by first | (simp [Tryz.t119]; done) | (simp [Tryz.t119]; omega)) oM (P0 _ rfl) L) t2 t1 t0 ?_)))))
   refine aV L rfl ?_
   refine O1 ⟨[(5,.ref 34 0 (ys++[c % 4294967296]).length (ys++[c % 4294967296]).length)],[(34,⟨119,1,.pure (K4 (ys++[c % 4294967296]))⟩)],⟨ov rfl sM,trivial⟩,⟨obl rfl (by rw [p0s]),trivial⟩,?_⟩
   refine G4 [34] (sl:=[(5,_)]) (hb:=[]) (M3 hX0) ⟨⟨_,rfl,(.ref rfl rfl (by exact sM) (by first | rfl | omega))⟩,trivial⟩ t0 ?_
   refine exr (mV L rfl (cK hG hX cl147 hN (s6 (ys++[c % 4294967296]) sO) L t1 (aV L rfl (zn [(4,_)] [] t1 trivial (V1 ?_)))))
   refine Q0 (.tmp rfl) ?_
   rw [j6 hwd,he]
theorem q0f (ws vs:List Int)(hl:ws.length<1000000000000)(hl2:vs.length≤ws.length)(h:Wd ws)(h2:Wd vs)(hle0:val vs≤val ws):Y2 E 144 [pW ws,pW vs] (pW (j3 (val ws - val vs).toNat)):=by
 refine j2 (xs:=[pW (j3 (val ws - val vs).toNat)]) Tryz.func144 rfl Tryz.ntmps144 Tryz.results144 sM fun F hG hX0 hnt hdf P0=>?_
 obtain ⟨L,hX,hN⟩:=pro hnt hX0 hG
 have hv:=G2 h
 have hv2:=G2 h2
 obtain ⟨n,hn⟩:∃ n,n=ws.length:=⟨_,rfl⟩
 refine exr (aV L rfl (zn [(0,_),(1,_)] [] t2 trivial (exr (aV L rfl (zn [(0,_),(1,_),(5,_)] [] t3 trivial (exr (aV L rfl (zn [(0,_),(1,_),(5,_),(6,_)] [] t4 trivial (R1 (exr (aV L rfl ?_)))))))))))
 refine zn [(0,_),(1,_),(5,_),(6,_),(7,_)] [] t5 trivial (X1 ?_)
 refine D1h (α:=(Nat×List Int×Int)) (fun x=>[(7,vi (x.1:Int)),(6,vw x.2.2),(5,.ref 29 0 x.2.1.length x.2.1.length)]) (fun x=>[(29,⟨119,1,.pure (K4 x.2.1)⟩)]) (fun x=>m0b ws vs n x∧0<x.1) (fun x=>n - x.1) (n+1) (sl:=[(0,_),(1,_)]) (hb:=[]) t2 t0 ?_ ?_
 ·refine R1 (exr (mV L rfl (mV L rfl (sw (R2 un43 L) t1 t0 (sw (d4 L) t2 t0 (zn [(0,_),(1,_),(5,_),(6,_),(7,_),(12,_)] [] t6 trivial ?_))))))
  refine D2 rfl (fun hd=>?_) (fun hd=>?_)
  ·have hd:=dt hd
   have hw:=h.getD 0
   have hw2:=h2.getD 0
   have key:=(m0b.zero ws vs n).next h h2 oM
   refine U1 (xq ?_)
   refine R1 (X1 (exr (mV L rfl (mV L rfl (cK hG hX cl145 hN (v5 ws oM h 0 oM) L t2 (sw (K3 L (J4 oM oM)) t2 t0 (mV L rfl (mV L rfl (cK hG hX cl145 hN (v5 vs oM h2 0 oM) L t2 (sw (q6 L (J4 oM oM)) t2 t0 (mV L rfl ?_)))))))))))
   refine sw (q6 L (J4 oM oM)) t2 t0 (aV L rfl (zn [(0,_),(1,_),(5,_),(7,_),(8,_)] [] t5 trivial (exr (mV L rfl (mV L rfl (sw (y4 un127 un119 L j8) t1 t0 (sw (F4 (vs:=[_]) un43 ti119 rfl rfl dC dC rfl (M2 (.cons rfl .nil) rfl) rfl (.cons rfl (.atom rfl) rfl pu1 .nil) (.cons .nil) L) t1 t0 (swb (apN (k:=29) (sz:=1) un43 un43 ti119 rfl rfl rfl dC sM rfl (by first | (simp [Tryz.t119]; done) | (simp [Tryz.t119]; omega)) oM (P0 _ rfl) L) t2 t0 ⟨rfl,rfl⟩ ?_))))))))
   refine aV L rfl (zn [(0,_),(1,_),(5,_),(7,_),(8,_)] [(29,_)] t5 t1 (y3 (mV L rfl (sw (v9 L dC (d0r (c:=4294967296) rF dC)) t2 t0 ?_))))
   refine sw (q6 L (J4 oM oM)) t2 t0 (aV L rfl (O1 (y3 (mV L rfl (sw (K3 L (w64 oM oM)) t2 t0 (aV L rfl (O1 ?_)))))))
   exact ⟨(1,[(ws.getD 0 0 - vs.getD 0 0 - 0) % 4294967296],if ws.getD 0 0<vs.getD 0 0+0 then 1 else 0),⟨key,Nat.one_pos⟩,(by simp only; omega),E3 ⟨oR,oi (by simp only; split <;> omega) rfl,oR,rfl,rfl,trivial⟩ ⟨obl rfl (by simp only [K4,R0,List.map_nil]; rw [W0y]),trivial⟩⟩
  ·have hd:=df hd
   have e1:ws=[]:=E0 oM
   have e2:vs=[]:=E0 oM
   refine L2 (xq ?_)
   refine G4 [] (sl:=[(5,_)]) (hb:=[]) (M3 hX0) ⟨⟨_,rfl,(.p .nil)⟩,trivial⟩ t0 (exr (mV L rfl (cK hG hX cl147 hN (s6 [] sM) L t1 ?_)))
   refine aV L rfl (zn [(4,_)] [] t1 trivial (V1 ?_))
   refine Q0 (.tmp rfl) ?_
   rw [e1,e2]; simp [trim,G6,val,X4]
 ·intro x hx
  obtain ⟨i,ys,c⟩:=x
  obtain ⟨hx,hi0⟩:=hx
  have hlen:=hx.len
  have hle:=hx.le
  have hc0:=hx.c0
  have hc1:=hx.c1
  simp only at hlen hle hc0 hc1 hi0
  dsimp only
  have hw:=h.getD i
  have hw2:=h2.getD i
  refine R1 (exr (mV L rfl (mV L rfl (sw (R2 un43 L) t1 t0 (sw (d4 L) t2 t0 (zn [(0,_),(1,_),(5,_),(6,_),(7,_),(12,_)] [(29,_)] t6 t1 ?_))))))
  refine D2 rfl (fun hd=>?_) (fun hd=>?_)
  ·have hd:=dt hd
   have key:=hx.next h h2 oM
   refine U1 (xq ?_)
   refine R1 (X1 (exr (mV L rfl (mV L rfl (cK hG hX cl145 hN (v5 ws oM h i oM) L t2 (sw (K3 L (J4 oM oM)) t2 t0 (mV L rfl (mV L rfl (cK hG hX cl145 hN (v5 vs oM h2 i oM) L t2 (sw (q6 L (J4 oM oM)) t2 t0 (mV L rfl ?_)))))))))))
   refine sw (q6 L (J4 oM oM)) t2 t0 (aV L rfl (zn [(0,_),(1,_),(5,_),(7,_),(8,_)] [(29,_)] t5 t1 (exr (mV L rfl (mV L rfl (sw (y4 un127 un119 L j8) t1 t0 (sw (F4 (vs:=[_]) un43 ti119 rfl rfl dC dC rfl (M2 (.cons rfl .nil) rfl) rfl (.cons rfl (.atom rfl) rfl pu1 .nil) (.cons .nil) L) t1 t0 (swb (apP (sz:=1) un43 un43 ti119 rfl rfl rfl dC (by exact sM) oF sM rfl rfl rfl (by first | (simp [Tryz.t119]; done) | (simp [Tryz.t119]; omega)) oM (P0 _ rfl) L) t2 t1 t0 ?_))))))))
   refine aV L rfl (zn [(0,_),(1,_),(5,_),(7,_),(8,_)] [(29,_)] t5 t1 (y3 (mV L rfl (sw (v9 L dC (d0r (c:=4294967296) rF dC)) t2 t0 ?_))))
   refine sw (q6 L (J4 oM oM)) t2 t0 (aV L rfl (O1 (y3 (mV L rfl (sw (K3 L (w64 oM oM)) t2 t0 (aV L rfl (O1 ?_)))))))
   exact ⟨(i+1,ys++[(ws.getD i 0 - vs.getD i 0 - c) % 4294967296],if ws.getD i 0<vs.getD i 0+c then 1 else 0),⟨key,Nat.succ_pos _⟩,(by simp only; omega),E3 ⟨oR,oi (by simp only; split <;> omega) rfl,ov rfl sM,rfl,rfl,trivial⟩ ⟨obl rfl (by rw [p0s,W0y]),trivial⟩⟩
  ·have hd:=df hd
   have hi:i=n:=by omega
   subst hi
   obtain ⟨e1,e2⟩:c=0∧ys=E4 i (val ws - val vs):=g1b h h2 hle0 oM oM hx
   refine L2 (xq ?_)
   refine G4 [29] (sl:=[(5,_)]) (hb:=[]) (M3 hX0) ⟨⟨_,rfl,(.ref rfl rfl (by exact sM) (by first | rfl | omega))⟩,trivial⟩ t0 ?_
   refine exr (mV L rfl (cK hG hX cl147 hN (s6 ys oM) L t1 (aV L rfl (zn [(4,_)] [] t1 trivial (V1 ?_)))))
   refine Q0 (.tmp rfl) ?_
   have hy:val ys=val ws - val vs:=by rw [e2,m6 oM (by have:=l5 h; rw [← hn] at this; omega)]
   rw [j6 hx.wd]; simp only; rw [hy]
theorem n1j (ws vs:List Int)(hl:ws.length<4000000000000)(hl2:vs.length<4000000000000)(h:Wd ws)(h2:Wd vs):Y2 E 123 [pW ws,pW vs] (pW (j3 (val ws*val vs).toNat)):=by
 refine j2 (xs:=[pW (j3 (val ws*val vs).toNat)]) Tryz.func123 rfl Tryz.ntmps123 Tryz.results123 sM fun F hG hX0 hnt hdf P0=>?_
 obtain ⟨L,hX,hN⟩:=pro hnt hX0 hG
 refine exr (aV L rfl (zn [(0,_),(1,_)] [] t2 trivial (exr (mV L rfl (sw (R2 un43 L) t1 t0 (mV L rfl (sw (R2 un43 L) t1 t0 (sw (K3 L (w64 oM oM)) t2 t0 (swb (v0b (k:=15) un43 ti119 rfl rfl rfl rfl (show _=((ws.length+vs.length:Nat):Int) by omega) (show _=((ws.length+vs.length:Nat):Int) by omega) (Nat.le_refl _) (by simp [Tryz.t119]; omega) oM (P0 _ rfl) L) t2 t0 ⟨rfl,rfl⟩ ?_)))))))))
 refine aV L rfl (zn [(0,_),(1,_),(5,_)] [(15,_)] t3 t1 (R1 (exr (aV L rfl (zn [(0,_),(1,_),(5,_),(6,_)] [(15,_)] t4 t1 (X1 ?_))))))
 refine exl (α:=(Nat×List Int)) (fun x=>[(6,vi (x.1:Int))]) (fun x=>[(15,⟨119,1,.pure (K4 x.2)⟩)]) (fun x=>v0w ws vs x) (fun x=>ws.length - x.1) (((0:Nat),List.replicate (ws.length+vs.length) (0:Int))) (sl:=[(0,_),(1,_),(5,_)]) (hb:=[]) ?_ ⟨oR,rfl,rfl,rfl,trivial⟩ ⟨obl rfl (by rw [X9]),trivial⟩ ?_
 ·exact v0w.zero ws vs
 intro x hx
 obtain ⟨i,r⟩:=x
 have hlen:=hx.len
 have hle:=hx.le
 simp only at hlen hle
 dsimp only
 refine R1 (exr (mV L rfl (mV L rfl (sw (R2 un43 L) t1 t0 (sw (d4 L) t2 t0 (zn [(0,_),(1,_),(5,_),(6,_),(19,_)] [(15,_)] t5 t1 ?_))))))
 refine D2 rfl (fun he=>?_) (fun he=>?_)
 ·have he:=dt he
  have hw:=h.getD i
  refine U1 (xq ?_)
  refine R1 (X1 (exr (aV L rfl (zn [(0,_),(1,_),(5,_),(6,_),(7,_)] [(15,_)] t5 t1 (R1 (exr (aV L rfl (zn [(0,_),(1,_),(5,_),(6,_),(7,_),(8,_)] [(15,_)] t6 t1 (X1 ?_)))))))))
  refine exl (α:=(Nat×List Int×Int)) (fun y=>[(8,vi (y.1:Int)),(7,vw y.2.2)]) (fun y=>[(15,⟨119,1,.pure (K4 y.2.1)⟩)]) (fun y=>j0k ws vs i y) (fun y=>vs.length - y.1) (((0:Nat),r,(0:Int))) (sl:=[(0,_),(1,_),(5,_),(6,_)]) (hb:=[]) ?_ ⟨oR,oR,rfl,rfl,rfl,rfl,trivial⟩ t1 ?_
  ·exact j0k.zero h h2 hx oM
  intro y hy
  obtain ⟨j,s,c⟩:=y
  have hlen2:=hy.len
  have hle2:=hy.le
  have hc0:=hy.c0
  have hc1:=hy.c1
  simp only at hlen2 hle2 hc0 hc1
  dsimp only
  refine R1 (exr (mV L rfl (mV L rfl (sw (R2 un43 L) t1 t0 (sw (d4 L) t2 t0 (zn [(0,_),(1,_),(5,_),(6,_),(7,_),(8,_),(25,_)] [(15,_)] t7 t1 ?_))))))
  refine D2 rfl (fun hf=>?_) (fun hf=>?_)
  ·have hf:=dt hf
   have hv:=h2.getD j
   have hb:=g0d hw hv
   have hs:=hy.wd.getD (i+j)
   simp only at hs
   obtain ⟨key,k1,k2⟩:=hy.next h h2 oM oM rfl
   refine U1 (xq ?_)
   refine R1 (X1 (exd rF ?_))
   refine mV L rfl (mV L rfl (sw (ixJ un43 sz119 (j:=i) rO oM sM L) t2 t0 ?_))
   refine sw (v4 ag119 (by first | exact Z5 oM | rfl) L) t1 t0 ?_
   refine sw (y4 un119 un127 L (J4 oM oM)) t1 t0 (mV L rfl (mV L rfl (sw (ixJ un43 sz119 (j:=j) rO oM sM L) t2 t0 ?_)))
   refine sw (v4 ag119 (by first | exact Z5 oM | rfl) L) t1 t0 ?_
   refine sw (y4 un119 un127 L (J4 oM oM)) t1 t0 (sw (Q0c L (J4 oM oM)) t2 t0 (mV L rfl (mV L rfl (mV L rfl (sw (K3 L (w64 oM oM)) t2 t0 (sw (C6 un43 sz119 (by exact sO) (j:=i+j) rO oM L) t2 t1 ?_))))))
   refine sw (Y1 ag119 (by exact sO) (g0m (by first | exact Z5 oM | rfl)) L) t1 t1 ?_
   refine sw (y4 un119 un127 L (J4 oM oM)) t1 t0 (sw (K3 L (J4 oM oM)) t2 t0 (mV L rfl (sw (K3 L (J4 oM oM)) t2 t0 (aV L rfl ?_))))
   refine O1 ⟨B5 [⟨[0],[],[28],[]⟩,⟨[6],[],[29],[]⟩,⟨[28,29],[],[30],[]⟩,⟨[30],[],[31],[]⟩,⟨[31],[],[32],[]⟩,⟨[1],[],[33],[]⟩,⟨[8],[],[34],[]⟩,⟨[33,34],[],[35],[]⟩,⟨[35],[],[36],[]⟩,⟨[36],[],[37],[]⟩,⟨[32,37],[],[38],[]⟩,⟨[5],[],[39],[]⟩,⟨[6],[],[40],[]⟩,⟨[8],[],[41],[]⟩,⟨[40,41],[],[42],[]⟩,⟨[39,42],[15],[43],[]⟩,⟨[43],[15],[44],[]⟩,⟨[44],[],[45],[]⟩,⟨[38,45],[],[46],[]⟩,⟨[7],[],[47],[]⟩,⟨[46,47],[],[48],[]⟩,⟨[48],[],[9],[]⟩] rF rF dC,[(0,_),(1,_),(5,_),(6,_),(8,_),(9,_)],[(15,_)],t6,t1,?_⟩
   refine exr (mV L rfl (mV L rfl (mV L rfl (sw (K3 L (w64 oM oM)) t2 t0 (mV L rfl (sw (y4 un127 un119 L j8) t1 t0 (sw (C6 un43 sz119 (by exact sO) (j:=i+j) rO oM L) t2 t1 ?_)))))))
   refine sb (b0n sz119 (by exact sO) (.atom rfl) oM) t2 t1 ?_
   refine zn [(0,_),(1,_),(5,_),(6,_),(8,_),(9,_)] [(15,_)] t6 t1 (y3 (mV L rfl (sw (v9 L dC (d0r (c:=4294967296) rF dC)) t2 t0 ?_)))
   refine aV L rfl (O1 (y3 (mV L rfl (sw (K3 L (w64 oM oM)) t2 t0 (aV L rfl (O1 ?_))))))
   exact ⟨(j+1,s.set (i+j) ((ws.getD i 0*vs.getD j 0+s.getD (i+j) 0+c) % 4294967296),(ws.getD i 0*vs.getD j 0+s.getD (i+j) 0+c) / 4294967296),key,(by simp only; omega),E3 ⟨oR,oR,rfl,rfl,rfl,rfl,trivial⟩ ⟨obl rfl (by rw [o5]),trivial⟩⟩
  ·have hf:=df hf
   have hj:j=vs.length:=by omega
   subst hj
   refine L2 (xq ?_)
   refine y3 (mV L rfl (mV L rfl (mV L rfl (sw (R2 un43 L) t1 t0 (sw (K3 L (w64 oM oM)) t2 t0 (mV L rfl (sw (y4 un127 un119 L (w0w oM oM)) t1 t0 (sw (C6 un43 sz119 (by exact sO) (j:=i+vs.length) rO oM L) t2 t1 ?_))))))))
   refine sb (b0n sz119 (by exact sO) (.atom rfl) oM) t2 t1 ?_
   refine O1 (y3 (mV L rfl (sw (K3 L (w64 oM oM)) t2 t0 (aV L rfl (O1 ?_)))))
   exact ⟨(i+1,s.set (i+vs.length) c),hy.done oM,(by simp only; omega),E3 ⟨oR,rfl,rfl,rfl,trivial⟩ ⟨obl rfl (by rw [o5]),trivial⟩⟩
 ·have he:=df he
  have hi:i=ws.length:=by omega
  subst hi
  have e:val r=val ws*val vs:=by
   have:=hx.eq
   simpa only [I0] using this
  refine L2 (xq ?_)
  refine G4 [15] (sl:=[(5,_)]) (hb:=[]) (M3 hX0) ⟨⟨_,rfl,(.ref rfl rfl (by exact sO) (by first | rfl | omega))⟩,trivial⟩ t0 ?_
  rw [← hlen]
  refine exr (mV L rfl (cK hG hX cl147 hN (s6 r oM) L t1 (aV L rfl (zn [(4,_)] [] t1 trivial (V1 ?_)))))
  refine Q0 (.tmp rfl) ?_
  rw [j6 hx.wd]; simp only; rw [e]
theorem d1w (m n:Bool)(ws vs:List Int)(hl:ws.length<4000000000000)(hl2:vs.length<4000000000000)(h:Wd ws)(h2:Wd vs):Y2 E 83 [pI m ws,pI n vs] (pZ (if P2 m ws=true∧P2 n vs=true then sg m (val ws)*sg n (val vs) else 0)):=by
 refine j2 (xs:=[pZ (if P2 m ws=true∧P2 n vs=true then sg m (val ws)*sg n (val vs) else 0)]) Tryz.func83 rfl Tryz.ntmps83 Tryz.results83 sM fun F hG hX0 hnt hdf P0=>?_
 obtain ⟨L,hX,hN⟩:=pro hnt hX0 hG
 have hv:=G2 h
 have hv2:=G2 h2
 have hvv:0≤val ws*val vs:=Int.mul_nonneg hv hv2
 have hml:=G1f h h2
 refine exr (swb (R3 (k:=2) (n:=2) pa2 rfl rfl (P0 _ rfl) L) t1 t0 ⟨rfl,rfl⟩ (swb (R3 (k:=3) (n:=2) pa2 rfl rfl (P0 _ rfl) L) t1 t0 ⟨rfl,rfl⟩ (swb (T3 (k:=4) (n:=2) zv45 (.cons rfl (.cons rfl .nil)) rfl (P0 _ rfl) L) t0 t0 ⟨rfl,rfl⟩ (zn [(2,_),(3,_),(4,_)] [(2,_),(3,_),(4,_)] t3 t3 (R1 ?_)))))
 refine exm (sl:=[(12,vb (!(P2 m ws && P2 n vs)))]) (sl0:=[(2,_),(3,_),(4,_)]) (hb:=[]) (hb0:=[(2,_),(3,_),(4,_)]) t3 t3 ?_ ?_
 ·by_cases hc:P2 m ws=true
  ·refine lp2 ag45 sz45 L rfl rfl (cK hG hX cl77 hN (J5 m ws oM) L t1 (sw (P3 L) t1 t0 (mV L rfl (swg (g:=8) rfl (by simp [hc]) (l6 ag45 sz45 rF (by exact al2) rfl L) rfl t1 t1 ?_))))
   refine swg (g:=8) rfl (by simp [hc]) (c_c hG hX cl77 rfl hN (J5 n vs oM) L) rfl t1 t0 ?_
   refine swg (g:=8) rfl (by simp [hc]) (P3 L) rfl t1 t0 ?_
   refine sw (V3 (by simp [hc]) L) t2 t0 ?_
   exact O1 ⟨⟨ob rfl (by simp [hc]),rfl,rfl,rfl,trivial⟩,t3⟩
  ·refine lp2 ag45 sz45 L rfl rfl (cK hG hX cl77 hN (J5 m ws oM) L t1 (sw (P3 L) t1 t0 (mV L rfl (swn (g:=8) rfl (by simp [hc]) L rfl ?_))))
   refine swn (g:=8) rfl (by simp [hc]) L rfl ?_
   refine swn (g:=8) rfl (by simp [hc]) L rfl ?_
   refine sw (m4 (by simp [hc]) L) t2 t0 ?_
   exact O1 ⟨⟨ob rfl (by simp [hc]),rfl,rfl,rfl,trivial⟩,t3⟩
 refine D2 rfl (fun hc=>?_) (fun hc=>?_)
 ·have hc:¬ (P2 m ws=true∧P2 n vs=true):=by rintro ⟨h1,h2⟩; simp [h1,h2] at hc
  refine exr (sw (Y7 (E6 (vs:=[]) un45 zv45 (.cons rfl (.cons rfl .nil)) ((y2.cons sz4 (y2.cons sz43 y2.nil))).to rfl .nil (.cons (.cons .nil)) L) (.agg (.cons .same (.cons .nil .nil)))) t0 t0 (sb (U2 sz45 rF pa2 rfl pu2) t2 t1 ?_))
  refine zn [(4,_)] [(4,_)] t1 t1 (V1 ?_)
  refine Q0 (.agg rfl rfl rfl ag45 sz45 (.cons (.cons .nil))) ?_
  rw [if_neg hc,D8]; rfl
 ·have hc:P2 m ws=true∧P2 n vs=true:=by simpa using hc
  have es:sg (m != n) (val ws*val vs)=sg m (val ws)*sg n (val vs):=by cases m <;> cases n <;> simp [sg,Int.mul_neg,Int.neg_mul]
  refine U1 (xq ?_)
  refine exd rF ?_
  refine sw (Z1 un45 rfl sz4 dC rX L) t1 t1 ?_
  refine sw (Y1 ag4 rF rF L) t1 t1 ?_
  refine sw (Z1 un45 rfl sz4 dC rX L) t1 t1 ?_
  refine sw (Y1 ag4 rF rF L) t1 t1 ?_
  refine sw (v0h un4 L) t2 t0 (sw (Z1 un45 rfl sz43 dC rX L) t1 t1 ?_)
  refine sw (Y1 ag43 rF rF L) t1 t1 ?_
  refine sw (Z1 un45 rfl sz43 dC rX L) t1 t1 ?_
  refine sw (Y1 ag43 rF rF L) t1 t1 ?_
  refine cK hG hX cl123 hN (n1j ws vs hl hl2 h h2) L t2 (cK hG hX cl122 hN (v6 (m != n) (j3 (val ws*val vs).toNat) oM (U3 _)) L t2 (sb (U2 sz45 rF pa2 rfl pu2) t2 t1 ?_))
  refine O1 ⟨B5 [⟨[2],[2],[14],[]⟩,⟨[14],[2],[15],[]⟩,⟨[3],[3],[16],[]⟩,⟨[16],[3],[17],[]⟩,⟨[15,17],[],[18],[]⟩,⟨[2],[2],[19],[]⟩,⟨[19],[2],[20],[]⟩,⟨[3],[3],[21],[]⟩,⟨[21],[3],[22],[]⟩,⟨[20,22],[],[23],[]⟩,⟨[18,23],[],[24],[]⟩,⟨[4,24],[4],[],[4]⟩] rF rF dC,[(4,_)],[(4,_)],t1,t1,?_⟩
  refine V1 ?_
  refine Q0 (.agg rfl rfl rfl ag45 sz45 (.cons (.cons .nil))) ?_
  rw [if_pos hc,K9 hvv,es]
theorem b1x (m n:Bool)(ws vs:List Int)(hl:ws.length<999999999999)(hl2:vs.length<999999999999)(h:Wd ws)(h2:Wd vs):Y2 E 116 [pI m ws,pI n vs] (pZ (if P2 m ws=true∧P2 n vs=true then sg m (val ws)+sg n (val vs) else 0)):=by
 refine j2 (xs:=[pZ (if P2 m ws=true∧P2 n vs=true then sg m (val ws)+sg n (val vs) else 0)]) Tryz.func116 rfl Tryz.ntmps116 Tryz.results116 sM fun F hG hX0 hnt hdf P0=>?_
 obtain ⟨L,hX,hN⟩:=pro hnt hX0 hG
 have hv:=G2 h
 have hv2:=G2 h2
 have hal:=F1r h h2
 refine exr (swb (R3 (k:=2) (n:=2) pa2 rfl rfl (P0 _ rfl) L) t1 t0 ⟨rfl,rfl⟩ (swb (R3 (k:=3) (n:=2) pa2 rfl rfl (P0 _ rfl) L) t1 t0 ⟨rfl,rfl⟩ (swb (T3 (k:=4) (n:=2) zv45 (.cons rfl (.cons rfl .nil)) rfl (P0 _ rfl) L) t0 t0 ⟨rfl,rfl⟩ (zn [(2,_),(3,_),(4,_)] [(2,_),(3,_),(4,_)] t3 t3 (R1 ?_)))))
 refine exm (sl:=[(16,vb (!(P2 m ws && P2 n vs)))]) (sl0:=[(2,_),(3,_),(4,_)]) (hb:=[]) (hb0:=[(2,_),(3,_),(4,_)]) t3 t3 ?_ ?_
 ·by_cases hc:P2 m ws=true
  ·refine lp2 ag45 sz45 L rfl rfl (cK hG hX cl77 hN (J5 m ws oM) L t1 (sw (P3 L) t1 t0 (mV L rfl (swg (g:=12) rfl (by simp [hc]) (l6 ag45 sz45 rF (by exact al2) rfl L) rfl t1 t1 ?_))))
   refine swg (g:=12) rfl (by simp [hc]) (c_c hG hX cl77 rfl hN (J5 n vs oM) L) rfl t1 t0 ?_
   refine swg (g:=12) rfl (by simp [hc]) (P3 L) rfl t1 t0 ?_
   refine sw (V3 (by simp [hc]) L) t2 t0 ?_
   exact O1 ⟨⟨ob rfl (by simp [hc]),rfl,rfl,rfl,trivial⟩,t3⟩
  ·refine lp2 ag45 sz45 L rfl rfl (cK hG hX cl77 hN (J5 m ws oM) L t1 (sw (P3 L) t1 t0 (mV L rfl (swn (g:=12) rfl (by simp [hc]) L rfl ?_))))
   refine swn (g:=12) rfl (by simp [hc]) L rfl ?_
   refine swn (g:=12) rfl (by simp [hc]) L rfl ?_
   refine sw (m4 (by simp [hc]) L) t2 t0 ?_
   exact O1 ⟨⟨ob rfl (by simp [hc]),rfl,rfl,rfl,trivial⟩,t3⟩
 refine D2 rfl (fun hc=>?_) (fun hc=>?_)
 ·have hc:¬ (P2 m ws=true∧P2 n vs=true):=by rintro ⟨h1,h2⟩; simp [h1,h2] at hc
  refine exr (sw (Y7 (E6 (vs:=[]) un45 zv45 (.cons rfl (.cons rfl .nil)) ((y2.cons sz4 (y2.cons sz43 y2.nil))).to rfl .nil (.cons (.cons .nil)) L) (.agg (.cons .same (.cons .nil .nil)))) t0 t0 (sb (U2 sz45 rF pa2 rfl pu2) t2 t1 ?_))
  refine zn [(4,_)] [(4,_)] t1 t1 (V1 ?_)
  refine Q0 (.agg rfl rfl rfl ag45 sz45 (.cons (.cons .nil))) ?_
  rw [if_neg hc,D8]; rfl
 ·have hc:P2 m ws=true∧P2 n vs=true:=by simpa using hc
  have ht:=(P5 hc.1).1
  have ht2:=(P5 hc.2).1
  rw [if_pos hc]
  refine U1 (xq ?_)
  refine exr (lp2 ag45 sz45 L rfl rfl (cK hG hX cl118 hN (L8 m ws oM h ht) L t1 (mV L rfl (sw (i4 rfl L) t1 t0 (sw (i4 rfl L) t1 t0 (aV L rfl (aV L rfl (zn [(2,_),(3,_),(4,_),(5,_),(6,_)] [(2,_),(3,_),(4,_)] t5 t3 (exr (lp2 ag45 sz45 L rfl rfl (cK hG hX cl118 hN (L8 n vs oM h2 ht2) L t1 ?_)))))))))))
  refine mV L rfl (sw (i4 rfl L) t1 t0 (sw (i4 rfl L) t1 t0 (aV L rfl (aV L rfl (zn [(2,_),(3,_),(4,_),(5,_),(6,_),(7,_),(8,_)] [(2,_),(3,_),(4,_)] t7 t3 (R1 ?_))))))
  refine exm (sl:=[(31,vb (decide (val ws<4611686018427387904∧val vs<4611686018427387904)))]) (sl0:=[(2,_),(3,_),(4,_),(5,_),(7,_)]) (hb:=[]) (hb0:=[(2,_),(3,_),(4,_)]) t5 t3 ?_ ?_
  ·by_cases hd:val ws<4611686018427387904
   ·refine mV L rfl (mV L rfl (gV (g:=29) rfl (decide_eq_true hd) L rfl rfl (sw (m4 (decide_eq_true hd) L) t2 t0 ?_)))
    exact O1 ⟨⟨ob rfl (v7 oM),rfl,rfl,rfl,rfl,rfl,trivial⟩,t3⟩
   ·refine mV L rfl (mV L rfl (swn (g:=29) rfl (decide_eq_false hd) L rfl (sw (V3 (decide_eq_false hd) L) t2 t0 ?_)))
    exact O1 ⟨⟨ob rfl (by simp [hd]),rfl,rfl,rfl,rfl,rfl,trivial⟩,t3⟩
  refine D2 rfl (fun hd=>?_) (fun hd=>?_)
  ·have hd:=dt hd
   rw [if_pos hd.1,if_pos hd.2]
   have b1:=h1a m hv hd.1
   have b2:=h1a n hv2 hd.2
   refine exr (mV L rfl (mV L rfl (sw (K3 L (w64 oM oM)) t2 t0 (cK hG hX cl119 hN (b0k (sg m (val ws)+sg n (val vs)) oM oM) L t1 (sb (U2 sz45 rF pa2 rfl pu2) t2 t1 ?_)))))
   refine zn [(4,_)] [(4,_)] t1 t1 (V1 ?_)
   refine Q0 (.agg rfl rfl rfl ag45 sz45 (.cons (.cons .nil))) ?_
   rfl
  ·refine U1 (xq ?_)
   refine R1 (exr (sw (Z1 un45 rfl sz4 dC rX L) t1 t1 ?_))
   refine sw (Y1 ag4 rF rF L) t1 t1 ?_
   refine sw (Z1 un45 rfl sz4 dC rX L) t1 t1 ?_
   refine sw (Y1 ag4 rF rF L) t1 t1 ?_
   refine sw (N1w un4 L) t2 t0 (zn [(2,_),(3,_),(4,_),(40,_)] [(2,_),(3,_),(4,_)] t4 t3 ?_)
   refine D2 rfl (fun hs=>?_) (fun hs=>?_)
   ·have hs:m=n:=by simpa using hs
    subst hs
    refine exd rF ?_
    refine sw (Z1 un45 rfl sz4 dC rX L) t1 t1 ?_
    refine sw (Y1 ag4 rF rF L) t1 t1 ?_
    refine sw (Z1 un45 rfl sz43 dC rX L) t1 t1 ?_
    refine sw (Y1 ag43 rF rF L) t1 t1 ?_
    refine sw (Z1 un45 rfl sz43 dC rX L) t1 t1 ?_
    refine sw (Y1 ag43 rF rF L) t1 t1 ?_
    refine cK hG hX cl142 hN (J0n ws vs oM oM h h2) L t2 (cK hG hX cl122 hN (v6 m (j3 (val ws+val vs).toNat) oM (U3 _)) L t2 (sb (U2 sz45 rF pa2 rfl pu2) t2 t1 ?_))
    refine O1 ⟨B5 [⟨[2],[2],[41],[]⟩,⟨[41],[2],[42],[]⟩,⟨[2],[2],[43],[]⟩,⟨[43],[2],[44],[]⟩,⟨[3],[3],[45],[]⟩,⟨[45],[3],[46],[]⟩,⟨[44,46],[],[47],[]⟩,⟨[42,47],[],[48],[]⟩,⟨[4,48],[4],[],[4]⟩] rF rF dC,[(4,_)],[(4,_)],t1,t1,?_⟩
    refine V1 ?_
    refine Q0 (.agg rfl rfl rfl ag45 sz45 (.cons (.cons .nil))) ?_
    rw [K9 oM,b1n]
   ·have hs:m≠n:=by simpa using hs
    refine U1 (xq ?_)
    refine R1 (exr (sw (Z1 un45 rfl sz43 dC rX L) t1 t1 ?_))
    refine sw (Y1 ag43 rF rF L) t1 t1 ?_
    refine sw (Z1 un45 rfl sz43 dC rX L) t1 t1 ?_
    refine sw (Y1 ag43 rF rF L) t1 t1 ?_
    refine cK hG hX cl143 hN (H0j ws vs oM oM h h2 ht ht2) L t2 (sw (b0p L) t2 t0 (zn [(2,_),(3,_),(4,_),(54,_)] [(2,_),(3,_),(4,_)] t4 t3 ?_))
    refine D2 rfl (fun he=>?_) (fun he=>?_)
    ·have he:=g1f (dt he)
     have hsl:=g1x h h2 he
     refine exd rF ?_
     refine sw (Z1 un45 rfl sz4 dC rX L) t1 t1 ?_
     refine sw (Y1 ag4 rF rF L) t1 t1 ?_
     refine sw (Z1 un45 rfl sz43 dC rX L) t1 t1 ?_
     refine sw (Y1 ag43 rF rF L) t1 t1 ?_
     refine sw (Z1 un45 rfl sz43 dC rX L) t1 t1 ?_
     refine sw (Y1 ag43 rF rF L) t1 t1 ?_
     refine cK hG hX cl144 hN (q0f ws vs oM (v0d h h2 ht2 he) h h2 he) L t2 (cK hG hX cl122 hN (v6 m (j3 (val ws - val vs).toNat) oM (U3 _)) L t2 (sb (U2 sz45 rF pa2 rfl pu2) t2 t1 ?_))
     refine O1 ⟨B5 [⟨[2],[2],[55],[]⟩,⟨[55],[2],[56],[]⟩,⟨[2],[2],[57],[]⟩,⟨[57],[2],[58],[]⟩,⟨[3],[3],[59],[]⟩,⟨[59],[3],[60],[]⟩,⟨[58,60],[],[61],[]⟩,⟨[56,61],[],[62],[]⟩,⟨[4,62],[4],[],[4]⟩] rF rF dC,[(4,_)],[(4,_)],t1,t1,?_⟩
     refine V1 ?_
     refine Q0 (.agg rfl rfl rfl ag45 sz45 (.cons (.cons .nil))) ?_
     rw [K9 oM,N0z hs]
    ·have he:=f1s (df he)
     have hsl:=g1x h2 h oM
     refine U1 (xq ?_)
     refine exd rF ?_
     refine sw (Z1 un45 rfl sz4 dC rX L) t1 t1 ?_
     refine sw (Y1 ag4 rF rF L) t1 t1 ?_
     refine sw (Z1 un45 rfl sz43 dC rX L) t1 t1 ?_
     refine sw (Y1 ag43 rF rF L) t1 t1 ?_
     refine sw (Z1 un45 rfl sz43 dC rX L) t1 t1 ?_
     refine sw (Y1 ag43 rF rF L) t1 t1 ?_
     refine cK hG hX cl144 hN (q0f vs ws oM (v0d h2 h ht oM) h2 h oM) L t2 (cK hG hX cl122 hN (v6 n (j3 (val vs - val ws).toNat) oM (U3 _)) L t2 (sb (U2 sz45 rF pa2 rfl pu2) t2 t1 ?_))
     refine O1 ⟨B5 [⟨[3],[3],[63],[]⟩,⟨[63],[3],[64],[]⟩,⟨[3],[3],[65],[]⟩,⟨[65],[3],[66],[]⟩,⟨[2],[2],[67],[]⟩,⟨[67],[2],[68],[]⟩,⟨[66,68],[],[69],[]⟩,⟨[64,69],[],[70],[]⟩,⟨[4,70],[4],[],[4]⟩] rF rF dC,[(4,_)],[(4,_)],t1,t1,?_⟩
     refine V1 ?_
     refine Q0 (.agg rfl rfl rfl ag45 sz45 (.cons (.cons .nil))) ?_
     rw [K9 oM,N0z hs.symm,Int.add_comm]
theorem b1s (ws:List Int)(d:Int)(hl:ws.length<10000000000000)(h:Wd ws)(hd:0<d∧d<4294967296):w0g E 156 [.ref 1000 0 ws.length ws.length,.p (oZ d)] [(1000,⟨119,1,.pure (K4 ws)⟩)] [(1000,⟨119,1,.pure (K4 (E4 ws.length (val ws / d)))⟩)] (oZ (val ws % d)):=by
 refine f0n (xs:=[oZ (val ws % d)]) Tryz.func156 rfl Tryz.ntmps156 Tryz.results156 sM rfl (m0s rfl) fun F hG hX hnt hdf P0 hXp=>?_
 have L:=@lti _ _ hnt
 have hN:=W5 hG
 refine exr (aV L rfl (zn [(0,_),(1,_)] [(1000,_)] t2 t1 (exr (aV L rfl (zn [(0,_),(1,_),(5,_)] [(1000,_)] t3 t1 (R1 (exr (mV L rfl (sw (p0d un43 (by exact sM) L) t1 t1 ?_)))))))))
 refine sw (q6 L (w64 oM oM)) t2 t0 (aV L rfl (zn [(0,_),(1,_),(5,_),(6,_)] [(1000,_)] t4 t1 (X1 ?_)))
 refine exl (α:=(Nat×List Int×Int)) (fun x=>[(6,vi ((x.1:Int) - 1)),(5,vw x.2.2)]) (fun x=>[(1000,⟨119,1,.pure (K4 (ws.take x.1++x.2.1))⟩)]) (fun x=>I9 ws d x) (fun x=>x.1) ((ws.length,([]:List Int),(0:Int))) (sl:=[(0,_),(1,_)]) (hb:=[]) ?_ ⟨oR,oR,rfl,rfl,trivial⟩ ⟨obl rfl sM,trivial⟩ ?_
 ·exact I9.start ws d
 intro x hx
 obtain ⟨n,qs,r⟩:=x
 have hle:=hx.le
 have hq:qs.length=ws.length - n:=by have:=hx.q; simp only at this; rw [this,C3]
 have hr:0≤r∧r<d:=by have:=hx.r; simp only at this; rw [this]; exact ⟨Int.emod_nonneg _ oM,Int.emod_lt_of_pos _ hd.1⟩
 simp only at hle
 dsimp only
 refine R1 (exr (mV L rfl (sw (b0p L) t2 t0 (zn [(0,_),(1,_),(5,_),(6,_),(11,_)] [(1000,_)] t5 t1 ?_))))
 refine D2 rfl (fun he=>?_) (fun he=>?_)
 ·have he:=dt he
  obtain ⟨key,k1,k2⟩:=hx.next h hd.1 oM
  have hw:=h.getD (n - 1)
  have hg:(ws.take n++qs).getD (n - 1) 0=ws.getD (n - 1) 0:=k1m oM oM
  refine U1 (xq ?_)
  refine R1 (X1 (exr (mV L rfl (sw (w0z L dC (H0a (c:=4294967296) rF (J4 oM oM))) t2 t0 ?_))))
  refine mV L rfl (mV L rfl (sw (C6 un43 sz119 (by exact sO) (j:=n - 1) rO oM L) t2 t1 ?_))
  refine sw (Y1 ag119 (by exact sO) (g0m (Z5 (ws:=ws.take n++qs) (i:=n - 1) sO)) L) t1 t1 ?_
  refine sw (y4 un119 un127 L (show _=ws.getD (n - 1) 0 by rw [hg]; exact P1j oM oM)) t1 t0 ?_
  refine sw (q0q L (F0j (b:=r) 32 rfl hw.1 hw.2 hr.1 dC oM oM)) t2 t0 (aV L rfl ?_)
  refine O1 ⟨[(0,_),(1,_),(5,vw (r*4294967296+ws.getD (n - 1) 0)),(6,_)],[(1000,_)],⟨rfl,rfl,oi oM rfl,rfl,trivial⟩,t1,?_⟩
  refine exr (mV L rfl (mV L rfl (mV L rfl (mV L rfl (sw (y4 un119 un127 L (J4 oM oM)) t1 t0 (sw (c_q L oM (Q0r oM oM)) t2 t0 (sw (y4 un127 un119 L (w0w oM oM)) t1 t0 (sw (C6 un43 sz119 (by exact sO) (j:=n - 1) rO oM L) t2 t1 ?_))))))))
  refine sb (b0n sz119 (by exact sO) (.atom rfl) oM) t2 t1 ?_
  refine zn [(0,_),(1,_),(5,_),(6,_)] [(1000,_)] t4 t1 (y3 (mV L rfl (mV L rfl (sw (y4 un119 un127 L (J4 oM oM)) t1 t0 (sw (c_r L oM (V0r oM oM)) t2 t0 (aV L rfl (O1 (y3 (mV L rfl (sw (q6 L (w64 oM oM)) t2 t0 (aV L rfl ?_)))))))))))
  refine O1 ?_
  exact ⟨(n - 1,(r*4294967296+ws.getD (n - 1) 0) / d :: qs,(r*4294967296+ws.getD (n - 1) 0) % d),key,(by simp only; omega),E3 ⟨oR,oR,rfl,rfl,trivial⟩ ⟨obl rfl (by rw [o5,W0n sO,List.take_take,G1 oM]),trivial⟩⟩
 ·have he:=df he
  have hn:n=0:=by omega
  subst hn
  have e1:r=val ws % d:=by simpa using hx.r
  have e2:qs=E4 ws.length (val ws / d):=by simpa using hx.q
  refine L2 (xq ?_)
  refine exr (mV L rfl (sw (y4 un127 un119 L (w0w oM oM)) t1 t0 (aV L rfl (zn [(4,_)] [(1000,_)] t1 t1 (V1 ?_)))))
  refine ⟨.inr rfl,U4.cast (.cons (.tmp rfl) .nil) ?_,⟨obl rfl (by simp [e2]),trivial⟩⟩
  rw [e1]
theorem p0h (ws:List Int)(k:Nat)(hl:ws.length<9999999999999)(h:Wd ws)(hk:k<32):w0j E 158 [pW ws,vZ k] 119 1 (ws.length+1) (K4 (E4 (ws.length+1) (val ws*2 ^ k))):=by
 refine p0b (k:=11) (tot:=ws.length+1) Tryz.func158 rfl Tryz.ntmps158 Tryz.results158 sM fun F hG hX0 hnt hdf P0=>?_
 obtain ⟨L,hX,hN⟩:=pro hnt hX0 hG
 refine exr (aV L rfl (zn [(0,_),(1,_)] [] t2 trivial (exr (mV L rfl (sw (R2 un43 L) t1 t0 (sw (K3 L (w64 oM oM)) t2 t0 (swb (v0b (k:=11) un43 ti119 rfl rfl rfl rfl (show _=((ws.length+1:Nat):Int) by omega) (show _=((ws.length+1:Nat):Int) by omega) (Nat.le_refl _) (by simp [Tryz.t119]; omega) oM (P0 _ rfl) L) t2 t0 ⟨rfl,rfl⟩ ?_)))))))
 refine aV L rfl (zn [(0,_),(1,_),(5,_)] [(11,_)] t3 t1 (R1 (exr (mV L rfl (sw (R2 un43 L) t1 t0 (mV L rfl (zn [(1,_),(5,_),(12,_),(13,_),(14,_)] [(11,_)] t5 t1 (X1 ?_))))))))
 refine exl (α:=(Nat×List Int×Int)) (fun x=>[(14,vi (x.1:Int))]) (fun x=>[(11,⟨119,1,.pure (K4 (x.2.1++x.2.2 :: List.replicate (ws.length - x.1) 0))⟩)]) (fun x=>l8 ws k x) (fun x=>ws.length - x.1) (((0:Nat),([]:List Int),(0:Int))) (sl:=[(1,_),(5,_),(12,_),(13,_)]) (hb:=[]) ?_ ⟨oR,rfl,rfl,rfl,rfl,trivial⟩ ⟨obl rfl (by rw [X9]; rfl),trivial⟩ ?_
 ·exact l8.zero ws k
 intro x hx
 obtain ⟨i,ys,c⟩:=x
 have hlen:=hx.len
 have hle:=hx.le
 have h0:=hx.h0
 have h1:=hx.h1
 simp only at hlen hle h0 h1
 dsimp only
 refine exr (sw (d4 L) t2 t0 (zn [(1,_),(5,_),(12,_),(13,_),(14,_),(15,_)] [(11,_)] t6 t1 (R1 ?_)))
 refine D2 rfl (fun he=>?_) (fun he=>?_)
 ·have he:=dt he
  have hw:=h.getD i
  have key:=hx.next h oM
  have kq0:=key.h0
  have kq1:=key.h1
  simp only at kq0 kq1
  have hp:=H0h (Nat.le_of_lt hk)
  have sa:=h1f (Nat.le_of_lt hk) (ws.getD i 0) h0 h1
  have hg:(ys++c :: List.replicate (ws.length - i) 0).getD i 0=c:=by rw [f0,D0 oM,hlen,Nat.sub_self]; rfl
  refine U1 (xq ?_)
  refine R1 (X1 (exr (mV L rfl (sw (ixJ un43 sz119 (j:=i) rO oM sM L) t2 t0 ?_))))
  refine sw (v4 ag119 (by first | exact Z5 oM | rfl) L) t1 t0 ?_
  refine aV L rfl (aV L rfl (zn [(1,_),(5,_),(6,_),(7,_),(12,_),(13,_),(14,_)] [(11,_)] t7 t1 (exd rF ?_)))
  refine mV L rfl (mV L rfl (sw (C6 un43 sz119 (by exact sO) (j:=i) rO oM L) t2 t1 ?_))
  refine sw (Y1 ag119 (by exact sO) (g0m (Z5 sO)) L) t1 t1 ?_
  refine mV L rfl (mV L rfl (sw (w0z L oM (M1d (Nat.le_of_lt hk))) t2 t0 (sw (q0q L (show _=(ws.getD i 0*2 ^ k+c) % 4294967296 by rw [hg,P1r (b:=ws.getD i 0 % 2 ^ (32 - k)) k rfl h0 h1 sa.2.2.1 (Nat.le_of_lt hk) sa.2.2.2 sa.2.1,sa.1])) t2 t0 ?_)))
  refine sw (C6 un43 sz119 (by exact sO) (j:=i) rO oM L) t2 t1 ?_
  refine sb (b0n sz119 (by exact sO) (.atom rfl) oM) t2 t1 ?_
  refine O1 ⟨B5 [⟨[5],[],[19],[]⟩,⟨[6],[],[20],[]⟩,⟨[19,20],[11],[21],[]⟩,⟨[21],[11],[22],[]⟩,⟨[7],[],[23],[]⟩,⟨[1],[],[24],[]⟩,⟨[23,24],[],[25],[]⟩,⟨[22,25],[],[26],[]⟩,⟨[19,20],[11],[27],[]⟩,⟨[27,26],[11],[],[11]⟩] rF rF dC,[(1,_),(5,_),(6,_),(7,_),(12,_),(13,_),(14,_)],[(11,_)],t7,t1,?_⟩
  refine y3 (mV L rfl (mV L rfl (sw (K3 L (w64 oM oM)) t2 t0 (mV L rfl (sw (y4 un119 un127 L (J4 oM oM)) t1 t0 (mV L rfl (sw (q6 L (w64 oM oM)) t2 t0 (sw (v9 L oM (show _=(ws.getD i 0*2 ^ k+c) / 4294967296 by rw [N0f (Nat.le_of_lt hk) _ h0 h1]; exact M1h hk)) t2 t0 ?_))))))))
  refine sw (y4 un127 un119 L (w0w oM oM)) t1 t0 (sw (C6 un43 sz119 (by exact (List.length_set.trans sO)) (j:=i+1) rO oM L) t2 t1 ?_)
  refine sb (b0n sz119 (by exact (List.length_set.trans sO)) (.atom rfl) oM) t2 t1 ?_
  refine O1 (y3 (sw (K3 L (w64 oM oM)) t2 t0 (mV L rfl (O1 ?_))))
  exact ⟨(i+1,ys++[(ws.getD i 0*2 ^ k+c) % 4294967296],(ws.getD i 0*2 ^ k+c) / 4294967296),key,(by simp only; omega),E3 ⟨oR,rfl,rfl,rfl,rfl,trivial⟩ ⟨obl rfl (by simp only; rw [o5,o5,F0b hlen oM]),trivial⟩⟩
 ·have he:=df he
  have hi:i=ws.length:=by omega
  subst hi
  obtain ⟨e1,e2⟩:=hx.end_ oM
  refine L2 (xq ?_)
  refine exr (mV L rfl (aV L rfl (zn [(4,_)] [(11,_)] t1 t1 (V1 ?_))))
  refine ⟨.inr rfl,rfl,_,rfl,by simp; omega,?_,by simp [C3]⟩
  rw [← e1,Nat.sub_self]; exact C0 sO
theorem k0k (ws:List Int)(hl:ws.length<10000000000000)(h:Wd ws):Y2 E 150 [pW ws] (.tup [uZ (if ws.length≤2 then val ws else 0),bZ (decide (ws.length≤2))]):=by
 refine j2 (xs:=[uZ (if ws.length≤2 then val ws else 0),bZ (decide (ws.length≤2))]) Tryz.func150 rfl Tryz.ntmps150 Tryz.results150 sM fun F hG hX0 hnt hdf P0=>?_
 obtain ⟨L,hX,hN⟩:=pro hnt hX0 hG
 have hw:=h.getD 0
 have hw1:=h.getD 1
 refine exr (aV L rfl (aV L rfl (zn [(0,_)] [] t1 trivial (R1 (exr (mV L rfl (sw (R2 un43 L) t1 t0 (zn [(0,_),(5,_)] [] t2 trivial (X1 (exr (sw (c_e L) t2 t0 ?_)))))))))))
 refine aV L rfl (zn [(0,_),(5,_),(6,_)] [] t3 trivial ?_)
 refine D2 rfl (fun h0=>?_) (fun h0=>?_)
 ·have h0:=dt h0
  have e:ws=[]:=E0 oM
  refine exr (aV L rfl (aV L rfl (zn [(2,_),(3,_)] [] t2 trivial (V1 ?_))))
  refine Y0 (.tmp rfl) (.tmp rfl) ?_
  rw [e]; rfl
 ·have h0:=df h0
  refine exr (sw (c_e L) t2 t0 (aV L rfl (zn [(0,_),(5,_),(8,_)] [] t3 trivial ?_)))
  refine D2 rfl (fun h1=>?_) (fun h1=>?_)
  ·have h1:=dt h1
   refine exr (mV L rfl (sw (ixJ un43 sz119 (j:=0) rfl oM sM L) t2 t0 ?_))
   refine sw (v4 ag119 (by first | exact Z5 oM | rfl) L) t1 t0 ?_
   refine sw (y4 un119 un127 L (J4 oM oM)) t1 t0 (aV L rfl (aV L rfl (zn [(2,_),(3,_)] [] t2 trivial (V1 ?_))))
   refine Y0 (.tmp rfl) (.tmp rfl) ?_
   rw [if_pos oM,decide_eq_true oM,k0q oM]
  ·have h1:=df h1
   refine exr (sw (c_e L) t2 t0 (aV L rfl (zn [(0,_),(14,_)] [] t2 trivial ?_)))
   refine D2 rfl (fun h2=>?_) (fun h2=>?_)
   ·have h2:=dt h2
    refine exd rF ?_
    refine mV L rfl (sw (ixJ un43 sz119 (j:=1) rfl oM sM L) t2 t0 ?_)
    refine sw (v4 ag119 (by first | exact Z5 oM | rfl) L) t1 t0 ?_
    refine sw (y4 un119 un127 L (J4 oM oM)) t1 t0 (sw (w0z L dC (H0a (c:=4294967296) rF (J4 oM oM))) t2 t0 ?_)
    refine mV L rfl (sw (ixJ un43 sz119 (j:=0) rfl oM sM L) t2 t0 ?_)
    refine sw (v4 ag119 (by first | exact Z5 oM | rfl) L) t1 t0 ?_
    refine sw (y4 un119 un127 L (J4 oM oM)) t1 t0 (sw (q0q L (F0j (b:=ws.getD 1 0) 32 rfl hw.1 hw.2 hw1.1 dC oM oM)) t2 t0 (aV L rfl (aV L rfl ?_)))
    refine O1 ⟨B5 [⟨[0],[],[16],[]⟩,⟨[16],[],[17],[]⟩,⟨[17],[],[18],[]⟩,⟨[18],[],[19],[]⟩,⟨[19],[],[20],[]⟩,⟨[0],[],[21],[]⟩,⟨[21],[],[22],[]⟩,⟨[22],[],[23],[]⟩,⟨[23],[],[24],[]⟩,⟨[20,24],[],[25],[]⟩,⟨[25],[],[2],[]⟩,⟨[],[],[3],[]⟩] rF rF dC,[(2,_),(3,_)],[],t2,trivial,?_⟩
    refine V1 ?_
    refine Y0 (.tmp rfl) (.tmp rfl) ?_
    rw [if_pos oM,decide_eq_true oM,← v0q h oM]; rfl
   ·have h2:=df h2
    refine U1 (xq ?_)
    refine exr (aV L rfl (aV L rfl (zn [(2,_),(3,_)] [] t2 trivial (V1 ?_))))
    refine Y0 (.tmp rfl) (.tmp rfl) ?_
    rw [if_neg oM,decide_eq_false oM]
theorem B0m (n:Int)(h0:0≤n)(h1:n<18446744073709551616):Y2 E 155 [uZ n] (pW (E4 2 n)):=by
 refine j2 (xs:=[pW (E4 2 n)]) Tryz.func155 rfl Tryz.ntmps155 Tryz.results155 sM fun F hG hX0 hnt hdf P0=>?_
 obtain ⟨L,hX,hN⟩:=pro hnt hX0 hG
 refine exr (aV L rfl (zn [(0,_)] [] t1 trivial (exr (mV L rfl (sw (y4 un127 un119 L j8) t1 t0 (mV L rfl (sw (v9 L dC (d0r (c:=4294967296) rF dC)) t2 t0 ?_)))))))
 refine sw (y4 un127 un119 L j8) t1 t0 (sw (F4 (vs:=[_,_]) un43 ti119 rfl rfl dC dC rfl (M2 (.cons rfl .nil) rfl) rfl (.cons rfl (.atom rfl) rfl pu1 (.cons rfl (.atom rfl) rfl (.skip pu1) .nil)) (.cons (.cons .nil)) L) t2 t0 (aV L rfl (zn [(2,_)] [] t1 trivial (V1 ?_))))
 refine Q0 (.tmp rfl) ?_
 simp [E4,K4]
theorem H1k (x:Int)(h0:0≤x)(h1:x<4294967296):Y2 E 157 [oZ x] (vZ (32 - (bl x.toNat:Int))):=by
 refine j2 (xs:=[vZ (32 - (bl x.toNat:Int))]) Tryz.func157 rfl Tryz.ntmps157 Tryz.results157 sM fun F hG hX0 hnt hdf P0=>?_
 obtain ⟨L,hX,hN⟩:=pro hnt hX0 hG
 have hb:=F1h h1
 refine exr (aV L rfl (zn [(0,_)] [] t1 trivial (exr (mV L rfl (cK hG hX cl169 hN (d1a x h0 h1) L t1 (sw (q6 L (w64 oM oM)) t2 t0 (aV L rfl (zn [(2,_)] [] t1 trivial (V1 ?_)))))))))
 refine Q0 (.tmp rfl) ?_
 rfl
theorem P0q (ws:List Int)(d:Int)(hl:ws.length<9999999999999)(h:Wd ws)(hd:0<d∧d<4294967296):Y2 E 165 [pW ws,uZ d] (.tup [pW (j3 (val ws / d).toNat),pW (j3 (val ws % d).toNat)]):=by
 refine j2 (xs:=[pW (j3 (val ws / d).toNat),pW (j3 (val ws % d).toNat)]) Tryz.func165 rfl Tryz.ntmps165 Tryz.results165 sM fun F hG hX0 hnt hdf P0=>?_
 obtain ⟨L,hX,hN⟩:=pro hnt hX0 hG
 have hv:=G2 h
 refine exr (aV L rfl (aV L rfl (zn [(0,_),(1,_)] [] t2 trivial (exr (mV L rfl (sw (R2 un43 L) t1 t0 (swb (v0b (k:=11) un43 ti119 rfl rfl rfl rfl rfl rfl (Nat.le_refl _) (by simp [Tryz.t119]; omega) oM (P0 _ rfl) L) t2 t0 ⟨rfl,rfl⟩ ?_)))))))
 refine aV L rfl (zn [(0,_),(1,_),(4,_)] [(11,_)] t3 t1 (exr (aV L rfl (zn [(0,_),(1,_),(4,_),(6,_)] [(11,_)] t4 t1 (R1 (exr (mV L rfl (sw (R2 un43 L) t1 t0 (sw (q6 L (w64 oM oM)) t2 t0 (aV L rfl (zn [(0,_),(1,_),(4,_),(6,_),(7,_)] [(11,_)] t5 t1 ?_)))))))))))
 refine X1 ?_
 refine exl (α:=(Nat×List Int×Int)) (fun x=>[(7,vi ((x.1:Int) - 1)),(6,vw x.2.2)]) (fun x=>[(11,⟨119,1,.pure (K4 (List.replicate x.1 0++x.2.1))⟩)]) (fun x=>I9 ws d x) (fun x=>x.1) ((ws.length,([]:List Int),(0:Int))) (sl:=[(0,_),(1,_),(4,_)]) (hb:=[]) ?_ ⟨oR,oR,rfl,rfl,rfl,trivial⟩ ⟨obl rfl (by rw [X9]; simp),trivial⟩ ?_
 ·exact I9.start ws d
 intro x hx
 obtain ⟨n,qs,r⟩:=x
 have hle:=hx.le
 have hq:qs.length=ws.length - n:=by have:=hx.q; simp only at this; rw [this,C3]
 have hr:0≤r∧r<d:=by have:=hx.r; simp only at this; rw [this]; exact ⟨Int.emod_nonneg _ oM,Int.emod_lt_of_pos _ hd.1⟩
 simp only at hle
 dsimp only
 refine R1 (exr (mV L rfl (sw (b0p L) t2 t0 (zn [(0,_),(1,_),(4,_),(6,_),(7,_),(16,_)] [(11,_)] t6 t1 ?_))))
 refine D2 rfl (fun he=>?_) (fun he=>?_)
 ·have he:=dt he
  obtain ⟨key,k1,k2⟩:=hx.next h hd.1 oM
  have hw:=h.getD (n - 1)
  refine U1 (xq ?_)
  refine R1 (X1 (exr (mV L rfl (sw (w0z L dC (H0a (c:=4294967296) rF (J4 oM oM))) t2 t0 ?_))))
  refine mV L rfl (mV L rfl (sw (ixJ un43 sz119 (j:=n - 1) rO oM sM L) t2 t0 ?_))
  refine sw (v4 ag119 (by first | exact Z5 oM | rfl) L) t1 t0 ?_
  refine sw (y4 un119 un127 L (J4 oM oM)) t1 t0 (sw (q0q L (F0j (b:=r) 32 rfl hw.1 hw.2 hr.1 dC oM oM)) t2 t0 (aV L rfl ?_))
  refine O1 ⟨[(0,_),(1,_),(4,_),(7,_),(8,vw (r*4294967296+ws.getD (n - 1) 0))],[(11,_)],⟨rfl,rfl,rfl,rfl,oi oM rfl,trivial⟩,t1,?_⟩
  refine exr (mV L rfl (mV L rfl (mV L rfl (mV L rfl (sw (c_q L oM (Q0r oM oM)) t2 t0 (sw (y4 un127 un119 L (w0w oM oM)) t1 t0 (sw (C6 un43 sz119 (by exact sO) (j:=n - 1) rO oM L) t2 t1 ?_)))))))
  refine sb (b0n sz119 (by exact sO) (.atom rfl) oM) t2 t1 ?_
  refine zn [(0,_),(1,_),(4,_),(7,_),(8,_)] [(11,_)] t5 t1 (y3 (mV L rfl (mV L rfl (sw (c_r L oM (V0r oM oM)) t2 t0 (aV L rfl (O1 (y3 (mV L rfl (sw (q6 L (w64 oM oM)) t2 t0 (aV L rfl (O1 ?_)))))))))))
  exact ⟨(n - 1,(r*4294967296+ws.getD (n - 1) 0) / d :: qs,(r*4294967296+ws.getD (n - 1) 0) % d),key,(by simp only; omega),E3 ⟨oR,oR,rfl,rfl,rfl,trivial⟩ ⟨obl rfl (by rw [o5,W0n sO]; simp),trivial⟩⟩
 ·have he:=df he
  have hn:n=0:=by omega
  subst hn
  have e1:r=val ws % d:=by simpa using hx.r
  have e2:qs=E4 ws.length (val ws / d):=by simpa using hx.q
  have hql:qs.length=ws.length:=by omega
  refine L2 (xq ?_)
  refine G4 [11] (sl:=[(4,_),(6,_)]) (hb:=[]) (M3 hX0) ⟨⟨_,rfl,(.ref rfl rfl (by exact sO) (by first | rfl | omega))⟩,⟨_,rfl,.same⟩,trivial⟩ t0 ?_
  rw [← hql]
  simp only [List.replicate_zero,List.nil_append]
  refine exr (mV L rfl (cK hG hX cl147 hN (s6 qs oM) L t1 (mV L rfl (sw (y4 un127 un119 L (w0w oM oM)) t1 t0 (sw (F4 (vs:=[_]) un43 ti119 rfl rfl dC dC rfl (M2 (.cons rfl .nil) rfl) rfl (.cons rfl (.atom rfl) rfl pu1 .nil) (.cons .nil) L) t1 t0 (cK hG hX cl147 hN (s6 [r] sM) L t1 ?_))))))
  refine aV L rfl (aV L rfl (zn [(4,_),(5,_)] [] t2 trivial (V1 ?_)))
  refine Y0 (.tmp rfl) (.tmp rfl) ?_
  have q1:0≤val ws / d:=Int.ediv_nonneg hv oM
  have q2:val ws / d<4294967296 ^ ws.length:=by
   have:=l5 h
   have h3:val ws / d≤val ws:=Int.ediv_le_self _ hv
   omega
  rw [j6 (by rw [e2]; exact y6 _ _),j6 (ws:=[r]) (by simp [Wd]; omega),e2,m6 q1 q2,← e1]
  simp [val]
theorem G0j (ws:List Int)(s:Nat)(hl:ws.length<1000000000000)(h:Wd ws)(hs:s≤32):Y2 E 168 [pW ws,vZ s] (pW (j3 (val ws / 2 ^ s).toNat)):=by
 refine j2 (xs:=[pW (j3 (val ws / 2 ^ s).toNat)]) Tryz.func168 rfl Tryz.ntmps168 Tryz.results168 sM fun F hG hX0 hnt hdf P0=>?_
 obtain ⟨L,hX,hN⟩:=pro hnt hX0 hG
 have hv:=G2 h
 obtain ⟨n,hn⟩:∃ n,n=ws.length:=⟨_,rfl⟩
 refine exr (aV L rfl (zn [(0,_),(1,_)] [] t2 trivial (exr (aV L rfl (zn [(0,_),(1,_),(5,_)] [] t3 trivial (R1 (exr (aV L rfl (zn [(0,_),(1,_),(5,_),(6,_)] [] t4 trivial (X1 ?_))))))))))
 refine D1h (α:=(Nat×List Int)) (fun x=>[(6,vi (x.1:Int)),(5,.ref 27 0 x.2.length x.2.length)]) (fun x=>[(27,⟨119,1,.pure (K4 x.2)⟩)]) (fun x=>y0a ws s x∧0<x.1) (fun x=>n - x.1) (n+1) (sl:=[(0,_),(1,_)]) (hb:=[]) t2 t0 ?_ ?_
 ·refine R1 (exr (mV L rfl (mV L rfl (sw (R2 un43 L) t1 t0 (sw (d4 L) t2 t0 (zn [(0,_),(1,_),(5,_),(6,_),(10,_)] [] t5 trivial ?_))))))
  refine D2 rfl (fun hd=>?_) (fun hd=>?_)
  ·have hd:=dt hd
   have hw:=h.getD 0
   have hw1:=h.getD 1
   have key:=(y0a.zero ws s).next h hs oM
   have hb:=f1b (s:=s) (a:=ws.getD 0 0+ws.getD 1 0*4294967296) oM oM
   refine U1 (xq ?_)
   refine R1 (X1 (y3 (mV L rfl (mV L rfl (mV L rfl (cK hG hX cl145 hN (v5 ws oM h 0 oM) L t2 (mV L rfl (mV L rfl (sw (K3 L (w64 oM oM)) t2 t0 (cK hG hX cl145 hN (v5 ws oM h 1 oM) L t2 (sw (w0z L dC (H0a (c:=4294967296) rF (J4 oM oM))) t2 t0 ?_)))))))))))
   refine sw (q0q L (G1p (b:=ws.getD 1 0) 32 rfl hw.1 hw.2 hw1.1 dC oM oM)) t2 t0 (mV L rfl (sw (v9 L oM (Y0c oM)) t2 t0 (sw (y4 un127 un119 L j8) t1 t0 (sw (F4 (vs:=[_]) un43 ti119 rfl rfl dC dC rfl (M2 (.cons rfl .nil) rfl) rfl (.cons rfl (.atom rfl) rfl pu1 .nil) (.cons .nil) L) t1 t0 (swb (apN (k:=27) (sz:=1) un43 un43 ti119 rfl rfl rfl dC sM rfl (by first | (simp [Tryz.t119]; done) | (simp [Tryz.t119]; omega)) oM (P0 _ rfl) L) t2 t0 ⟨rfl,rfl⟩ ?_)))))
   refine aV L rfl (O1 (y3 (mV L rfl (sw (K3 L (w64 oM oM)) t2 t0 (aV L rfl (O1 ?_))))))
   exact ⟨(1,[(ws.getD 0 0+ws.getD 1 0*4294967296) / 2 ^ s % 4294967296]),⟨key,Nat.one_pos⟩,(by simp only; omega),E3 ⟨oR,oR,rfl,rfl,trivial⟩ t1⟩
  ·have hd:=df hd
   have e1:ws=[]:=E0 oM
   refine L2 (xq ?_)
   refine G4 [] (sl:=[(5,_)]) (hb:=[]) (M3 hX0) ⟨⟨_,rfl,(.p .nil)⟩,trivial⟩ t0 (exr (mV L rfl (cK hG hX cl147 hN (s6 [] sM) L t1 ?_)))
   refine aV L rfl (zn [(4,_)] [] t1 trivial (V1 ?_))
   refine Q0 (.tmp rfl) ?_
   rw [e1]; simp [trim,G6,val,X4]
 ·intro x hx
  obtain ⟨i,ys⟩:=x
  obtain ⟨hx,hi0⟩:=hx
  have hlen:=hx.len
  have hle:=hx.le
  simp only at hlen hle hi0
  dsimp only
  refine R1 (exr (mV L rfl (mV L rfl (sw (R2 un43 L) t1 t0 (sw (d4 L) t2 t0 (zn [(0,_),(1,_),(5,_),(6,_),(10,_)] [(27,_)] t5 t1 ?_))))))
  refine D2 rfl (fun hd=>?_) (fun hd=>?_)
  ·have hd:=dt hd
   have hw:=h.getD i
   have hw1:=h.getD (i+1)
   have key:=hx.next h hs oM
   have hb:=f1b (s:=s) (a:=ws.getD i 0+ws.getD (i+1) 0*4294967296) oM oM
   refine U1 (xq ?_)
   refine R1 (X1 (y3 (mV L rfl (mV L rfl (mV L rfl (cK hG hX cl145 hN (v5 ws oM h i oM) L t2 (mV L rfl (mV L rfl (sw (K3 L (w64 oM oM)) t2 t0 (cK hG hX cl145 hN (v5 ws oM h (i+1) oM) L t2 (sw (w0z L dC (H0a (c:=4294967296) rF (J4 oM oM))) t2 t0 ?_)))))))))))
   refine sw (q0q L (G1p (b:=ws.getD (i+1) 0) 32 rfl hw.1 hw.2 hw1.1 dC oM oM)) t2 t0 (mV L rfl (sw (v9 L oM (Y0c oM)) t2 t0 (sw (y4 un127 un119 L j8) t1 t0 (sw (F4 (vs:=[_]) un43 ti119 rfl rfl dC dC rfl (M2 (.cons rfl .nil) rfl) rfl (.cons rfl (.atom rfl) rfl pu1 .nil) (.cons .nil) L) t1 t0 (swb (apP (sz:=1) un43 un43 ti119 rfl rfl rfl dC (by exact sM) oF sM rfl rfl rfl (by first | (simp [Tryz.t119]; done) | (simp [Tryz.t119]; omega)) oM (P0 _ rfl) L) t2 t1 t0 ?_)))))
   refine aV L rfl (O1 (y3 (mV L rfl (sw (K3 L (w64 oM oM)) t2 t0 (aV L rfl (O1 ?_))))))
   exact ⟨(i+1,ys++[(ws.getD i 0+ws.getD (i+1) 0*4294967296) / 2 ^ s % 4294967296]),⟨key,Nat.succ_pos _⟩,(by simp only; omega),E3 ⟨oR,ov rfl sM,rfl,rfl,trivial⟩ ⟨obl rfl (by rw [p0s]; rfl),trivial⟩⟩
  ·have hd:=df hd
   have hi:i=ws.length:=by omega
   subst hi
   have e:=hx.end_
   refine L2 (xq ?_)
   refine G4 [27] (sl:=[(5,_)]) (hb:=[]) (M3 hX0) ⟨⟨_,rfl,(.ref rfl rfl (by exact sM) (by first | rfl | omega))⟩,trivial⟩ t0 ?_
   refine exr (mV L rfl (cK hG hX cl147 hN (s6 ys oM) L t1 (aV L rfl (zn [(4,_)] [] t1 trivial (V1 ?_)))))
   refine Q0 (.tmp rfl) ?_
   rw [j6 hx.wd]; simp only; rw [e]
theorem Q0m (ws:List Int)(hl:ws.length<10000000000000):y1b E 147 [.ref 1000 0 ws.length ws.length] [(1000,⟨119,1,.pure (K4 ws)⟩)] [(1000,⟨119,1,.pure (K4 ws)⟩)] (.ref 1000 0 (G6 ws ws.length) ws.length):=by
 refine B1n Tryz.func147 rfl Tryz.ntmps147 Tryz.results147 sM rfl (m0s rfl) fun F hG hX hnt hdf P0 hXp=>?_
 have L:=@lti _ _ hnt
 have hN:=W5 hG
 refine exr (aV L rfl (zn [(0,_)] [(1000,_)] t1 t1 (exr (mV L rfl (sw (p0d un43 (by exact sM) L) t1 t1 ?_)))))
 refine aV L rfl (zn [(0,_),(3,_)] [(1000,_)] t2 t1 (R1 (X1 ?_)))
 refine exl (α:=Nat) (fun n=>[(3,vi (n:Int))]) (fun n=>[]) (fun n=>n≤ws.length∧G6 ws n=G6 ws ws.length) (fun n=>n) (ws.length) (sl:=[(0,_)]) (hb:=[(1000,_)]) ?_ ⟨oR,rfl,trivial⟩ t1 ?_
 ·exact ⟨Nat.le_refl _,rfl⟩
 intro n hn
 refine R1 ?_
 refine exm (sl:=[(15,vb (decide (0<n∧ws.getD (n - 1) 0=0)))]) (sl0:=[(0,_),(3,_)]) (hb:=[]) (hb0:=[(1000,_)]) t2 t1 ?_ ?_
 ·by_cases h:n=0
  ·refine mV L rfl (sw (X6 L) t2 t0 (mV L rfl (swn (g:=8) rfl (by simp [h]) L rfl ?_)))
   refine swn (g:=8) rfl (by simp [h]) L rfl ?_
   refine swn (g:=8) rfl (by simp [h]) L rfl ?_
   refine swn (g:=8) rfl (by simp [h]) L rfl ?_
   refine swn (g:=8) rfl (by simp [h]) L rfl ?_
   refine swn (g:=8) rfl (by simp [h]) L rfl ?_
   refine sw (V3 (by simp [h]) L) t2 t0 ?_
   exact O1 ⟨⟨ob rfl (by simp [h]),rfl,rfl,trivial⟩,t1⟩
  ·refine mV L rfl (sw (X6 L) t2 t0 (mV L rfl (gV (g:=8) rfl sO L rfl rfl (gV (g:=8) rfl sO L rfl rfl (swg (g:=8) rfl sO (q6 L (w64 oM oM)) rfl t2 t0 (swg (g:=8) rfl sO (C6 un43 sz119 (by exact sM) (j:=n - 1) rO oM L) rfl t2 t1 ?_))))))
   refine swg (g:=8) rfl sO (Y1 ag119 (by exact sM) (g0m (by first | exact Z5 oM | rfl)) L) rfl t1 t1 ?_
   refine swg (g:=8) rfl sO (c_e L) rfl t2 t0 (sw (m4 sO L) t2 t0 ?_)
   exact O1 ⟨⟨ob rfl sO,rfl,rfl,trivial⟩,t1⟩
 refine D2 rfl (fun hc=>?_) (fun hc=>?_)
 ·have hc:=dt hc
  refine U1 (xq ?_)
  refine X1 (y3 (mV L rfl (sw (q6 L (w64 oM oM)) t2 t0 (aV L rfl (O1 ?_)))))
  exact ⟨n - 1,⟨by omega,by rw [← hn.2]; conv=>rhs; rw [show n=(n - 1)+1 by omega]; simp only [G6,hc.2,if_true]⟩,by omega,E3 ⟨oR,rfl,trivial⟩ t1⟩
 ·have hc:=df hc
  have e:G6 ws ws.length=n:=by
   rw [← hn.2]
   cases n with
   | zero=>rfl
   | succ n=>simp only [G6]; rw [if_neg]; intro h; exact hc ⟨by omega,by simpa using h⟩
  rw [e]
  refine L2 (xq ?_)
  refine exr (mV L rfl (mV L rfl (sw (b1q un43 sz119 rfl (by exact sM) (h:=n) rO oM L) t2 t1 ?_)))
  refine aV L rfl (zn [(2,_)] [(1000,_)] t1 t1 (V1 ?_))
  refine ⟨.inr rfl,rfl,t1⟩
theorem m0h (ws:List Int)(k:Nat)(hl:ws.length<1000000000000)(h:Wd ws)(hk:k<1000000000000):w0j E 167 [pW ws,vZ k] 119 1 (j3 (val ws*2 ^ k).toNat).length (K4 (j3 (val ws*2 ^ k).toNat)):=by
 refine p0b (k:=14) (tot:=k / 32+ws.length+1) Tryz.func167 rfl Tryz.ntmps167 Tryz.results167 sM fun F hG hX0 hnt hdf P0=>?_
 obtain ⟨L,hX,hN⟩:=pro hnt hX0 hG
 obtain ⟨q,hq⟩:∃ q,q=k / 32:=⟨_,rfl⟩
 obtain ⟨s,hs⟩:∃ s,s=k % 32:=⟨_,rfl⟩
 have hs32:s<32:=by omega
 rw [← hq]
 refine exr (aV L rfl (zn [(0,_),(1,_)] [] t2 trivial (exr (mV L rfl (sw (c_q L dC (N0x (show _=(q:Int) by omega))) t2 t0 ?_)))))
 refine mV L rfl (sw (R2 un43 L) t1 t0 (sw (K3 L (w64 oM oM)) t2 t0 (sw (K3 L (w64 oM oM)) t2 t0 (swb (v0b (k:=14) un43 ti119 rfl rfl rfl rfl (show _=((q+ws.length+1:Nat):Int) by omega) (show _=((q+ws.length+1:Nat):Int) by omega) (Nat.le_refl _) (by simp [Tryz.t119]; omega) oM (P0 _ rfl) L) t2 t0 ⟨rfl,rfl⟩ ?_))))
 refine aV L rfl (zn [(0,_),(1,_),(5,_)] [(14,_)] t3 t1 (R1 (exr (aV L rfl (zn [(0,_),(1,_),(5,_),(6,_)] [(14,_)] t4 t1 (X1 ?_))))))
 refine exl (α:=(Nat×List Int×Int)) (fun x=>[(6,vi (x.1:Int))]) (fun x=>[(14,⟨119,1,.pure (K4 (List.replicate q 0++(x.2.1++x.2.2 :: List.replicate (ws.length - x.1) 0)))⟩)]) (fun x=>l8 ws s x) (fun x=>ws.length - x.1) (((0:Nat),([]:List Int),(0:Int))) (sl:=[(0,_),(1,_),(5,_)]) (hb:=[]) ?_ ⟨oR,rfl,rfl,rfl,trivial⟩ ⟨obl rfl (by rw [X9,V0a]),trivial⟩ ?_
 ·exact l8.zero ws s
 intro x hx
 obtain ⟨i,ys,c⟩:=x
 have hlen:=hx.len
 have hle:=hx.le
 have h0:=hx.h0
 have h1:=hx.h1
 simp only at hlen hle h0 h1
 dsimp only
 refine R1 (exr (mV L rfl (mV L rfl (sw (R2 un43 L) t1 t0 (sw (d4 L) t2 t0 (zn [(0,_),(1,_),(5,_),(6,_),(18,_)] [(14,_)] t5 t1 ?_))))))
 refine D2 rfl (fun he=>?_) (fun he=>?_)
 ·have he:=dt he
  have hw:=h.getD i
  have key:=hx.next h oM
  have kq0:=key.h0
  have kq1:=key.h1
  simp only at kq0 kq1
  have hp:=H0h (Nat.le_of_lt hs32)
  have sa:=h1f (Nat.le_of_lt hs32) (ws.getD i 0) h0 h1
  have sbd:=K1w hs32 hw
  have sd:ws.getD i 0*2 ^ s / 4294967296=(ws.getD i 0*2 ^ s+c) / 4294967296:=by
   rw [N0f (Nat.le_of_lt hs32) _ h0 h1]
   have:=N0f (Nat.le_of_lt hs32) (ws.getD i 0) (c:=0) (Int.le_refl _) oM
   simpa using this
  have hg:(List.replicate q 0++(ys++c :: List.replicate (ws.length - i) 0)).getD (i+q) 0=c:=h1x hlen
  refine U1 (xq ?_)
  refine R1 (X1 (exr (mV L rfl (mV L rfl (sw (ixJ un43 sz119 (j:=i) rO oM sM L) t2 t0 ?_)))))
  refine sw (v4 ag119 (by first | exact Z5 oM | rfl) L) t1 t0 ?_
  refine sw (y4 un119 un127 L (J4 oM oM)) t1 t0 (mV L rfl (sw (c_r L dC (show _=(s:Int) by rw [Int.tmod_eq_emod_of_nonneg oM]; omega)) t2 t0 ?_))
  refine sw (w0z L oM (M1n oM sbd)) t2 t0 (aV L rfl (zn [(0,_),(1,_),(5,_),(6,_),(7,_)] [(14,_)] t5 t1 (exr (mV L rfl (mV L rfl (mV L rfl (sw (c_q L dC (N0x (show _=(q:Int) by omega))) t2 t0 ?_)))))))
  refine sw (K3 L (w64 oM oM)) t2 t0 (mV L rfl (mV L rfl (mV L rfl (sw (c_q L dC (N0x (show _=(q:Int) by omega))) t2 t0 ?_))))
  refine sw (K3 L (w64 oM oM)) t2 t0 (sw (C6 un43 sz119 (by exact sO) (j:=i+q) rO oM L) t2 t1 ?_)
  refine sw (Y1 ag119 (by exact sO) (g0m (Z5 sO)) L) t1 t1 ?_
  refine mV L rfl (sw (y4 un127 un119 L j8) t1 t0 (sw (q0q L (show _=(ws.getD i 0*2 ^ s+c) % 4294967296 by rw [hg,P1r (b:=ws.getD i 0 % 2 ^ (32 - s)) s (M0z (Nat.le_of_lt hs32) _) h0 h1 sa.2.2.1 (Nat.le_of_lt hs32) sa.2.2.2 sa.2.1,sa.1])) t2 t0 ?_))
  refine sw (C6 un43 sz119 (by exact sO) (j:=i+q) rO oM L) t2 t1 ?_
  refine sb (b0n sz119 (by exact sO) (.atom rfl) oM) t2 t1 ?_
  refine zn [(0,_),(1,_),(5,_),(6,_),(7,_)] [(14,_)] t5 t1 (y3 (mV L rfl (mV L rfl (mV L rfl (sw (c_q L dC (N0x (show _=(q:Int) by omega))) t2 t0 ?_)))))
  refine sw (K3 L (w64 oM oM)) t2 t0 (sw (K3 L (w64 oM oM)) t2 t0 (mV L rfl (sw (v9 L dC (d0r (c:=4294967296) rF dC)) t2 t0 ?_)))
  refine sw (y4 un127 un119 L (show _=(ws.getD i 0*2 ^ s+c) / 4294967296 by rw [sd]; exact w0w oM oM)) t1 t0 ?_
  refine sw (C6 un43 sz119 (by exact (List.length_set.trans sO)) (j:=i+q+1) rO oM L) t2 t1 ?_
  refine sb (b0n sz119 (by exact (List.length_set.trans sO)) (.atom rfl) oM) t2 t1 ?_
  refine O1 (y3 (mV L rfl (sw (K3 L (w64 oM oM)) t2 t0 (aV L rfl (O1 ?_)))))
  exact ⟨(i+1,ys++[(ws.getD i 0*2 ^ s+c) % 4294967296],(ws.getD i 0*2 ^ s+c) / 4294967296),key,(by simp only; omega),E3 ⟨oR,rfl,rfl,rfl,trivial⟩ ⟨obl rfl (by simp only; rw [o5,o5,Q0w hlen oM]),trivial⟩⟩
 ·have he:=df he
  have hi:i=ws.length:=by omega
  subst hi
  obtain ⟨X,hX1⟩:∃ X,X=List.replicate q 0++(ys++[c]):=⟨_,rfl⟩
  have hXl:X.length=q+ws.length+1:=by rw [hX1]; simp; omega
  have hXt:=j1x hx oM hX1 (show k=32*q+s by omega)
  rw [Nat.sub_self,List.replicate_zero,← hX1,← hXl,hXt.2]
  refine L2 (xq ?_)
  refine exr (mV L rfl (swB (V1m hG hX [14] hN (Q0m X oM) rfl rfl (C4 (ys:=[_]) cl147 rfl rF) rF rF rF rF (h0b.to (.cons rfl .nil)) rF rF L) t1 t1 ?_))
  refine aV L rfl (zn [(4,_)] [(14,_)] t1 t1 (V1 ?_))
  refine ⟨.inr rfl,rfl,_,rfl,by simp,?_,by rw [h0v,hXt.2]; simp⟩
  rw [Nat.mul_one,k0s,← hXt.1,trim]
end Go.Proofs.YtjagfionflbjbaaGreat.N
namespace Go.Proofs.YtjagfionflbjbaaGreat.NumA
open Go
theorem b1a {U u2 u3 d1 d2 d3 P R D q r Q:Int}(hR:R=(U*4294967296+u2)*P+u3)(hD:D=(d1*4294967296+d2)*P+d3)(hP:0<P)(hu3:0≤u3∧u3<P)(hd3:0≤d3)(hq0:0≤q)(hqr:q*d1+r=U)(hQ:Q*D≤R)(hQB:Q<4294967296)(hDpos:0<D)(hbig:4294967296≤q∨r*4294967296+u2<q*d2):Q≤q - 1:=by
 rcases hbig with h | h
 ·omega
 ·by_cases e:Q≤q - 1
  ·exact e
  ·have h1:q*D≤Q*D:=Z0 (by omega) (E1 hDpos)
   have h2:(U*4294967296+u2+1)*P≤(q*(d1*4294967296+d2))*P:=Z0 (by rw [← hqr]; grind) (E1 hP)
   have h3:q*D=q*(d1*4294967296+d2)*P+q*d3:=by rw [hD]; grind
   have h4:0≤q*d3:=Int.mul_nonneg hq0 hd3
   have h5:(U*4294967296+u2+1)*P=(U*4294967296+u2)*P+P:=by grind
   omega
end Go.Proofs.YtjagfionflbjbaaGreat.NumA
namespace Go.Proofs.YtjagfionflbjbaaGreat.NumA
open Go
theorem H0d {U u2 u3 d1 d2 d3 P R D q r:Int}(hR:R=(U*4294967296+u2)*P+u3)(hD:D=(d1*4294967296+d2)*P+d3)(hP:0<P)(hu2:0≤u2)(hu3:0≤u3)(hd1:1≤d1)(hd2:0≤d2∧d2<4294967296)(hd3:0≤d3∧d3<P)(hq0:0≤q)(hqB:q<4294967296)(hqr:q*d1+r=U)(hend:4294967296≤r∨q*d2≤r*4294967296+u2):(q - 1)*D≤R:=by
 have h3:q*D=q*(d1*4294967296+d2)*P+q*d3:=by rw [hD]; grind
 have h4:q*d3≤q*P:=F0 (by omega) hq0
 have h5:q*P≤4294967296*P:=Z0 (by omega) (E1 hP)
 have h6:1*(4294967296*P)≤d1*(4294967296*P):=Z0 hd1 (by omega)
 have h7:0≤d2*P:=Int.mul_nonneg hd2.1 (E1 hP)
 have h8:D=d1*(4294967296*P)+d2*P+d3:=by rw [hD]; grind
 have h9:q*(d1*4294967296+d2)≤U*4294967296+u2:=by
  rcases hend with h | h
  ·have h10:q*d2≤q*4294967296:=F0 (by omega) hq0
   have h11:q*(d1*4294967296+d2)=(U - r)*4294967296+q*d2:=by rw [← hqr]; grind
   have h12:(U - r)*4294967296=U*4294967296 - r*4294967296:=by grind
   omega
  ·have h11:q*(d1*4294967296+d2)=(U - r)*4294967296+q*d2:=by rw [← hqr]; grind
   have h12:(U - r)*4294967296=U*4294967296 - r*4294967296:=by grind
   omega
 have h13:q*(d1*4294967296+d2)*P≤(U*4294967296+u2)*P:=Z0 h9 (E1 hP)
 have h14:(q - 1)*D=q*D - D:=by grind
 omega
end Go.Proofs.YtjagfionflbjbaaGreat.NumA
namespace Go.Proofs.YtjagfionflbjbaaGreat.NumA
open Go
def gL (u2 d1 d2:Int):Nat→Int→Int→Int
 | 0,q,_=>q
 | n+1,q,r=>if 4294967296≤q∨r*4294967296+u2<q*d2 then (if 4294967296≤r+d1 then q - 1 else gL u2 d1 d2 n (q - 1) (r+d1)) else q
def m0j (u0 u1 u2 d1 d2:Int):Int:=gL u2 d1 d2 2 ((u0*4294967296+u1) / d1) ((u0*4294967296+u1) % d1)
theorem Q1n {U u2 u3 d1 d2 d3 P R D Q:Int}(hR:R=(U*4294967296+u2)*P+u3)(hD:D=(d1*4294967296+d2)*P+d3)(hP:0<P)(hu2:0≤u2)(hu3:0≤u3∧u3<P)(hd1:1≤d1)(hd2:0≤d2∧d2<4294967296)(hd3:0≤d3∧d3<P)(hU:U≤d1*4294967296+4294967295)(hQ0:0≤Q)(hQ:Q*D≤R)(hQB:Q<4294967296)(hDpos:0<D) :
  ∀ (n:Nat) (q r:Int),0≤q→q*d1+r=U→0≤r→r<4294967296→4294967296≤r+n*d1→Q≤q→Q≤gL u2 d1 d2 n q r∧gL u2 d1 d2 n q r<4294967296∧(gL u2 d1 d2 n q r - 1)*D≤R:=by
 intro n
 induction n with
 | zero=>intro q r _ _ _ h1 h2; omega
 | succ n ih =>
  intro q r hq0 hqr hr0 hr1 hn hQq
  rw [gL]
  split
  ·rename_i hbad
   have hdn:=b1a hR hD hP hu3 hd3.1 hq0 hqr hQ hQB hDpos hbad
   have hqr':(q - 1)*d1+(r+d1)=U:=by rw [← hqr]; grind
   split
   ·rename_i hb
    have hqB:q - 1<4294967296:=by
     by_cases e:q - 1<4294967296
     ·exact e
     ·have h1:4294967297*d1≤q*d1:=Z0 (by omega) (by omega)
      omega
    exact ⟨hdn,hqB,H0d hR hD hP hu2 hu3.1 hd1 hd2 hd3 (by omega) hqB hqr' (.inl hb)⟩
   ·rename_i hb
    refine ih (q - 1) (r+d1) (by omega) hqr' (by omega) (by omega) ?_ hdn
    have:((n+1:Nat):Int)*d1=n*d1+d1:=by rw [Int.natCast_succ,Int.add_mul,Int.one_mul]
    omega
  ·rename_i hg
   exact ⟨hQq,by omega,H0d hR hD hP hu2 hu3.1 hd1 hd2 hd3 hq0 (by omega) hqr (.inr (by omega))⟩
structure X8 (win vs:List Int) (q:Int) (x:Nat×List Int×Int×Int):Prop where
 le:x.1≤win.length
 len:x.2.1.length=x.1
 wd:Wd x.2.1
 c0:0≤x.2.2.1
 c1:x.2.2.1<4294967296
 b:x.2.2.2=0∨x.2.2.2=1
 eq:val x.2.1+q*val (vs.take x.1)=val (win.take x.1)+4294967296 ^ x.1*(x.2.2.1+x.2.2.2)
 cb:4294967296 ^ x.1*x.2.2.1≤q*val (vs.take x.1)
theorem X8.zero (win vs:List Int)(q:Int):X8 win vs q (0,[],0,0):=⟨Nat.zero_le _,rfl,Wd.nil,Int.le_refl _,(by decide),.inl rfl,by simp [val],by simp [val]⟩
theorem P0f {q w c:Int}(hq:0≤q∧q<4294967296)(hw:0≤w∧w<4294967296)(hc:0≤c∧c<4294967296):0≤q*w+c∧q*w+c≤18446744069414584320:=by
 have:=g0d hq hw
 omega
theorem X8.next {win vs:List Int}{q:Int}(h2:Wd vs)(hq:0≤q∧q<4294967296){j:Nat}{ys:List Int}{c b:Int}(ha:X8 win vs q (j,ys,c,b))(hj:j<win.length){p d b':Int}(hp:p=q*vs.getD j 0+c)(hd:d=(win.getD j 0 - p % 4294967296 - b) % 4294967296)(hb':b'=if win.getD j 0<p % 4294967296+b then 1 else 0)(hu:0≤win.getD j 0∧win.getD j 0<4294967296) :
  X8 win vs q (j+1,ys++[d],p / 4294967296,b'):=by
 obtain ⟨h1,hl,hw,c0,c1,hb,heq,hcb⟩:=ha
 simp only at h1 hl hw c0 c1 hb heq hcb
 have hv:=h2.getD j
 have hbd:=P0f hq hv ⟨c0,c1⟩
 rw [← hp] at hbd
 have hd2:d=win.getD j 0 - p % 4294967296 - b+4294967296*b':=by rw [hd,hb']; split <;> omega
 have hP:(0:Int)<4294967296 ^ j:=Int.pow_pos (by decide)
 refine ⟨hj,by simp [hl],hw.snoc (by omega) (by omega),by simp only; omega,by simp only; omega,?_,?_,?_⟩
 ·simp only; rw [hb']; split <;> simp
 ·simp only
  have hpp:p=p % 4294967296+4294967296*(p / 4294967296):=by omega
  rw [i8,hl,Y3 j,Y3 j,Int.pow_succ,hd2]
  generalize p / 4294967296=ph at *
  generalize p % 4294967296=pl at *
  generalize val (vs.take j)=A at *
  generalize val (win.take j)=B at *
  generalize win.getD j 0=u at *
  generalize vs.getD j 0=w at *
  have hc2:c=pl+4294967296*ph - q*w:=by omega
  subst hc2
  grind
 ·simp only
  rw [Y3 j,Int.pow_succ]
  have h5:4294967296 ^ j*(4294967296*(p / 4294967296))≤4294967296 ^ j*p:=F0 (by omega) (E1 hP)
  have h6:4294967296 ^ j*p=q*(4294967296 ^ j*vs.getD j 0)+4294967296 ^ j*c:=by rw [hp]; grind
  have h7:(4294967296:Int) ^ j*4294967296*(p / 4294967296)=4294967296 ^ j*(4294967296*(p / 4294967296)):=by grind
  have h8:q*(val (vs.take j)+4294967296 ^ j*vs.getD j 0)=q*val (vs.take j)+q*(4294967296 ^ j*vs.getD j 0):=by grind
  omega
theorem X8.end_ {win vs ys:List Int}{q c b:Int}(h:Wd win)(hl:vs.length<win.length)(h2:Wd vs)(hq:0≤q∧q<4294967296)(ha:X8 win vs q (win.length,ys,c,b)):c=0∧val ys=val win - q*val vs+4294967296 ^ win.length*b∧(b=0↔q*val vs≤val win):=by
 obtain ⟨h1,hlen,hw,c0,c1,hb,heq,hcb⟩:=ha
 simp only at h1 hlen hw c0 c1 hb heq hcb
 rw [C0 (by omega)] at heq hcb
 rw [I0] at heq
 have hP:(0:Int)<4294967296 ^ win.length:=Int.pow_pos (by decide)
 have hvl:=l5 h2
 have hvn:=G2 h2
 have hD:q*val vs<4294967296 ^ win.length:=by
  have e:(4294967296:Int) ^ win.length=4294967296*4294967296 ^ (win.length - 1):=by
   rw [show win.length=(win.length - 1)+1 by omega,Int.pow_succ,Nat.add_sub_cancel,Int.mul_comm]
  have h3:(4294967296:Int) ^ vs.length≤4294967296 ^ (win.length - 1):=by
   have h2:((4294967296 ^ vs.length:Nat):Int)≤((4294967296 ^ (win.length - 1):Nat):Int):=Int.ofNat_le.2 (Nat.pow_le_pow_right (by decide) (show vs.length≤win.length - 1 by omega))
   rw [Int.natCast_pow,Int.natCast_pow] at h2
   exact h2
  have h4:q*val vs≤4294967295*val vs:=Z0 (by omega) hvn
  omega
 have hc:c=0:=by
  by_cases e:c=0
  ·exact e
  ·have:(4294967296:Int) ^ win.length*1≤4294967296 ^ win.length*c:=F0 (by omega) (E1 hP)
   omega
 subst hc
 rw [Int.zero_add] at heq
 have hy:=G2 hw
 have hy2:=l5 hw
 have hwv:=l5 h
 have hwn:=G2 h
 rw [hlen] at hy2
 refine ⟨rfl,by omega,?_⟩
 rcases hb with hb | hb
 ·subst hb; rw [Int.mul_zero] at heq; exact ⟨fun _=>by omega,fun _=>rfl⟩
 ·subst hb; rw [Int.mul_one] at heq; exact ⟨fun h=>by omega,fun h=>by omega⟩
structure y9 (win vs:List Int) (x:Nat×List Int×Int):Prop where
 le:x.1≤win.length
 len:x.2.1.length=x.1
 wd:Wd x.2.1
 c:x.2.2=0∨x.2.2=1
 eq:val x.2.1+4294967296 ^ x.1*x.2.2=val (win.take x.1)+val (vs.take x.1)
theorem y9.zero (win vs:List Int):y9 win vs (0,[],0):=⟨Nat.zero_le _,rfl,Wd.nil,.inl rfl,by simp [val]⟩
theorem y9.next {win vs:List Int}(h:Wd win)(h2:Wd vs){j:Nat}{ys:List Int}{c:Int}(ha:y9 win vs (j,ys,c))(hj:j<win.length){s:Int}(hs:s=win.getD j 0+vs.getD j 0+c) :
  y9 win vs (j+1,ys++[s % 4294967296],s / 4294967296):=by
 obtain ⟨h1,hl,hw,hc,heq⟩:=ha
 simp only at h1 hl hw hc heq
 have hu:=h.getD j
 have hv:=h2.getD j
 refine ⟨hj,by simp [hl],hw.snoc (by omega) (by omega),by simp only; omega,?_⟩
 simp only
 rw [i8,hl,Y3 j,Y3 j,Int.pow_succ]
 have hpp:s=s % 4294967296+4294967296*(s / 4294967296):=by omega
 generalize s / 4294967296=ph at *
 generalize s % 4294967296=pl at *
 generalize val (vs.take j)=A at *
 generalize val (win.take j)=B at *
 generalize win.getD j 0=u at *
 generalize vs.getD j 0=w at *
 have hc2:c=pl+4294967296*ph - u - w:=by omega
 subst hc2
 grind
end Go.Proofs.YtjagfionflbjbaaGreat.NumA
namespace Go.Proofs.YtjagfionflbjbaaGreat.NumA
open Go
theorem q0g (n:Nat):(0:Int)<4294967296 ^ n:=Int.pow_pos (by decide)
theorem y0r {m n:Nat}(h:m≤n):(4294967296:Int) ^ m≤4294967296 ^ n:=by
 have h2:((4294967296 ^ m:Nat):Int)≤((4294967296 ^ n:Nat):Int):=Int.ofNat_le.2 (Nat.pow_le_pow_right (by decide) h)
 rw [Int.natCast_pow,Int.natCast_pow] at h2
 exact h2
theorem H1v (n:Nat):(2:Int) ^ (32*n)=4294967296 ^ n:=by rw [Int.pow_mul]; rfl
theorem N1y {vs:List Int}{n:Nat}(hl:vs.length=n+2):val vs=(vs.getD (n+1) 0*4294967296+vs.getD n 0)*4294967296 ^ n+val (vs.take n):=by
 have h1:=Y3 (ws:=vs) (n+1)
 have h2:=Y3 (ws:=vs) n
 rw [C0 (by omega)] at h1
 rw [h1,h2,Int.pow_succ]; grind
theorem N1r {win:List Int}{n:Nat}(hl:win.length=n+3):val win=((win.getD (n+2) 0*4294967296+win.getD (n+1) 0)*4294967296+win.getD n 0)*4294967296 ^ n+val (win.take n):=by
 have h1:=Y3 (ws:=win) (n+2)
 have h2:=Y3 (ws:=win) (n+1)
 have h3:=Y3 (ws:=win) n
 rw [C0 (by omega)] at h1
 rw [h1,h2,h3,Int.pow_succ,Int.pow_succ]; grind
theorem n0v {ws:List Int}(h:Wd ws){n:Nat}(hn:n≤ws.length):0≤val (ws.take n)∧val (ws.take n)<4294967296 ^ n:=by
 have h1:=G2 (h.take n)
 have h2:=l5 (h.take n)
 rw [J0,G1 hn] at h2
 exact ⟨h1,h2⟩
theorem v0v {win vs:List Int}{n:Nat}(h:Wd win)(h2:Wd vs)(hl:win.length=n+3)(hl2:vs.length=n+2)(hd1:2147483648≤vs.getD (n+1) 0)(hlt:val win<4294967296*val vs) :
  0<val vs∧0≤val win / val vs∧val win / val vs*val vs≤val win∧val win / val vs<4294967296∧win.getD (n+2) 0*4294967296+win.getD (n+1) 0≤vs.getD (n+1) 0*4294967296+4294967295∧val win / val vs≤(win.getD (n+2) 0*4294967296+win.getD (n+1) 0) / vs.getD (n+1) 0:=by
 have e1:=N1r hl
 have e2:=N1y hl2
 have t1:=n0v h (n:=n) (by omega)
 have t2:=n0v h2 (n:=n) (by omega)
 have w2:=h.getD n
 have w3:=h.getD (n+1)
 have w4:=h.getD (n+2)
 have v1:=h2.getD (n+1)
 have v2:=h2.getD n
 have hP:=q0g n
 have hU0:0≤win.getD (n+2) 0*4294967296+win.getD (n+1) 0:=by omega
 generalize val (win.take n)=u3 at *
 generalize val (vs.take n)=d3 at *
 generalize win.getD (n+2) 0*4294967296+win.getD (n+1) 0=U at *
 generalize vs.getD (n+1) 0=d1 at *
 generalize vs.getD n 0=d2 at *
 generalize win.getD n 0=u2 at *
 generalize (4294967296:Int) ^ n=P at *
 generalize val win=R at *
 generalize val vs=D at *
 have hDpos:0<D:=by
  have:1*P≤(d1*4294967296+d2)*P:=Z0 (by omega) (by omega)
  omega
 have hR0:0≤R:=by
  have:=Int.mul_nonneg (show 0≤U*4294967296+u2 by omega) (E1 hP); omega
 have hQ0:0≤R / D:=Int.ediv_nonneg hR0 (by omega)
 have hQD:R / D*D≤R:=Int.ediv_mul_le R (by omega)
 have hQB:R / D<4294967296:=Int.ediv_lt_of_lt_mul hDpos hlt
 refine ⟨hDpos,hQ0,hQD,hQB,?_,?_⟩
 ·by_cases e:U≤d1*4294967296+4294967295
  ·exact e
  ·have g1:((d1*4294967296+4294967296)*4294967296+u2)*P≤(U*4294967296+u2)*P:=Z0 (by omega) (by omega)
   have g2:(d1*4294967296+d2+1)*P≤(d1*4294967296+4294967296)*P:=Z0 (by omega) (by omega)
   have g3:((d1*4294967296+4294967296)*4294967296+u2)*P=4294967296*((d1*4294967296+4294967296)*P)+u2*P:=by grind
   have g4:0≤u2*P:=Int.mul_nonneg (by omega) (by omega)
   have g5:(d1*4294967296+d2+1)*P=(d1*4294967296+d2)*P+P:=by grind
   omega
 ·generalize R / D=Q at *
  have hq:Q*d1≤U:=by
   by_cases e:Q*d1≤U
   ·exact e
   ·have g1:((U+1)*4294967296)*P≤(Q*d1*4294967296)*P:=Z0 (by omega) (by omega)
    have g2:(Q*d1*4294967296)*P+Q*(d2*P+d3)=Q*D:=by rw [e2]; grind
    have g3:0≤Q*(d2*P+d3):=Int.mul_nonneg hQ0 (by have:=Int.mul_nonneg (show 0≤d2 by omega) (E1 hP); omega)
    have g4:(u2+1)*P≤4294967296*P:=Z0 (by omega) (by omega)
    have g5:(U*4294967296+u2)*P=U*4294967296*P+u2*P:=by grind
    have g6:((U+1)*4294967296)*P=U*4294967296*P+4294967296*P:=by grind
    have g7:(u2+1)*P=u2*P+P:=by grind
    omega
  exact (Int.le_ediv_iff_mul_le (by omega)).2 hq
theorem B1g {win vs:List Int}{n:Nat}(h:Wd win)(h2:Wd vs)(hl:win.length=n+3)(hl2:vs.length=n+2)(hd1:2147483648≤vs.getD (n+1) 0)(hlt:val win<4294967296*val vs){q:Int}(hq:q=m0j (win.getD (n+2) 0) (win.getD (n+1) 0) (win.getD n 0) (vs.getD (n+1) 0) (vs.getD n 0)) :
  val win / val vs≤q∧q<4294967296∧(q - 1)*val vs≤val win:=by
 obtain ⟨hDpos,hQ0,hQD,hQB,hU,hQq⟩:=v0v h h2 hl hl2 hd1 hlt
 have t1:=n0v h (n:=n) (by omega)
 have t2:=n0v h2 (n:=n) (by omega)
 have w2:=h.getD n
 have w3:=h.getD (n+1)
 have w4:=h.getD (n+2)
 have v1:=h2.getD (n+1)
 have v2:=h2.getD n
 subst hq
 unfold m0j
 have hU0:0≤win.getD (n+2) 0*4294967296+win.getD (n+1) 0:=by omega
 refine Q1n (N1r hl) (N1y hl2) (q0g n) w2.1 t1 (by omega) v2 t2 hU hQ0 hQD hQB hDpos 2 _ _ ?_ ?_ ?_ ?_ ?_ hQq
 ·exact Int.ediv_nonneg hU0 (by omega)
 ·rw [Int.mul_comm]; exact Int.mul_ediv_add_emod _ _
 ·exact Int.emod_nonneg _ (by omega)
 ·have:=Int.emod_lt_of_pos (win.getD (n+2) 0*4294967296+win.getD (n+1) 0) (show 0<vs.getD (n+1) 0 by omega); omega
 ·have:=Int.emod_nonneg (win.getD (n+2) 0*4294967296+win.getD (n+1) 0) (show vs.getD (n+1) 0≠0 by omega); omega
structure H8 (U u2 d1 d2 G:Int) (x:Nat×Int×Int):Prop where
 n:1≤x.1
 q0:0≤x.2.1
 qr:x.2.1*d1+x.2.2=U
 r:0≤x.2.2∧x.2.2<4294967296
 f:4294967296≤x.2.2+x.1*d1
 g:gL u2 d1 d2 x.1 x.2.1 x.2.2=G
theorem H8.start {u0 u1 u2 d1 d2:Int}(h0:0≤u0*4294967296+u1)(hd:2147483648≤d1∧d1<4294967296):H8 (u0*4294967296+u1) u2 d1 d2 (m0j u0 u1 u2 d1 d2) (2,(u0*4294967296+u1) / d1,(u0*4294967296+u1) % d1):=by
 have h1:=Int.emod_nonneg (u0*4294967296+u1) (show d1≠0 by omega)
 have h2:=Int.emod_lt_of_pos (u0*4294967296+u1) (show 0<d1 by omega)
 exact ⟨by show 1≤2; decide,Int.ediv_nonneg h0 (by omega),by simp only; rw [Int.mul_comm]; exact Int.mul_ediv_add_emod _ _,⟨h1,by simp only; omega⟩,by simp only; omega,rfl⟩
theorem H8.qb {U u2 d1 d2 G q r:Int}{n:Nat}(ha:H8 U u2 d1 d2 G (n,q,r))(hd:2147483648≤d1):q≤U:=by
 have h1:=ha.qr
 have h2:=ha.r.1
 have h3:=ha.q0
 simp only at h1 h2 h3
 have:q*1≤q*d1:=F0 (by omega) h3
 omega
theorem H8.bad {U u2 d1 d2 G q r:Int}{n:Nat}(ha:H8 U u2 d1 d2 G (n,q,r))(hb:4294967296≤q∨r*4294967296+u2<q*d2)(hu2:0≤u2)(hd:0≤d1):1≤q∧(4294967296≤r+d1→q - 1=G)∧(r+d1<4294967296→H8 U u2 d1 d2 G (n - 1,q - 1,r+d1)):=by
 obtain ⟨h1,h2,h3,h4,h5,h6⟩:=ha
 simp only at h1 h2 h3 h4 h5 h6
 have hq:1≤q:=by
  rcases hb with e | e
  ·omega
  ·by_cases c:q=0
   ·rw [c,Int.zero_mul] at e; omega
   ·omega
 obtain ⟨m,rfl⟩:∃ m,n=m+1:=⟨n - 1,by omega⟩
 rw [gL,if_pos hb] at h6
 have e1:((m+1:Nat):Int)*d1=m*d1+d1:=by rw [Int.natCast_succ,Int.add_mul,Int.one_mul]
 refine ⟨hq,fun h=>by rw [if_pos h] at h6; exact h6,fun h=>?_⟩
 rw [if_neg (by omega)] at h6
 have hm:1≤m:=by
  by_cases c:m=0
  ·subst c; simp at h5; omega
  ·omega
 exact ⟨by simpa using hm,by simp only; omega,by simp only; rw [← h3]; grind,by simp only; omega,by simp only [Nat.add_sub_cancel]; omega,by simpa using h6⟩
theorem H8.good {U u2 d1 d2 G q r:Int}{n:Nat}(ha:H8 U u2 d1 d2 G (n,q,r))(hb:¬ (4294967296≤q∨r*4294967296+u2<q*d2)):q=G:=by
 obtain ⟨h1,h2,h3,h4,h5,h6⟩:=ha
 simp only at h1 h6
 obtain ⟨m,rfl⟩:∃ m,n=m+1:=⟨n - 1,by omega⟩
 rwa [gL,if_neg hb] at h6
structure W8 (W:List Int) (n:Nat) (D:Int) (x:Nat×Int×List Int):Prop where
 le:x.1+n≤W.length
 r:0≤x.2.1∧x.2.1<D
 wd:Wd x.2.2
 len:x.2.2.length+x.1+n=W.length
 eq:val x.2.2*D+x.2.1=val (W.drop x.1)
theorem W8.start {W:List Int}{n:Nat}{D:Int}(h:Wd W)(hn:n≤W.length)(hlt:val (W.drop (W.length - n))<D):W8 W n D (W.length - n,val (W.drop (W.length - n)),[]) :=
 ⟨by simp only; omega,⟨G2 (h.drop _),hlt⟩,Wd.nil,by simp only [List.length_nil]; omega,by simp [val]⟩
def G7 (W:List Int)(n:Nat)(i:Nat)(R:Int):List Int:=W.take i++(E4 n R++List.replicate (W.length - n - i) 0)
theorem s4 {W:List Int}{n i:Nat}{R:Int}(h:i+n≤W.length):(G7 W n i R).length=W.length:=by simp [G7,C3]; omega
theorem J0p {W:List Int}{n i:Nat}{R:Int}(h:Wd W):Wd (G7 W n i R):=(h.take i).append ((y6 _ _).append (Wd.rep _))
theorem n0x {W:List Int}{n:Nat}(h:Wd W)(hn:n≤W.length):G7 W n (W.length - n) (val (W.drop (W.length - n)))=W:=by
 have e:E4 n (val (W.drop (W.length - n)))=W.drop (W.length - n):=by
  have:=j7 (h.drop (W.length - n))
  rwa [List.length_drop,show W.length - (W.length - n)=n by omega] at this
 rw [G7,e,Nat.sub_self,List.replicate_zero,List.append_nil,List.take_append_drop]
theorem B0x {W:List Int}{n i:Nat}{R:Int}(hi:i<W.length):G7 W n (i+1) R=W.take i++((W.getD i 0 :: E4 n R)++List.replicate (W.length - n - (i+1)) 0):=by
 rw [G7,List.take_succ_eq_append_getElem hi,List.append_assoc,List.singleton_append,L1]
 simp [f0,hi]
theorem W0d {n:Nat}{m:Int}(h0:0≤m)(h1:m<4294967296 ^ n):E4 (n+1) m=E4 n m++[0]:=by
 have hw:Wd (E4 n m++[0]):=(y6 n m).snoc (by decide) (by decide)
 have hv:val (E4 n m++[0])=m:=by rw [i8,m6 h0 h1]; simp
 have:=j7 hw
 rw [hv] at this
 simpa [C3] using this
theorem w0p {W:List Int}{n i:Nat}{R:Int}(h0:0≤R)(h1:R<4294967296 ^ n)(hi:i+1+n≤W.length):W.take i++(E4 (n+1) R++List.replicate (W.length - n - (i+1)) 0)=G7 W n i R:=by
 rw [G7,W0d h0 h1,List.append_assoc,show W.length - n - i=(W.length - n - (i+1))+1 by omega,List.replicate_succ,List.singleton_append]
theorem W8.win {W:List Int}{n:Nat}{D R:Int}{i:Nat}{qs:List Int}(h:Wd W)(hD:D<4294967296 ^ n)(ha:W8 W n D (i+1,R,qs)):Wd (W.getD i 0 :: E4 n R)∧(W.getD i 0 :: E4 n R).length=n+1∧val (W.getD i 0 :: E4 n R)=W.getD i 0+4294967296*R∧val (W.getD i 0 :: E4 n R)<4294967296*D:=by
 have hr:=ha.r
 simp only at hr
 have hw:=h.getD i
 have e:val (W.getD i 0 :: E4 n R)=W.getD i 0+4294967296*R:=by rw [val,m6 hr.1 (by omega)]
 exact ⟨Wd.cons.2 ⟨hw,y6 _ _⟩,by simp [C3],e,by omega⟩
theorem W8.next {W:List Int}{n:Nat}{D R:Int}{i:Nat}{qs:List Int}(h:Wd W)(hDpos:0<D)(ha:W8 W n D (i+1,R,qs)){V:Int}(hV:V=W.getD i 0+4294967296*R):W8 W n D (i,V % D,V / D :: qs):=by
 obtain ⟨hle,hr,hw,hlen,heq⟩:=ha
 simp only at hle hr hw hlen heq
 have hwi:=h.getD i
 have h1:=Int.ediv_nonneg (a:=V) (b:=D) (by omega) (by omega)
 have h2:V / D<4294967296:=Int.ediv_lt_of_lt_mul hDpos (by omega)
 refine ⟨by simp only; omega,⟨Int.emod_nonneg _ (by omega),Int.emod_lt_of_pos _ hDpos⟩,Wd.cons.2 ⟨⟨h1,h2⟩,hw⟩,by simp only [D1]; omega,?_⟩
 simp only
 rw [val,F0s W i,← heq]
 have h3:=Int.mul_ediv_add_emod V D
 generalize V / D=Q at *
 generalize V % D=r at *
 rw [hV] at h3
 generalize W.getD i 0=w at *
 have:w=D*Q+r - 4294967296*R:=by omega
 subst this
 grind
theorem V0y {A b R:Int}{qs:List Int}{k:Nat}(hb:0<b)(heq:val qs*(b*2 ^ k)+R=A*2 ^ k)(hr:0≤R∧R<b*2 ^ k):val qs=A / b∧R / 2 ^ k=A % b:=by
 have hp:(0:Int)<2 ^ k:=Int.pow_pos (by decide)
 have e:R=2 ^ k*(A - val qs*b):=by
  have:R=A*2 ^ k - val qs*(b*2 ^ k):=by omega
  rw [this]; grind
 have e2:R / 2 ^ k=A - val qs*b:=by rw [e,Int.mul_ediv_cancel_left _ (by omega)]
 have h0:0≤A - val qs*b:=by rw [← e2]; exact Int.ediv_nonneg hr.1 (by omega)
 have h1:A - val qs*b<b:=by
  by_cases c:A - val qs*b<b
  ·exact c
  ·have:=F0 (show b≤A - val qs*b by omega) (E1 hp)
   rw [← e,Int.mul_comm] at this; omega
 have hu:=(Int.ediv_emod_unique (a:=A) (b:=b) (r:=A - val qs*b) (q:=val qs) hb).2 ⟨by rw [Int.mul_comm b]; omega,h0,h1⟩
 exact ⟨hu.1.symm,by rw [e2]; exact hu.2.symm⟩
theorem H1g {W:List Int}(h:Wd W){i:Nat}(hi:i≤W.length):4294967296 ^ i*val (W.drop i)≤val W:=by
 have h1:=h0y W i
 have h2:=G2 (h.take i)
 rw [G1 hi] at h1
 omega
theorem g1s {ws:List Int}(h:Wd ws)(ht:Tr ws)(hn:ws≠[]){k:Nat}(hk:k+bl (ws.getD (ws.length - 1) 0).toNat=32):2147483648*4294967296 ^ (ws.length - 1)≤val ws*2 ^ k∧val ws*2 ^ k<4294967296 ^ ws.length∧k<32:=by
 have hb:=b1y h ht hn
 have hlen:0<ws.length:=List.length_pos_iff.2 hn
 have hv:=G2 h
 have htop:ws.getD (ws.length - 1) 0≠0:=by
  rcases ht with e | e
  ·omega
  ·exact e
 have hw:=h.getD (ws.length - 1)
 have h1:1≤bl (ws.getD (ws.length - 1) 0).toNat:=by
  by_cases e:1≤bl (ws.getD (ws.length - 1) 0).toNat
  ·exact e
  ·have:=(g0h (n:=(ws.getD (ws.length - 1) 0).toNat) (k:=0)).1 (by omega)
   rw [Nat.pow_zero] at this; omega
 have hbl:bl (val ws).toNat=32*(ws.length - 1)+bl (ws.getD (ws.length - 1) 0).toNat:=by omega
 generalize bl (ws.getD (ws.length - 1) 0).toNat=t at *
 have hlo:2 ^ (32*(ws.length - 1)+t - 1)≤(val ws).toNat:=by
  by_cases e:2 ^ (32*(ws.length - 1)+t - 1)≤(val ws).toNat
  ·exact e
  ·have:=(g0h (n:=(val ws).toNat) (k:=32*(ws.length - 1)+t - 1)).2 (by omega)
   omega
 have hhi:=(g0h (n:=(val ws).toNat) (k:=32*(ws.length - 1)+t)).1 (by omega)
 have hlo2:(2:Int) ^ (32*(ws.length - 1)+t - 1)≤val ws:=by
  have:((2 ^ (32*(ws.length - 1)+t - 1):Nat):Int)≤((val ws).toNat:Int):=Int.ofNat_le.2 hlo
  rw [Int.natCast_pow,Int.toNat_of_nonneg hv] at this; exact this
 have hhi2:val ws<(2:Int) ^ (32*(ws.length - 1)+t):=by
  have:((val ws).toNat:Int)<((2 ^ (32*(ws.length - 1)+t):Nat):Int):=Int.ofNat_lt.2 hhi
  rw [Int.natCast_pow,Int.toNat_of_nonneg hv] at this; exact this
 have hp:(0:Int)<2 ^ k:=Int.pow_pos (by decide)
 refine ⟨?_,?_,by omega⟩
 ·have:=Z0 hlo2 (E1 hp)
  rw [← Int.pow_add,show 32*(ws.length - 1)+t - 1+k=31+32*(ws.length - 1) by omega,Int.pow_add,H1v] at this
  exact this
 ·have:=Int.mul_lt_mul_of_pos_right hhi2 hp
  rw [← Int.pow_add,show 32*(ws.length - 1)+t+k=32*ws.length by omega,H1v] at this
  exact this
theorem F1s {vs:List Int}(h:Wd vs){n:Nat}(hl:vs.length=n+1)(hv:2147483648*4294967296 ^ n≤val vs):2147483648≤vs.getD n 0:=by
 have h1:=Y3 (ws:=vs) n
 rw [C0 (by omega)] at h1
 have h2:=n0v h (n:=n) (by omega)
 by_cases e:2147483648≤vs.getD n 0
 ·exact e
 ·have h3:4294967296 ^ n*(vs.getD n 0+1)≤4294967296 ^ n*2147483648:=F0 (by omega) (E1 (q0g n))
  have h4:(4294967296:Int) ^ n*(vs.getD n 0+1)=4294967296 ^ n*vs.getD n 0+4294967296 ^ n:=by grind
  omega
end Go.Proofs.YtjagfionflbjbaaGreat.NumA
namespace Go.Proofs.YtjagfionflbjbaaGreat.NumA
open Go
theorem div_pos {m:Bool}{A B:Int}(hA:0≤A)(hB:0<B):(sg m A / B=if m=true∧A % B≠0 then -(A / B+1) else sg m (A / B))∧(sg m A % B=if m=true∧A % B≠0 then B - A % B else A % B):=by
 have h1:=Int.mul_ediv_add_emod A B
 have h2:=Int.emod_nonneg A (show B≠0 by omega)
 have h3:=Int.emod_lt_of_pos A hB
 cases m with
 | false=>simp [sg]
 | true =>
  generalize A / B=Q at *
  generalize A % B=R at *
  by_cases e:R=0
  ·subst e
   have:=(Int.ediv_emod_unique (a:=-A) (b:=B) (r:=0) (q:=-Q) hB).2 ⟨by rw [Int.mul_neg]; omega,by omega,by omega⟩
   simp [sg,this]
  ·have e2:B * -(Q+1) = -(B*Q) - B:=by grind
   have:=(Int.ediv_emod_unique (a:=-A) (b:=B) (r:=B - R) (q:=-(Q+1)) hB).2 ⟨by omega,by omega,by omega⟩
   simp [sg,this,e]
theorem D1b {m n:Bool}{A B:Int}(hA:0≤A)(hB:0<B):(sg m A / sg n B=if m=true∧A % B≠0 then sg (m != n) (A / B+1) else sg (m != n) (A / B))∧(sg m A % sg n B=if m=true∧A % B≠0 then B - A % B else A % B):=by
 have h:=div_pos (m:=m) hA hB
 cases n with
 | false =>
  simp only [Bool.bne_false]
  refine ⟨?_,by simpa [sg] using h.2⟩
  have h1:=h.1
  rw [show sg false B=B by simp [sg],h1]
  split
  ·rename_i e; simp [sg,e.1]
  ·rfl
 | true =>
  have e1:sg true B = -B:=by simp [sg]
  rw [e1,Int.ediv_neg,Int.emod_neg,h.1,h.2]
  refine ⟨?_,rfl⟩
  split
  ·rename_i e; simp [sg,e.1]
  ·cases m <;> simp [sg]
theorem n0p (x y:Nat):Nat.gcd x y=Nat.gcd y (x % y):=by
 rw [Nat.gcd_comm x y,Nat.gcd_rec y x,Nat.gcd_comm]
end Go.Proofs.YtjagfionflbjbaaGreat.NumA
set_option maxRecDepth 100000
set_option maxHeartbeats 4000000
namespace Go.Proofs.YtjagfionflbjbaaGreat.N
open Go Go.Proofs.YtjagfionflbjbaaGreat.SH Go.Proofs.YtjagfionflbjbaaGreat.NumA
open Go.Proofs.Tryz renaming isAgg119→ag119,sizeOf119→sz119,underlying119→un119,underlying127→un127,underlying146→un146
theorem Y0k (u0 u1 u2 d1 d2:Int)(h0:0≤u0∧u0<4294967296)(h1:0≤u1∧u1<4294967296)(h2:0≤u2∧u2<4294967296)(hd1:2147483648≤d1∧d1<4294967296)(hd2:0≤d2∧d2<4294967296):Y2 E 159 [.agg [oZ u0,oZ u1,oZ u2],oZ d1,oZ d2] (uZ (m0j u0 u1 u2 d1 d2)):=by
 refine j2 (xs:=[uZ (m0j u0 u1 u2 d1 d2)]) Tryz.func159 rfl Tryz.ntmps159 Tryz.results159 sM fun F hG hX0 hnt hdf P0=>?_
 obtain ⟨L,hX,hN⟩:=pro hnt hX0 hG
 have hU0:0≤u0*4294967296+u1:=by omega
 have hqb:(u0*4294967296+u1) / d1<18446744073709551616:=by have:=Int.ediv_le_self d1 hU0; omega
 refine exr (swb (R3 (k:=3) (n:=3) pa3 rfl rfl (P0 _ rfl) L) t1 t0 ⟨rfl,rfl⟩ (aV L rfl (zn [(1,_),(2,_),(3,_)] [(3,_)] t3 t1 (exr (sw (B9 un146 sz119 rF dC oM L) t2 t1 ?_)))))
 refine sw (Y1 ag119 rF rF L) t1 t1 ?_
 refine sw (y4 un119 un127 L (J4 oM oM)) t1 t0 (sw (w0z L dC (H0a (c:=4294967296) rF (J4 oM oM))) t2 t0 ?_)
 refine sw (B9 un146 sz119 rF dC oM L) t2 t1 ?_
 refine sw (Y1 ag119 rF rF L) t1 t1 ?_
 refine sw (y4 un119 un127 L (J4 oM oM)) t1 t0 (sw (q0q L (F0j (b:=u0) 32 rfl h1.1 h1.2 h0.1 dC oM oM)) t2 t0 (aV L rfl ?_))
 refine O1 ⟨[(1,_),(2,_),(3,_),(7,vw (u0*4294967296+u1))],[(3,_)],⟨rfl,rfl,rfl,oi oM rfl,trivial⟩,t1,?_⟩
 refine exd rF ?_
 refine mV L rfl (mV L rfl (sw (y4 un119 un127 L (J4 oM oM)) t1 t0 (sw (c_q L oM (Q0r hU0 oM hqb)) t2 t0 (mV L rfl (mV L rfl (sw (y4 un119 un127 L (J4 oM oM)) t1 t0 (sw (c_r L oM (V0r hU0 oM)) t2 t0 (aV L rfl (aV L rfl ?_)))))))))
 refine O1 ⟨B5 [⟨[7],[],[18],[]⟩,⟨[1],[],[19],[]⟩,⟨[19],[],[20],[]⟩,⟨[18,20],[],[21],[]⟩,⟨[7],[],[22],[]⟩,⟨[1],[],[23],[]⟩,⟨[23],[],[24],[]⟩,⟨[22,24],[],[25],[]⟩,⟨[21],[],[8],[]⟩,⟨[25],[],[9],[]⟩] rF rF dC,[(1,_),(2,_),(3,_),(8,_),(9,_)],[(3,_)],t5,t1,?_⟩
 refine R1 (X1 ?_)
 refine exl (α:=(Nat×Int×Int)) (fun x=>[(8,vw x.2.1),(9,vw x.2.2)]) (fun x=>[]) (fun x=>H8 (u0*4294967296+u1) u2 d1 d2 (m0j u0 u1 u2 d1 d2) x) (fun x=>x.1) ((2,(u0*4294967296+u1) / d1,(u0*4294967296+u1) % d1)) (sl:=[(1,_),(2,_),(3,_)]) (hb:=[(3,_)]) ?_ ⟨oR,oR,rfl,rfl,rfl,trivial⟩ t1 ?_
 ·exact H8.start hU0 hd1
 intro x hx
 obtain ⟨n,q,r⟩:=x
 have hn:=hx.n
 have hq0:=hx.q0
 have hr:=hx.r
 have hqU:=hx.qb hd1.1
 simp only at hn hq0 hr
 dsimp only
 refine R1 ?_
 refine exm (sl:=[(40,vb (decide (4294967296≤q∨r*4294967296+u2<q*d2)))]) (sl0:=[(1,_),(2,_),(3,_),(8,_),(9,_)]) (hb:=[]) (hb0:=[(3,_)]) t5 t1 ?_ ?_
 ·by_cases hq:4294967296≤q
  ·refine mV L rfl (sw (b0p L) t2 t0 (mV L rfl (swn (g:=28) rfl (decide_eq_true hq) L rfl (swn (g:=28) rfl (decide_eq_true hq) L rfl (swn (g:=28) rfl (decide_eq_true hq) L rfl (swn (g:=28) rfl (decide_eq_true hq) L rfl (swn (g:=28) rfl (decide_eq_true hq) L rfl (swn (g:=28) rfl (decide_eq_true hq) L rfl (swn (g:=28) rfl (decide_eq_true hq) L rfl (swn (g:=28) rfl (decide_eq_true hq) L rfl (swn (g:=28) rfl (decide_eq_true hq) L rfl ?_)))))))))))
   refine swn (g:=28) rfl (decide_eq_true hq) L rfl (swn (g:=28) rfl (decide_eq_true hq) L rfl (sw (m4 (decide_eq_true hq) L) t2 t0 ?_))
   exact O1 ⟨⟨ob rfl (by simp [hq]),rfl,rfl,rfl,rfl,rfl,trivial⟩,t1⟩
  ·refine mV L rfl (sw (b0p L) t2 t0 (mV L rfl (gV (g:=28) rfl (decide_eq_false hq) L rfl rfl (gV (g:=28) rfl (decide_eq_false hq) L rfl rfl (swg (g:=28) rfl (decide_eq_false hq) (y4 un119 un127 L (J4 oM oM)) rfl t1 t0 (swg (g:=28) rfl (decide_eq_false hq) (Q0c L (J4 (g0d ⟨hq0,by omega⟩ hd2).1 (by have:=g0d (x:=q) ⟨hq0,by omega⟩ hd2; omega))) rfl t2 t0 ?_))))))
   refine gV (g:=28) rfl (decide_eq_false hq) L rfl rfl (swg (g:=28) rfl (decide_eq_false hq) (w0z L dC (H0a (c:=4294967296) rF (J4 oM oM))) rfl t2 t0 ?_)
   refine swg (g:=28) rfl (decide_eq_false hq) (B9 un146 sz119 rF dC oM L) rfl t2 t1 ?_
   refine swg (g:=28) rfl (decide_eq_false hq) (Y1 ag119 rF rF L) rfl t1 t1 ?_
   refine swg (g:=28) rfl (decide_eq_false hq) (y4 un119 un127 L (J4 oM oM)) rfl t1 t0 (swg (g:=28) rfl (decide_eq_false hq) (q0q L (F0j (b:=r) 32 rfl h2.1 h2.2 hr.1 dC oM oM)) rfl t2 t0 (swg (g:=28) rfl (decide_eq_false hq) (X6 L) rfl t2 t0 (sw (V3 (decide_eq_false hq) L) t2 t0 ?_)))
   exact O1 ⟨⟨ob rfl (v7 oM),rfl,rfl,rfl,rfl,rfl,trivial⟩,t1⟩
 refine D2 rfl (fun hb=>?_) (fun hb=>?_)
 ·have hb:=dt hb
  obtain ⟨b1,b2,b3⟩:=hx.bad hb h2.1 oM
  refine U1 (xq ?_)
  refine X1 (exr (mV L rfl (sw (q6 L (J4 oM oM)) t2 t0 (aV L rfl (zn [(1,_),(2,_),(3,_),(8,_),(9,_)] [(3,_)] t5 t1 (exr (mV L rfl (mV L rfl (sw (y4 un119 un127 L (J4 oM oM)) t1 t0 (sw (K3 L (J4 oM oM)) t2 t0 (aV L rfl ?_)))))))))))
  refine zn [(1,_),(2,_),(3,_),(8,_),(9,_)] [(3,_)] t5 t1 (exr (mV L rfl (sw (b0p L) t2 t0 (zn [(1,_),(2,_),(3,_),(8,_),(9,_),(48,_)] [(3,_)] t6 t1 ?_))))
  refine D2 rfl (fun hc=>?_) (fun hc=>?_)
  ·have hc:=dt hc
   refine L2 (xq ?_)
   refine exr (mV L rfl (aV L rfl (zn [(6,_)] [] t1 trivial (V1 ?_))))
   refine Q0 (.tmp rfl) ?_
   rw [b2 oM]
  ·have hc:=df hc
   refine U1 ?_
   exact ⟨(n - 1,q - 1,r+d1),b3 oM,(by simp only; omega),E3 ⟨oR,oR,rfl,rfl,rfl,trivial⟩ t1⟩
 ·have hb:=df hb
  refine L2 (xq ?_)
  refine exr (mV L rfl (aV L rfl (zn [(6,_)] [] t1 trivial (V1 ?_))))
  refine Q0 (.tmp rfl) ?_
  rw [hx.good hb]
end Go.Proofs.YtjagfionflbjbaaGreat.N
namespace Go.Proofs.YtjagfionflbjbaaGreat.NumA
open Go
theorem f1n {xs ys win zs:List Int}{j:Nat}(hl:ys.length=j)(hj:j<win.length):(xs++((ys++win.drop j)++zs)).getD (xs.length+j) 0=win.getD j 0:=by
 rw [W6 hj,f0,D0 (by omega),Nat.add_sub_cancel_left,X0 (by simp; omega),D0 (by omega),hl,Nat.sub_self]
 rfl
theorem n0h {xs ys win zs:List Int}{j:Nat}(hl:ys.length=j)(hj:j<win.length)(d:Int):(xs++((ys++win.drop j)++zs)).set (xs.length+j) d=xs++(((ys++[d])++win.drop (j+1))++zs):=by
 rw [List.set_append_right _ _ (by omega),Nat.add_sub_cancel_left,List.set_append_left _ _ (by simp; omega),List.set_append_right _ _ (by omega),hl,Nat.sub_self,W6 hj,List.set_cons_zero]
 simp
theorem w1m {win vs ys:List Int}{q c:Int}(h:Wd win)(hl:vs.length<win.length)(h2:Wd vs)(hq:0≤q∧q<4294967296)(ha:X8 win vs q (win.length,ys,c,0)):q*val vs≤val win∧ys=E4 win.length (val win - q*val vs):=by
 obtain ⟨-,h4,h5⟩:=ha.end_ h hl h2 hq
 have hlen:=ha.len
 simp only at hlen
 rw [Int.mul_zero,Int.add_zero] at h4
 refine ⟨h5.1 rfl,?_⟩
 rw [← h4,← hlen]; exact (j7 ha.wd).symm
theorem n1r {win vs w1 ys:List Int}{q e:Int}(hlw:vs.length≤win.length)(h2:Wd vs)(hw1:val w1=val win - q*val vs+4294967296 ^ win.length*1)(hl1:w1.length=win.length)(ha:y9 w1 vs (win.length,ys,e))(hq1:(q - 1)*val vs≤val win):ys=E4 win.length (val win - (q - 1)*val vs)∧e=1:=by
 have heq:=ha.eq
 have hlen:=ha.len
 have hy:=ha.wd
 have hc:=ha.c
 simp only at heq hlen hy hc
 rw [C0 (show w1.length≤win.length by omega),C0 hlw,hw1] at heq
 have hv:=l5 h2
 have hp:=y0r hlw
 have hy0:=G2 hy
 have hy1:=l5 hy
 rw [hlen] at hy1
 rw [Int.sub_mul,Int.one_mul] at hq1 ⊢
 have he:e=1:=by
  rcases hc with e0 | e1
  ·rw [e0,Int.mul_zero] at heq; omega
  ·exact e1
 rw [he] at heq
 refine ⟨?_,he⟩
 have:val ys=val win - (q*val vs - val vs):=by omega
 rw [← this,← hlen]; exact (j7 hy).symm
theorem n1f {win vs w1 ys:List Int}{q e:Int}(hlw:vs.length≤win.length)(h2:Wd vs)(hw1:val w1=val win - q*val vs+4294967296 ^ win.length*1)(hl1:w1.length=win.length)(h1:Wd w1)(hw:Wd win)(ha:y9 w1 vs (win.length,ys,e))(hnot:¬ q*val vs≤val win):val ys=val win - (q - 1)*val vs+4294967296 ^ win.length*(1 - e)∧(1 - e=0↔(q - 1)*val vs≤val win):=by
 have heq:=ha.eq
 have hlen:=ha.len
 have hy:=ha.wd
 have hc:=ha.c
 simp only at heq hlen hy hc
 rw [C0 (show w1.length≤win.length by omega),C0 hlw,hw1] at heq
 have hv:=l5 h2
 have hp:=y0r hlw
 have hy0:=G2 hy
 have hy1:=l5 hy
 rw [hlen] at hy1
 rw [Int.sub_mul,Int.one_mul,Int.mul_sub]
 refine ⟨by omega,?_⟩
 rcases hc with e0 | e1
 ·rw [e0,Int.mul_zero] at heq; rw [e0]; omega
 ·rw [e1] at heq ⊢; omega
end Go.Proofs.YtjagfionflbjbaaGreat.NumA
set_option maxRecDepth 100000
set_option maxHeartbeats 4000000
namespace Go.Proofs.YtjagfionflbjbaaGreat.N
open Go Go.Proofs.YtjagfionflbjbaaGreat.SH Go.Proofs.YtjagfionflbjbaaGreat.NumA
open Go.Proofs.Tryz renaming call171→cl171,isAgg119→ag119,sizeOf119→sz119,underlying119→un119,underlying127→un127,underlying43→un43
theorem v1c {xs ys win zs:List Int}{j:Nat}(hl:ys.length=j)(hj:j<win.length):(K4 (xs++((ys++win.drop j)++zs)))[xs.length+j]? = some (.a (.int .u32 (win.getD j 0))):=by
 rw [Z5 sO,f1n hl hj]
theorem k1j (xs win zs vs:List Int)(q:Int)(N:Nat)(hNN:xs.length+(win.length+zs.length)=N)(hN2:N<10000000000000)(h:Wd win)(hlw:win.length=vs.length+1)(h2:Wd vs)(hq:0≤q∧q<4294967296)(hq1:(q - 1)*val vs≤val win):w0g E 160 [.ref 1000 0 N N,.p (pW vs),.p (vZ xs.length),.p (uZ q)] [(1000,⟨119,1,.pure (K4 (xs++(win++zs)))⟩)] [(1000,⟨119,1,.pure (K4 (xs++(E4 win.length (val win - (if q*val vs≤val win then q else q - 1)*val vs)++zs)))⟩)] (bZ (decide (q*val vs≤val win))):=by
 refine f0n (xs:=[bZ (decide (q*val vs≤val win))]) Tryz.func160 rfl Tryz.ntmps160 Tryz.results160 sM rfl (m0s rfl) fun F hG hX hnt hdf P0 hXp=>?_
 have L:=@lti _ _ hnt
 have hN:=W5 hG
 refine exr (aV L rfl (zn [(0,_),(1,_),(2,_),(3,_)] [(1000,_)] t4 t1 (exr (aV L rfl (aV L rfl (zn [(0,_),(1,_),(2,_),(3,_),(9,_),(10,_)] [(1000,_)] t6 t1 (R1 (exr (mV L rfl (sw (R2 un43 L) t1 t0 (mV L rfl ?_)))))))))))
 refine zn [(0,_),(1,_),(2,_),(3,_),(9,_),(10,_),(20,_),(21,_),(22,_)] [(1000,_)] t9 t1 (X1 ?_)
 refine exl (α:=(Nat×List Int×Int×Int)) (fun x=>[(22,vi (x.1:Int)),(9,vw x.2.2.2),(10,vw x.2.2.1)]) (fun x=>[(1000,⟨119,1,.pure (K4 (xs++((x.2.1++win.drop x.1)++zs)))⟩)]) (fun x=>X8 win vs q x∧x.1≤vs.length) (fun x=>vs.length - x.1) (((0:Nat),([]:List Int),(0:Int),(0:Int))) (sl:=[(0,_),(1,_),(2,_),(3,_),(20,_),(21,_)]) (hb:=[]) ?_ ⟨oR,oR,oR,rfl,rfl,rfl,rfl,rfl,rfl,trivial⟩ ⟨obl rfl sM,trivial⟩ ?_
 ·exact ⟨X8.zero win vs q,Nat.zero_le _⟩
 intro x hx
 obtain ⟨j,ys,c,b⟩:=x
 obtain ⟨hx,hjl⟩:=hx
 have hlen:=hx.len
 have c0:=hx.c0
 have c1:=hx.c1
 have hb:=hx.b
 simp only at hlen hjl c0 c1 hb
 dsimp only
 have hu:=h.getD j
 refine exr (sw (d4 L) t2 t0 (zn [(0,_),(1,_),(2,_),(3,_),(9,_),(10,_),(20,_),(21,_),(22,_),(23,_)] [(1000,_)] t10 t1 (R1 ?_)))
 refine D2 rfl (fun he=>?_) (fun he=>?_)
 ·have he:=dt he
  have hw:=h2.getD j
  have tb:=P0f hq hw ⟨c0,c1⟩
  have mb:=g0d hq hw
  have key:=hx.next h2 hq oM (p:=q*vs.getD j 0+c) rfl rfl rfl hu
  refine U1 (xq ?_)
  refine R1 (X1 (exr (mV L rfl (sw (ixJ un43 sz119 (j:=j) rO oM sM L) t2 t0 ?_))))
  refine sw (v4 ag119 (by first | exact Z5 oM | rfl) L) t1 t0 ?_
  refine aV L rfl (aV L rfl (zn [(0,_),(1,_),(2,_),(3,_),(9,_),(10,_),(11,_),(12,_),(20,_),(21,_),(22,_)] [(1000,_)] t11 t1 (exr (mV L rfl (mV L rfl (sw (y4 un119 un127 L (J4 oM oM)) t1 t0 (sw (Q0c L (J4 oM oM)) t2 t0 (mV L rfl (sw (K3 L (J4 oM oM)) t2 t0 (aV L rfl (zn [(0,_),(1,_),(2,_),(3,_),(9,_),(11,_),(13,_),(20,_),(21,_),(22,_)] [(1000,_)] t10 t1 ?_)))))))))))
  refine exr (mV L rfl (sw (v9 L dC (d0r (c:=4294967296) rF dC)) t2 t0 ?_))
  refine aV L rfl (zn [(0,_),(1,_),(2,_),(3,_),(9,_),(10,_),(11,_),(13,_),(20,_),(21,_),(22,_)] [(1000,_)] t11 t1 (exr (mV L rfl (mV L rfl (mV L rfl (sw (K3 L (w64 oM oM)) t2 t0 (sw (C6 un43 sz119 (by exact sO) (j:=xs.length+j) rO oM L) t2 t1 ?_)))))))
  refine sw (Y1 ag119 (by exact sO) (g0m (v1c hlen oM)) L) t1 t1 ?_
  refine sw (y4 un119 un127 L (J4 oM oM)) t1 t0 (mV L rfl (sw (D1p L (H1w oM oM)) t2 t0 (mV L rfl (sw (D0w s64 oM oM oM rfl rfl L) t3 t0 (mV L rfl (sw (i4 rfl L) t1 t0 (sw (i4 rfl L) t1 t0 (aV L rfl (aV L rfl (zn [(0,_),(1,_),(2,_),(3,_),(10,_),(11,_),(14,_),(15,_),(20,_),(21,_),(22,_)] [(1000,_)] t11 t1 (exr ?_)))))))))))
  refine mV L rfl (mV L rfl (mV L rfl (sw (K3 L (w64 oM oM)) t2 t0 (mV L rfl (sw (y4 un127 un119 L (show _=(win.getD j 0 - (q*vs.getD j 0+c) % 4294967296 - b) % 4294967296 by rw [j8]; omega)) t1 t0 ?_)))))
  refine sw (C6 un43 sz119 (by exact sO) (j:=xs.length+j) rO oM L) t2 t1 ?_
  refine sb (b0n sz119 (by exact sO) (.atom rfl) oM) t2 t1 ?_
  refine zn [(0,_),(1,_),(2,_),(3,_),(10,_),(15,_),(20,_),(21,_),(22,_)] [(1000,_)] t9 t1 (y3 (mV L rfl (aV L rfl (O1 (y3 (sw (K3 L (w64 oM oM)) t2 t0 (mV L rfl (O1 ?_))))))))
  exact ⟨(j+1,ys++[(win.getD j 0 - (q*vs.getD j 0+c) % 4294967296 - b) % 4294967296],(q*vs.getD j 0+c) / 4294967296,if win.getD j 0<(q*vs.getD j 0+c) % 4294967296+b then 1 else 0),⟨key,by simp only; omega⟩,(by simp only; omega),E3 ⟨oR,oR,oR,rfl,rfl,rfl,rfl,rfl,rfl,trivial⟩ ⟨obl rfl (by rw [o5,n0h hlen oM]),trivial⟩⟩
 ·have he:=df he
  have hj:j=vs.length:=by omega
  subst hj
  have ec:c % 4294967296=c:=Int.emod_eq_of_lt c0 c1
  have key:=hx.next h2 hq oM (p:=c) (d:=(win.getD vs.length 0 - c - b) % 4294967296) (b':=if win.getD vs.length 0<c+b then 1 else 0) (by rw [p9 (Nat.le_refl _)]; simp) (by rw [ec]) (by rw [ec]) hu
  rw [← hlw] at key
  have hw1:=key.wd
  have hl1:=key.len
  have hb1:=key.b
  simp only at hw1 hl1 hb1
  obtain ⟨w1,hw1e⟩:∃ w1,w1=ys++[(win.getD vs.length 0 - c - b) % 4294967296]:=⟨_,rfl⟩
  obtain ⟨b1,hb1e⟩:∃ b1:Int,b1=if win.getD vs.length 0<c+b then 1 else 0:=⟨_,rfl⟩
  rw [← hw1e,← hb1e] at key
  rw [← hw1e] at hw1 hl1
  rw [← hb1e] at hb1
  obtain ⟨-,hk2,hk3⟩:=key.end_ h oM h2 hq
  have hmid:=n0h (xs:=xs) (zs:=zs) hlen (show vs.length<win.length by omega) ((win.getD vs.length 0 - c - b) % 4294967296)
  rw [← hw1e,List.drop_of_length_le (show win.length≤vs.length+1 by omega),List.append_nil] at hmid
  refine L2 (xq ?_)
  refine exr (mV L rfl (mV L rfl (mV L rfl (sw (R2 un43 L) t1 t0 (sw (K3 L (w64 oM oM)) t2 t0 (sw (C6 un43 sz119 (by exact sO) (j:=xs.length+vs.length) rO oM L) t2 t1 ?_))))))
  refine sw (Y1 ag119 (by exact sO) (g0m (v1c hlen oM)) L) t1 t1 ?_
  refine sw (y4 un119 un127 L (J4 oM oM)) t1 t0 (mV L rfl (mV L rfl (sw (D0w s64 oM oM oM rfl rfl L) t3 t0 (mV L rfl (sw (i4 rfl L) t1 t0 (sw (i4 rfl L) t1 t0 (aV L rfl (aV L rfl (zn [(0,_),(1,_),(2,_),(9,_),(16,_)] [(1000,_)] t5 t1 ?_)))))))))
  rw [← hb1e]
  refine exr (mV L rfl (mV L rfl (mV L rfl (sw (R2 un43 L) t1 t0 (sw (K3 L (w64 oM oM)) t2 t0 (mV L rfl (sw (y4 un127 un119 L (show _=(win.getD vs.length 0 - c - b) % 4294967296 by rw [j8]; omega)) t1 t0 ?_)))))))
  refine sw (C6 un43 sz119 (by exact sO) (j:=xs.length+vs.length) rO oM L) t2 t1 ?_
  refine sb (b0n sz119 (by exact sO) (.atom rfl) oM) t2 t1 ?_
  refine zn [(0,_),(1,_),(2,_),(9,_)] [(1000,_)] t4 t1 ?_
  rw [o5,hmid]
  refine R1 (exr (mV L rfl (sw (c_e L) t2 t0 (zn [(0,_),(1,_),(2,_),(81,_)] [(1000,_)] t4 t1 ?_))))
  refine D2 rfl (fun hz=>?_) (fun hz=>?_)
  ·have hz:=dt hz
   rw [hz] at key
   have hf:=w1m h oM h2 hq key
   refine exr (aV L rfl (zn [(8,_)] [(1000,_)] t1 t1 (V1 ?_)))
   refine ⟨.inr rfl,U4.cast (.cons (.tmp rfl) .nil) ?_,⟨obl rfl (by rw [if_pos hf.1,hf.2]),trivial⟩⟩
   rw [decide_eq_true hf.1]
  ·have hz:=df hz
   have hb11:b1=1:=by omega
   have hnot:¬ q*val vs≤val win:=fun hh=>hz (hk3.2 hh)
   rw [hb11] at hk2
   refine U1 (xq ?_)
   refine exr (aV L rfl (zn [(0,_),(1,_),(2,_),(17,_)] [(1000,_)] t4 t1 (R1 (exr (mV L rfl (sw (R2 un43 L) t1 t0 (mV L rfl (zn [(0,_),(1,_),(2,_),(17,_),(82,_),(83,_),(84,_)] [(1000,_)] t7 t1 (X1 ?_)))))))))
   refine exl (α:=(Nat×List Int×Int)) (fun y=>[(84,vi (y.1:Int)),(17,vu y.2.2)]) (fun y=>[(1000,⟨119,1,.pure (K4 (xs++((y.2.1++w1.drop y.1)++zs)))⟩)]) (fun y=>y9 w1 vs y∧y.1≤vs.length) (fun y=>vs.length - y.1) (((0:Nat),([]:List Int),(0:Int))) (sl:=[(0,_),(1,_),(2,_),(82,_),(83,_)]) (hb:=[]) ?_ ⟨oR,oR,rfl,rfl,rfl,rfl,rfl,trivial⟩ ⟨obl rfl sM,trivial⟩ ?_
   ·exact ⟨y9.zero w1 vs,Nat.zero_le _⟩
   intro y hy
   obtain ⟨k,zs2,e⟩:=y
   obtain ⟨hy,hkl⟩:=hy
   have hlen2:=hy.len
   have hec:=hy.c
   simp only at hlen2 hec hkl
   dsimp only
   have hu1:=hw1.getD k
   refine exr (sw (d4 L) t2 t0 (zn [(0,_),(1,_),(2,_),(17,_),(82,_),(83,_),(84,_),(85,_)] [(1000,_)] t8 t1 (R1 ?_)))
   refine D2 rfl (fun hf=>?_) (fun hf=>?_)
   ·have hf:=dt hf
    have hw:=h2.getD k
    refine U1 (xq ?_)
    refine R1 (X1 (exr (mV L rfl (sw (ixJ un43 sz119 (j:=k) rO oM sM L) t2 t0 ?_))))
    refine sw (v4 ag119 (by first | exact Z5 oM | rfl) L) t1 t0 ?_
    refine aV L rfl (aV L rfl (zn [(0,_),(1,_),(2,_),(17,_),(18,_),(19,_),(82,_),(83,_),(84,_)] [(1000,_)] t9 t1 (y3 (mV L rfl (mV L rfl (mV L rfl (sw (K3 L (w64 oM oM)) t2 t0 (mV L rfl (mV L rfl (mV L rfl (sw (K3 L (w64 oM oM)) t2 t0 ?_)))))))))))
    refine sw (C6 un43 sz119 (by exact sO) (j:=xs.length+k) rO oM L) t2 t1 ?_
    refine sw (Y1 ag119 (by exact sO) (g0m (v1c hlen2 oM)) L) t1 t1 ?_
    refine mV L rfl (mV L rfl (cK hG hX cl171 hN (B0n (w1.getD k 0) (vs.getD k 0) e hu1 hw oM) L t3 (mV L rfl (sw (i4 rfl L) t1 t0 (sw (i4 rfl L) t1 t0 (sw (C6 un43 sz119 (by exact sO) (j:=xs.length+k) rO oM L) t2 t1 ?_))))))
    refine sb (b0n sz119 (by exact sO) (.atom rfl) oM) t2 t1 ?_
    refine aV L rfl (O1 (y3 (sw (K3 L (w64 oM oM)) t2 t0 (mV L rfl (O1 ?_)))))
    exact ⟨(k+1,zs2++[(w1.getD k 0+vs.getD k 0+e) % 4294967296],(w1.getD k 0+vs.getD k 0+e) / 4294967296),⟨hy.next hw1 h2 oM rfl,by simp only; omega⟩,(by simp only; omega),E3 ⟨oR,oR,rfl,rfl,rfl,rfl,rfl,trivial⟩ ⟨obl rfl (by rw [o5,n0h hlen2 oM]),trivial⟩⟩
   ·have hf:=df hf
    have hk:k=vs.length:=by omega
    subst hk
    have key2:=hy.next hw1 h2 oM (s:=w1.getD vs.length 0+e) (by rw [p9 (Nat.le_refl vs.length)]; omega)
    rw [← hlw] at key2
    have hfin:=n1r oM h2 hk2 hl1 key2 hq1
    have hmid2:=n0h (xs:=xs) (zs:=zs) hlen2 (show vs.length<w1.length by omega) ((w1.getD vs.length 0+e) % 4294967296)
    rw [List.drop_of_length_le (show w1.length≤vs.length+1 by omega),List.append_nil,hfin.1] at hmid2
    refine L2 (xq ?_)
    refine exr (mV L rfl (mV L rfl (mV L rfl (sw (R2 un43 L) t1 t0 (sw (K3 L (w64 oM oM)) t2 t0 (sw (C6 un43 sz119 (by exact sO) (j:=xs.length+vs.length) rO oM L) t2 t1 ?_))))))
    refine sw (Y1 ag119 (by exact sO) (g0m (v1c hlen2 oM)) L) t1 t1 ?_
    refine mV L rfl (sw (K3 L j8) t2 t0 (sw (C6 un43 sz119 (by exact sO) (j:=xs.length+vs.length) rO oM L) t2 t1 ?_))
    refine sb (b0n sz119 (by exact sO) (.atom rfl) oM) t2 t1 ?_
    refine zn [] [(1000,_)] trivial t1 ?_
    rw [o5,hmid2]
    refine exr (aV L rfl (zn [(8,_)] [(1000,_)] t1 t1 (V1 ?_)))
    refine ⟨.inr rfl,U4.cast (.cons (.tmp rfl) .nil) ?_,⟨obl rfl (by rw [if_neg hnot]),trivial⟩⟩
    rw [decide_eq_false hnot]
end Go.Proofs.YtjagfionflbjbaaGreat.N
namespace Go.Proofs.YtjagfionflbjbaaGreat.NumA
open Go
def j0r (ws vs:List Int):List Int:=if X7 (val ws) (val vs)<0 then [] else if ws.length≤2 then E4 2 (val ws / val vs) else if vs.length=1 then E4 ws.length (val ws / val vs) else E4 (ws.length - vs.length+1) (val ws / val vs)
def d0b (ws vs:List Int):List Int:=if X7 (val ws) (val vs)<0 then ws else if ws.length≤2 then E4 2 (val ws % val vs) else if vs.length=1 then [val ws % val vs] else E4 vs.length (val ws % val vs)
theorem j0c {a b:Int}:X7 a b<0↔a<b:=by unfold X7; split <;> (try split) <;> omega
theorem w1k (n:Nat):(4294967296:Int) ^ (n+1)=4294967296 ^ n*4294967296:=Int.pow_succ _ _
theorem D0q {ws:List Int}(h:Wd ws){k:Nat}(hk:k≤32):0≤val ws*2 ^ k∧val ws*2 ^ k<4294967296 ^ (ws.length+1):=by
 have h1:=l5 h
 have h0:=G2 h
 have hp:(0:Int)<2 ^ k:=Int.pow_pos (by decide)
 have h2:val ws*2 ^ k<4294967296 ^ ws.length*2 ^ k:=Int.mul_lt_mul_of_pos_right h1 hp
 have h3:(4294967296:Int) ^ ws.length*2 ^ k≤4294967296 ^ ws.length*4294967296:=F0 (H0h hk) (E1 (q0g _))
 rw [w1k]
 exact ⟨Int.mul_nonneg h0 (E1 hp),by omega⟩
theorem F0w {ws vs:List Int}{m k:Nat}(h:Wd ws)(h2:Wd vs)(ht2:Tr vs)(hm:vs.length=m+2)(hk:k+bl (vs.getD (vs.length - 1) 0).toNat=32)(hle:vs.length≤ws.length) :
  k<32∧0<val vs∧0<val vs*2 ^ k∧val vs*2 ^ k<4294967296 ^ (m+2)∧val (E4 (m+2) (val vs*2 ^ k))=val vs*2 ^ k∧(E4 (m+3) (val vs*2 ^ k)).take (m+2)=E4 (m+2) (val vs*2 ^ k)∧2147483648≤(E4 (m+2) (val vs*2 ^ k)).getD (m+1) 0∧val (E4 (ws.length+1) (val ws*2 ^ k))=val ws*2 ^ k ∧
  W8 (E4 (ws.length+1) (val ws*2 ^ k)) (m+2) (val vs*2 ^ k) (ws.length+1 - (m+2),val ((E4 (ws.length+1) (val ws*2 ^ k)).drop (ws.length+1 - (m+2))),[]):=by
 have hn:vs≠[]:=by intro e; rw [e] at hm; simp at hm
 obtain ⟨n1,n2,n3⟩:=g1s h2 ht2 hn hk
 have hw:=D0q h (Nat.le_of_lt n3)
 have hp:(0:Int)<2 ^ k:=Int.pow_pos (by decide)
 have hB:=q0g (vs.length - 1)
 have hDpos:0<val vs*2 ^ k:=by omega
 have hv:0<val vs:=by
  by_cases e:0<val vs
  ·exact e
  ·have:=G2 h2
   rw [show val vs=0 by omega,Int.zero_mul] at hDpos; omega
 rw [hm] at n2
 rw [hm,show m+2 - 1=m+1 by omega] at n1
 have e1:=m6 (n:=m+2) (E1 hDpos) n2
 have e2:=m6 hw.1 hw.2
 have e3:(E4 (m+3) (val vs*2 ^ k)).take (m+2)=E4 (m+2) (val vs*2 ^ k):=by
  rw [W0d (E1 hDpos) n2,List.take_append_of_le_length (by rw [C3]; exact Nat.le_refl _),C0 (by rw [C3]; exact Nat.le_refl _)]
 have e4:=F1s (y6 (m+2) (val vs*2 ^ k)) (n:=m+1) (by rw [C3]) (by rw [e1]; exact n1)
 refine ⟨n3,hv,hDpos,n2,e1,e3,e4,e2,?_⟩
 have hWd:=y6 (ws.length+1) (val ws*2 ^ k)
 have hWl:=C3 (ws.length+1) (val ws*2 ^ k)
 generalize E4 (ws.length+1) (val ws*2 ^ k)=W at *
 have hd:=H1g hWd (i:=W.length - (m+2)) (by omega)
 rw [← hWl]
 refine W8.start hWd (by omega) ?_
 generalize val (List.drop (W.length - (m+2)) W)=x at *
 by_cases c:x<val vs*2 ^ k
 ·exact c
 ·have g1:4294967296 ^ (W.length - (m+2))*(2147483648*4294967296 ^ (m+1))≤4294967296 ^ (W.length - (m+2))*x:=F0 (by omega) (E1 (q0g _))
  have g2:(4294967296:Int) ^ (W.length - (m+2))*(2147483648*4294967296 ^ (m+1))=2147483648*4294967296 ^ ws.length:=by
   rw [show (4294967296:Int) ^ (W.length - (m+2))*(2147483648*4294967296 ^ (m+1))=2147483648*(4294967296 ^ (W.length - (m+2))*4294967296 ^ (m+1)) by grind,← Int.pow_add,show W.length - (m+2)+(m+1)=ws.length by omega]
  have g3:=Int.mul_lt_mul_of_pos_right (l5 h) hp
  have g4:(2:Int) ^ k≤2147483648:=by
   have h2:((2 ^ k:Nat):Int)≤((2 ^ 31:Nat):Int):=Int.ofNat_le.2 (Nat.pow_le_pow_right (by decide) (by omega))
   rw [Int.natCast_pow] at h2
   exact h2
  have g5:(4294967296:Int) ^ ws.length*2 ^ k≤4294967296 ^ ws.length*2147483648:=F0 g4 (E1 (q0g _))
  omega
theorem V0j {V D q:Int}(hD:0<D)(h1:V / D≤q)(h2:(q - 1)*D≤V):(if q*D≤V then q else q - 1)=V / D∧V - V / D*D=V % D:=by
 have h3:=Int.mul_ediv_add_emod V D
 rw [Int.mul_comm] at h3
 refine ⟨?_,by omega⟩
 split
 ·rename_i e
  have:=(Int.le_ediv_iff_mul_le hD).2 e
  omega
 ·rename_i e
  have h4:=(Int.le_ediv_iff_mul_le hD).2 h2
  have h5:V / D≠q:=fun hq=>e (by rw [← hq]; have:=Int.emod_nonneg V (show D≠0 by omega); omega)
  omega
theorem q1a {xs win zs:List Int}{i j:Nat}(hx:xs.length=i)(hj:j<win.length):(xs++(win++zs)).getD (i+j) 0=win.getD j 0:=by
 have:=f1n (xs:=xs) (zs:=zs) (ys:=[]) (j:=j) (win:=win.drop 0)
 subst hx
 rw [f0,D0 (by omega),Nat.add_sub_cancel_left,X0 hj,← f0]
theorem q1f {i:Nat}{qs:List Int}(w:Int):(List.replicate (i+1) 0++qs).set i w=List.replicate i 0++w :: qs:=by
 rw [List.replicate_succ',List.append_assoc,List.set_append_right _ _ (by simp),List.length_replicate,Nat.sub_self,List.singleton_append,List.set_cons_zero]
theorem v0s {ws vs:List Int}(h:Wd ws)(h2:Wd vs)(ht:Tr ws)(ht2:Tr vs)(hv:0<val vs):Wd (j0r ws vs)∧Wd (d0b ws vs)∧val (j0r ws vs)=val ws / val vs∧val (d0b ws vs)=val ws % val vs∧(j0r ws vs).length≤ws.length+2∧(d0b ws vs).length≤ws.length+2:=by
 have a0:=G2 h
 have q0:=Int.ediv_nonneg a0 (E1 hv)
 have q1:=Int.ediv_le_self (val vs) a0
 have r0:=Int.emod_nonneg (val ws) (show val vs≠0 by omega)
 have r1:=Int.emod_lt_of_pos (val ws) hv
 unfold j0r d0b
 split
 ·rename_i e
  rw [j0c] at e
  exact ⟨Wd.nil,h,by rw [Int.ediv_eq_zero_of_lt a0 e]; rfl,by rw [Int.emod_eq_of_lt a0 e],by simp,by omega⟩
 ·rename_i e
  rw [j0c] at e
  split
  ·rename_i hl
   have:=F0x h hl
   refine ⟨y6 _ _,y6 _ _,m6 q0 (by simp; omega),m6 r0 (by simp; omega),by simp [C3],by simp [C3]⟩
  ·split
   ·rename_i hl
    have hb:=k0r h2 (by omega)
    refine ⟨y6 _ _,Wd.cons.2 ⟨⟨r0,by omega⟩,Wd.nil⟩,m6 q0 (by have:=l5 h; omega),by simp [val],by simp [C3],by simp⟩
   ·have hlen:=v0d h h2 ht2 (by omega)
    refine ⟨y6 _ _,y6 _ _,m6 q0 ?_,m6 r0 (by have:=l5 h2; omega),by rw [C3]; omega,by rw [C3]; omega⟩
    have hn:vs≠[]:=by intro c; rw [c] at hv; simp [val] at hv
    have hl2:0<vs.length:=List.length_pos_iff.2 hn
    have hbig:4294967296 ^ (vs.length - 1)≤val vs:=by
     have e1:=Y3 (ws:=vs) (vs.length - 1)
     rw [show vs.length - 1+1=vs.length by omega,I0] at e1
     have e2:=G2 (h2.take (vs.length - 1))
     have e3:=h2.getD (vs.length - 1)
     have e4:vs.getD (vs.length - 1) 0≠0:=by
      rcases ht2 with c | c
      ·omega
      ·exact c
     have e5:(4294967296:Int) ^ (vs.length - 1)*1≤4294967296 ^ (vs.length - 1)*vs.getD (vs.length - 1) 0:=F0 (by omega) (E1 (q0g _))
     omega
    refine Int.ediv_lt_of_lt_mul hv ?_
    have e6:(4294967296:Int) ^ (ws.length - vs.length+1)*4294967296 ^ (vs.length - 1)≤4294967296 ^ (ws.length - vs.length+1)*val vs:=F0 hbig (E1 (q0g _))
    rw [← Int.pow_add,show ws.length - vs.length+1+(vs.length - 1)=ws.length by omega] at e6
    have:=l5 h
    omega
end Go.Proofs.YtjagfionflbjbaaGreat.NumA
namespace Go.Proofs.YtjagfionflbjbaaGreat.NumA
open Go
theorem q1q {ys L:List Int}{j i:Nat}(hl:ys.length=j):(ys++L.drop j).getD (j+i) 0=L.getD (j+i) 0:=by
 rw [f0,D0 (by omega),hl,Nat.add_sub_cancel_left,List.getElem?_drop,f0]
theorem q1w {ys L:List Int}{j:Nat}(hl:ys.length=j)(hj:j<L.length)(d:Int):(ys++L.drop j).set j d=(ys++[d])++L.drop (j+1):=by
 rw [List.set_append_right _ _ (by omega),hl,Nat.sub_self,W6 hj,List.set_cons_zero]
 simp
theorem K0k {W:List Int}{n:Nat}{R:Int}:G7 W n 0 R=E4 n R++List.replicate (W.length - n) 0:=by simp [G7]
theorem M1s {L ys:List Int}{n s k:Nat}{R:Int}(hL:L=E4 n R++List.replicate s 0)(h0:0≤R)(h1:R<4294967296 ^ n)(ha:y0a L k (n,ys)):ys=E4 n (R / 2 ^ k):=by
 have heq:=ha.eq
 have hlen:=ha.len
 simp only at heq hlen
 have e1:L.drop n=List.replicate s 0:=by
  rw [hL,List.drop_append_of_le_length (by rw [C3]; exact Nat.le_refl _),List.drop_of_length_le (by rw [C3]; exact Nat.le_refl _),List.nil_append]
 have e2:val L=R:=by rw [hL,T6,n0g,Int.mul_zero,m6 h0 h1,Int.add_zero]
 rw [e1,e2,n0g,Int.zero_ediv,Int.mul_zero,Int.add_zero] at heq
 rw [← heq,← hlen]; exact (j7 ha.wd).symm
end Go.Proofs.YtjagfionflbjbaaGreat.NumA
set_option maxRecDepth 100000
set_option maxHeartbeats 4000000
namespace Go.Proofs.YtjagfionflbjbaaGreat.N
open Go Go.Proofs.YtjagfionflbjbaaGreat.SH Go.Proofs.YtjagfionflbjbaaGreat.NumA
open Go.Proofs.Tryz renaming call141→cl141,call150→cl150,call155→cl155,call156→cl156,call157→cl157,call158→cl158,call159→cl159,call160→cl160,isAgg119→ag119,sizeOf119→sz119,typeInfo119→ti119,underlying119→un119,underlying127→un127,underlying146→un146,underlying43→un43,zeroValue146→zv146
theorem y1k {xs win zs:List Int}{i j:Nat}(hx:xs.length=i)(hj:j<win.length):(K4 (xs++(win++zs)))[i+j]? = some (.a (.int .u32 (win.getD j 0))):=by
 rw [Z5 sO,q1a hx hj]
theorem Q1w {ys L:List Int}{j i p q:Nat}(hl:ys.length=j)(hp:p=q)(hq:q=j+i)(hj:q<L.length):(K4 (ys++L.drop j))[p]? = some (.a (.int .u32 (L.getD q 0))):=by
 subst hp hq
 rw [Z5 sO,q1q hl]
theorem v0x (ws vs:List Int)(hl:ws.length<4000000000000)(hl2:vs.length<4000000000000)(h:Wd ws)(h2:Wd vs)(ht:Tr ws)(ht2:Tr vs)(hv:0<val vs):Y2 E 151 [pW ws,pW vs] (.tup [pW (j0r ws vs),pW (d0b ws vs)]):=by
 refine j2 (xs:=[pW (j0r ws vs),pW (d0b ws vs)]) Tryz.func151 rfl Tryz.ntmps151 Tryz.results151 sM fun F hG hX0 hnt hdf P0=>?_
 obtain ⟨L,hX,hN⟩:=pro hnt hX0 hG
 have a0:=G2 h
 have q0:=Int.ediv_nonneg a0 (E1 hv)
 have q1:=Int.ediv_le_self (val vs) a0
 have r0:=Int.emod_nonneg (val ws) (show val vs≠0 by omega)
 have r1:=Int.emod_lt_of_pos (val ws) hv
 refine exr (aV L rfl (aV L rfl (zn [(0,_),(1,_)] [] t2 trivial (R1 (exr (mV L rfl (mV L rfl (cK hG hX cl141 hN (d0m ws vs oM oM h h2 ht ht2) L t2 (sw (d4 L) t2 t0 (zn [(0,_),(1,_),(20,_)] [] t3 trivial ?_))))))))))
 refine D2 rfl (fun hc=>?_) (fun hc=>?_)
 ·have hc:=dt hc
  refine exr (mV L rfl (aV L rfl (aV L rfl (zn [(4,_),(5,_)] [] t2 trivial (G4 [] (sl:=[(4,_),(5,_)]) (hb:=[]) (M3 hX0) ⟨⟨_,rfl,(.p .nil)⟩,⟨_,rfl,.same⟩,trivial⟩ t0 (V1 ?_))))))
  refine Y0 (.tmp rfl) (.tmp rfl) ?_
  simp only [j0r,d0b,if_pos hc]; rfl
 ·have hc:=df hc
  have hge:val vs≤val ws:=by rw [j0c] at hc; omega
  have hlen:=v0d h h2 ht2 hge
  refine U1 (xq ?_)
  refine R1 (exr (mV L rfl (cK hG hX cl150 hN (k0k ws oM h) L t1 (mV L rfl (sw (i4 rfl L) t1 t0 (sw (i4 rfl L) t1 t0 (aV L rfl (aV L rfl (zn [(0,_),(1,_),(6,_),(7,_)] [] t4 trivial (exr (mV L rfl ?_)))))))))))
  refine zn [(0,_),(1,_),(6,_),(27,_)] [] t4 trivial ?_
  refine D2 rfl (fun hp=>?_) (fun hp=>?_)
  ·have hp:=dt hp
   have s1:=F0x h hp
   have s2:=F0x h2 oM
   rw [if_pos hp]
   refine exr (mV L rfl (cK hG hX cl150 hN (k0k vs oM h2) L t1 (mV L rfl (sw (i4 rfl L) t1 t0 (sw (i4 rfl L) t1 t0 (aV L rfl (aV L rfl (zn [(6,_),(8,_)] [] t2 trivial ?_))))))))
   rw [if_pos (show vs.length≤2 by omega)]
   refine exd rF ?_
   refine mV L rfl (mV L rfl (sw (c_q L oM (Q0r a0 oM)) t2 t0 (cK hG hX cl155 hN (B0m (val ws / val vs) q0 oM) L t1 (mV L rfl (mV L rfl (sw (c_r L oM (V0r a0 oM)) t2 t0 (cK hG hX cl155 hN (B0m (val ws % val vs) r0 oM) L t1 (aV L rfl (aV L rfl ?_)))))))))
   refine O1 ⟨B5 [⟨[6],[],[33],[]⟩,⟨[8],[],[34],[]⟩,⟨[33,34],[],[35],[]⟩,⟨[35],[],[36],[]⟩,⟨[6],[],[37],[]⟩,⟨[8],[],[38],[]⟩,⟨[37,38],[],[39],[]⟩,⟨[39],[],[40],[]⟩,⟨[36],[],[4],[]⟩,⟨[40],[],[5],[]⟩] rF rF dC,[(4,_),(5,_)],[],t2,trivial,?_⟩
   refine V1 ?_
   refine Y0 (.tmp rfl) (.tmp rfl) ?_
   simp only [j0r,d0b,if_neg hc,if_pos hp]
  ·have hp:=df hp
   refine U1 (xq ?_)
   refine R1 (exr (mV L rfl (sw (R2 un43 L) t1 t0 (sw (c_e L) t2 t0 (zn [(0,_),(1,_),(43,_)] [] t3 trivial ?_)))))
   refine D2 rfl (fun h1=>?_) (fun h1=>?_)
   ·have h1:=dt h1
    have hl1:vs.length=1:=by omega
    have hv1:=k0q hl1
    have hvb:=k0r h2 oM
    refine exr (mV L rfl (sw (R2 un43 L) t1 t0 (swb (v0b (k:=46) un43 ti119 rfl rfl rfl rfl rfl rfl (Nat.le_refl _) (by simp [Tryz.t119]; omega) oM (P0 _ rfl) L) t2 t0 ⟨rfl,rfl⟩ ?_)))
    refine aV L rfl (zn [(0,_),(1,_),(4,_)] [(46,_)] t3 t1 (exr (mV L rfl (mV L rfl (swb (N1x un43 ti119 (by exact List.length_replicate) rfl sM L) t2 t1 t0 ?_)))))
    refine O1 ⟨[(1,_),(4,_)],[(46,⟨119,1,.pure (K4 ws)⟩)],t2,⟨obl rfl (by rw [C0 sM,List.drop_of_length_le sM,List.append_nil]),trivial⟩,?_⟩
    refine exr (mV L rfl (mV L rfl (mV L rfl (sw (ixJ un43 sz119 (j:=0) rfl oM sM L) t2 t0 ?_))))
    refine sw (v4 ag119 (by first | exact Z5 oM | rfl) L) t1 t0 ?_
    refine swB (m1j hG hX [46] hN (b1s ws (vs.getD 0 0) oM h oM) rfl (C4 (ys:=[_,_]) cl156 rfl rF) rF rF rF rF (h0b.to (.cons (len_pure (by simp [C3])) .nil)) rF rF L) t2 t1 ?_
    refine sw (F4 (vs:=[_]) un43 ti119 rfl rfl dC dC rfl (M2 (.cons rfl .nil) rfl) rfl (.cons rfl (.atom rfl) rfl pu1 .nil) (.cons .nil) L) t1 t0 (aV L rfl (aV L rfl (zn [(4,_),(5,_)] [(46,_)] t2 t1 (G4 [46] (sl:=[(4,_),(5,_)]) (hb:=[]) (M3 hX0) ⟨⟨_,rfl,(.ref rfl rfl (by exact (by simp [C3])) (by first | rfl | omega))⟩,⟨_,rfl,.same⟩,trivial⟩ t0 ?_))))
    refine V1 ?_
    refine Y0 (.tmp rfl) (.tmp rfl) ?_
    simp only [j0r,d0b,if_neg hc,if_neg hp,if_pos hl1]; rw [hv1]; simp [C3,K4]
   ·have h1:=df h1
    have htw:=h2.getD (vs.length - 1)
    have hbl:=F1h htw.2
    have hvn:vs.length≠0:=by
     intro e
     rw [E0 e] at hv; simp [val] at hv
    obtain ⟨m,hm⟩:∃ m,vs.length=m+2:=⟨vs.length - 2,by omega⟩
    refine U1 (xq ?_)
    refine exr (mV L rfl (mV L rfl (sw (R2 un43 L) t1 t0 (sw (q6 L (w64 oM oM)) t2 t0 (sw (ixJ un43 sz119 (j:=vs.length - 1) rO oM sM L) t2 t0 ?_)))))
    refine sw (v4 ag119 (by first | exact Z5 oM | rfl) L) t1 t0 ?_
    refine cK hG hX cl157 hN (H1k (vs.getD (vs.length - 1) 0) htw.1 htw.2) L t1 (aV L rfl (zn [(0,_),(1,_),(10,_)] [] t3 trivial ?_))
    obtain ⟨k,hk⟩:∃ k:Nat,k+bl (vs.getD (vs.length - 1) 0).toNat=32:=⟨32 - bl (vs.getD (vs.length - 1) 0).toNat,by omega⟩
    have ek:(32 - (bl (vs.getD (vs.length - 1) 0).toNat:Int))=(k:Int):=by omega
    rw [ek]
    obtain ⟨k32,-,hDpos,hDlt,hDv,htake,htop,hWv,hstart⟩:=F0w h h2 ht2 hm hk hlen
    refine exd rF ?_
    refine mV L rfl (mV L rfl (swb (V0k (k:=66) hG hX cl158 rfl hN (p0h ws k oM h k32) (P0 _ rfl) L) t2 t0 ⟨rfl,rfl⟩ (mV L rfl (mV L rfl (swb (V0k (k:=69) hG hX cl158 rfl hN (p0h vs k oM h2 k32) (P0 _ rfl) L) t2 t0 ⟨rfl,rfl⟩ (mV L rfl (sw (R2 un43 L) t1 t0 (sw (b1q un43 sz119 rfl (by exact (by first | (simp [C3]; done) | (simp; omega))) (by first | exact rfl | exact ixn oM) oM L) t2 t1 ?_))))))))
    refine aV L rfl (aV L rfl ?_)
    refine O1 ⟨aok rfl rfl,[(0,_),(1,_),(10,_),(11,_),(12,_)],[(66,_),(69,_)],t5,t2,?_⟩
    refine G4 [69] (sl:=[(0,_),(1,_),(10,_),(11,_),(12,_)]) (hb:=[(66,_)]) (M3 hX0) ⟨⟨_,rfl,.same⟩,⟨_,rfl,.same⟩,⟨_,rfl,.same⟩,⟨_,rfl,.same⟩,⟨_,rfl,(.refo rfl rfl (by exact (by first | (simp [C3]; done) | (simp; omega))) rfl)⟩,trivial⟩ ⟨⟨rfl,_,rfl,.same⟩,trivial⟩ ?_
    rw [show vs.length+1=m+3 by omega]
    obtain ⟨W,hW⟩:∃ W,W=E4 (ws.length+1) (val ws*2 ^ k):=⟨_,rfl⟩
    obtain ⟨Dv,hDe⟩:∃ Dv,Dv=E4 (m+2) (val vs*2 ^ k):=⟨_,rfl⟩
    have hWl:W.length=ws.length+1:=by rw [hW,C3]
    have hWd:Wd W:=by rw [hW]; exact y6 _ _
    have hDl:Dv.length=m+2:=by rw [hDe,C3]
    have hDwd:Wd Dv:=by rw [hDe]; exact y6 _ _
    have e12:J2.sl vs.length (List.take (vs.length*1) (List.drop 0 (K4 (E4 (m+3) (val vs*2 ^ k)))))=pW Dv:=by
     rw [List.drop_zero,Nat.mul_one,k0s,hm,htake,← hDe,pW,hDl]
    rw [e12,← hW,Nat.mul_one (ws.length+1)]
    rw [← hW] at hstart hWv
    rw [← hDe] at hDv htop
    rw [← hDv] at hstart hDpos hDlt
    refine exr (mV L rfl (sw (R2 un43 L) t1 t0 (aV L rfl (zn [(0,_),(10,_),(11,_),(12,_),(13,_)] [(66,_)] t5 t1 (exr (mV L rfl (sw (R2 un43 L) t1 t0 (mV L rfl (sw (q6 L (w64 oM oM)) t2 t0 (sw (K3 L (w64 oM oM)) t2 t0 (swb (v0b (k:=80) un43 ti119 rfl rfl rfl rfl (show _=((ws.length - vs.length+1:Nat):Int) by omega) (show _=((ws.length - vs.length+1:Nat):Int) by omega) (Nat.le_refl _) (by simp [Tryz.t119]; omega) oM (P0 _ rfl) L) t2 t0 ⟨rfl,rfl⟩ ?_)))))))))))
    refine aV L rfl (zn [(0,_),(4,_),(10,_),(11,_),(12,_),(13,_)] [(66,_),(80,_)] t6 t2 (R1 (exr (mV L rfl (sw (R2 un43 L) t1 t0 (mV L rfl (sw (q6 L (w64 oM oM)) t2 t0 (aV L rfl (zn [(4,_),(10,_),(11,_),(12,_),(13,_),(14,_)] [(66,_),(80,_)] t6 t2 (X1 ?_))))))))))
    refine exl (α:=(Nat×Int×List Int)) (fun x=>[(14,vi ((x.1:Int) - 1))]) (fun x=>[(66,⟨119,1,.pure (K4 (G7 W (m+2) x.1 x.2.1))⟩),(80,⟨119,1,.pure (K4 (List.replicate x.1 0++x.2.2))⟩)]) (fun x=>W8 W (m+2) (val Dv) x) (fun x=>x.1) ((ws.length+1 - (m+2),val (W.drop (ws.length+1 - (m+2))),([]:List Int))) (sl:=[(4,_),(10,_),(11,_),(12,_),(13,_)]) (hb:=[]) ?_ ⟨oi oM rfl,rfl,rfl,rfl,rfl,rfl,trivial⟩ ⟨obl rfl (by rw [← hWl,n0x hWd oM]),obl rfl (by rw [X9,List.append_nil,show ws.length - vs.length+1=ws.length+1 - (m+2) by omega]),trivial⟩ ?_
    ·exact hstart
    intro x hx
    obtain ⟨r,R,qs⟩:=x
    have hle:=hx.le
    have hr:=hx.r
    have hlq:=hx.len
    simp only at hle hr hlq
    dsimp only
    refine R1 (exr (mV L rfl (sw (b0p L) t2 t0 (zn [(4,_),(10,_),(11,_),(12,_),(13,_),(14,_),(86,_)] [(66,_),(80,_)] t7 t2 ?_))))
    refine D2 rfl (fun he=>?_) (fun he=>?_)
    ·have he:=dt he
     obtain ⟨i,rfl⟩:∃ i,r=i+1:=⟨r - 1,by omega⟩
     have ei:(((i+1:Nat):Int) - 1)=(i:Int):=by omega
     rw [ei]
     obtain ⟨w1,w2,w3,w4⟩:=hx.win hWd hDlt
     obtain ⟨win,hwin⟩:∃ win,win=W.getD i 0 :: E4 (m+2) R:=⟨_,rfl⟩
     rw [← hwin] at w1 w2 w3 w4
     obtain ⟨zs,hzs⟩:∃ zs:List Int,zs=List.replicate (W.length - (m+2) - (i+1)) 0:=⟨_,rfl⟩
     have hzl:zs.length=W.length - (m+2) - (i+1):=by rw [hzs,List.length_replicate]
     rw [B0x oM,← hwin,← hzs]
     have hti:(W.take i).length=i:=by simp; omega
     obtain ⟨q,hq⟩:∃ q,q=m0j (win.getD (m+2) 0) (win.getD (m+1) 0) (win.getD m 0) (Dv.getD (m+1) 0) (Dv.getD m 0):=⟨_,rfl⟩
     obtain ⟨g1,g2,g3⟩:=B1g w1 hDwd (n:=m) w2 hDl htop w4 hq
     have gv0:=G2 w1
     have gq0:=Int.ediv_nonneg gv0 (E1 hDpos)
     have gqB:val win / val Dv<4294967296:=Int.ediv_lt_of_lt_mul hDpos w4
     have key:=hx.next hWd hDpos w3
     refine U1 (xq ?_)
     refine R1 (X1 (exd rF ?_))
     refine mV L rfl (mV L rfl (mV L rfl (sw (K3 L (w64 oM oM)) t2 t0 (sw (C6 un43 sz119 (by exact (by simp [s4 hle,hWl] <;> omega)) (j:=i+(m+2)) rO oM L) t2 t1 ?_))))
     refine sw (Y1 ag119 (by exact (by simp [s4 hle,hWl] <;> omega)) (g0m (y1k hti oM)) L) t1 t1 ?_
     refine mV L rfl (mV L rfl (mV L rfl (sw (K3 L (w64 oM oM)) t2 t0 (sw (q6 L (w64 oM oM)) t2 t0 (sw (C6 un43 sz119 (by exact (by simp [s4 hle,hWl] <;> omega)) (j:=i+(m+1)) rO oM L) t2 t1 ?_)))))
     refine sw (Y1 ag119 (by exact (by simp [s4 hle,hWl] <;> omega)) (g0m (y1k hti oM)) L) t1 t1 ?_
     refine mV L rfl (mV L rfl (mV L rfl (sw (K3 L (w64 oM oM)) t2 t0 (sw (q6 L (w64 oM oM)) t2 t0 (sw (C6 un43 sz119 (by exact (by simp [s4 hle,hWl] <;> omega)) (j:=i+m) rO oM L) t2 t1 ?_)))))
     refine sw (Y1 ag119 (by exact (by simp [s4 hle,hWl] <;> omega)) (g0m (y1k hti oM)) L) t1 t1 ?_
     refine sw (G0z (vs:=[_,_,_]) un146 zv146 (.cons rfl (.cons rfl (.cons rfl .nil))) sz119 rfl (.cons rfl (.atom rfl) rfl pu1 (.cons rfl (.atom rfl) rfl (.skip pu1) (.cons rfl (.atom rfl) rfl (.skip (.skip pu1)) .nil))) (.cons (.cons (.cons .nil))) L) t3 t0 (mV L rfl (mV L rfl (sw (q6 L (w64 oM oM)) t2 t0 (sw (ixJ un43 sz119 (j:=m+1) rO oM sM L) t2 t0 ?_))))
     refine sw (v4 ag119 (by first | exact Z5 oM | rfl) L) t1 t0 ?_
     refine mV L rfl (mV L rfl (sw (q6 L (w64 oM oM)) t2 t0 (sw (ixJ un43 sz119 (j:=m) rO oM sM L) t2 t0 ?_)))
     refine sw (v4 ag119 (by first | exact Z5 oM | rfl) L) t1 t0 ?_
     refine cK hG hX cl159 hN (Y0k (win.getD (m+2) 0) (win.getD (m+1) 0) (win.getD m 0) (Dv.getD (m+1) 0) (Dv.getD m 0) (w1.getD _) (w1.getD _) (w1.getD _) ⟨htop,(hDwd.getD _).2⟩ (hDwd.getD _)) L t3 (aV L rfl ?_)
     refine O1 ⟨B5 [⟨[11],[],[89],[]⟩,⟨[14],[],[90],[]⟩,⟨[13],[],[91],[]⟩,⟨[90,91],[],[92],[]⟩,⟨[89,92],[66],[93],[]⟩,⟨[93],[66],[94],[]⟩,⟨[11],[],[95],[]⟩,⟨[14],[],[96],[]⟩,⟨[13],[],[97],[]⟩,⟨[96,97],[],[98],[]⟩,⟨[98],[],[99],[]⟩,⟨[95,99],[66],[100],[]⟩,⟨[100],[66],[101],[]⟩,⟨[11],[],[102],[]⟩,⟨[14],[],[103],[]⟩,⟨[13],[],[104],[]⟩,⟨[103,104],[],[105],[]⟩,⟨[105],[],[106],[]⟩,⟨[102,106],[66],[107],[]⟩,⟨[107],[66],[108],[]⟩,⟨[94,101,108],[],[109],[]⟩,⟨[12],[],[110],[]⟩,⟨[13],[],[111],[]⟩,⟨[111],[],[112],[]⟩,⟨[110,112],[],[113],[]⟩,⟨[113],[],[114],[]⟩,⟨[12],[],[115],[]⟩,⟨[13],[],[116],[]⟩,⟨[116],[],[117],[]⟩,⟨[115,117],[],[118],[]⟩,⟨[118],[],[119],[]⟩,⟨[109,114,119],[],[120],[]⟩,⟨[120],[],[15],[]⟩] rF rF dC,[(4,_),(10,_),(11,_),(12,_),(13,_),(14,_),(15,_)],[(66,_),(80,_)],t7,t2,?_⟩
     rw [← hq]
     have tk:=k1j (W.take i) win zs Dv q (ws.length+1) oM oM w1 oM hDwd ⟨by omega,g2⟩ g3
     have tr:=V0j hDpos g1 g3
     have hrest:W.take i++(E4 win.length (val win % val Dv)++zs)=G7 W (m+2) i (val win % val Dv):=by
      rw [w2,hzs,w0p (Int.emod_nonneg _ oM) (by have:=Int.emod_lt_of_pos (val win) hDpos; omega) oM]
     rw [hti,tr.1,tr.2,hrest] at tk
     refine R1 (exr (mV L rfl (mV L rfl (mV L rfl (mV L rfl (swB (m1j hG hX [66] hN tk rfl (C4 (ys:=[_,_,_,_]) cl160 rfl rF) rF rF rF rF (h0b.to (.cons (len_pure (by rw [h0v,h0v,s4 oM]; simp; omega)) .nil)) rF rF L) t4 t1 ?_))))))
     refine sw (P3 L) t1 t0 (zn [(4,_),(10,_),(11,_),(12,_),(13,_),(14,_),(15,_),(126,_)] [(66,_),(80,_)] t8 t2 ?_)
     refine D2 rfl (fun hb=>?_) (fun hb=>?_)
     ·have hb:=ndt hb
      have e:q - 1=val win / val Dv:=by rw [← tr.1,if_neg hb]
      refine y3 (mV L rfl (sw (q6 L (J4 oM oM)) t2 t0 (aV L rfl (O1 ?_))))
      rw [e]
      refine y3 (mV L rfl (mV L rfl (mV L rfl (sw (y4 un127 un119 L (w0w oM oM)) t1 t0 (sw (C6 un43 sz119 (by exact sO) (j:=i) rO oM L) t2 t1 ?_)))))
      refine sb (b0n sz119 (by exact sO) (.atom rfl) oM) t2 t1 ?_
      refine O1 (y3 (mV L rfl (sw (q6 L (w64 oM oM)) t2 t0 (aV L rfl (O1 ?_)))))
      exact ⟨(i,val win % val Dv,val win / val Dv :: qs),key,(by simp only; omega),E3 ⟨oR,rfl,rfl,rfl,rfl,rfl,trivial⟩ ⟨rfl,obl rfl (by rw [o5,q1f]),trivial⟩⟩
     ·have hb:=ndf hb
      have e:q=val win / val Dv:=by rw [← tr.1,if_pos hb]
      rw [e]
      refine U1 (xq ?_)
      refine y3 (mV L rfl (mV L rfl (mV L rfl (sw (y4 un127 un119 L (w0w oM oM)) t1 t0 (sw (C6 un43 sz119 (by exact sO) (j:=i) rO oM L) t2 t1 ?_)))))
      refine sb (b0n sz119 (by exact sO) (.atom rfl) oM) t2 t1 ?_
      refine O1 (y3 (mV L rfl (sw (q6 L (w64 oM oM)) t2 t0 (aV L rfl (O1 ?_)))))
      exact ⟨(i,val win % val Dv,val win / val Dv :: qs),key,(by simp only; omega),E3 ⟨oR,rfl,rfl,rfl,rfl,rfl,trivial⟩ ⟨rfl,obl rfl (by rw [o5,q1f]),trivial⟩⟩
    ·have he:=df he
     have hr0:r=0:=by omega
     subst hr0
     have heq:=hx.eq
     have hqw:=hx.wd
     simp only [List.drop_zero] at heq hqw
     rw [hDv,hWv] at heq
     rw [hDv] at hr
     obtain ⟨pe1,pe2⟩:=V0y hv heq hr
     have hqs:qs=E4 (ws.length - vs.length+1) (val ws / val vs):=by
      rw [← pe1,show ws.length - vs.length+1=qs.length by omega]; exact (j7 hqw).symm
     obtain ⟨X,hL⟩:∃ X,X=G7 W (m+2) 0 R:=⟨_,rfl⟩
     have hLl:X.length=ws.length+1:=by rw [hL,s4 oM,hWl]
     have hLw:Wd X:=by rw [hL]; exact J0p hWd
     have hL2:=hL
     rw [K0k] at hL2
     rw [← hL]
     refine L2 (xq ?_)
     refine exr (mV L rfl (mV L rfl (sw (b1q un43 sz119 rfl (by exact (by simp [s4 hle,hWl] <;> omega)) (h:=vs.length) rO oM L) t2 t1 ?_)))
     refine aV L rfl (zn [(4,_),(5,_),(10,_),(11,_)] [(66,_),(80,_)] t4 t2 (R1 (exr (mV L rfl (sw (p0d un43 (by exact (by simp [s4 hle,hWl] <;> omega)) L) t1 t1 ?_)))))
     refine mV L rfl (zn [(4,_),(5,_),(10,_),(11,_),(138,_),(139,_)] [(66,_),(80,_)] t6 t2 (X1 ?_))
     refine exl (α:=(Nat×List Int)) (fun y=>[(139,vi (y.1:Int))]) (fun y=>[(66,⟨119,1,.pure (K4 (y.2++X.drop y.1))⟩)]) (fun y=>y0a X k y∧y.1≤m+2) (fun y=>m+2 - y.1) (((0:Nat),([]:List Int))) (sl:=[(4,_),(5,_),(10,_),(11,_),(138,_)]) (hb:=[(80,_)]) ?_ ⟨oR,rfl,rfl,rfl,rfl,rfl,trivial⟩ ⟨obl rfl sM,rfl,trivial⟩ ?_
     ·exact ⟨y0a.zero X k,Nat.zero_le _⟩
     intro y hy
     obtain ⟨j,ys⟩:=y
     obtain ⟨hy,hjl⟩:=hy
     have hyl:=hy.len
     simp only at hyl hjl
     dsimp only
     refine exr (sw (d4 L) t2 t0 (zn [(4,_),(5,_),(10,_),(11,_),(138,_),(139,_),(140,_)] [(66,_),(80,_)] t7 t2 (R1 ?_)))
     refine D2 rfl (fun hf=>?_) (fun hf=>?_)
     ·have hf:=dt hf
      have u0:=hLw.getD j
      have u1:=hLw.getD (j+1)
      have ub:=f1b (s:=k) (show 0≤X.getD j 0+X.getD (j+1) 0*4294967296 by omega) oM
      refine U1 (xq ?_)
      refine R1 (X1 (exr (mV L rfl (aV L rfl (zn [(4,_),(5,_),(10,_),(11,_),(16,_),(138,_),(139,_)] [(66,_),(80,_)] t7 t2 (m0v rF ?_))))))
      refine mV L rfl (mV L rfl (mV L rfl (mV L rfl (sw (K3 L (w64 oM oM)) t2 t0 (sw (C6 un43 sz119 (by exact sO) (j:=j+1) rO oM L) t2 t1 ?_)))))
      refine sw (Y1 ag119 (by exact sO) (g0m (Q1w (L:=X) (p:=j+1) (q:=j+1) (i:=1) hyl rfl rfl oM)) L) t1 t1 ?_
      refine sw (y4 un119 un127 L (J4 oM oM)) t1 t0 (sw (w0z L dC (H0a (c:=4294967296) rF (J4 oM oM))) t2 t0 ?_)
      refine mV L rfl (mV L rfl (sw (ixR un43 sz119 (by exact sO) (j:=j) rO oM L) t2 t1 ?_))
      refine sw (Y1 ag119 (by exact sO) (g0m (Q1w (L:=X) (p:=0+j) (q:=j) (i:=0) hyl oM rfl oM)) L) t1 t1 ?_
      refine sw (y4 un119 un127 L (J4 oM oM)) t1 t0 (sw (q0q L (Eq.trans (F0j (b:=X.getD (j+1) 0) 32 rfl u0.1 u0.2 u1.1 dC oM oM) (show _=X.getD j 0+X.getD (j+1) 0*4294967296 by omega))) t2 t0 ?_)
      refine mV L rfl (sw (v9 L oM (Y0c oM)) t2 t0 (sw (y4 un127 un119 L j8) t1 t0 (sw (ixR un43 sz119 (by exact sO) (j:=j) rO oM L) t2 t1 ?_)))
      refine sb (b0n sz119 (by exact sO) (.atom rfl) oM) t2 t1 ?_
      refine O1 ⟨B5 [⟨[5],[],[142],[]⟩,⟨[16],[],[143],[]⟩,⟨[11],[],[144],[]⟩,⟨[16],[],[145],[]⟩,⟨[145],[],[146],[]⟩,⟨[144,146],[66],[147],[]⟩,⟨[147],[66],[148],[]⟩,⟨[148],[],[149],[]⟩,⟨[149],[],[150],[]⟩,⟨[5],[],[151],[]⟩,⟨[16],[],[152],[]⟩,⟨[151,152],[66],[153],[]⟩,⟨[153],[66],[154],[]⟩,⟨[154],[],[155],[]⟩,⟨[150,155],[],[156],[]⟩,⟨[10],[],[157],[]⟩,⟨[156,157],[],[158],[]⟩,⟨[158],[],[159],[]⟩,⟨[142,143],[66],[160],[]⟩,⟨[160,159],[66],[],[66]⟩] rF rF dC,?_⟩
      refine y3 (sw (K3 L (w64 oM oM)) t2 t0 (mV L rfl (O1 ?_)))
      exact ⟨(j+1,ys++[(X.getD j 0+X.getD (j+1) 0*4294967296) / 2 ^ k % 4294967296]),⟨hy.next hLw oM oM,by simp only; omega⟩,(by simp only; omega),E3 ⟨oR,rfl,rfl,rfl,rfl,rfl,trivial⟩ ⟨obl rfl (by rw [o5,F1,q1w hyl oM]),rfl,trivial⟩⟩
     ·have hf:=df hf
      have hj:j=m+2:=by omega
      subst hj
      have hys:=M1s hL2 hr.1 (by rw [← hDv] at hr; omega) hy
      rw [pe2] at hys
      refine L2 (xq ?_)
      refine exr (mV L rfl (mV L rfl (aV L rfl (aV L rfl (zn [(4,_),(5,_)] [(66,_),(80,_)] t2 t2 (G4 [66,80] (sl:=[(4,_),(5,_)]) (hb:=[]) (M3 hX0) ⟨⟨_,rfl,(.ref rfl rfl (by exact sO) (by first | rfl | omega))⟩,⟨_,rfl,(.refo rfl rfl (by exact sO) rfl)⟩,trivial⟩ t0 ?_))))))
      refine V1 ?_
      refine Y0 (.tmp rfl) (.tmp rfl) ?_
      simp only [j0r,d0b,if_neg hc,if_neg hp,if_neg (show ¬ vs.length=1 by omega)]; rw [← hqs,Nat.mul_one,List.drop_zero,k0s,List.take_append_of_le_length oM,C0 oM,hys,hm]; simp [C3]; omega
end Go.Proofs.YtjagfionflbjbaaGreat.N
namespace Go.Proofs.YtjagfionflbjbaaGreat.NumA
open Go
def nw (a:Int):Nat:=(j3 a.natAbs).length
theorem B0p {a:Int}{k:Nat}(h:(a.natAbs:Int)<4294967296 ^ k):nw a≤k:=by
 have:a.natAbs=((a.natAbs:Int)).toNat:=by simp
 unfold nw; rw [this]
 exact G0x (by omega) h
theorem J0f {a:Int}:(a.natAbs:Int)<4294967296 ^ nw a:=by
 have h:=l5 (U3 a.natAbs)
 rwa [T4] at h
theorem F8 {a b:Int}(h:a.natAbs≤b.natAbs):nw a≤nw b:=B0p (by have:=J0f (a:=b); omega)
theorem n0c {m:Bool}{ws:List Int}(h:Wd ws):nw (sg m (val ws))≤ws.length:=B0p (by have:=l5 h; have:=G2 h; cases m <;> simp [sg] <;> omega)
theorem K7 (a b:Int):nw (a*b)≤nw a+nw b:=by
 apply B0p
 rw [Int.natAbs_mul,Int.natCast_mul,Int.pow_add]
 have h1:=J0f (a:=a)
 have h2:=J0f (a:=b)
 have h3:(a.natAbs:Int)*b.natAbs≤a.natAbs*4294967296 ^ nw b:=F0 (E1 h2) (by omega)
 have h4:(a.natAbs:Int)*4294967296 ^ nw b<4294967296 ^ nw a*4294967296 ^ nw b:=Int.mul_lt_mul_of_pos_right h1 (q0g _)
 omega
theorem d1r (a b:Int):nw (a+b)≤max (nw a) (nw b)+1:=by
 apply B0p
 have h1:=J0f (a:=a)
 have h2:=J0f (a:=b)
 have h3:=y0r (Nat.le_max_left (nw a) (nw b))
 have h4:=y0r (Nat.le_max_right (nw a) (nw b))
 rw [w1k]
 generalize (4294967296:Int) ^ max (nw a) (nw b)=M at *
 omega
theorem g1n {a:Int}:nw a=0↔a=0:=by
 unfold nw
 rw [List.length_eq_zero_iff,j0q]; omega
theorem v1m (a:Int):nw (-a)=nw a:=by unfold nw; rw [Int.natAbs_neg]
theorem W0q {m:Bool}{x:Int}(h:0≤x):val (j3 (sg m x).natAbs)=x:=by rw [T4]; cases m <;> simp [sg] <;> omega
theorem q7 {n:Nat}:(j3 n).length=0↔n=0:=by rw [List.length_eq_zero_iff,j0q]
theorem B1a {m:Bool}{x:Int}(h:0≤x):((sg m x).natAbs:Int)=x:=by cases m <;> simp [sg] <;> omega
theorem g1a {ws:List Int}(h:Wd ws)(ht:Tr ws)(hl:ws.length≠0):0<val ws:=by
 have h1:=G2 h
 by_cases e:val ws=0
 ·have:=B7 h ht e
  rw [this] at hl; simp at hl
 ·omega
def dQ (m n:Bool)(ws vs:List Int):Int:=if P2 m ws=true∧P2 n vs=true then sg m (val ws) / sg n (val vs) else 0
def dR (m n:Bool)(ws vs:List Int):Int:=if P2 m ws=true∧P2 n vs=true∧vs.length≠0 then sg m (val ws) % sg n (val vs) else 0
def dE (m n:Bool)(ws vs:List Int):Int:=if P2 m ws=true∧P2 n vs=true then (if vs.length=0 then 5 else 0) else 3
end Go.Proofs.YtjagfionflbjbaaGreat.NumA
