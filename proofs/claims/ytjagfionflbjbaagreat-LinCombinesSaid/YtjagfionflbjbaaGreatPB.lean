/- Part B of the proof: lemmas for the walks of the given functions. No statement of its own. -/
import Derived.Test.YtjagfionflbjbaaGreatProg
import Derived.Test.YtjagfionflbjbaaGreatPA
set_option linter.unusedVariables false
set_option linter.unusedSimpArgs false
set_option linter.deprecated false
namespace Go.Proofs.YtjagfionflbjbaaGreat.NumA
open Go
def E6 (ws:List Int):Nat→Nat
 | 0=>0
 | n+1=>if ws.getD n 0=0 then E6 ws n else n+1
def trim (ws:List Int):List Int:=ws.take (E6 ws ws.length)
theorem H0y (ws:List Int):∀ n,E6 ws n≤n
 | 0=>Nat.le_refl _
 | n+1=>by
  simp only [E6]
  split
  ·exact Nat.le_succ_of_le (H0y ws n)
  ·exact Nat.le_refl _
def Wd (ws:List Int):Prop:=∀ w∈ws,0≤w∧w<4294967296
def val:List Int→Int
 | []=>0
 | w :: ws=>w+4294967296*val ws
theorem Wd.get {ws:List Int}(h:Wd ws){i:Nat}(hi:i<ws.length):0≤ws.getD i 0∧ws.getD i 0<4294967296:=by
 have:ws.getD i 0=ws[i]:=by simp [f0,hi]
 rw [this]; exact h _ (List.getElem_mem hi)
theorem Wd.getD {ws:List Int}(h:Wd ws)(i:Nat):0≤ws.getD i 0∧ws.getD i 0<4294967296:=by
 by_cases hi:i<ws.length
 ·exact h.get hi
 ·rw [f0,List.getElem?_eq_none (by omega)]; simp
theorem Wd.nil:Wd []:=fun _ h=>by cases h
theorem Wd.cons {w:Int}{ws:List Int}:Wd (w :: ws)↔(0≤w∧w<4294967296)∧Wd ws:=by simp [Wd]
theorem Wd.take {ws:List Int}(h:Wd ws)(n:Nat):Wd (ws.take n):=fun w hw=>h w (List.mem_of_mem_take hw)
theorem Wd.drop {ws:List Int}(h:Wd ws)(n:Nat):Wd (ws.drop n):=fun w hw=>h w (List.mem_of_mem_drop hw)
theorem Wd.append {ws vs:List Int}(h:Wd ws)(h2:Wd vs):Wd (ws++vs):=fun w hw=>by
 rcases List.mem_append.1 hw with hw | hw
 ·exact h w hw
 ·exact h2 w hw
theorem Wd.set {ws:List Int}(h:Wd ws)(i:Nat){v:Int}(h0:0≤v)(h1:v<4294967296):Wd (ws.set i v):=fun w hw=>by
 rcases List.mem_or_eq_of_mem_set hw with hw | hw
 ·exact h w hw
 ·subst hw; exact ⟨h0,h1⟩
theorem Wd.rep (n:Nat):Wd (List.replicate n 0):=fun w hw=>by
 have:=(List.mem_replicate.1 hw).2; subst this; decide
theorem Wd.trim {ws:List Int}(h:Wd ws):Wd (trim ws):=h.take _
theorem F2:∀ {ws:List Int},Wd ws→0≤val ws
 | [],_=>by simp [val]
 | w :: ws,h=>by have:=F2 (Wd.cons.1 h).2; have:=(Wd.cons.1 h).1; simp only [val]; omega
theorem Z6:∀ (ws vs:List Int),val (ws++vs)=val ws+4294967296 ^ ws.length*val vs
 | [],vs=>by simp [val]
 | w :: ws,vs=>by
  simp only [L1,val,D1,Z6 ws vs,Int.pow_succ]
  rw [Int.mul_add,Int.add_assoc]
  congr 2
  rw [← Int.mul_assoc,Int.mul_comm (4294967296 ^ ws.length)]
theorem j5:∀ {ws:List Int},Wd ws→val ws<4294967296 ^ ws.length
 | [],_=>by simp [val]
 | w :: ws,h=>by
  have h1:=j5 (Wd.cons.1 h).2
  have h2:=(Wd.cons.1 h).1
  simp only [val,D1,Int.pow_succ]
  rw [Int.mul_comm (4294967296 ^ ws.length)]
  omega
theorem f0c {ws:List Int}{n:Nat}(h:n<ws.length):val (ws.take (n+1))=val (ws.take n)+4294967296 ^ n*ws.getD n 0:=by
 rw [I1,J1 h,Option.toList_some,Z6,J0,G1 (by omega)]
 simp [val,f0,h]
theorem M0n (ws:List Int):∀ n,n≤ws.length→val (ws.take (E6 ws n))=val (ws.take n)
 | 0,_=>rfl
 | n+1,h=>by
  simp only [E6]
  split
  ·rename_i e
   rw [M0n ws n (by omega),f0c (by omega),e]; simp
  ·rfl
theorem Y0p (ws:List Int):val (trim ws)=val ws:=by rw [trim,M0n _ _ (Nat.le_refl _),I0]
def Tr (ws:List Int):Prop:=ws.length=0∨ws.getD (ws.length - 1) 0≠0
theorem H0x (ws:List Int):∀ n,E6 ws n=0∨ws.getD (E6 ws n - 1) 0≠0
 | 0=>.inl rfl
 | n+1=>by
  simp only [E6]
  split
  ·exact H0x ws n
  ·rename_i h; exact .inr (by simpa using h)
theorem v9 (ws:List Int):(trim ws).length=E6 ws ws.length:=by
 rw [trim,J0,G1 (H0y _ _)]
theorem P0h (ws:List Int):Tr (trim ws):=by
 rcases H0x ws ws.length with h | h
 ·exact .inl (by rw [v9,h])
 ·by_cases h0:E6 ws ws.length=0
  ·exact .inl (by rw [v9,h0])
  ·refine .inr ?_
   rw [v9,trim,f0,List.getElem?_take,if_pos (by omega),← f0]
   exact h
theorem Tr.tail {w:Int}{ws:List Int}(h:Tr (w :: ws))(hn:ws≠[]):Tr ws:=by
 rcases h with h | h
 ·cases h
 ·refine .inr ?_
  obtain ⟨v,vs,rfl⟩:=List.exists_cons_of_ne_nil hn
  simpa using h
def y3 (n:Nat):List Int:=if h:n=0 then [] else ((n % 4294967296:Nat):Int) :: y3 (n / 4294967296)
 termination_by n
 decreasing_by exact Nat.div_lt_self (Nat.pos_of_ne_zero h) (by decide)
theorem U4:y3 0=[]:=by rw [y3]; simp
theorem j0p {n:Nat}(h:n≠0):y3 n=((n % 4294967296:Nat):Int) :: y3 (n / 4294967296):=by rw [y3]; simp [h]
theorem M3 (n:Nat):Wd (y3 n):=by
 induction n using Nat.strongRecOn with
 | ind n ih =>
  by_cases h:n=0
  ·rw [h,U4]; exact Wd.nil
  ·rw [j0p h]
   refine Wd.cons.2 ⟨?_,ih _ (Nat.div_lt_self (Nat.pos_of_ne_zero h) (by decide))⟩
   omega
theorem T4 (n:Nat):val (y3 n)=n:=by
 induction n using Nat.strongRecOn with
 | ind n ih =>
  by_cases h:n=0
  ·rw [h,U4]; rfl
  ·rw [j0p h,val,ih _ (Nat.div_lt_self (Nat.pos_of_ne_zero h) (by decide))]
   omega
theorem E9:∀ {ws:List Int},Wd ws→Tr ws→y3 (val ws).toNat=ws
 | [],_,_=>by simp [val,U4]
 | w :: ws,h,ht=>by
  have h1:=(Wd.cons.1 h).1
  have h2:=F2 (Wd.cons.1 h).2
  have hne:(val (w :: ws)).toNat≠0:=by
   intro e
   simp only [val] at e
   have hv:val ws=0:=by omega
   have hw:w=0:=by omega
   by_cases hn:ws=[]
   ·subst hn; subst hw; rcases ht with ht | ht
    ·cases ht
    ·simp at ht
   ·have:=E9 (Wd.cons.1 h).2 (ht.tail hn)
    rw [hv] at this
    simp [U4] at this
    exact hn this
  rw [j0p hne]
  have e1:(((val (w :: ws)).toNat % 4294967296:Nat):Int)=w:=by simp only [val]; omega
  have e2:(val (w :: ws)).toNat / 4294967296=(val ws).toNat:=by simp only [val]; omega
  rw [e1,e2]
  by_cases hn:ws=[]
  ·subst hn; simp [val,U4]
  ·rw [E9 (Wd.cons.1 h).2 (ht.tail hn)]
theorem P9 (n:Nat):Tr (y3 n):=by
 have h:=E9 (Wd.trim (M3 n)) (P0h _)
 rw [Y0p,T4,Int.toNat_natCast] at h
 rw [h]
 exact P0h _
theorem f6 {ws:List Int}(h:Wd ws):trim ws=y3 (val ws).toNat:=by
 rw [← Y0p,E9 h.trim (P0h ws)]
theorem k0j {n:Nat}:y3 n=[]↔n=0:=by
 constructor
 ·intro h
  have:=T4 n
  rw [h] at this
  simp [val] at this
  omega
 ·rintro rfl; exact U4
theorem H1b {n k:Nat}(h:n<4294967296 ^ k):(y3 n).length≤k:=by
 induction k generalizing n with
 | zero =>
   have : n = 0 := by rw [Nat.pow_zero] at h; omega
   rw [this,U4]; simp
 | succ k ih =>
  by_cases h0:n=0
  ·rw [h0,U4]; simp
  ·rw [j0p h0,D1]
   have:=ih (n:=n / 4294967296) (by rw [Nat.pow_succ] at h; exact Nat.div_lt_of_lt_mul (by rw [Nat.mul_comm]; exact h))
   omega
def sg (neg:Bool)(n:Int):Int:=if neg then -n else n
def P2 (neg:Bool)(ws:List Int):Bool:=if ws.length=0 then !neg else !decide (ws.getD (ws.length - 1) 0=0)
theorem P5 {neg:Bool}{ws:List Int}(h:P2 neg ws=true):Tr ws∧(ws=[]→neg=false):=by
 unfold P2 at h
 split at h
 ·rename_i e; exact ⟨.inl e,fun _=>by simpa using h⟩
 ·rename_i e; refine ⟨.inr (by simpa using h),fun h=>by subst h; simp at e⟩
theorem I7 {ws:List Int}(h:Wd ws)(ht:Tr ws)(h0:val ws=0):ws=[]:=by
 have:=E9 h ht
 rw [h0] at this
 simpa [U4] using this.symm
theorem f0z {neg:Bool}{ws:List Int}(h:Wd ws)(hc:P2 neg ws=true):decide (sg neg (val ws)<0)=neg∧y3 (sg neg (val ws)).natAbs=ws:=by
 obtain ⟨ht,hn⟩:=P5 hc
 have hv:=F2 h
 constructor
 ·cases neg with
  | false=>simp [sg]; omega
  | true =>
   have:val ws≠0:=fun e=>by have:=hn (I7 h ht e); cases this
   simp [sg]; omega
 ·have:(sg neg (val ws)).natAbs=(val ws).toNat:=by cases neg <;> simp [sg] <;> omega
  rw [this,E9 h ht]
theorem K3 (n:Int):P2 (decide (n<0)) (y3 n.natAbs)=true:=by
 unfold P2
 split
 ·rename_i e
  have:=E0 e
  rw [k0j] at this
  simp; omega
 ·rename_i e
  rcases P9 n.natAbs with h | h
  ·exact absurd h e
  ·simpa using h
theorem D5 (n:Int):sg (decide (n<0)) (val (y3 n.natAbs))=n:=by
 rw [T4]
 by_cases h:n<0
 ·simp [sg,h]; omega
 ·simp [sg,h]; omega
end Go.Proofs.YtjagfionflbjbaaGreat.NumA
namespace Go.Proofs.YtjagfionflbjbaaGreat.NumA
open Go
def bl (n:Nat):Nat:=if n=0 then 0 else n.log2+1
theorem h1w {n k:Nat}(h:2 ^ k≤n):bl n=k+bl (n / 2 ^ k):=by
 have hp:0<2 ^ k:=Nat.pow_pos (by decide)
 have hn:n≠0:=by omega
 have hd:n / 2 ^ k≠0:=by
  have:=Nat.div_pos h hp
  omega
 unfold bl
 rw [if_neg hn,if_neg hd]
 have e:n.log2=k+(n / 2 ^ k).log2:=by
  apply (Nat.log2_eq_iff hn).2
  have h1:=(Nat.log2_eq_iff hd).1 rfl
  constructor
  ·rw [Nat.pow_add]
   exact Nat.le_trans (Nat.mul_le_mul_left _ h1.1) (Nat.mul_div_le _ _)
  ·rw [Nat.add_assoc,Nat.pow_add]
   have:=Nat.lt_mul_of_div_lt h1.2 hp
   rwa [Nat.mul_comm] at this
 omega
theorem g0h {n k:Nat}:bl n≤k↔n<2 ^ k:=by
 unfold bl
 split
 ·rename_i e; subst e; simp [Nat.pow_pos]
 ·rename_i e
  have:=Nat.log2_lt (n:=n) (k:=k) e
  omega
def d8 (a b:Int):Int:=if a<b then -1 else if b<a then 1 else 0
theorem f7 {ws:List Int}{n:Nat}(h:n<ws.length):ws.drop n=ws.getD n 0 :: ws.drop (n+1):=by
 rw [List.drop_eq_getElem_cons h]; simp [f0,h]
theorem m0y {ws vs:List Int}(h:Wd ws)(h2:Wd vs)(ht:Tr vs)(hl:ws.length<vs.length):val ws<val vs:=by
 have h1:=j5 h
 rcases ht with ht | ht
 ·omega
 ·have e : vs = vs.take (vs.length - 1) ++ [vs.getD (vs.length - 1) 0] := by
   have h3:=f7 (ws:=vs) (n:=vs.length - 1) (by omega)
   rw [show vs.length - 1+1=vs.length by omega,List.drop_length] at h3
   rw [← h3,List.take_append_drop]
  have hv:=Z6 (vs.take (vs.length - 1)) [vs.getD (vs.length - 1) 0]
  rw [← e] at hv
  have h3:=F2 (h2.take (vs.length - 1))
  have h4:=h2.getD (vs.length - 1)
  simp only [val,J0] at hv
  rw [G1 (by omega)] at hv
  have h5:(4294967296:Int) ^ ws.length≤4294967296 ^ (vs.length - 1):=by
   have:=Nat.pow_le_pow_right (n:=4294967296) (by decide) (show ws.length≤vs.length - 1 by omega)
   rw [show (4294967296:Int)=((4294967296:Nat):Int) from rfl,← Int.natCast_pow,← Int.natCast_pow]
   exact Int.ofNat_le.2 this
  have h6:(4294967296:Int) ^ (vs.length - 1)*1≤4294967296 ^ (vs.length - 1)*(vs.getD (vs.length - 1) 0+4294967296*0) :=
   F0 (by omega) (E1 (Int.pow_pos (by decide)))
  omega
theorem j0f (ws:List Int)(n:Nat):val ws=val (ws.take n)+4294967296 ^ (min n ws.length)*val (ws.drop n):=by
 conv=>lhs; rw [← List.take_append_drop n ws,Z6,J0]
theorem b1h {ws vs:List Int}(h:Wd ws)(h2:Wd vs)(hl:ws.length=vs.length){i:Nat}(hi:i<ws.length)(hd:ws.drop (i+1)=vs.drop (i+1))(hlt:ws.getD i 0<vs.getD i 0):val ws<val vs:=by
 rw [j0f ws i,j0f vs i,G1 (by omega),G1 (by omega),f7 hi,f7 (ws:=vs) (n:=i) (by omega),hd]
 simp only [val]
 have h1:=j5 (h.take i)
 rw [J0,G1 (by omega)] at h1
 have h3:=F2 (h2.take i)
 have hp:(0:Int)<4294967296 ^ i:=Int.pow_pos (by decide)
 generalize val (vs.drop (i+1))=r at *
 have h6:(4294967296:Int) ^ i*(ws.getD i 0+1+4294967296*r)≤4294967296 ^ i*(vs.getD i 0+4294967296*r):=F0 (by omega) (E1 hp)
 have h7:(4294967296:Int) ^ i*(ws.getD i 0+1+4294967296*r)=4294967296 ^ i*(ws.getD i 0+4294967296*r)+4294967296 ^ i:=by
  rw [show ws.getD i 0+1+4294967296*r=(ws.getD i 0+4294967296*r)+1 by omega,Int.mul_add,Int.mul_one]
 omega
end Go.Proofs.YtjagfionflbjbaaGreat.NumA
namespace Go.Proofs.YtjagfionflbjbaaGreat.NumA
open Go
theorem J0x {α:Type}{p:α→Bool}{l:List α}{i:Nat}(h:i<l.length)(ht:(l.take i).all p=true)(hp:p l[i]=true):(l.take (i+1)).all p=true:=by
 rw [I1,J1 h,Option.toList_some,List.all_append,ht]
 simp [hp]
end Go.Proofs.YtjagfionflbjbaaGreat.NumA
namespace Go.Proofs.YtjagfionflbjbaaGreat.NumA
open Go
theorem p0q {ws vs:List Int}(h:Wd ws)(h2:Wd vs)(ht:Tr ws)(ht2:Tr vs)(hl:ws.length≠vs.length):d8 (val ws) (val vs)=if ws.length<vs.length then -1 else 1:=by
 unfold d8
 by_cases e:ws.length<vs.length
 ·rw [if_pos e,if_pos (m0y h h2 ht2 e)]
 ·have:=m0y h2 h ht (by omega)
  rw [if_neg e,if_neg (by omega),if_pos this]
theorem m0a {ws vs:List Int}(h:Wd ws)(h2:Wd vs)(hl:ws.length=vs.length){i:Nat}(hi:i<ws.length)(hd:ws.drop (i+1)=vs.drop (i+1))(hne:ws.getD i 0≠vs.getD i 0):d8 (val ws) (val vs)=if ws.getD i 0<vs.getD i 0 then -1 else 1:=by
 unfold d8
 by_cases e:ws.getD i 0<vs.getD i 0
 ·rw [if_pos e,if_pos (b1h h h2 hl hi hd e)]
 ·have:=b1h h2 h hl.symm (by omega) hd.symm (i:=i) (by omega)
  rw [if_neg e,if_neg (by omega),if_pos this]
theorem p0k {ws vs:List Int}{i:Nat}(hi:i<ws.length)(hl:ws.length=vs.length)(hd:ws.drop (i+1)=vs.drop (i+1))(he:ws.getD i 0=vs.getD i 0):ws.drop i=vs.drop i:=by
 rw [f7 hi,f7 (ws:=vs) (n:=i) (by omega),hd,he]
theorem K0r (a:Int):d8 a a=0:=by simp [d8]
theorem h1k {ws:List Int}(h:Wd ws)(ht:Tr ws)(hn:ws≠[]):(bl (val ws).toNat:Int)=32*((ws.length:Int) - 1)+bl (ws.getD (ws.length - 1) 0).toNat:=by
 have h0:0<ws.length:=List.length_pos_iff.2 hn
 rcases ht with ht | ht
 ·omega
 have hv:=j0f ws (ws.length - 1)
 rw [G1 (by omega),f7 (ws:=ws) (n:=ws.length - 1) (by omega),show ws.length - 1+1=ws.length by omega,List.drop_length] at hv
 simp only [val,Int.mul_zero,Int.add_zero] at hv
 have h1:=j5 (h.take (ws.length - 1))
 have h2:=F2 (h.take (ws.length - 1))
 rw [J0,G1 (by omega)] at h1
 have h3:=h.getD (ws.length - 1)
 obtain ⟨x,hx⟩:=Int.eq_ofNat_of_zero_le h2
 obtain ⟨y,hy⟩:=Int.eq_ofNat_of_zero_le h3.1
 have hp:(4294967296:Int) ^ (ws.length - 1)=((2 ^ (32*(ws.length - 1)):Nat):Int):=by
  rw [Nat.pow_mul,Int.natCast_pow]; rfl
 rw [hp] at hv h1
 rw [hx] at hv h1
 rw [hy] at hv ⊢
 have hy0:0<y:=by omega
 have e:(val ws).toNat=x+2 ^ (32*(ws.length - 1))*y:=by
  rw [hv]
  have:((x:Int)+((2 ^ (32*(ws.length - 1)):Nat):Int)*(y:Int))=((x+2 ^ (32*(ws.length - 1))*y:Nat):Int):=by push_cast; rfl
  rw [this,Int.toNat_natCast]
 have hx':x<2 ^ (32*(ws.length - 1)):=by exact Int.ofNat_lt.1 h1
 have hdiv:(x+2 ^ (32*(ws.length - 1))*y) / 2 ^ (32*(ws.length - 1))=y:=by
  rw [Nat.add_mul_div_left _ _ (Nat.pow_pos (by decide)),Nat.div_eq_of_lt hx',F1]
 rw [e,h1w (k:=32*(ws.length - 1)) (by have:=Nat.mul_le_mul_left (2 ^ (32*(ws.length - 1))) hy0; omega),hdiv]
 rw [Int.toNat_natCast]
 omega
end Go.Proofs.YtjagfionflbjbaaGreat.NumA
namespace Go.Proofs.YtjagfionflbjbaaGreat.NumA
open Go
theorem V1r {m n:Bool}{ws vs:List Int}(h:Wd ws)(h2:Wd vs)(hc:P2 m ws=true)(hc2:P2 n vs=true):d8 (sg m (val ws)) (sg n (val vs))=if m≠n then (if m then -1 else 1) else if m then -d8 (val ws) (val vs) else d8 (val ws) (val vs):=by
 have hv:=F2 h
 have hv2:=F2 h2
 have z:m=true→val ws≠0:=fun hm e=>by have:=(P5 hc).2 (I7 h (P5 hc).1 e); rw [hm] at this; cases this
 have z2:n=true→val vs≠0:=fun hm e=>by have:=(P5 hc2).2 (I7 h2 (P5 hc2).1 e); rw [hm] at this; cases this
 unfold d8 sg
 cases m <;> cases n <;> simp only [Bool.false_eq_true,if_false,if_true,ne_eq,not_true,not_false_eq_true,reduceCtorEq,true_implies,false_implies] at z z2 ⊢ <;> (repeat' split) <;> omega
end Go.Proofs.YtjagfionflbjbaaGreat.NumA
namespace Go.Proofs.YtjagfionflbjbaaGreat.NumA
open Go
theorem Y1y {ws:List Int}(h:Wd ws)(ht:Tr ws)(hl:2<ws.length):18446744073709551616≤val ws:=by
 match ws,h,ht,hl with
 | a :: b :: c :: r,h,ht,_ =>
  have h1:=Wd.cons.1 h
  have h2:=Wd.cons.1 h1.2
  have hv:=F2 h2.2
  have:val (c :: r)≠0:=fun e=>by
   have:=I7 h2.2 ((ht.tail (by simp)).tail (by simp)) e
   cases this
  simp only [val] at this hv ⊢
  omega
theorem F0w {ws:List Int}(h:Wd ws)(hl:ws.length≤2):val ws<18446744073709551616:=by
 have h1:=j5 h
 rcases (show ws.length=0∨ws.length=1∨ws.length=2 by omega) with e | e | e <;> rw [e] at h1 <;> simp at h1 <;> omega
end Go.Proofs.YtjagfionflbjbaaGreat.NumA
namespace Go.Proofs.YtjagfionflbjbaaGreat.NumA
open Go
theorem V0f {ws vs:List Int}{i:Nat}(hi:i<ws.length)(hl:ws.length=vs.length)(hd:ws.take i=vs.take i)(he:ws.getD i 0=vs.getD i 0):ws.take (i+1)=vs.take (i+1):=by
 rw [I1,I1,hd,J1 hi,J1 (show i<vs.length by omega)]
 simp only [f0,J1 hi,J1 (show i<vs.length by omega),Option.getD_some] at he
 rw [he]
theorem K1n {n:Nat}(h:n≠0):bl n=1+bl (n / 2):=by
 by_cases h1:n=1
 ·subst h1; decide
 ·exact h1w (k:=1) (by rw [Nat.pow_one]; omega)
end Go.Proofs.YtjagfionflbjbaaGreat.NumA
namespace Go.Proofs.YtjagfionflbjbaaGreat.NumA
open Go
theorem V3 {ws:List Int}(n:Nat):val (ws.take (n+1))=val (ws.take n)+4294967296 ^ n*ws.getD n 0:=by
 by_cases h:n<ws.length
 ·exact f0c h
 ·rw [C0 (by omega),C0 (by omega),f0,List.getElem?_eq_none (by omega)]; simp
theorem g8 (ws:List Int)(v:Int):val (ws++[v])=val ws+4294967296 ^ ws.length*v:=by rw [Z6]; simp [val]
theorem y1f {ws vs ys:List Int}{i:Nat}{c:Int}(hl:ys.length=i)(hv:val ys+4294967296 ^ i*c=val (ws.take i)+val (vs.take i)){s d c':Int}(hs:s=ws.getD i 0+vs.getD i 0+c)(hd:d+4294967296*c'=s) :
  val (ys++[d])+4294967296 ^ (i+1)*c'=val (ws.take (i+1))+val (vs.take (i+1)):=by
 rw [g8,V3,V3,hl,Int.pow_succ]
 have e:(4294967296:Int) ^ i*s=4294967296 ^ i*ws.getD i 0+4294967296 ^ i*vs.getD i 0+4294967296 ^ i*c:=by rw [hs,Int.mul_add,Int.mul_add]
 have e2:(4294967296:Int) ^ i*s=4294967296 ^ i*d+4294967296 ^ i*4294967296*c':=by rw [← hd,Int.mul_add,Int.mul_assoc]
 omega
theorem y1r {ws vs ys:List Int}{i:Nat}{c:Int}(hl:ys.length=i)(hv:val ys - 4294967296 ^ i*c=val (ws.take i) - val (vs.take i)){s d c':Int}(hs:s=ws.getD i 0 - vs.getD i 0 - c)(hd:d - 4294967296*c'=s) :
  val (ys++[d]) - 4294967296 ^ (i+1)*c'=val (ws.take (i+1)) - val (vs.take (i+1)):=by
 rw [g8,V3,V3,hl,Int.pow_succ]
 have e:(4294967296:Int) ^ i*s=4294967296 ^ i*ws.getD i 0 - 4294967296 ^ i*vs.getD i 0 - 4294967296 ^ i*c:=by rw [hs,Int.mul_sub,Int.mul_sub]
 have e2:(4294967296:Int) ^ i*s=4294967296 ^ i*d - 4294967296 ^ i*4294967296*c':=by rw [← hd,Int.mul_sub,Int.mul_assoc]
 omega
theorem f0k {ws:List Int}{n:Nat}(h:ws.length≤n):ws.take n=ws:=C0 h
end Go.Proofs.YtjagfionflbjbaaGreat.NumA
namespace Go.Proofs.YtjagfionflbjbaaGreat.NumA
open Go
theorem k0n {ws:List Int}(h:ws.length=1):ws.getD 0 0=val ws:=by
 match ws,h with
 | [a],_=>simp [val]
theorem k0m {ws:List Int}(h:Wd ws)(hl:ws.length≤1):val ws<4294967296:=by
 have h1:=j5 h
 rcases (show ws.length=0∨ws.length=1 by omega) with e | e <;> rw [e] at h1 <;> simp at h1 <;> omega
end Go.Proofs.YtjagfionflbjbaaGreat.NumA
namespace Go.Proofs.YtjagfionflbjbaaGreat.NumA
open Go
def G4:Nat→Int→List Int
 | 0,_=>[]
 | n+1,m=>m % 4294967296 :: G4 n (m / 4294967296)
theorem E3:∀ (n:Nat)(m:Int),(G4 n m).length=n
 | 0,_=>rfl
 | n+1,m=>by simp [G4,E3 n]
theorem w6:∀ (n:Nat)(m:Int),Wd (G4 n m)
 | 0,_=>Wd.nil
 | n+1,m=>Wd.cons.2 ⟨by omega,w6 n _⟩
theorem v7:∀ {ys:List Int},Wd ys→G4 ys.length (val ys)=ys
 | [],_=>rfl
 | y :: ys,h=>by
  have h1:=(Wd.cons.1 h).1
  simp only [D1,G4,val]
  rw [show (y+4294967296*val ys) % 4294967296=y by omega,show (y+4294967296*val ys) / 4294967296=val ys by omega,v7 (Wd.cons.1 h).2]
theorem i6 {n:Nat}{m:Int}(h0:0≤m)(h1:m<4294967296 ^ n):val (G4 n m)=m:=by
 induction n generalizing m with
 | zero=>simp at h1; simp [G4,val]; omega
 | succ n ih =>
  simp only [G4,val]
  rw [ih (by omega) (by rw [Int.pow_succ] at h1; omega)]
  omega
theorem b0p {ws vs:List Int}(h:Wd ws)(h2:Wd vs):val ws+val vs<4294967296 ^ (max ws.length vs.length+1):=by
 have h3:=j5 h
 have h4:=j5 h2
 have mono:∀ {a b:Nat},a≤b→(4294967296:Int) ^ a≤4294967296 ^ b:=fun {a b} hab=>by
  have:=Nat.pow_le_pow_right (n:=4294967296) (by decide) hab
  rw [show (4294967296:Int)=((4294967296:Nat):Int) from rfl,← Int.natCast_pow,← Int.natCast_pow]
  exact Int.ofNat_le.2 this
 have h5:=mono (Nat.le_max_left ws.length vs.length)
 have h6:=mono (Nat.le_max_right ws.length vs.length)
 rw [Int.pow_succ]
 have:(0:Int)<4294967296 ^ (max ws.length vs.length):=Int.pow_pos (by decide)
 omega
theorem Y0v {ys:List Int}{i n:Nat}(hl:ys.length=i)(hi:i<n)(d:Int):(ys++List.replicate (n - i) 0).set i d=(ys++[d])++List.replicate (n - (i+1)) 0:=by
 subst hl
 rw [List.set_append_right _ _ (Nat.le_refl _),Nat.sub_self,show n - ys.length=(n - (ys.length+1))+1 by omega,List.replicate_succ,List.set_cons_zero,List.append_assoc]
 rfl
theorem Wd.snoc {ys:List Int}{d:Int}(h:Wd ys)(h0:0≤d)(h1:d<4294967296):Wd (ys++[d]):=h.append (Wd.cons.2 ⟨⟨h0,h1⟩,Wd.nil⟩)
theorem M1m {ws vs ys:List Int}{n:Nat}{c:Int}(h:Wd ws)(h2:Wd vs)(hy:Wd ys)(hl:ys.length=n)(hn:n=max ws.length vs.length+1)(hc:0≤c)(hv:val ys+4294967296 ^ n*c=val (ws.take n)+val (vs.take n)):c=0∧ys=G4 n (val ws+val vs):=by
 rw [f0k (by omega),f0k (by omega)] at hv
 have h3:=b0p h h2
 rw [← hn] at h3
 have h4:=F2 hy
 have h5:c=0:=by
  by_cases e:c=0
  ·exact e
  ·have h6:(4294967296:Int) ^ n*1≤4294967296 ^ n*c:=F0 (by omega) (E1 (Int.pow_pos (by decide)))
   omega
 refine ⟨h5,?_⟩
 rw [h5,Int.mul_zero,Int.add_zero] at hv
 rw [← hv,← hl,v7 hy]
end Go.Proofs.YtjagfionflbjbaaGreat.NumA
namespace Go.Proofs.YtjagfionflbjbaaGreat.NumA
open Go
structure q0q (ws vs:List Int) (n:Nat) (x:Nat×List Int×Int):Prop where
 le:x.1≤n
 len:x.2.1.length=x.1
 wd:Wd x.2.1
 c0:0≤x.2.2
 c1:x.2.2≤1
 eq:val x.2.1+4294967296 ^ x.1*x.2.2=val (ws.take x.1)+val (vs.take x.1)
theorem q0q.zero (ws vs:List Int)(n:Nat):q0q ws vs n (0,[],0):=⟨Nat.zero_le _,rfl,Wd.nil,Int.le_refl _,by decide,by simp [val]⟩
theorem q0q.next {ws vs:List Int}(h:Wd ws)(h2:Wd vs){n i:Nat}{ys:List Int}{c:Int}(ha:q0q ws vs n (i,ys,c))(hi:i<n) :
  q0q ws vs n (i+1,ys++[(ws.getD i 0+vs.getD i 0+c) % 4294967296],(ws.getD i 0+vs.getD i 0+c) / 4294967296):=by
 have hw:=h.getD i
 have hv:=h2.getD i
 have h3:=ha.c0
 have h4:=ha.c1
 simp only at h3 h4
 exact ⟨hi,by simp [ha.len],ha.wd.snoc (by omega) (by omega),by simp only; omega,by simp only; omega,y1f (ws:=ws) (vs:=vs) (ys:=ys) (i:=i) (c:=c) (d:=(ws.getD i 0+vs.getD i 0+c) % 4294967296) (c':=(ws.getD i 0+vs.getD i 0+c) / 4294967296) ha.len ha.eq rfl (by omega)⟩
structure m0w (ws vs:List Int) (n:Nat) (x:Nat×List Int×Int):Prop where
 le:x.1≤n
 len:x.2.1.length=x.1
 wd:Wd x.2.1
 c0:0≤x.2.2
 c1:x.2.2≤1
 eq:val x.2.1 - 4294967296 ^ x.1*x.2.2=val (ws.take x.1) - val (vs.take x.1)
theorem m0w.zero (ws vs:List Int)(n:Nat):m0w ws vs n (0,[],0):=⟨Nat.zero_le _,rfl,Wd.nil,Int.le_refl _,by decide,by simp [val]⟩
theorem m0w.next {ws vs:List Int}(h:Wd ws)(h2:Wd vs){n i:Nat}{ys:List Int}{c:Int}(ha:m0w ws vs n (i,ys,c))(hi:i<n) :
  m0w ws vs n (i+1,ys++[(ws.getD i 0 - vs.getD i 0 - c) % 4294967296],if ws.getD i 0<vs.getD i 0+c then 1 else 0):=by
 have hw:=h.getD i
 have hv:=h2.getD i
 have h3:=ha.c0
 have h4:=ha.c1
 simp only at h3 h4
 exact ⟨hi,by simp [ha.len],ha.wd.snoc (by omega) (by omega),by simp only; split <;> omega,by simp only; split <;> omega,y1r (ws:=ws) (vs:=vs) (ys:=ys) (i:=i) (c:=c) (d:=(ws.getD i 0 - vs.getD i 0 - c) % 4294967296) (c':=if ws.getD i 0<vs.getD i 0+c then 1 else 0) ha.len ha.eq rfl (by split <;> omega)⟩
theorem m1j {ws vs ys:List Int}{n:Nat}{c:Int}(h:Wd ws)(h2:Wd vs)(hle:val vs≤val ws)(hn:ws.length≤n)(hn2:vs.length≤n)(ha:m0w ws vs n (n,ys,c)):c=0∧ys=G4 n (val ws - val vs):=by
 have hv:=ha.eq
 simp only at hv
 rw [f0k hn,f0k hn2] at hv
 have h4:=j5 ha.wd
 simp only [ha.len] at h4
 have h3:=ha.c0
 simp only at h3
 have h5:c=0:=by
  by_cases e:c=0
  ·exact e
  ·have h6:(4294967296:Int) ^ n*1≤4294967296 ^ n*c:=F0 (by omega) (E1 (Int.pow_pos (by decide)))
   omega
 refine ⟨h5,?_⟩
 rw [h5,Int.mul_zero,Int.sub_zero] at hv
 have hal:ys.length=n:=ha.len
 rw [← hv,← hal]
 exact (v7 ha.wd).symm
end Go.Proofs.YtjagfionflbjbaaGreat.NumA
namespace Go.Proofs.YtjagfionflbjbaaGreat.NumA
open Go
theorem F9 {ws:List Int}{i:Nat}(h:ws.length≤i):ws.getD i 0=0:=by rw [f0,List.getElem?_eq_none h]; rfl
end Go.Proofs.YtjagfionflbjbaaGreat.NumA
namespace Go.Proofs.YtjagfionflbjbaaGreat.NumA
open Go
theorem m1p {n x:Int}(m:Bool)(h:0≤x)(h1:x<n) : -n<sg m x∧sg m x<n:=by cases m <;> simp [sg] <;> omega
theorem g1b (m:Bool)(x y:Int):sg m (x+y)=sg m x+sg m y:=by cases m <;> simp [sg]; omega
theorem Q0v {m n:Bool}(h:m≠n){x y:Int}:sg m (x - y)=sg m x+sg n y:=by cases m <;> cases n <;> simp [sg] at h ⊢ <;> omega
theorem Q1c (m:Bool)(x:Int):sg (!m) x = -sg m x:=by cases m <;> simp [sg]
theorem m1k {x y:Int}(h:0≤d8 x y):y≤x:=by unfold d8 at h; split at h <;> omega
theorem m1d {x y:Int}(h:¬ 0≤d8 x y):x<y:=by
 unfold d8 at h
 split at h
 ·assumption
 ·split at h <;> omega
end Go.Proofs.YtjagfionflbjbaaGreat.NumA
namespace Go.Proofs.YtjagfionflbjbaaGreat.NumA
open Go
theorem k1n {ws:List Int}:∀ {i:Nat},i<ws.length→∀ v:Int,val (ws.set i v)=val ws+4294967296 ^ i*(v - ws.getD i 0):=by
 induction ws with
 | nil=>intro i h; simp at h
 | cons w ws ih =>
  intro i h v
  cases i with
  | zero=>simp [val]; omega
  | succ i =>
   simp only [List.set_cons_succ,val,List.getD_cons_succ,Int.pow_succ]
   rw [ih (by simpa using h) v]
   grind
theorem g0w {x y:Int}(hx:0≤x∧x<4294967296)(hy:0≤y∧y<4294967296):0≤x*y∧x*y≤18446744065119617025:=by
 constructor
 ·exact Int.mul_nonneg hx.1 hy.1
 ·have h1:x*y≤x*4294967295:=F0 (by omega) hx.1
  omega
theorem Q0r {ws:List Int}(h:Wd ws)(h0:val ws=0)(i:Nat):ws.getD i 0=0:=by
 induction ws generalizing i with
 | nil=>rfl
 | cons w ws ih =>
  have h1:=Wd.cons.1 h
  have h2:=F2 h1.2
  simp only [val] at h0
  cases i with
  | zero=>simp; omega
  | succ i=>simpa using ih h1.2 (by omega) i
theorem q1z {ws:List Int}(h:Wd ws){k i:Nat}(hv:val ws<4294967296 ^ k)(hi:k≤i):ws.getD i 0=0:=by
 by_cases hk:ws.length≤k
 ·exact F9 (by omega)
 ·have h1:=j0f ws k
  rw [G1 (by omega)] at h1
  have h2:=F2 (h.take k)
  have h3:=F2 (h.drop k)
  have hp:(0:Int)<4294967296 ^ k:=Int.pow_pos (by decide)
  have h4:val (ws.drop k)=0:=by
   by_cases e:val (ws.drop k)=0
   ·exact e
   ·have h6:(4294967296:Int) ^ k*1≤4294967296 ^ k*val (ws.drop k):=F0 (by omega) (E1 hp)
    omega
  have h5:=Q0r (h.drop k) h4 (i - k)
  rw [f0,List.getElem?_drop,show k+(i - k)=i by omega,← f0] at h5
  exact h5
structure B0c (ws vs:List Int) (x:Nat×List Int):Prop where
 le:x.1≤ws.length
 len:x.2.length=ws.length+vs.length
 wd:Wd x.2
 eq:val x.2=val (ws.take x.1)*val vs
structure j0x (ws vs:List Int) (i:Nat) (x:Nat×List Int×Int):Prop where
 le:x.1≤vs.length
 len:x.2.1.length=ws.length+vs.length
 wd:Wd x.2.1
 c0:0≤x.2.2
 c1:x.2.2<4294967296
 top:x.2.1.getD (i+vs.length) 0=0
 eq:val x.2.1+4294967296 ^ (i+x.1)*x.2.2=val (ws.take i)*val vs+4294967296 ^ i*(ws.getD i 0*val (vs.take x.1))
theorem q0n (n:Nat):val (List.replicate n 0)=0:=by
 induction n with
 | zero=>rfl
 | succ n ih=>rw [List.replicate_succ,val,ih]; rfl
theorem B0c.zero (ws vs:List Int):B0c ws vs (0,List.replicate (ws.length+vs.length) 0):=⟨Nat.zero_le _,by simp,Wd.rep _,by simp [val,q0n]⟩
theorem h0w {ws vs:List Int}(h:Wd ws)(h2:Wd vs){i:Nat}(hi:i≤ws.length):val (ws.take i)*val vs<4294967296 ^ (i+vs.length):=by
 have h3:=j5 (h.take i)
 rw [J0,G1 hi] at h3
 have h4:=j5 h2
 have h5:=F2 (h.take i)
 have h6:=F2 h2
 rw [Int.pow_add]
 have hp:(0:Int)<4294967296 ^ i:=Int.pow_pos (by decide)
 have hp2:(0:Int)<4294967296 ^ vs.length:=Int.pow_pos (by decide)
 have e1:val (ws.take i)*val vs≤val (ws.take i)*4294967296 ^ vs.length:=F0 (by omega) h5
 have e2:val (ws.take i)*4294967296 ^ vs.length<4294967296 ^ i*4294967296 ^ vs.length:=Int.mul_lt_mul_of_pos_right h3 hp2
 omega
theorem j0x.zero {ws vs:List Int}(h:Wd ws)(h2:Wd vs){i:Nat}{r:List Int}(ha:B0c ws vs (i,r))(hi:i<ws.length):j0x ws vs i (0,r,0) :=
 ⟨Nat.zero_le _,ha.len,ha.wd,Int.le_refl _,by show (0:Int)<4294967296; decide,q1z ha.wd (by have:=ha.eq; simp only at this; rw [this]; exact h0w h h2 (by omega)) (Nat.le_refl _),by have:=ha.eq; simp only at this; simp [val,this]⟩
theorem j0x.next {ws vs:List Int}(h:Wd ws)(h2:Wd vs){i j:Nat}{r:List Int}{c:Int}(ha:j0x ws vs i (j,r,c))(hi:i<ws.length)(hj:j<vs.length){t:Int}(ht:t=ws.getD i 0*vs.getD j 0+r.getD (i+j) 0+c) :
  j0x ws vs i (j+1,r.set (i+j) (t % 4294967296),t / 4294967296)∧0≤t∧t<18446744073709551616:=by
 have hw:=h.getD i
 have hv:=h2.getD j
 have hb:=g0w hw hv
 have hr:=ha.wd.getD (i+j)
 have hc0:=ha.c0
 have hc1:=ha.c1
 have hl:=ha.len
 have heq:=ha.eq
 have htop:=ha.top
 simp only at hr hc0 hc1 hl heq htop
 refine ⟨⟨hj,by simp [hl],ha.wd.set _ (by omega) (by omega),by simp only; omega,by simp only; omega,?_,?_⟩,by omega,by omega⟩
 ·simp only
  rw [f0,List.getElem?_set_ne (by omega),← f0]
  exact htop
 ·simp only
  rw [k1n (by omega),V3 (ws:=vs) j,← Nat.add_assoc,Int.pow_succ,Int.pow_add]
  rw [Int.pow_add] at heq
  have e:t % 4294967296+4294967296*(t / 4294967296)=t:=by omega
  generalize (4294967296:Int) ^ i=A at *
  generalize (4294967296:Int) ^ j=B at *
  generalize t % 4294967296=d at *
  generalize t / 4294967296=q at *
  subst ht
  grind
theorem j0x.done {ws vs:List Int}{i:Nat}{r:List Int}{c:Int}(ha:j0x ws vs i (vs.length,r,c))(hi:i<ws.length):B0c ws vs (i+1,r.set (i+vs.length) c):=by
 have hl:=ha.len
 have heq:=ha.eq
 have htop:=ha.top
 simp only at hl heq htop
 refine ⟨hi,by simp [hl],ha.wd.set _ ha.c0 ha.c1,?_⟩
 simp only
 rw [k1n (by omega),htop,V3 (ws:=ws) i]
 rw [I0] at heq
 grind
end Go.Proofs.YtjagfionflbjbaaGreat.NumA
namespace Go.Proofs.YtjagfionflbjbaaGreat.NumA
open Go
theorem w0s {ws:List Int}(_h:Wd ws)(hl:ws.length≤2):ws.getD 0 0+ws.getD 1 0*4294967296=val ws:=by
 match ws,hl with
 | [],_=>simp [val]
 | [a],_=>simp [val]
 | [a,b],_=>simp [val]; omega
theorem J1f {ws:List Int}(h:Wd ws)(ht:Tr ws)(hv:val ws<4611686018427387904):ws.length≤2:=by
 by_cases e:ws.length≤2
 ·exact e
 ·have:=Y1y h ht (by omega); omega
end Go.Proofs.YtjagfionflbjbaaGreat.NumA
namespace Go.Proofs.YtjagfionflbjbaaGreat.NumA
open Go
theorem W0p {x y c:Int}:(x+4294967296 - y - c) % 4294967296=(x - y - c) % 4294967296:=by omega
end Go.Proofs.YtjagfionflbjbaaGreat.NumA
namespace Go.Proofs.YtjagfionflbjbaaGreat.NumA
open Go
theorem K0a {m:Int}{k:Nat}(h0:0≤m)(h:m<4294967296 ^ k):(y3 m.toNat).length≤k:=by
 refine H1b ?_
 obtain ⟨x,rfl⟩:=Int.eq_ofNat_of_zero_le h0
 rw [show (4294967296:Int)=((4294967296:Nat):Int) from rfl,← Int.natCast_pow] at h
 rw [Int.toNat_natCast]
 exact Int.ofNat_lt.1 h
theorem M9 {m:Int}(h0:0≤m):val (y3 m.toNat)=m:=by rw [T4]; omega
theorem v0x {ws vs:List Int}(h:Wd ws)(h2:Wd vs)(ht2:Tr vs)(hle:val vs≤val ws):vs.length≤ws.length:=by
 by_cases e:vs.length≤ws.length
 ·exact e
 ·have:=m0y h h2 ht2 (by omega); omega
theorem K1v {ws vs:List Int}(h:Wd ws)(h2:Wd vs):(y3 (val ws+val vs).toNat).length≤max ws.length vs.length+1:=K0a (by have:=F2 h; have:=F2 h2; omega) (b0p h h2)
theorem j1m {ws vs:List Int}(h:Wd ws)(h2:Wd vs)(hle:val vs≤val ws):(y3 (val ws - val vs).toNat).length≤ws.length:=K0a (by omega) (by have:=j5 h; have:=F2 h2; omega)
theorem J1c {ws vs:List Int}(h:Wd ws)(h2:Wd vs):(y3 (val ws*val vs).toNat).length≤ws.length+vs.length:=K0a (Int.mul_nonneg (F2 h) (F2 h2)) (by have:=h0w h h2 (i:=ws.length) (Nat.le_refl _); rwa [I0] at this)
end Go.Proofs.YtjagfionflbjbaaGreat.NumA
namespace Go.Proofs.YtjagfionflbjbaaGreat.NumA
open Go
theorem f1h {w V d:Int}(hd:0<d)(hw:0≤w∧w<4294967296)(hV:0≤V) :
  (w+4294967296*V) / d=(V % d*4294967296+w) / d+4294967296*(V / d)∧(w+4294967296*V) % d=(V % d*4294967296+w) % d∧0≤(V % d*4294967296+w) / d∧(V % d*4294967296+w) / d<4294967296:=by
 have h1:=Int.emod_nonneg V (show d≠0 by omega)
 have h2:=Int.emod_lt_of_pos V hd
 have h3:=Int.mul_ediv_add_emod V d
 have e:w+4294967296*V=(V % d*4294967296+w)+d*(4294967296*(V / d)):=by
  conv=>lhs; rw [← h3]
  grind
 refine ⟨?_,?_,?_,?_⟩
 ·rw [e,Int.add_mul_ediv_left _ _ (by omega)]
 ·rw [e,Int.add_mul_emod_self_left]
 ·exact Int.ediv_nonneg (by omega) (by omega)
 ·refine Int.ediv_lt_of_lt_mul hd ?_
  have:(V % d+1)*4294967296≤d*4294967296:=Z0 (by omega) (by decide)
  omega
theorem q1h {k:Nat}{q Q:Int}(hq:0≤q∧q<4294967296):G4 (k+1) (q+4294967296*Q)=q :: G4 k Q:=by
 simp only [G4]
 rw [show (q+4294967296*Q) % 4294967296=q by omega,show (q+4294967296*Q) / 4294967296=Q by omega]
theorem d1a {xs qs:List Int}{n:Nat}(hl:xs.length=n+1)(q:Int):(xs++qs).set n q=xs.take n++q :: qs:=by
 rw [List.set_append_left _ _ (by omega)]
 have:xs.set n q=xs.take n++[q]:=by
  apply List.ext_getElem?
  intro i
  rw [List.getElem?_set]
  by_cases e:n=i
  ·subst e; simp [hl]
  ·rw [if_neg e,List.getElem?_append]
   simp only [J0,hl,G1 (Nat.le_succ n)]
   by_cases e2:i<n
   ·rw [if_pos e2,List.getElem?_take,if_pos e2]
   ·rw [if_neg e2,List.getElem?_eq_none (by omega),List.getElem?_eq_none (by simp; omega)]
 rw [this,List.append_assoc]; rfl
structure V9 (ws:List Int) (d:Int) (x:Nat×List Int×Int):Prop where
 le:x.1≤ws.length
 q:x.2.1=G4 (ws.length - x.1) (val (ws.drop x.1) / d)
 r:x.2.2=val (ws.drop x.1) % d
theorem V9.start (ws:List Int)(d:Int):V9 ws d (ws.length,[],0):=⟨Nat.le_refl _,by simp [G4],by simp [val]⟩
theorem V9.next {ws:List Int}{d:Int}(h:Wd ws)(hd:0<d){n:Nat}{qs:List Int}{r:Int}(ha:V9 ws d (n,qs,r))(hn:0<n) :
  V9 ws d (n - 1,(r*4294967296+ws.getD (n - 1) 0) / d :: qs,(r*4294967296+ws.getD (n - 1) 0) % d)∧0≤(r*4294967296+ws.getD (n - 1) 0) / d∧(r*4294967296+ws.getD (n - 1) 0) / d<4294967296:=by
 have hle:=ha.le
 have hq:=ha.q
 have hr:=ha.r
 simp only at hle hq hr
 have hs:=f1h (V:=val (ws.drop n)) hd (h.getD (n - 1)) (F2 (h.drop n))
 have hdr:=f7 (ws:=ws) (n:=n - 1) (by omega)
 rw [show n - 1+1=n by omega] at hdr
 rw [← hr] at hs
 refine ⟨⟨by simp only; omega,?_,?_⟩,hs.2.2.1,hs.2.2.2⟩
 ·simp only
  rw [hdr,val,hs.1,show ws.length - (n - 1)=(ws.length - n)+1 by omega,q1h ⟨hs.2.2.1,hs.2.2.2⟩,hq]
 ·simp only
  rw [hdr,val,hs.2.1]
end Go.Proofs.YtjagfionflbjbaaGreat.NumA
namespace Go.Proofs.YtjagfionflbjbaaGreat.NumA
open Go
theorem p1g {ws qs:List Int}{n i:Nat}(hi:i<n)(hl:n≤ws.length):(ws.take n++qs).getD i 0=ws.getD i 0:=by
 rw [f0,X0 (by simp; omega),List.getElem?_take,if_pos hi,← f0]
end Go.Proofs.YtjagfionflbjbaaGreat.NumA
namespace Go.Proofs.YtjagfionflbjbaaGreat.NumA
open Go
structure n8 (ws:List Int) (k:Nat) (x:Nat×List Int×Int):Prop where
 le:x.1≤ws.length
 len:x.2.1.length=x.1
 wd:Wd x.2.1
 h0:0≤x.2.2
 h1:x.2.2<2 ^ k
 eq:val x.2.1+4294967296 ^ x.1*x.2.2=val (ws.take x.1)*2 ^ k
theorem n8.zero (ws:List Int)(k:Nat):n8 ws k (0,[],0):=⟨Nat.zero_le _,rfl,Wd.nil,Int.le_refl _,by show (0:Int)<2 ^ k; exact Int.pow_pos (by decide),by simp [val]⟩
theorem n8.next {ws:List Int}{k:Nat}(h:Wd ws){i:Nat}{ys:List Int}{c:Int}(ha:n8 ws k (i,ys,c))(hi:i<ws.length) :
  n8 ws k (i+1,ys++[(ws.getD i 0*2 ^ k+c) % 4294967296],(ws.getD i 0*2 ^ k+c) / 4294967296):=by
 have hw:=h.getD i
 have h0:=ha.h0
 have h1:=ha.h1
 have hl:=ha.len
 have heq:=ha.eq
 simp only at h0 h1 hl heq
 have hp:(0:Int)<2 ^ k:=Int.pow_pos (by decide)
 have hs0:0≤ws.getD i 0*2 ^ k:=Int.mul_nonneg hw.1 (E1 hp)
 have hs:ws.getD i 0*2 ^ k+c<2 ^ k*4294967296:=by
  have:(ws.getD i 0+1)*2 ^ k≤4294967296*2 ^ k:=Z0 (by omega) (E1 hp)
  rw [Int.add_mul,Int.one_mul] at this
  rw [Int.mul_comm (2 ^ k)]
  omega
 refine ⟨hi,by simp [hl],ha.wd.snoc (by omega) (by omega),Int.ediv_nonneg (by omega) (by decide),Int.ediv_lt_of_lt_mul (by decide) hs,?_⟩
 simp only
 rw [g8,hl,f0c hi,Int.pow_succ]
 have e:(ws.getD i 0*2 ^ k+c) % 4294967296+4294967296*((ws.getD i 0*2 ^ k+c) / 4294967296)=ws.getD i 0*2 ^ k+c:=by omega
 generalize (4294967296:Int) ^ i=A at *
 generalize (ws.getD i 0*2 ^ k+c) % 4294967296=d at *
 generalize (ws.getD i 0*2 ^ k+c) / 4294967296=q at *
 grind
theorem n8.end_ {ws:List Int}{k:Nat}{ys:List Int}{c:Int}(ha:n8 ws k (ws.length,ys,c))(hk:k≤32):ys++[c]=G4 (ws.length+1) (val ws*2 ^ k)∧Wd (ys++[c]):=by
 have h0:=ha.h0
 have h1:=ha.h1
 have hl:=ha.len
 have heq:=ha.eq
 simp only at h0 h1 hl heq
 have hp:(2:Int) ^ k≤4294967296:=by
  have:=Nat.pow_le_pow_right (n:=2) (by decide) hk
  have h2:((2 ^ k:Nat):Int)≤((2 ^ 32:Nat):Int):=Int.ofNat_le.2 this
  rw [Int.natCast_pow] at h2
  exact h2
 have hwd:Wd (ys++[c]):=ha.wd.snoc h0 (by omega)
 refine ⟨?_,hwd⟩
 rw [I0] at heq
 rw [← heq,← hl,← g8]
 have:=v7 hwd
 rw [K1] at this
 exact this.symm
end Go.Proofs.YtjagfionflbjbaaGreat.NumA
namespace Go.Proofs.YtjagfionflbjbaaGreat.NumA
open Go
open Go Go.Proofs.YtjagfionflbjbaaGreat.SH
theorem m0f {k:Nat}(hk:k≤32):(4294967296:Int)=2 ^ (32 - k)*2 ^ k:=by
 rw [← Int.pow_add,Nat.sub_add_cancel hk]; rfl
theorem P0m {k:Nat}(hk:k≤32)(w:Int):w*2 ^ k % 4294967296=(w % 2 ^ (32 - k))*2 ^ k:=by
 rw [m0f hk,Int.mul_comm w,Int.mul_comm (2 ^ (32 - k)),Int.mul_emod_mul_of_pos _ _ (Int.pow_pos (by decide)),Int.mul_comm]
theorem V0p {k:Nat}(hk:k≤32)(w:Int){c:Int}(h0:0≤c)(h1:c<2 ^ k):(w*2 ^ k+c) / 4294967296=w / 2 ^ (32 - k):=by
 rw [m0f hk,Int.mul_comm (2 ^ (32 - k)),← Int.ediv_ediv_of_nonneg (E1 (Int.pow_pos (by decide)))]
 rw [Int.add_comm,Int.add_mul_ediv_right _ _ (by have:(0:Int)<2 ^ k:=Int.pow_pos (by decide); omega),Int.ediv_eq_zero_of_lt h0 h1,Int.zero_add]
theorem j1p {k:Nat}(hk:k≤32)(w:Int){c:Int}(h0:0≤c)(h1:c<2 ^ k):(w*2 ^ k+c) % 4294967296=c+(w % 2 ^ (32 - k))*2 ^ k∧c+(w % 2 ^ (32 - k))*2 ^ k<4294967296∧0≤(w % 2 ^ (32 - k))∧(w % 2 ^ (32 - k))*2 ^ k<4294967296:=by
 have hp:(0:Int)<2 ^ k:=Int.pow_pos (by decide)
 have hp2:(0:Int)<2 ^ (32 - k):=Int.pow_pos (by decide)
 have hm:=P0m hk w
 have h2:=Int.emod_lt_of_pos w hp2
 have h3:=Int.emod_nonneg w (show (2:Int) ^ (32 - k)≠0 by omega)
 have h4:(w % 2 ^ (32 - k)+1)*2 ^ k≤2 ^ (32 - k)*2 ^ k:=Z0 (by omega) (E1 hp)
 rw [Int.add_mul,Int.one_mul,← m0f hk] at h4
 have h5:0≤w % 2 ^ (32 - k)*2 ^ k:=Int.mul_nonneg h3 (E1 hp)
 refine ⟨?_,by omega,h3,by omega⟩
 rw [Int.add_emod,hm,Int.emod_eq_of_lt h0 (by omega),Int.emod_eq_of_lt (by omega) (by omega)]
 omega
theorem Q1z {k:Nat}(hk:k≤32){m:Int}:IntKind.u32.wrap (m*2 ^ (min ((k:Int)).toNat IntKind.u32.bits))=(m % 2 ^ (32 - k))*2 ^ k:=by
 rw [m8,Int.toNat_natCast,show min k IntKind.u32.bits=k from G1 hk,P0m hk]
theorem d1y {k:Nat}(hk:k≤64){m:Int}:m.fdiv (2 ^ (min ((k:Int)).toNat IntKind.u64.bits))=m / 2 ^ k:=by
 rw [Int.toNat_natCast,show min k IntKind.u64.bits=k from G1 hk,Int.fdiv_eq_ediv_of_nonneg _ (E1 (Int.pow_pos (by decide)))]
end Go.Proofs.YtjagfionflbjbaaGreat.NumA
namespace Go.Proofs.YtjagfionflbjbaaGreat.NumA
open Go
open Go Go.Proofs.YtjagfionflbjbaaGreat.SH
theorem V1b {k:Nat}(hk:k<32){m:Int}:m.fdiv (2 ^ (min ((32:Int) - (k:Int)).toNat IntKind.u64.bits))=m / 2 ^ (32 - k):=by
 have:((32:Int) - (k:Int)).toNat=32 - k:=by omega
 rw [this,show min (32 - k) IntKind.u64.bits=32 - k from G1 (by show 32 - k≤64; omega),Int.fdiv_eq_ediv_of_nonneg _ (E1 (Int.pow_pos (by decide)))]
theorem F0k {ys:List Int}{c d q:Int}{i n:Nat}(hl:ys.length=i)(hi:i<n):((ys++c :: List.replicate (n - i) 0).set i d).set (i+1) q=(ys++[d])++q :: List.replicate (n - (i+1)) 0:=by
 subst hl
 rw [List.set_append_right _ _ (Nat.le_refl _),Nat.sub_self,List.set_cons_zero,List.set_append_right _ _ (Nat.le_succ _),show ys.length.succ - ys.length=1 by omega,List.set_cons_succ,show n - ys.length=(n - (ys.length+1))+1 by omega,List.replicate_succ,List.set_cons_zero,List.append_assoc]
 rfl
end Go.Proofs.YtjagfionflbjbaaGreat.NumA
namespace Go.Proofs.YtjagfionflbjbaaGreat.NumA
open Go
theorem N0h {k:Nat}(hk:k≤32):(2:Int) ^ k≤4294967296:=by
 have h2:((2 ^ k:Nat):Int)≤((2 ^ 32:Nat):Int):=Int.ofNat_le.2 (Nat.pow_le_pow_right (by decide) hk)
 rw [Int.natCast_pow] at h2
 exact h2
end Go.Proofs.YtjagfionflbjbaaGreat.NumA
namespace Go.Proofs.YtjagfionflbjbaaGreat.NumA
open Go
end Go.Proofs.YtjagfionflbjbaaGreat.NumA
namespace Go.Proofs.YtjagfionflbjbaaGreat.NumA
open Go
end Go.Proofs.YtjagfionflbjbaaGreat.NumA
namespace Go.Proofs.YtjagfionflbjbaaGreat.NumA
open Go
theorem J0y {w0 w1 V2:Int}{s:Nat}(hs:s≤32)(h0:0≤w0∧w0<4294967296)(h1:0≤w1)(h2:0≤V2) :
  (w0+w1*4294967296) / 2 ^ s % 4294967296=(w0+4294967296*(w1+4294967296*V2)) / 2 ^ s % 4294967296∧(w0+4294967296*(w1+4294967296*V2)) / 2 ^ s / 4294967296=(w1+4294967296*V2) / 2 ^ s:=by
 have hp:(0:Int)<2 ^ s:=Int.pow_pos (by decide)
 have e:=m0f hs
 constructor
 ·have : w0 + 4294967296 * (w1 + 4294967296 * V2) = (w0 + w1 * 4294967296) + 2 ^ s * (2 ^ (32 - s) * (4294967296 * V2)) := by
   have e2:(2:Int) ^ s*(2 ^ (32 - s)*(4294967296*V2))=4294967296*(4294967296*V2):=by
    rw [← Int.mul_assoc,Int.mul_comm (2 ^ s),← e]
   rw [e2]; omega
  rw [this,Int.add_mul_ediv_left _ _ (by omega),show (2:Int) ^ (32 - s)*(4294967296*V2)=4294967296*(2 ^ (32 - s)*V2) by grind,Int.add_mul_emod_self_left]
 ·rw [Int.ediv_ediv_of_nonneg (by omega),Int.mul_comm (2 ^ s),← Int.ediv_ediv_of_nonneg (by decide),show (w0+4294967296*(w1+4294967296*V2)) / 4294967296=w1+4294967296*V2 by omega]
theorem G0c (ws:List Int)(i:Nat):val (ws.drop i)=ws.getD i 0+4294967296*val (ws.drop (i+1)):=by
 by_cases h:i<ws.length
 ·rw [f7 h,val]
 ·rw [List.drop_of_length_le (by omega),List.drop_of_length_le (by omega),F9 (by omega)]; rfl
theorem P0r {ws ys:List Int}{s i:Nat}(h:Wd ws)(hs:s≤32)(hl:ys.length=i)(hv:val ys+4294967296 ^ i*(val (ws.drop i) / 2 ^ s)=val ws / 2 ^ s) :
  val (ys++[(ws.getD i 0+ws.getD (i+1) 0*4294967296) / 2 ^ s % 4294967296])+4294967296 ^ (i+1)*(val (ws.drop (i+1)) / 2 ^ s)=val ws / 2 ^ s:=by
 have h1:=G0c ws i
 have h2:=G0c ws (i+1)
 have hd:=J0y (V2:=val (ws.drop (i+1+1))) hs (h.getD i) (h.getD (i+1)).1 (F2 (h.drop _))
 rw [← h2,← h1] at hd
 rw [g8,hl,hd.1,Int.pow_succ,← hd.2,← hv]
 have e:val (ws.drop i) / 2 ^ s % 4294967296+4294967296*(val (ws.drop i) / 2 ^ s / 4294967296)=val (ws.drop i) / 2 ^ s:=by omega
 generalize val (ws.drop i) / 2 ^ s=M at *
 generalize M % 4294967296=a at *
 generalize M / 4294967296=b at *
 rw [← e]
 grind
end Go.Proofs.YtjagfionflbjbaaGreat.NumA
namespace Go.Proofs.YtjagfionflbjbaaGreat.NumA
open Go
structure B0s (ws:List Int) (s:Nat) (x:Nat×List Int):Prop where
 le:x.1≤ws.length
 len:x.2.length=x.1
 wd:Wd x.2
 eq:val x.2+4294967296 ^ x.1*(val (ws.drop x.1) / 2 ^ s)=val ws / 2 ^ s
theorem B0s.zero (ws:List Int)(s:Nat):B0s ws s (0,[]):=⟨Nat.zero_le _,rfl,Wd.nil,by simp [val]⟩
theorem B0s.next {ws ys:List Int}{s i:Nat}(h:Wd ws)(hs:s≤32)(ha:B0s ws s (i,ys))(hi:i<ws.length):B0s ws s (i+1,ys++[(ws.getD i 0+ws.getD (i+1) 0*4294967296) / 2 ^ s % 4294967296]) :=
 ⟨hi,by simp [ha.len],ha.wd.snoc (by omega) (by omega),P0r h hs ha.len ha.eq⟩
theorem B0s.end_ {ws ys:List Int}{s:Nat}(ha:B0s ws s (ws.length,ys)):val ys=val ws / 2 ^ s:=by
 have:=ha.eq
 simp only [List.drop_length] at this
 rw [← this]; simp [val]
theorem d1r {a:Int}{s:Nat}(h0:0≤a)(h1:a<18446744073709551616):0≤a / 2 ^ s∧a / 2 ^ s<18446744073709551616:=by
 have hp:(0:Int)<2 ^ s:=Int.pow_pos (by decide)
 exact ⟨Int.ediv_nonneg h0 (by omega),by have:=Int.ediv_le_self (2 ^ s) h0; omega⟩
end Go.Proofs.YtjagfionflbjbaaGreat.NumA
namespace Go.Proofs.YtjagfionflbjbaaGreat.NumA
open Go
open Go Go.Proofs.YtjagfionflbjbaaGreat.SH
theorem Q0c {m n r:Int}(h:m / n=r)(h0:0≤m:=by omega)(hr : -9223372036854775808≤r∧r<9223372036854775808:=by omega):IntKind.i64.wrap (m.tdiv n)=r:=by
 rw [Int.tdiv_eq_ediv_of_nonneg h0,h]; exact w64 hr.1 hr.2
theorem Y0z (q n:Nat):List.replicate (q+n+1) (0:Int)=List.replicate q 0++([]++0 :: List.replicate (n - 0) 0):=by
 rw [List.nil_append,Nat.sub_zero,← List.replicate_succ,List.replicate_append_replicate,Nat.add_assoc]
end Go.Proofs.YtjagfionflbjbaaGreat.NumA
namespace Go.Proofs.YtjagfionflbjbaaGreat.NumA
open Go
open Go Go.Proofs.YtjagfionflbjbaaGreat.SH
theorem P1h {s:Nat}(hs:s<32){w:Int}(hw:0≤w∧w<4294967296):0≤w*2 ^ s∧w*2 ^ s<18446744073709551616:=by
 have hp:(0:Int)<2 ^ s:=Int.pow_pos (by decide)
 have h2:=N0h (Nat.le_of_lt hs)
 refine ⟨Int.mul_nonneg hw.1 (E1 hp),?_⟩
 have h3:w*2 ^ s≤4294967295*2 ^ s:=Z0 (by omega) (E1 hp)
 omega
theorem Q1r {s:Nat}(hs:s≤64){m:Int}(hb:0≤m*2 ^ s∧m*2 ^ s<18446744073709551616):IntKind.u64.wrap (m*2 ^ (min ((s:Int)).toNat IntKind.u64.bits))=m*2 ^ s:=by
 rw [Int.toNat_natCast,show min s IntKind.u64.bits=s from G1 hs,G0v,Int.emod_eq_of_lt hb.1 hb.2]
theorem q1b {q i n:Nat}{ys:List Int}{c:Int}(hl:ys.length=i):(List.replicate q 0++(ys++c :: List.replicate n 0)).getD (i+q) 0=c:=by
 rw [f0,D0 (by simp),List.length_replicate,Nat.add_sub_cancel,D0 (by omega),hl,Nat.sub_self]; rfl
theorem W0g {ys:List Int}{c d x:Int}{q i n:Nat}(hl:ys.length=i)(hi:i<n):((List.replicate q 0++(ys++c :: List.replicate (n - i) 0)).set (i+q) d).set (i+q+1) x=List.replicate q 0++((ys++[d])++x :: List.replicate (n - (i+1)) 0):=by
 rw [List.set_append_right _ _ (by simp),List.length_replicate,Nat.add_sub_cancel,List.set_append_right _ _ (by simp; omega),List.length_replicate,show i+q+1 - q=i+1 by omega,F0k hl hi]
end Go.Proofs.YtjagfionflbjbaaGreat.NumA
namespace Go.Proofs.YtjagfionflbjbaaGreat.NumA
open Go
theorem p1r {ws:List Int}{s q k:Nat}{ys X:List Int}{c:Int}(ha:n8 ws s (ws.length,ys,c))(hs:s≤32)(hX:X=List.replicate q 0++(ys++[c]))(hk:k=32*q+s):trim X=y3 (val ws*2 ^ k).toNat∧(y3 (val ws*2 ^ k).toNat).length=E6 X X.length:=by
 obtain ⟨e1,e2⟩:=ha.end_ hs
 have hl:=ha.len
 have heq:=ha.eq
 simp only at hl heq
 have hwd:Wd X:=by rw [hX]; exact (Wd.rep q).append e2
 have hv:val X=val ws*2 ^ k:=by
  rw [hX,Z6,q0n,List.length_replicate,Int.zero_add,g8,hl]
  rw [I0] at heq
  rw [heq,hk,Int.pow_add,Int.pow_mul]
  have:(2:Int) ^ 32=4294967296:=by rfl
  rw [this]
  grind
 have ht:=f6 hwd
 rw [hv] at ht
 exact ⟨ht,by rw [← ht,v9]⟩
end Go.Proofs.YtjagfionflbjbaaGreat.NumA
set_option maxRecDepth 100000
set_option maxHeartbeats 4000000
namespace Go.Proofs.YtjagfionflbjbaaGreat.N
open Go Go.Proofs.YtjagfionflbjbaaGreat.SH Go.Proofs.YtjagfionflbjbaaGreat.NumA
noncomputable abbrev E:Env:={ P:=Tryz.prog,G:=fun _=>True,ng:=0,stab:=fun _ _ _ _=>trivial }
theorem Y5 {w:World}(_:E.G w):E.ng≤w.heap.size:=Nat.zero_le _
theorem pro {F:Fr}{n:Nat}(h:F.nt=n)(h0:∀ b,¬ F.X b)(hG:E.G F.w0):(∀ {d},(k:Nat.blt d n=true:=by rfl)→d<F.nt)∧(∀ b,F.X b→E.ng≤b)∧E.ng≤F.w0.heap.size:=⟨fun {_} k=>ltn h _ k,fun b h=>absurd h (h0 b),Y5 hG⟩
theorem s64:∀ (u v c:Nat)(w:World),c≤1→(callFunc 170 #[.int .u64 u,.int .u64 v,.int .u64 c]).run Tryz.prog w = .ok (.value (.tuple #[.int .u64 (((u+18446744073709551616 - v - c) % 18446744073709551616:Nat):Int),.int .u64 ((if u<v+c then 1 else 0:Nat):Int)])) w :=
 p1z Tryz.func170 rF rF rF rF (fun _ _ _=>rfl) (fun _ _ _=>rfl)
def J4 (ws:List Int):List L2:=ws.map fun n=>.a (.int .u32 n)
@[reducible] def pW (ws:List Int):L2:=.sl ws.length (J4 ws)
@[reducible] def pI (neg:Bool)(ws:List Int):L2:=.agg [.a (.bool neg),.sl ws.length (J4 ws)]
@[reducible] def pZ (n:Int):L2:=pI (decide (n<0)) (y3 n.natAbs)
@[reducible] def vZ (n:Int):L2:=.a (.int .i64 n)
@[reducible] def uZ (n:Int):L2:=.a (.int .u64 n)
@[reducible] def oZ (n:Int):L2:=.a (.int .u32 n)
@[reducible] def bZ (b:Bool):L2:=.a (.bool b)
@[simp] theorem k0b (ws:List Int):(J4 ws).length=ws.length:=by simp [J4]
theorem b6 {ws:List Int}{i:Nat}(h:i<ws.length):(J4 ws)[i]? = some (.a (.int .u32 (ws.getD i 0))):=by
 simp [J4,h,f0]
theorem m5 (ws:List Int)(i:Nat)(v:Int):(J4 ws).set i (.a (.int .u32 v))=J4 (ws.set i v):=by simp [J4,List.map_set]
theorem q0p (ws:List Int)(v:Int):J4 ws++[.a (.int .u32 v)]=J4 (ws++[v]):=by simp [J4]
theorem k0y (ws:List Int)(n:Nat):(J4 ws).take n=J4 (ws.take n):=by simp [J4]
theorem b0q (n:Nat):List.replicate n (.a (.int .u32 0))=J4 (List.replicate n 0):=by simp [J4]
theorem C7 {p q:Prop}[Decidable p][Decidable q](h:p↔q):decide p=decide q:=by simp [h]
theorem M0c {a b:Int}(h:a=b):[vZ a]=[vZ b]:=by rw [h]
theorem dt {p:Prop}[Decidable p](h:decide p=true):p:=of_decide_eq_true h
theorem df {p:Prop}[Decidable p](h:decide p=false):¬ p:=of_decide_eq_false h
theorem ndt {p:Prop}[Decidable p](h:(!decide p)=true):¬ p:=by simpa using h
theorem ndf {p:Prop}[Decidable p](h:(!decide p)=false):p:=by simpa using h
def p0w (neg:Bool)(ws:List Int):L2:=if trim ws=[] then pI false [] else pI neg (trim ws)
theorem U8:pZ 0=pI false []:=by simp [pZ,U4]
theorem b1p {neg:Bool}{ws:List Int}(h:Wd ws):p0w neg ws=pZ (sg neg (val ws)):=by
 have hv:=F2 h
 unfold p0w
 rw [f6 h]
 split
 ·rename_i e
  rw [k0j] at e
  have:val ws=0:=by omega
  rw [this]; cases neg <;> simp [sg,pZ,U4]
 ·rename_i e
  rw [k0j] at e
  cases neg with
  | false =>
   have e1:decide (sg false (val ws)<0)=false:=by simp [sg]; omega
   have e2:(sg false (val ws)).natAbs=(val ws).toNat:=by simp [sg]; omega
   rw [pZ,e1,e2]
  | true =>
   have e1:decide (sg true (val ws)<0)=true:=by simp [sg]; omega
   have e2:(sg true (val ws)).natAbs=(val ws).toNat:=by simp [sg]; omega
   rw [pZ,e1,e2]
def q1v (l:List (Bool×List Int)):List L2:=l.flatMap fun p=>[.a (.bool p.1),.sl p.2.length (J4 p.2)]
theorem W0x (l:List (Bool×List Int)):(q1v l).length=l.length*2:=by
 induction l with
 | nil=>rfl
 | cons p l ih=>simp only [q1v,List.flatMap_cons,K1,D1,List.length_nil] at ih ⊢; omega
theorem Y1x:∀ {l:List (Bool×List Int)}{i:Nat},i<l.length→((q1v l).drop (i*2)).take 2=[.a (.bool (l.getD i (false,[])).1),.sl (l.getD i (false,[])).2.length (J4 (l.getD i (false,[])).2)]
 | [],i,h=>by simp at h
 | p :: l,0,_=>by simp [q1v]
 | p :: l,i+1,h=>by
  have:=Y1x (l:=l) (i:=i) (by simpa using h)
  rw [show (i+1)*2=i*2+2 by omega]
  simpa [q1v] using this
end Go.Proofs.YtjagfionflbjbaaGreat.N
namespace Go.Proofs.YtjagfionflbjbaaGreat.N
open Go Go.Proofs.YtjagfionflbjbaaGreat.SH Go.Proofs.YtjagfionflbjbaaGreat.NumA
end Go.Proofs.YtjagfionflbjbaaGreat.N
set_option maxRecDepth 100000
set_option maxHeartbeats 4000000
namespace Go.Proofs.YtjagfionflbjbaaGreat.N
open Go Go.Proofs.YtjagfionflbjbaaGreat.SH Go.Proofs.YtjagfionflbjbaaGreat.NumA
open Go.Proofs.Tryz renaming call101→cl101,call118→cl118,call119→cl119,call122→cl122,call123→cl123,call129→cl129,call130→cl130,call131→cl131,call138→cl138,call139→cl139,call141→cl141,call142→cl142,call143→cl143,call144→cl144,call145→cl145,call147→cl147,call153→cl153,call162→cl162,call163→cl163,call164→cl164,call169→cl169,call171→cl171,call172→cl172,call173→cl173,call174→cl174,call175→cl175,call77→cl77,isAgg119→ag119,isAgg43→ag43,isAgg45→ag45,isAgg4→ag4,sizeOf119→sz119,sizeOf43→sz43,sizeOf45→sz45,sizeOf4→sz4,typeInfo119→ti119,typeInfo45→ti45,underlying119→un119,underlying127→un127,underlying139→un139,underlying2→un2,underlying3→un3,underlying43→un43,underlying45→un45,underlying4→un4,underlying5→un5,underlying9→un9,zeroValue119→zv119,zeroValue45→zv45
theorem W9 (neg:Bool)(ws:List Int)(hl:ws.length<10000000000000):v3 E 130 [pI neg ws] (bZ (P2 neg ws)):=by
 refine D2 (xs:=[bZ (P2 neg ws)]) Tryz.func130 rfl Tryz.ntmps130 Tryz.results130 sM fun F hG hX0 hnt hdf P0=>?_
 obtain ⟨L,hX,hN⟩:=pro hnt hX0 hG
 refine exr (swb (U3 (k:=1) (n:=2) pa2 rfl rfl (P0 _ rfl) L) t1 t0 ⟨rfl,rfl⟩ (aV L rfl (zn [(1,_)] [(1,_)] t1 t1 (exr (sw (i2 un45 rfl sz43 dC rX L) t1 t1 ?_)))))
 refine sw (Y1 ag43 rF rF L) t1 t1 ?_
 refine sw (R2 un43 L) t1 t0 (aV L rfl (zn [(1,_),(3,_)] [(1,_)] t2 t1 (R1 (exr (mV L rfl (sw (c_e L) t2 t0 (zn [(1,_),(3,_),(8,_)] [(1,_)] t3 t1 ?_)))))))
 refine j2 rfl (fun h0=>?_) (fun h0=>?_)
 ·refine exr (sw (i2 un45 rfl sz4 dC rX L) t1 t1 ?_)
  refine sw (Y1 ag4 rF rF L) t1 t1 ?_
  refine sw (C4 L) t1 t0 (aV L rfl (zn [(2,_)] [] t1 trivial (X1 ?_)))
  refine Q0 (.tmp rfl) ?_
  have h0:=dt h0; have h1:ws.length=0:=by omega
  simp only [P2,h1,if_true]
 ·have h0:=df h0
  refine U1 (xq ?_)
  refine exr (sw (i2 un45 rfl sz43 dC rX L) t1 t1 ?_)
  refine sw (Y1 ag43 rF rF L) t1 t1 ?_
  refine mV L rfl (sw (n6 L (w64 oM oM)) t2 t0 (sw (ixJ un43 sz119 (j:=ws.length - 1) rO oM sM L) t2 t0 ?_))
  refine sw (d4 ag119 (by first | exact b6 oM | rfl) L) t1 t0 ?_
  refine sw (c_n L) t2 t0 (aV L rfl (zn [(2,_)] [] t1 trivial (X1 ?_)))
  refine Q0 (.tmp rfl) ?_
  have h1:ws.length≠0:=by omega
  simp only [P2,h1,if_false]
theorem h1g (neg:Bool)(ws:List Int)(hl:ws.length<10000000000000):v3 E 131 [.a (.bool neg),pW ws] (p0w neg ws):=by
 refine D2 (xs:=[p0w neg ws]) Tryz.func131 rfl Tryz.ntmps131 Tryz.results131 sM fun F hG hX0 hnt hdf P0=>?_
 obtain ⟨L,hX,hN⟩:=pro hnt hX0 hG
 refine exr (swb (R3 (k:=4) (n:=2) zv45 (.cons rfl (.cons rfl .nil)) rfl (P0 _ rfl) L) t0 t0 ⟨rfl,rfl⟩ (zn [(0,_),(1,_),(4,_)] [(4,_)] t3 t1 (exr (mV L rfl (sw (R2 un43 L) t1 t0 (aV L rfl (zn [(0,_),(1,_),(4,_),(5,_)] [(4,_)] t4 t1 (R1 (V1 ?_)))))))))
 refine exl (α:=Nat) (fun n=>[(5,vi (n:Int))]) (fun n=>[]) (fun n=>n≤ws.length∧E6 ws n=E6 ws ws.length) (fun n=>n) (ws.length) (sl:=[(0,_),(1,_),(4,_)]) (hb:=[(4,_)]) ?_ ⟨oR,rfl,rfl,rfl,trivial⟩ t1 ?_
 ·exact ⟨Nat.le_refl _,rfl⟩
 intro n hn
 refine R1 ?_
 refine exm (sl:=[(18,vb (decide (0<n∧ws.getD (n - 1) 0=0)))]) (sl0:=[(0,_),(1,_),(4,_),(5,_)]) (hb:=[]) (hb0:=[(4,_)]) t4 t1 ?_ ?_
 ·by_cases h:n=0
  ·refine mV L rfl (sw (i7 L) t2 t0 (mV L rfl (swn (g:=11) rfl (by simp [h]) L rfl ?_)))
   refine swn (g:=11) rfl (by simp [h]) L rfl ?_
   refine swn (g:=11) rfl (by simp [h]) L rfl ?_
   refine swn (g:=11) rfl (by simp [h]) L rfl ?_
   refine swn (g:=11) rfl (by simp [h]) L rfl ?_
   refine swn (g:=11) rfl (by simp [h]) L rfl ?_
   refine sw (y4 (by simp [h]) L) t2 t0 ?_
   exact O1 ⟨⟨ob rfl (by simp [h]),rfl,rfl,rfl,rfl,trivial⟩,t1⟩
  ·refine mV L rfl (sw (i7 L) t2 t0 (mV L rfl (gV (g:=11) rfl sO L rfl rfl (gV (g:=11) rfl sO L rfl rfl (swg (g:=11) rfl sO (n6 L (w64 oM oM)) rfl t2 t0 (swg (g:=11) rfl sO (ixJ un43 sz119 (j:=n - 1) rO oM sM L) rfl t2 t0 ?_))))))
   refine swg (g:=11) rfl sO (d4 ag119 (by first | exact b6 oM | rfl) L) rfl t1 t0 ?_
   refine swg (g:=11) rfl sO (c_e L) rfl t2 t0 (sw (O4 sO L) t2 t0 ?_)
   exact O1 ⟨⟨ob rfl sO,rfl,rfl,rfl,rfl,trivial⟩,t1⟩
 refine j2 rfl (fun hc=>?_) (fun hc=>?_)
 ·have hc:=dt hc
  refine U1 (xq ?_)
  refine V1 (j3 (mV L rfl (sw (n6 L (w64 oM oM)) t2 t0 (aV L rfl (O1 ?_)))))
  exact ⟨n - 1,⟨by omega,by rw [← hn.2]; conv=>rhs; rw [show n=(n - 1)+1 by omega]; simp only [E6,hc.2,if_true]⟩,by omega,l3 ⟨oR,rfl,rfl,rfl,trivial⟩ t1⟩
 ·have hc:=df hc
  have e:E6 ws ws.length=n:=by
   rw [← hn.2]
   cases n with
   | zero=>rfl
   | succ n=>simp only [E6]; rw [if_neg]; intro h; exact hc ⟨by omega,by simpa using h⟩
  have e1:trim ws=ws.take n:=by rw [trim,e]
  refine G2 (xq ?_)
  refine R1 (exr (mV L rfl (sw (c_e L) t2 t0 (zn [(0,_),(1,_),(4,_),(5,_),(22,_)] [(4,_)] t5 t1 ?_))))
  refine j2 rfl (fun h0=>?_) (fun h0=>?_)
  ·have h0:=dt h0
   refine exr (sw (b0d (G7 (vs:=[]) un45 zv45 (.cons rfl (.cons rfl .nil)) ((J2.cons sz4 (J2.cons sz43 J2.nil))).to rfl .nil (.cons (.cons .nil)) L) (.agg (.cons .same (.cons .nil .nil)))) t0 t0 (sb (U2 sz45 rF pa2 rfl pu2) t2 t1 ?_))
   refine zn [(4,_)] [(4,_)] t1 t1 (X1 ?_)
   refine Q0 (.agg rfl rfl rfl ag45 sz45 (.cons (.cons .nil))) ?_
   have h1:n=0:=by omega
   simp [p0w,e1,h1,J4]
  ·have h0:=df h0
   refine U1 (xq ?_)
   refine exr (mV L rfl (swb (v0a (k:=25) un43 ti119 rfl rfl rfl rfl rfl rfl (Nat.le_refl _) (by simp [Tryz.t119]; omega) oM (P0 _ rfl) L) t2 t0 ⟨rfl,rfl⟩ ?_))
   refine aV L rfl (zn [(0,_),(1,_),(4,_),(6,_)] [(4,_),(25,_)] t4 t2 (exr (mV L rfl (mV L rfl (swb (b2s un43 ti119 (by exact List.length_replicate) rfl sM L) t2 t1 t0 ?_)))))
   refine zn [(0,_),(4,_),(6,_)] [(4,_),(25,_)] t3 t2 (exr (mV L rfl (mV L rfl (sw (k0f (vs:=[_,_]) un45 zv45 (.cons rfl (.cons rfl .nil)) ((J2.cons sz4 (J2.cons sz43 J2.nil))).to rfl (.cons rfl (.atom rfl) rfl pu1 (.cons rfl .ref rfl (.skip pu1) .nil)) L) t2 t0 (sb (U2 sz45 rF .agg rfl pu2) t2 t1 ?_)))))
   refine zn [(4,_)] [(4,_),(25,_)] t1 t2 (s4 [25] (sl:=[(4,_)]) (hb:=[(4,_)]) (F3 hX0) ⟨⟨_,rfl,.same⟩,trivial⟩ ⟨⟨rfl,_,rfl,(.mix (.cons .same (.cons (.ref rfl rfl (by exact (by first | (simp; done) | (simp; omega))) (by first | rfl | omega)) .nil)))⟩,trivial⟩ ?_)
   refine X1 ?_
   refine Q0 (.agg rfl rfl rfl ag45 sz45 (.cons (.cons .nil))) ?_
   have h2:¬ ws.take n=[]:=by intro h; have:=congrArg List.length h; rw [J0] at this; simp only [List.length_nil] at this; omega
   simp [p0w,e1,h2,J4,G1 hn.1]
   omega
theorem B7 (neg:Bool)(ws:List Int)(hl:ws.length<10000000000000)(h:Wd ws):v3 E 131 [.a (.bool neg),pW ws] (pZ (sg neg (val ws))):=by
 rw [← b1p h]; exact h1g neg ws hl
theorem f0m (l:List (Bool×List Int))(hl:l.length<1000000)(hw:∀ p∈l,p.2.length<10000000000000):v3 E 138 [.sl l.length (q1v l)] (bZ (l.all fun p=>P2 p.1 p.2)):=by
 refine D2 (xs:=[bZ (l.all fun p=>P2 p.1 p.2)]) Tryz.func138 rfl Tryz.ntmps138 Tryz.results138 sM fun F hG hX0 hnt hdf P0=>?_
 obtain ⟨L,hX,hN⟩:=pro hnt hX0 hG
 refine exr (aV L rfl (zn [(0,_)] [] t1 trivial (R1 (exr (mV L rfl (sw (R2 un139 L) t1 t0 (mV L rfl (zn [(5,_),(6,_),(7,_)] [] t3 trivial (V1 ?_)))))))))
 refine exl (α:=Nat) (fun i=>[(7,vi (i:Int))]) (fun i=>[]) (fun i=>i≤l.length∧(l.take i).all (fun p=>P2 p.1 p.2)=true) (fun i=>l.length - i) (0) (sl:=[(5,_),(6,_)]) (hb:=[]) ?_ ⟨oR,rfl,rfl,trivial⟩ t0 ?_
 ·exact ⟨Nat.zero_le _,rfl⟩
 intro i hi
 refine exr (sw (P3 L) t2 t0 (zn [(5,_),(6,_),(7,_),(8,_)] [] t4 trivial (R1 ?_)))
 refine j2 rfl (fun hc=>?_) (fun hc=>?_)
 ·have hc:=dt hc
  have hi2:i<l.length:=by omega
  have e:l.getD i (false,[])=l[i]:=by simp [f0,hi2]
  refine U1 (xq ?_)
  refine R1 (V1 (exr (sw (Z1 un139 sz45 oM oM (W0x l) dC L) t2 t0 (sw (L6 ag45 sz45 (Y1x hi2) rfl L) t1 t0 (swb (R3 (k:=4) (n:=2) zv45 (.cons rfl (.cons rfl .nil)) rfl (P0 _ rfl) L) t0 t0 ⟨rfl,rfl⟩ (sb (U2 sz45 rF pa2 rfl pu2) t2 t1 ?_))))))
  refine zn [(4,_),(5,_),(6,_),(7,_)] [(4,_)] t4 t1 (exr (lp2 ag45 sz45 L rfl rfl (cK hG hX cl130 hN (W9 (l.getD i (false,[])).1 (l.getD i (false,[])).2 (hw _ (by rw [e]; exact List.getElem_mem hi2))) L t1 ?_)))
  refine sw (C4 L) t1 t0 (zn [(5,_),(6,_),(7,_),(13,_)] [] t4 trivial ?_)
  refine j2 rfl (fun hb=>?_) (fun hb=>?_)
  ·refine exr (aV L rfl (zn [(2,_)] [] t1 trivial (X1 ?_)))
   refine Q0 (.tmp rfl) ?_
   have hb:P2 l[i].1 l[i].2=false:=by rw [← e]; simpa using hb
   congr 3
   rw [eq_comm,List.all_eq_false]
   exact ⟨l[i],List.getElem_mem hi2,by simp [hb]⟩
  ·have hb:P2 l[i].1 l[i].2=true:=by rw [← e]; simpa using hb
   refine U1 (xq ?_)
   refine j3 (sw (B3 L (w64 oM oM)) t2 t0 (mV L rfl (O1 ?_)))
   exact ⟨i+1,⟨by omega,J0x hi2 hi.2 hb⟩,by omega,l3 ⟨oR,rfl,rfl,trivial⟩ trivial⟩
 ·have hc:=df hc
  refine G2 (xq ?_)
  refine exr (aV L rfl (zn [(2,_)] [] t1 trivial (X1 ?_)))
  refine Q0 (.tmp rfl) ?_
  have e:l.take i=l:=C0 oM
  have:=hi.2; rw [e] at this; rw [this]
theorem U9 (neg:Bool)(n:Int)(h0:0≤n)(h1:n<18446744073709551616):v3 E 129 [.a (.bool neg),uZ n] (pZ (sg neg n)):=by
 refine D2 (xs:=[pZ (sg neg n)]) Tryz.func129 rfl Tryz.ntmps129 Tryz.results129 sM fun F hG hX0 hnt hdf P0=>?_
 obtain ⟨L,hX,hN⟩:=pro hnt hX0 hG
 refine exr (swb (R3 (k:=4) (n:=2) zv45 (.cons rfl (.cons rfl .nil)) rfl (P0 _ rfl) L) t0 t0 ⟨rfl,rfl⟩ (zn [(0,_),(1,_),(4,_)] [(4,_)] t3 t1 (exr (mV L rfl (mV L rfl (sw (D4 un127 un119 L m8) t1 t0 (mV L rfl (sw (I9 L dC (f0d (c:=4294967296) rF dC)) t2 t0 ?_))))))))
 refine sw (D4 un127 un119 L m8) t1 t0 (sw (q4 (vs:=[_,_]) un43 ti119 rfl rfl dC dC rfl (K2 (.cons rfl .nil) rfl) rfl (.cons rfl (.atom rfl) rfl pu1 (.cons rfl (.atom rfl) rfl (.skip pu1) .nil)) (.cons (.cons .nil)) L) t2 t0 (cK hG hX cl131 hN (B7 neg [n % 4294967296,n / 4294967296 % 4294967296] sM (by simp [Wd]; omega)) L t2 ?_))
 refine sb (U2 sz45 rF pa2 rfl pu2) t2 t1 ?_
 refine zn [(4,_)] [(4,_)] t1 t1 (X1 ?_)
 refine Q0 (.agg rfl rfl rfl ag45 sz45 (.cons (.cons .nil))) ?_
 have:val [n % 4294967296,n / 4294967296 % 4294967296]=n:=by simp only [val]; omega
 rw [this]
theorem P0w (n:Int)(h0 : -9223372036854775808≤n)(h1:n<9223372036854775808):v3 E 101 [vZ n] (pZ n):=by
 refine D2 (xs:=[pZ n]) Tryz.func101 rfl Tryz.ntmps101 Tryz.results101 sM fun F hG hX0 hnt hdf P0=>?_
 obtain ⟨L,hX,hN⟩:=pro hnt hX0 hG
 refine exr (swb (R3 (k:=2) (n:=2) zv45 (.cons rfl (.cons rfl .nil)) rfl (P0 _ rfl) L) t0 t0 ⟨rfl,rfl⟩ (zn [(0,_),(2,_)] [(2,_)] t2 t1 (R1 (exr (mV L rfl (sw (P3 L) t2 t0 (zn [(0,_),(2,_),(4,_)] [(2,_)] t3 t1 ?_)))))))
 refine j2 rfl (fun hc=>?_) (fun hc=>?_)
 ·have hc:=dt hc
  refine exr (mV L rfl (sw (D4 un3 un127 L G0v) t1 t0 (sw (q1c L (show _ = -n by rw [G0v]; omega)) t1 t0 ?_)))
  refine cK hG hX cl129 hN (U9 true (-n) oM oM) L t2 (sb (U2 sz45 rF pa2 rfl pu2) t2 t1 ?_)
  refine zn [(2,_)] [(2,_)] t1 t1 (X1 ?_)
  refine Q0 (.agg rfl rfl rfl ag45 sz45 (.cons (.cons .nil))) ?_
  simp [sg]
 ·have hc:=df hc
  refine U1 (xq ?_)
  refine exr (mV L rfl (sw (D4 un3 un127 L (I4 oM oM)) t1 t0 (cK hG hX cl129 hN (U9 false n oM oM) L t2 (sb (U2 sz45 rF pa2 rfl pu2) t2 t1 ?_))))
  refine zn [(2,_)] [(2,_)] t1 t1 (X1 ?_)
  refine Q0 (.agg rfl rfl rfl ag45 sz45 (.cons (.cons .nil))) ?_
  simp [sg]
theorem blb (j:Nat)(h:j<256):(((UInt8.ofNat (bl j)).toNat:Nat):Int)=bl j:=by
 have:bl j≤8:=g0h.2 oM
 simp
 omega
theorem c8 {j:Nat}(h:j<256):IntKind.i64.wrap (((UInt8.ofNat (bl j)).toNat:Nat):Int)=bl j:=by
 rw [blb j h]; have:bl j≤8:=g0h.2 (by omega); exact w64 oM oM
theorem bl8 {x:Int}(h:x<256)(h0:0≤x):bl x.toNat≤8:=g0h.2 oM
theorem v0c {x:Int}(k:Nat){c:Int}(hc:c=((2 ^ k:Nat):Int))(h:c≤x):bl x.toNat=k+bl (x / c).toNat:=by
 subst hc
 have:(x / ((2 ^ k:Nat):Int)).toNat=x.toNat / 2 ^ k:=by
  obtain ⟨y,rfl⟩:=Int.eq_ofNat_of_zero_le (show 0≤x by have:=Nat.pow_pos (n:=k) (show 0<2 by decide); omega)
  rw [← Int.natCast_ediv,Int.toNat_natCast,Int.toNat_natCast]
 rw [this,h1w (k:=k) oM]
theorem g1z (x:Int)(h0:0≤x)(h1:x<4294967296):v3 E 169 [.a (.int .u32 x)] (vZ (bl x.toNat)):=by
 refine D2 (xs:=[vZ (bl x.toNat)]) Tryz.func169 rfl Tryz.ntmps169 Tryz.results169 sM fun F hG hX0 hnt hdf P0=>?_
 obtain ⟨L,hX,hN⟩:=pro hnt hX0 hG
 refine exr (aV L rfl (zn [(0,_),(2,_)] [] t2 trivial (R1 (exr (mV L rfl (sw (d0b L) t2 t0 (zn [(0,_),(2,_),(4,_)] [] t3 trivial ?_)))))))
 refine j2 rfl (fun hc=>?_) (fun hc=>?_)
 ·have hc:=dt hc
  refine exr (mV L rfl (sw (I9 L dC (f0d (c:=65536) rF dC)) t2 t0 ?_))
  refine aV L rfl (zn [(0,_)] [] t1 trivial (j3 (aV L rfl (O1 (R1 (exr (mV L rfl (sw (d0b L) t2 t0 (zn [(0,_),(2,_),(8,_)] [] t3 trivial ?_)))))))))
  refine j2 rfl (fun hd=>?_) (fun hd=>?_)
  ·have hd:=dt hd
   have h8:=bl8 (x:=x / 65536 / 256) oM oM
   refine exr (mV L rfl (sw (I9 L dC (f0d (c:=256) rF dC)) t2 t0 ?_))
   refine aV L rfl (zn [(0,_),(2,_)] [] t2 trivial (j3 (mV L rfl (sw (B3 L (w64 oM oM)) t2 t0 (aV L rfl (O1 (exr (mV L rfl (mV L rfl (sw (D4 un119 un5 L (fu8 oM oM)) t1 t0 (sw (K1x un9 oM (m1g (n:=256) (f:=fun j=>UInt8.ofNat (bl j)) dC oM oM) L) t2 t0 ?_)))))))))))
   refine sw (D4 un5 un3 L (c8 (j:=(x / 65536 / 256).toNat) oM)) t1 t0 (sw (B3 L (w64 oM oM)) t2 t0 (aV L rfl (zn [(2,_)] [] t1 trivial (X1 ?_))))
   refine Q0 (.tmp rfl) ?_
   exact M0c (by rw [v0c (x:=x) 16 (c:=65536) rfl oM,v0c (x:=x / 65536) 8 (c:=256) rfl oM]; push_cast; omega)
  ·have hd:=df hd
   have h8:=bl8 (x:=x / 65536) oM oM
   refine U1 (xq ?_)
   refine exr (mV L rfl (mV L rfl (sw (D4 un119 un5 L (fu8 oM oM)) t1 t0 (sw (K1x un9 oM (m1g (n:=256) (f:=fun j=>UInt8.ofNat (bl j)) dC oM oM) L) t2 t0 ?_))))
   refine sw (D4 un5 un3 L (c8 (j:=(x / 65536).toNat) oM)) t1 t0 (sw (B3 L (w64 oM oM)) t2 t0 (aV L rfl (zn [(2,_)] [] t1 trivial (X1 ?_))))
   refine Q0 (.tmp rfl) ?_
   exact M0c (by rw [v0c (x:=x) 16 (c:=65536) rfl oM]; push_cast; rfl)
 ·have hc:=df hc
  refine U1 (xq ?_)
  refine R1 (exr (mV L rfl (sw (d0b L) t2 t0 (zn [(0,_),(2,_),(8,_)] [] t3 trivial ?_))))
  refine j2 rfl (fun hd=>?_) (fun hd=>?_)
  ·have hd:=dt hd
   have h8:=bl8 (x:=x / 256) oM oM
   refine exr (mV L rfl (sw (I9 L dC (f0d (c:=256) rF dC)) t2 t0 ?_))
   refine aV L rfl (zn [(0,_),(2,_)] [] t2 trivial (j3 (mV L rfl (sw (B3 L (w64 oM oM)) t2 t0 (aV L rfl (O1 (exr (mV L rfl (mV L rfl (sw (D4 un119 un5 L (fu8 oM oM)) t1 t0 (sw (K1x un9 oM (m1g (n:=256) (f:=fun j=>UInt8.ofNat (bl j)) dC oM oM) L) t2 t0 ?_)))))))))))
   refine sw (D4 un5 un3 L (c8 (j:=(x / 256).toNat) oM)) t1 t0 (sw (B3 L (w64 oM oM)) t2 t0 (aV L rfl (zn [(2,_)] [] t1 trivial (X1 ?_))))
   refine Q0 (.tmp rfl) ?_
   exact M0c (by rw [v0c (x:=x) 8 (c:=256) rfl oM]; push_cast; omega)
  ·have hd:=df hd
   have h8:=bl8 (x:=x) oM oM
   refine U1 (xq ?_)
   refine exr (mV L rfl (mV L rfl (sw (D4 un119 un5 L (fu8 oM oM)) t1 t0 (sw (K1x un9 oM (m1g (n:=256) (f:=fun j=>UInt8.ofNat (bl j)) dC oM oM) L) t2 t0 ?_))))
   refine sw (D4 un5 un3 L (c8 (j:=x.toNat) oM)) t1 t0 (sw (B3 L (w64 oM oM)) t2 t0 (aV L rfl (zn [(2,_)] [] t1 trivial (X1 ?_))))
   refine Q0 (.tmp rfl) ?_
   exact M0c oM
theorem n1b (neg:Bool)(ws:List Int)(hl:ws.length<10000000000000)(h:Wd ws):v3 E 134 [pI neg ws] (vZ (if P2 neg ws=true then (sg neg (val ws)).sign else 0)):=by
 refine D2 (xs:=[vZ (if P2 neg ws=true then (sg neg (val ws)).sign else 0)]) Tryz.func134 rfl Tryz.ntmps134 Tryz.results134 sM fun F hG hX0 hnt hdf P0=>?_
 obtain ⟨L,hX,hN⟩:=pro hnt hX0 hG
 refine exr (swb (U3 (k:=1) (n:=2) pa2 rfl rfl (P0 _ rfl) L) t1 t0 ⟨rfl,rfl⟩ (aV L rfl (zn [(1,_)] [(1,_)] t1 t1 (R1 (V1 ?_)))))
 refine exm (sl:=[(3,vb (!(P2 neg ws && !decide (ws.length=0))))]) (sl0:=[(1,_)]) (hb:=[]) (hb0:=[(1,_)]) t1 t1 ?_ ?_
 ·by_cases hc:P2 neg ws=true
  ·refine lp2 ag45 sz45 L rfl rfl (cK hG hX cl130 hN (W9 neg ws hl) L t1 (sw (C4 L) t1 t0 (mV L rfl (swg (g:=7) rfl (by simp [hc]) (i2 un45 rfl sz43 dC rX L) rfl t1 t1 ?_))))
   refine swg (g:=7) rfl (by simp [hc]) (Y1 ag43 rF rF L) rfl t1 t1 ?_
   refine swg (g:=7) rfl (by simp [hc]) (R2 un43 L) rfl t1 t0 ?_
   refine swg (g:=7) rfl (by simp [hc]) (c_e L) rfl t2 t0 ?_
   refine sw (y4 (by simp [hc]) L) t2 t0 ?_
   refine aV L rfl ?_
   exact O1 ⟨⟨ob rfl (by simp [hc]),rfl,trivial⟩,t1⟩
  ·refine lp2 ag45 sz45 L rfl rfl (cK hG hX cl130 hN (W9 neg ws hl) L t1 (sw (C4 L) t1 t0 (mV L rfl (swn (g:=7) rfl (by simp [hc]) L rfl ?_))))
   refine swn (g:=7) rfl (by simp [hc]) L rfl ?_
   refine swn (g:=7) rfl (by simp [hc]) L rfl ?_
   refine swn (g:=7) rfl (by simp [hc]) L rfl ?_
   refine sw (O4 (by simp [hc]) L) t2 t0 ?_
   refine aV L rfl ?_
   exact O1 ⟨⟨ob rfl (by simp [hc]),rfl,trivial⟩,t1⟩
 refine j2 rfl (fun hd=>?_) (fun hd=>?_)
 ·refine exr (aV L rfl (zn [(2,_)] [] t1 trivial (X1 ?_)))
  refine Q0 (.tmp rfl) ?_
  have hd:P2 neg ws=true→ws=[]:=by intro hc; simpa [hc] using hd
  split
  ·rename_i hc; rw [hd hc]; cases neg <;> simp [sg,val]
  ·rfl
 ·have hd:P2 neg ws=true∧¬ ws=[]:=by simpa using hd
  have hv:=F2 h
  have hv2:val ws≠0:=fun e=>hd.2 (I7 h (P5 hd.1).1 e)
  refine exr (sw (i2 un45 rfl sz4 dC rX L) t1 t1 ?_)
  refine sw (Y1 ag4 rF rF L) t1 t1 ?_
  refine aV L rfl (zn [(13,_)] [] t1 trivial ?_)
  refine j2 rfl (fun hn=>?_) (fun hn=>?_)
  ·refine exr (aV L rfl (zn [(2,_)] [] t1 trivial (X1 ?_)))
   refine Q0 (.tmp rfl) ?_
   rw [if_pos hd.1,hn,sg,if_pos rfl,Int.sign_eq_neg_one_of_neg oM]
  ·refine U1 (xq ?_)
   refine exr (aV L rfl (zn [(2,_)] [] t1 trivial (X1 ?_)))
   refine Q0 (.tmp rfl) ?_
   rw [if_pos hd.1,hn,sg]
   simp only [Bool.false_eq_true,if_false]
   rw [Int.sign_eq_one_of_pos oM]
theorem f0a (ws vs:List Int)(hl:ws.length<10000000000000)(hl2:vs.length<10000000000000)(h:Wd ws)(h2:Wd vs)(ht:Tr ws)(ht2:Tr vs):v3 E 141 [pW ws,pW vs] (vZ (d8 (val ws) (val vs))):=by
 refine D2 (xs:=[vZ (d8 (val ws) (val vs))]) Tryz.func141 rfl Tryz.ntmps141 Tryz.results141 sM fun F hG hX0 hnt hdf P0=>?_
 obtain ⟨L,hX,hN⟩:=pro hnt hX0 hG
 refine exr (aV L rfl (zn [(0,_),(1,_)] [] t2 trivial (R1 (exr (mV L rfl (sw (R2 un43 L) t1 t0 (mV L rfl (sw (R2 un43 L) t1 t0 (sw (c_n L) t2 t0 (zn [(0,_),(1,_),(10,_)] [] t3 trivial ?_))))))))))
 refine j2 rfl (fun hc=>?_) (fun hc=>?_)
 ·have hc:=ndt hc
  refine R1 (exr (mV L rfl (sw (R2 un43 L) t1 t0 (mV L rfl (sw (R2 un43 L) t1 t0 (sw (P3 L) t2 t0 (zn [(15,_)] [] t1 trivial ?_)))))))
  refine j2 rfl (fun hd=>?_) (fun hd=>?_)
  ·have hd:=dt hd
   refine exr (aV L rfl (zn [(4,_)] [] t1 trivial (X1 ?_)))
   refine Q0 (.tmp rfl) ?_
   rw [p0q h h2 ht ht2 oM,if_pos oM]
  ·have hd:=df hd
   refine U1 (xq ?_)
   refine exr (aV L rfl (zn [(4,_)] [] t1 trivial (X1 ?_)))
   refine Q0 (.tmp rfl) ?_
   rw [p0q h h2 ht ht2 oM,if_neg oM]
 ·have hc:=ndf hc
  refine U1 (xq ?_)
  refine R1 (exr (mV L rfl (sw (R2 un43 L) t1 t0 (sw (n6 L (w64 oM oM)) t2 t0 (aV L rfl (zn [(0,_),(1,_),(5,_)] [] t3 trivial (V1 ?_)))))))
  refine exl (α:=Nat) (fun n=>[(5,vi ((n:Int) - 1))]) (fun n=>[]) (fun n=>n≤ws.length∧ws.drop n=vs.drop n) (fun n=>n) (ws.length) (sl:=[(0,_),(1,_)]) (hb:=[]) ?_ ⟨oR,rfl,rfl,trivial⟩ t0 ?_
  ·exact ⟨Nat.le_refl _,by rw [List.drop_length,List.drop_of_length_le oM]⟩
  intro n hn
  refine R1 (exr (mV L rfl (sw (d0b L) t2 t0 (zn [(0,_),(1,_),(5,_),(20,_)] [] t4 trivial ?_))))
  refine j2 rfl (fun hd=>?_) (fun hd=>?_)
  ·have hd:=dt hd
   have hs:n - 1+1=n:=by omega
   refine U1 (xq ?_)
   refine R1 (V1 (exd rF ?_))
   refine mV L rfl (mV L rfl (sw (ixJ un43 sz119 (j:=n - 1) rO oM sM L) t2 t0 ?_))
   refine sw (d4 ag119 (by first | exact b6 oM | rfl) L) t1 t0 ?_
   refine mV L rfl (mV L rfl (sw (ixJ un43 sz119 (j:=n - 1) rO oM sM L) t2 t0 ?_))
   refine sw (d4 ag119 (by first | exact b6 oM | rfl) L) t1 t0 ?_
   refine sw (c_n L) t2 t0 ?_
   refine O1 ⟨d5 [⟨[0],[],[23],[]⟩,⟨[5],[],[24],[]⟩,⟨[23,24],[],[25],[]⟩,⟨[25],[],[26],[]⟩,⟨[1],[],[27],[]⟩,⟨[5],[],[28],[]⟩,⟨[27,28],[],[29],[]⟩,⟨[29],[],[30],[]⟩,⟨[26,30],[],[31],[]⟩] rF rF dC,[(0,_),(1,_),(5,_),(31,_)],[],t4,trivial,?_⟩
   refine j2 rfl (fun he=>?_) (fun he=>?_)
   ·have he:=ndt he
    refine R1 (exd rF ?_)
    refine mV L rfl (mV L rfl (sw (ixJ un43 sz119 (j:=n - 1) rO oM sM L) t2 t0 ?_))
    refine sw (d4 ag119 (by first | exact b6 oM | rfl) L) t1 t0 ?_
    refine mV L rfl (mV L rfl (sw (ixJ un43 sz119 (j:=n - 1) rO oM sM L) t2 t0 ?_))
    refine sw (d4 ag119 (by first | exact b6 oM | rfl) L) t1 t0 ?_
    refine sw (P3 L) t2 t0 ?_
    refine O1 ⟨d5 [⟨[0],[],[32],[]⟩,⟨[5],[],[33],[]⟩,⟨[32,33],[],[34],[]⟩,⟨[34],[],[35],[]⟩,⟨[1],[],[36],[]⟩,⟨[5],[],[37],[]⟩,⟨[36,37],[],[38],[]⟩,⟨[38],[],[39],[]⟩,⟨[35,39],[],[40],[]⟩] rF rF dC,[(40,_)],[],t1,trivial,?_⟩
    refine j2 rfl (fun hf=>?_) (fun hf=>?_)
    ·have hf:=dt hf
     refine exr (aV L rfl (zn [(4,_)] [] t1 trivial (X1 ?_)))
     refine Q0 (.tmp rfl) ?_
     rw [m0a h h2 oM (i:=n - 1) oM (by rw [hs]; exact hn.2) he,if_pos hf]
    ·have hf:=df hf
     refine U1 (xq ?_)
     refine exr (aV L rfl (zn [(4,_)] [] t1 trivial (X1 ?_)))
     refine Q0 (.tmp rfl) ?_
     rw [m0a h h2 oM (i:=n - 1) oM (by rw [hs]; exact hn.2) he,if_neg hf]
   ·have he:=ndf he
    refine U1 (xq ?_)
    refine j3 (mV L rfl (sw (n6 L (w64 oM oM)) t2 t0 (aV L rfl (O1 ?_))))
    exact ⟨n - 1,⟨by omega,p0k oM oM (by rw [hs]; exact hn.2) he⟩,by omega,l3 ⟨oR,rfl,rfl,trivial⟩ trivial⟩
  ·have hd:=df hd
   have h3:n=0:=by omega
   subst h3
   refine G2 (xq ?_)
   refine exr (aV L rfl (zn [(4,_)] [] t1 trivial (X1 ?_)))
   refine Q0 (.tmp rfl) ?_
   have e:ws=vs:=by simpa using hn.2
   rw [e,K0r]
theorem J1w {x:Int}(h:x<4294967296):bl x.toNat≤32:=g0h.2 oM
theorem H1w (neg:Bool)(ws:List Int)(hl:ws.length<10000000000000)(h:Wd ws):v3 E 102 [pI neg ws] (pZ (if P2 neg ws=true then -(sg neg (val ws)) else 0)):=by
 refine D2 (xs:=[pZ (if P2 neg ws=true then -(sg neg (val ws)) else 0)]) Tryz.func102 rfl Tryz.ntmps102 Tryz.results102 sM fun F hG hX0 hnt hdf P0=>?_
 obtain ⟨L,hX,hN⟩:=pro hnt hX0 hG
 refine exr (swb (U3 (k:=1) (n:=2) pa2 rfl rfl (P0 _ rfl) L) t1 t0 ⟨rfl,rfl⟩ (swb (R3 (k:=2) (n:=2) zv45 (.cons rfl (.cons rfl .nil)) rfl (P0 _ rfl) L) t0 t0 ⟨rfl,rfl⟩ (zn [(1,_),(2,_)] [(1,_),(2,_)] t2 t2 (R1 (exr (lp2 ag45 sz45 L rfl rfl (cK hG hX cl130 hN (W9 neg ws hl) L t1 (sw (C4 L) t1 t0 (zn [(1,_),(2,_),(5,_)] [(1,_),(2,_)] t3 t2 ?_)))))))))
 refine j2 rfl (fun hc=>?_) (fun hc=>?_)
 ·have hc:P2 neg ws=false:=by simpa using hc
  refine exr (sw (b0d (G7 (vs:=[]) un45 zv45 (.cons rfl (.cons rfl .nil)) ((J2.cons sz4 (J2.cons sz43 J2.nil))).to rfl .nil (.cons (.cons .nil)) L) (.agg (.cons .same (.cons .nil .nil)))) t0 t0 (sb (U2 sz45 rF pa2 rfl pu2) t2 t1 ?_))
  refine zn [(2,_)] [(2,_)] t1 t1 (X1 ?_)
  refine Q0 (.agg rfl rfl rfl ag45 sz45 (.cons (.cons .nil))) ?_
  simp [hc,pZ,U4]; rfl
 ·have hc:P2 neg ws=true:=by simpa using hc
  refine U1 (xq ?_)
  refine exr (sw (i2 un45 rfl sz4 dC rX L) t1 t1 ?_)
  refine sw (Y1 ag4 rF rF L) t1 t1 ?_
  refine sw (C4 L) t1 t0 (sw (i2 un45 rfl sz43 dC rX L) t1 t1 ?_)
  refine sw (Y1 ag43 rF rF L) t1 t1 ?_
  refine cK hG hX cl131 hN (B7 (!neg) ws hl h) L t2 (sb (U2 sz45 rF pa2 rfl pu2) t2 t1 ?_)
  refine zn [(2,_)] [(2,_)] t1 t1 (X1 ?_)
  refine Q0 (.agg rfl rfl rfl ag45 sz45 (.cons (.cons .nil))) ?_
  rw [if_pos hc]; cases neg <;> simp [sg]
theorem J0d (neg:Bool)(ws:List Int)(hl:ws.length<10000000000000)(h:Wd ws):v3 E 149 [pI neg ws] (pZ (if P2 neg ws=true then ((sg neg (val ws)).natAbs:Int) else 0)):=by
 refine D2 (xs:=[pZ (if P2 neg ws=true then ((sg neg (val ws)).natAbs:Int) else 0)]) Tryz.func149 rfl Tryz.ntmps149 Tryz.results149 sM fun F hG hX0 hnt hdf P0=>?_
 obtain ⟨L,hX,hN⟩:=pro hnt hX0 hG
 refine exr (swb (U3 (k:=1) (n:=2) pa2 rfl rfl (P0 _ rfl) L) t1 t0 ⟨rfl,rfl⟩ (swb (R3 (k:=2) (n:=2) zv45 (.cons rfl (.cons rfl .nil)) rfl (P0 _ rfl) L) t0 t0 ⟨rfl,rfl⟩ (zn [(1,_),(2,_)] [(1,_),(2,_)] t2 t2 (R1 (exr (lp2 ag45 sz45 L rfl rfl (cK hG hX cl130 hN (W9 neg ws hl) L t1 (sw (C4 L) t1 t0 (zn [(1,_),(2,_),(5,_)] [(1,_),(2,_)] t3 t2 ?_)))))))))
 refine j2 rfl (fun hc=>?_) (fun hc=>?_)
 ·have hc:P2 neg ws=false:=by simpa using hc
  refine exr (sw (b0d (G7 (vs:=[]) un45 zv45 (.cons rfl (.cons rfl .nil)) ((J2.cons sz4 (J2.cons sz43 J2.nil))).to rfl .nil (.cons (.cons .nil)) L) (.agg (.cons .same (.cons .nil .nil)))) t0 t0 (sb (U2 sz45 rF pa2 rfl pu2) t2 t1 ?_))
  refine zn [(2,_)] [(2,_)] t1 t1 (X1 ?_)
  refine Q0 (.agg rfl rfl rfl ag45 sz45 (.cons (.cons .nil))) ?_
  simp [hc,pZ,U4]; rfl
 ·have hc:P2 neg ws=true:=by simpa using hc
  refine U1 (xq ?_)
  refine exr (sw (i2 un45 rfl sz43 dC rX L) t1 t1 ?_)
  refine sw (Y1 ag43 rF rF L) t1 t1 ?_
  refine cK hG hX cl131 hN (B7 false ws hl h) L t2 (sb (U2 sz45 rF pa2 rfl pu2) t2 t1 ?_)
  refine zn [(2,_)] [(2,_)] t1 t1 (X1 ?_)
  refine Q0 (.agg rfl rfl rfl ag45 sz45 (.cons (.cons .nil))) ?_
  have e:((sg neg (val ws)).natAbs:Int)=sg false (val ws):=by have:=F2 h; cases neg <;> simp [sg] <;> omega
  rw [if_pos hc,e]
theorem y1m (m n:Bool)(ws vs:List Int)(hl:ws.length<10000000000000)(hl2:vs.length<10000000000000)(h:Wd ws)(h2:Wd vs):v3 E 114 [pI m ws,pI n vs] (vZ (if P2 m ws=true∧P2 n vs=true then d8 (sg m (val ws)) (sg n (val vs)) else 0)):=by
 refine D2 (xs:=[vZ (if P2 m ws=true∧P2 n vs=true then d8 (sg m (val ws)) (sg n (val vs)) else 0)]) Tryz.func114 rfl Tryz.ntmps114 Tryz.results114 sM fun F hG hX0 hnt hdf P0=>?_
 obtain ⟨L,hX,hN⟩:=pro hnt hX0 hG
 refine exr (swb (U3 (k:=2) (n:=2) pa2 rfl rfl (P0 _ rfl) L) t1 t0 ⟨rfl,rfl⟩ (swb (U3 (k:=3) (n:=2) pa2 rfl rfl (P0 _ rfl) L) t1 t0 ⟨rfl,rfl⟩ (aV L rfl (zn [(2,_),(3,_)] [(2,_),(3,_)] t2 t2 (R1 (exr (lp2 ag45 sz45 L rfl rfl (lp2 ag45 sz45 L rfl rfl (sw (q4 (vs:=[_,_]) un139 ti45 rfl rfl dC dC rfl (K2 (.cons rfl (.cons rfl .nil)) rfl) rfl (.cons rfl pa2 rfl pu2 (.cons rfl pa2 rfl (.skip (.skip pu2)) .nil)) (.cons (.cons (.cons (.cons .nil)))) L) t2 t0 (cK hG hX cl138 hN (f0m [(m,ws),(n,vs)] sM sO) L t1 ?_))))))))))
 refine sw (C4 L) t1 t0 (zn [(2,_),(3,_),(10,_)] [(2,_),(3,_)] t3 t2 ?_)
 refine j2 rfl (fun hc=>?_) (fun hc=>?_)
 ·have hc:¬ (P2 m ws=true∧P2 n vs=true):=by rintro ⟨h1,h2⟩; simp [h1,h2] at hc
  refine exr (aV L rfl (zn [(4,_)] [] t1 trivial (X1 ?_)))
  refine Q0 (.tmp rfl) ?_
  rw [if_neg hc]
 ·have hc:P2 m ws=true∧P2 n vs=true:=by simpa using hc
  have e:=V1r h h2 hc.1 hc.2
  refine U1 (xq ?_)
  refine R1 (exr (sw (i2 un45 rfl sz4 dC rX L) t1 t1 ?_))
  refine sw (Y1 ag4 rF rF L) t1 t1 ?_
  refine sw (i2 un45 rfl sz4 dC rX L) t1 t1 ?_
  refine sw (Y1 ag4 rF rF L) t1 t1 ?_
  refine sw (y0n un4 L) t2 t0 (zn [(2,_),(3,_),(15,_)] [(2,_),(3,_)] t3 t2 ?_)
  refine j2 rfl (fun hd=>?_) (fun hd=>?_)
  ·have hd:m≠n:=by simpa using hd
   refine R1 (exr (sw (i2 un45 rfl sz4 dC rX L) t1 t1 ?_))
   refine sw (Y1 ag4 rF rF L) t1 t1 ?_
   refine zn [(17,_)] [] t1 trivial ?_
   refine j2 rfl (fun hm=>?_) (fun hm=>?_)
   ·refine exr (aV L rfl (zn [(4,_)] [] t1 trivial (X1 ?_)))
    refine Q0 (.tmp rfl) ?_
    rw [if_pos hc,e,if_pos hd,if_pos hm]
   ·refine U1 (xq ?_)
    refine exr (aV L rfl (zn [(4,_)] [] t1 trivial (X1 ?_)))
    refine Q0 (.tmp rfl) ?_
    rw [if_pos hc,e,if_pos hd,if_neg (by simp [hm])]
  ·have hd:¬ m≠n:=by simpa using hd
   have hb : -1≤d8 (val ws) (val vs)∧d8 (val ws) (val vs)≤1:=by unfold d8; split <;> (try split) <;> omega
   refine U1 (xq ?_)
   refine exr (sw (i2 un45 rfl sz43 dC rX L) t1 t1 ?_)
   refine sw (Y1 ag43 rF rF L) t1 t1 ?_
   refine sw (i2 un45 rfl sz43 dC rX L) t1 t1 ?_
   refine sw (Y1 ag43 rF rF L) t1 t1 ?_
   refine cK hG hX cl141 hN (f0a ws vs hl hl2 h h2 (P5 hc.1).1 (P5 hc.2).1) L t2 (aV L rfl (zn [(2,_),(5,_)] [(2,_)] t2 t1 (R1 (exr (sw (i2 un45 rfl sz4 dC rX L) t1 t1 ?_)))))
   refine sw (Y1 ag4 rF rF L) t1 t1 ?_
   refine zn [(5,_),(24,_)] [] t2 trivial ?_
   refine j2 rfl (fun hm=>?_) (fun hm=>?_)
   ·refine exr (mV L rfl (sw (q1c L (w64 oM oM)) t1 t0 (aV L rfl (zn [(4,_)] [] t1 trivial (X1 ?_)))))
    refine Q0 (.tmp rfl) ?_
    exact M0c (by rw [if_pos hc,e,if_neg hd,if_pos hm]; omega)
   ·refine U1 (xq ?_)
    refine exr (mV L rfl (aV L rfl (zn [(4,_)] [] t1 trivial (X1 ?_))))
    refine Q0 (.tmp rfl) ?_
    rw [if_pos hc,e,if_neg hd,if_neg (by simp [hm])]
theorem E5 (neg:Bool)(ws:List Int)(hl:ws.length<10000000000000):v3 E 77 [pI neg ws] (bZ (P2 neg ws)):=by
 refine D2 (xs:=[bZ (P2 neg ws)]) Tryz.func77 rfl Tryz.ntmps77 Tryz.results77 sM fun F hG hX0 hnt hdf P0=>?_
 obtain ⟨L,hX,hN⟩:=pro hnt hX0 hG
 refine exr (swb (U3 (k:=1) (n:=2) pa2 rfl rfl (P0 _ rfl) L) t1 t0 ⟨rfl,rfl⟩ (aV L rfl (zn [(1,_)] [(1,_)] t1 t1 (exr (sw (i2 un45 rfl sz43 dC rX L) t1 t1 ?_)))))
 refine sw (Y1 ag43 rF rF L) t1 t1 ?_
 refine sw (R2 un43 L) t1 t0 (aV L rfl (zn [(1,_),(3,_)] [(1,_)] t2 t1 (R1 (exr (mV L rfl (sw (c_e L) t2 t0 (zn [(1,_),(3,_),(8,_)] [(1,_)] t3 t1 ?_)))))))
 refine j2 rfl (fun h0=>?_) (fun h0=>?_)
 ·refine exr (sw (i2 un45 rfl sz4 dC rX L) t1 t1 ?_)
  refine sw (Y1 ag4 rF rF L) t1 t1 ?_
  refine sw (C4 L) t1 t0 (aV L rfl (zn [(2,_)] [] t1 trivial (X1 ?_)))
  refine Q0 (.tmp rfl) ?_
  have h0:=dt h0; have h1:ws.length=0:=by omega
  simp only [P2,h1,if_true]
 ·have h0:=df h0
  refine U1 (xq ?_)
  refine exr (sw (i2 un45 rfl sz43 dC rX L) t1 t1 ?_)
  refine sw (Y1 ag43 rF rF L) t1 t1 ?_
  refine mV L rfl (sw (n6 L (w64 oM oM)) t2 t0 (sw (ixJ un43 sz119 (j:=ws.length - 1) rO oM sM L) t2 t0 ?_))
  refine sw (d4 ag119 (by first | exact b6 oM | rfl) L) t1 t0 ?_
  refine sw (c_n L) t2 t0 (aV L rfl (zn [(2,_)] [] t1 trivial (X1 ?_)))
  refine Q0 (.tmp rfl) ?_
  have h1:ws.length≠0:=by omega
  simp only [P2,h1,if_false]
theorem f1j (m n:Bool)(ws vs:List Int)(hl:ws.length<10000000000000)(hl2:vs.length<10000000000000):v3 E 79 [pI m ws,pI n vs] (bZ (decide (m=n∧ws=vs))):=by
 refine D2 (xs:=[bZ (decide (m=n∧ws=vs))]) Tryz.func79 rfl Tryz.ntmps79 Tryz.results79 sM fun F hG hX0 hnt hdf P0=>?_
 obtain ⟨L,hX,hN⟩:=pro hnt hX0 hG
 refine exr (swb (U3 (k:=2) (n:=2) pa2 rfl rfl (P0 _ rfl) L) t1 t0 ⟨rfl,rfl⟩ (swb (U3 (k:=3) (n:=2) pa2 rfl rfl (P0 _ rfl) L) t1 t0 ⟨rfl,rfl⟩ (aV L rfl (zn [(2,_),(3,_)] [(2,_),(3,_)] t2 t2 (R1 ?_)))))
 refine exm (sl:=[(19,vb (!decide (m=n∧ws.length=vs.length)))]) (sl0:=[(2,_),(3,_)]) (hb:=[]) (hb0:=[(2,_),(3,_)]) t2 t2 ?_ ?_
 ·by_cases hc:m=n
  ·refine sw (i2 un45 rfl sz4 dC rX L) t1 t1 ?_
   refine sw (Y1 ag4 rF rF L) t1 t1 ?_
   refine sw (i2 un45 rfl sz4 dC rX L) t1 t1 ?_
   refine sw (Y1 ag4 rF rF L) t1 t1 ?_
   refine sw (y0n un4 L) t2 t0 (mV L rfl (swg (g:=11) rfl (by simp [hc]) (i2 un45 rfl sz43 dC rX L) rfl t1 t1 ?_))
   refine swg (g:=11) rfl (by simp [hc]) (Y1 ag43 rF rF L) rfl t1 t1 ?_
   refine swg (g:=11) rfl (by simp [hc]) (R2 un43 L) rfl t1 t0 ?_
   refine swg (g:=11) rfl (by simp [hc]) (i2 un45 rfl sz43 dC rX L) rfl t1 t1 ?_
   refine swg (g:=11) rfl (by simp [hc]) (Y1 ag43 rF rF L) rfl t1 t1 ?_
   refine swg (g:=11) rfl (by simp [hc]) (R2 un43 L) rfl t1 t0 ?_
   refine swg (g:=11) rfl (by simp [hc]) (c_n L) rfl t2 t0 ?_
   refine sw (y4 (by simp [hc]) L) t2 t0 ?_
   exact O1 ⟨⟨ob rfl (by simp [hc]; omega),rfl,rfl,trivial⟩,t2⟩
  ·refine sw (i2 un45 rfl sz4 dC rX L) t1 t1 ?_
   refine sw (Y1 ag4 rF rF L) t1 t1 ?_
   refine sw (i2 un45 rfl sz4 dC rX L) t1 t1 ?_
   refine sw (Y1 ag4 rF rF L) t1 t1 ?_
   refine sw (y0n un4 L) t2 t0 (mV L rfl (swn (g:=11) rfl (by simpa using hc) L rfl ?_))
   refine swn (g:=11) rfl (by simpa using hc) L rfl ?_
   refine swn (g:=11) rfl (by simpa using hc) L rfl ?_
   refine swn (g:=11) rfl (by simpa using hc) L rfl ?_
   refine swn (g:=11) rfl (by simpa using hc) L rfl ?_
   refine swn (g:=11) rfl (by simpa using hc) L rfl ?_
   refine swn (g:=11) rfl (by simpa using hc) L rfl ?_
   refine sw (O4 (by simpa using hc) L) t2 t0 ?_
   exact O1 ⟨⟨ob rfl (by simp [hc]),rfl,rfl,trivial⟩,t2⟩
 refine j2 rfl (fun hd=>?_) (fun hd=>?_)
 ·have hd:¬ (m=n∧ws.length=vs.length):=by rintro ⟨h1,h2⟩; simp [h1,h2] at hd
  refine exr (aV L rfl (zn [(4,_)] [] t1 trivial (X1 ?_)))
  refine Q0 (.tmp rfl) ?_
  rw [eq_comm]; congr 3; simp only [decide_eq_false_iff_not]; exact fun h=>hd ⟨h.1,by rw [h.2]⟩
 ·have hd:m=n∧ws.length=vs.length:=by simpa using hd
  refine U1 (xq ?_)
  refine R1 (exr (aV L rfl (zn [(2,_),(3,_),(5,_)] [(2,_),(3,_)] t3 t2 (V1 ?_))))
  refine exl (α:=Nat) (fun i=>[(5,vi (i:Int))]) (fun i=>[]) (fun i=>i≤ws.length∧ws.take i=vs.take i) (fun i=>ws.length - i) (0) (sl:=[(2,_),(3,_)]) (hb:=[(2,_),(3,_)]) ?_ ⟨oR,rfl,rfl,trivial⟩ t2 ?_
  ·exact ⟨Nat.zero_le _,rfl⟩
  intro i hi
  refine R1 (exr (mV L rfl (sw (i2 un45 rfl sz43 dC rX L) t1 t1 ?_)))
  refine sw (Y1 ag43 rF rF L) t1 t1 ?_
  refine sw (R2 un43 L) t1 t0 (sw (P3 L) t2 t0 (zn [(2,_),(3,_),(5,_),(24,_)] [(2,_),(3,_)] t4 t2 ?_))
  refine j2 rfl (fun he=>?_) (fun he=>?_)
  ·have he:=dt he
   refine U1 (xq ?_)
   refine R1 (V1 (exd rF ?_))
   refine sw (i2 un45 rfl sz43 dC rX L) t1 t1 ?_
   refine sw (Y1 ag43 rF rF L) t1 t1 ?_
   refine mV L rfl (sw (ixJ un43 sz119 (j:=i) rO oM sM L) t2 t0 ?_)
   refine sw (d4 ag119 (by first | exact b6 oM | rfl) L) t1 t0 ?_
   refine sw (i2 un45 rfl sz43 dC rX L) t1 t1 ?_
   refine sw (Y1 ag43 rF rF L) t1 t1 ?_
   refine mV L rfl (sw (ixJ un43 sz119 (j:=i) rO oM sM L) t2 t0 ?_)
   refine sw (d4 ag119 (by first | exact b6 oM | rfl) L) t1 t0 ?_
   refine sw (c_n L) t2 t0 ?_
   refine O1 ⟨d5 [⟨[2],[2],[27],[]⟩,⟨[27],[2],[28],[]⟩,⟨[5],[],[29],[]⟩,⟨[28,29],[],[30],[]⟩,⟨[30],[],[31],[]⟩,⟨[3],[3],[32],[]⟩,⟨[32],[3],[33],[]⟩,⟨[5],[],[34],[]⟩,⟨[33,34],[],[35],[]⟩,⟨[35],[],[36],[]⟩,⟨[31,36],[],[37],[]⟩] rF rF dC,[(2,_),(3,_),(5,_),(37,_)],[(2,_),(3,_)],t4,t2,?_⟩
   refine j2 rfl (fun hf=>?_) (fun hf=>?_)
   ·have hf:=ndt hf
    refine exr (aV L rfl (zn [(4,_)] [] t1 trivial (X1 ?_)))
    refine Q0 (.tmp rfl) ?_
    rw [eq_comm]; congr 3; simp only [decide_eq_false_iff_not]; exact fun h=>hf (by rw [h.2])
   ·have hf:=ndf hf
    refine U1 (xq ?_)
    refine j3 (mV L rfl (sw (B3 L (w64 oM oM)) t2 t0 (aV L rfl (O1 ?_))))
    exact ⟨i+1,⟨by omega,V0f oM hd.2 hi.2 hf⟩,by omega,l3 ⟨oR,rfl,rfl,trivial⟩ t2⟩
  ·have he:=df he
   refine G2 (xq ?_)
   refine exr (aV L rfl (zn [(4,_)] [] t1 trivial (X1 ?_)))
   refine Q0 (.tmp rfl) ?_
   have e:ws=vs:=by have:=hi.2; rwa [C0 oM,C0 oM] at this
   rw [eq_comm]; congr 3; simp [hd.1,e]
theorem s6 (ws:List Int)(hl:ws.length<10000000000000):v3 E 147 [pW ws] (pW (trim ws)):=by
 refine D2 (xs:=[pW (trim ws)]) Tryz.func147 rfl Tryz.ntmps147 Tryz.results147 sM fun F hG hX0 hnt hdf P0=>?_
 obtain ⟨L,hX,hN⟩:=pro hnt hX0 hG
 refine exr (aV L rfl (zn [(0,_)] [] t1 trivial (exr (mV L rfl (sw (R2 un43 L) t1 t0 (aV L rfl (zn [(0,_),(3,_)] [] t2 trivial (R1 (V1 ?_)))))))))
 refine exl (α:=Nat) (fun n=>[(3,vi (n:Int))]) (fun n=>[]) (fun n=>n≤ws.length∧E6 ws n=E6 ws ws.length) (fun n=>n) (ws.length) (sl:=[(0,_)]) (hb:=[]) ?_ ⟨oR,rfl,trivial⟩ t0 ?_
 ·exact ⟨Nat.le_refl _,rfl⟩
 intro n hn
 refine R1 ?_
 refine exm (sl:=[(15,vb (decide (0<n∧ws.getD (n - 1) 0=0)))]) (sl0:=[(0,_),(3,_)]) (hb:=[]) (hb0:=[]) t2 t0 ?_ ?_
 ·by_cases h:n=0
  ·refine mV L rfl (sw (i7 L) t2 t0 (mV L rfl (swn (g:=8) rfl (by simp [h]) L rfl ?_)))
   refine swn (g:=8) rfl (by simp [h]) L rfl ?_
   refine swn (g:=8) rfl (by simp [h]) L rfl ?_
   refine swn (g:=8) rfl (by simp [h]) L rfl ?_
   refine swn (g:=8) rfl (by simp [h]) L rfl ?_
   refine swn (g:=8) rfl (by simp [h]) L rfl ?_
   refine sw (y4 (by simp [h]) L) t2 t0 ?_
   exact O1 ⟨⟨ob rfl (by simp [h]),rfl,rfl,trivial⟩,trivial⟩
  ·refine mV L rfl (sw (i7 L) t2 t0 (mV L rfl (gV (g:=8) rfl sO L rfl rfl (gV (g:=8) rfl sO L rfl rfl (swg (g:=8) rfl sO (n6 L (w64 oM oM)) rfl t2 t0 (swg (g:=8) rfl sO (ixJ un43 sz119 (j:=n - 1) rO oM sM L) rfl t2 t0 ?_))))))
   refine swg (g:=8) rfl sO (d4 ag119 (by first | exact b6 oM | rfl) L) rfl t1 t0 ?_
   refine swg (g:=8) rfl sO (c_e L) rfl t2 t0 (sw (O4 sO L) t2 t0 ?_)
   exact O1 ⟨⟨ob rfl sO,rfl,rfl,trivial⟩,trivial⟩
 refine j2 rfl (fun hc=>?_) (fun hc=>?_)
 ·have hc:=dt hc
  refine U1 (xq ?_)
  refine V1 (j3 (mV L rfl (sw (n6 L (w64 oM oM)) t2 t0 (aV L rfl (O1 ?_)))))
  exact ⟨n - 1,⟨by omega,by rw [← hn.2]; conv=>rhs; rw [show n=(n - 1)+1 by omega]; simp only [E6,hc.2,if_true]⟩,by omega,l3 ⟨oR,rfl,trivial⟩ trivial⟩
 ·have hc:=df hc
  have e:E6 ws ws.length=n:=by
   rw [← hn.2]
   cases n with
   | zero=>rfl
   | succ n=>simp only [E6]; rw [if_neg]; intro h; exact hc ⟨by omega,by simpa using h⟩
  have e1:trim ws=ws.take n:=by rw [trim,e]
  refine G2 (xq ?_)
  refine exr (mV L rfl (mV L rfl (sw (P1k un43 sz119 (h:=n) rO oM (by rw [Nat.mul_one,k0y]) L) t2 t0 ?_)))
  refine aV L rfl (zn [(2,_)] [] t1 trivial (X1 ?_))
  refine Q0 (.tmp rfl) ?_
  rw [e1]; simp [G1 hn.1]
theorem q5 (ws:List Int)(hl:ws.length<10000000000000)(h:Wd ws)(i:Nat)(hi:i<10000000000000):v3 E 145 [pW ws,vZ i] (uZ (ws.getD i 0)):=by
 refine D2 (xs:=[uZ (ws.getD i 0)]) Tryz.func145 rfl Tryz.ntmps145 Tryz.results145 sM fun F hG hX0 hnt hdf P0=>?_
 obtain ⟨L,hX,hN⟩:=pro hnt hX0 hG
 refine exr (aV L rfl (zn [(0,_),(1,_)] [] t2 trivial (R1 (exr (mV L rfl (mV L rfl (sw (R2 un43 L) t1 t0 (sw (P3 L) t2 t0 (zn [(0,_),(1,_),(8,_)] [] t3 trivial ?_)))))))))
 refine j2 rfl (fun hc=>?_) (fun hc=>?_)
 ·have hc:=dt hc
  have hw:=h.get (i:=i) oM
  refine exr (mV L rfl (mV L rfl (sw (ixJ un43 sz119 (j:=i) rO oM sM L) t2 t0 ?_)))
  refine sw (d4 ag119 (by first | exact b6 oM | rfl) L) t1 t0 ?_
  refine sw (D4 un119 un127 L (I4 oM oM)) t1 t0 (aV L rfl (zn [(4,_)] [] t1 trivial (X1 ?_)))
  refine Q0 (.tmp rfl) ?_
  rfl
 ·have hc:=df hc
  refine U1 (xq ?_)
  refine exr (aV L rfl (zn [(4,_)] [] t1 trivial (X1 ?_)))
  refine Q0 (.tmp rfl) ?_
  rw [f0,List.getElem?_eq_none oM]; rfl
theorem P0d (ws:List Int)(hl:ws.length<10000000000000)(h:Wd ws)(ht:Tr ws):v3 E 166 [pW ws] (vZ (bl (val ws).toNat)):=by
 refine D2 (xs:=[vZ (bl (val ws).toNat)]) Tryz.func166 rfl Tryz.ntmps166 Tryz.results166 sM fun F hG hX0 hnt hdf P0=>?_
 obtain ⟨L,hX,hN⟩:=pro hnt hX0 hG
 refine exr (aV L rfl (zn [(0,_)] [] t1 trivial (R1 (exr (mV L rfl (sw (R2 un43 L) t1 t0 (sw (c_e L) t2 t0 (zn [(0,_),(7,_)] [] t2 trivial ?_))))))))
 refine j2 rfl (fun hc=>?_) (fun hc=>?_)
 ·have hc:=dt hc
  refine exr (aV L rfl (zn [(2,_)] [] t1 trivial (X1 ?_)))
  refine Q0 (.tmp rfl) ?_
  have e:ws=[]:=E0 oM
  rw [e]; simp [val,bl]
 ·have hc:=df hc
  have hw:=h.getD (ws.length - 1)
  refine U1 (xq ?_)
  refine exr (mV L rfl (sw (R2 un43 L) t1 t0 (sw (n6 L (w64 oM oM)) t2 t0 (sw (d1c L (w64 oM oM)) t2 t0 (aV L rfl (zn [(0,_),(3,_)] [] t2 trivial (R1 (exr (mV L rfl (mV L rfl (sw (R2 un43 L) t1 t0 ?_)))))))))))
  refine sw (n6 L (w64 oM oM)) t2 t0 (sw (ixJ un43 sz119 (j:=ws.length - 1) rO oM sM L) t2 t0 ?_)
  refine sw (d4 ag119 (by first | exact b6 oM | rfl) L) t1 t0 ?_
  refine aV L rfl (zn [(3,_),(4,_)] [] t2 trivial (V1 ?_))
  refine exl (α:=Nat) (fun x=>[(4,vu (x:Int)),(3,vi (32*((ws.length:Int) - 1)+(bl (ws.getD (ws.length - 1) 0).toNat:Int) - (bl x:Int)))]) (fun x=>[]) (fun x=>x≤(ws.getD (ws.length - 1) 0).toNat∧bl x≤bl (ws.getD (ws.length - 1) 0).toNat) (fun x=>x) ((ws.getD (ws.length - 1) 0).toNat) (sl:=[]) (hb:=[]) ?_ ⟨oi oM rfl,oi oM rfl,trivial⟩ t0 ?_
  ·exact ⟨Nat.le_refl _,Nat.le_refl _⟩
  intro x hx
  have h32:=J1w hw.2
  refine R1 (exr (mV L rfl (sw (c_n L) t2 t0 (zn [(3,_),(4,_),(19,_)] [] t3 trivial ?_))))
  refine j2 rfl (fun hd=>?_) (fun hd=>?_)
  ·have hd:=ndt hd
   have hs:=K1n (n:=x) oM
   refine U1 (xq ?_)
   refine R1 (V1 (j3 (mV L rfl (sw (B3 L (w64 oM oM)) t2 t0 (aV L rfl (O1 (j3 (mV L rfl (sw (I9 L dC (f0d (c:=2) rF dC)) t2 t0 ?_)))))))))
   refine aV L rfl (O1 ?_)
   exact ⟨x / 2,⟨by omega,by omega⟩,by omega,l3 ⟨oR,oR,trivial⟩ trivial⟩
  ·have hd:=ndf hd
   have hx0:x=0:=by omega
   subst hx0
   refine G2 (xq ?_)
   refine exr (mV L rfl (aV L rfl (zn [(2,_)] [] t1 trivial (X1 ?_))))
   refine Q0 (.tmp rfl) ?_
   have hne:ws≠[]:=by intro e; subst e; simp at hc
   exact M0c (by rw [h1k h ht hne]; simp [bl])
theorem q6 (neg:Bool)(ws:List Int)(hl:ws.length<10000000000000)(h:Wd ws):v3 E 122 [.a (.bool neg),pW ws] (pZ (sg neg (val ws))):=by
 refine D2 (xs:=[pZ (sg neg (val ws))]) Tryz.func122 rfl Tryz.ntmps122 Tryz.results122 sM fun F hG hX0 hnt hdf P0=>?_
 obtain ⟨L,hX,hN⟩:=pro hnt hX0 hG
 have hb:(trim ws).length≤ws.length:=by rw [v9]; exact H0y _ _
 have hr:pZ (sg neg (val ws))=p0w neg ws:=(b1p h).symm
 rw [hr]
 refine exr (swb (R3 (k:=4) (n:=2) zv45 (.cons rfl (.cons rfl .nil)) rfl (P0 _ rfl) L) t0 t0 ⟨rfl,rfl⟩ (zn [(0,_),(1,_),(4,_)] [(4,_)] t3 t1 (exr (mV L rfl (cK hG hX cl147 hN (s6 ws hl) L t1 (aV L rfl (zn [(0,_),(1,_),(4,_)] [(4,_)] t3 t1 (R1 (exr (mV L rfl (sw (R2 un43 L) t1 t0 ?_)))))))))))
 refine sw (c_e L) t2 t0 (zn [(0,_),(1,_),(4,_),(9,_)] [(4,_)] t4 t1 ?_)
 refine j2 rfl (fun hc=>?_) (fun hc=>?_)
 ·have hc:=dt hc
  have e:trim ws=[]:=E0 oM
  refine exr (sw (b0d (G7 (vs:=[]) un45 zv45 (.cons rfl (.cons rfl .nil)) ((J2.cons sz4 (J2.cons sz43 J2.nil))).to rfl .nil (.cons (.cons .nil)) L) (.agg (.cons .same (.cons .nil .nil)))) t0 t0 (sb (U2 sz45 rF pa2 rfl pu2) t2 t1 ?_))
  refine zn [(4,_)] [(4,_)] t1 t1 (X1 ?_)
  refine Q0 (.agg rfl rfl rfl ag45 sz45 (.cons (.cons .nil))) ?_
  simp only [p0w,e,if_true]; rfl
 ·have hc:=df hc
  have e:¬ trim ws=[]:=by intro e; rw [e] at hc; simp at hc
  refine U1 (xq ?_)
  refine exr (mV L rfl (swb (f9 (k:=12) (sz:=1) un43 ti119 (P0 _ rfl) L) t0 t0 ⟨rfl,rfl⟩ (mV L rfl (swb (apP (sz:=1) un43 un43 ti119 rfl rfl rfl dC rX oF sM rfl rfl rfl (by first | (simp [Tryz.t119]; done) | (simp [Tryz.t119]; omega)) oM (P0 _ rfl) L) t2 t1 t0 ?_))))
  refine sw (k0f (vs:=[_,_]) un45 zv45 (.cons rfl (.cons rfl .nil)) ((J2.cons sz4 (J2.cons sz43 J2.nil))).to rfl (.cons rfl (.atom rfl) rfl pu1 (.cons rfl .ref rfl (.skip pu1) .nil)) L) t2 t0 (sb (U2 sz45 rF .agg rfl pu2) t2 t1 ?_)
  refine zn [(4,_)] [(4,_),(12,_)] t1 t2 (s4 [12] (sl:=[(4,_)]) (hb:=[(4,_)]) (F3 hX0) ⟨⟨_,rfl,.same⟩,trivial⟩ ⟨⟨rfl,_,rfl,(.mix (.cons .same (.cons (.ref rfl rfl (by exact sM) (by first | rfl | omega)) .nil)))⟩,trivial⟩ ?_)
  refine X1 ?_
  refine Q0 (.agg rfl rfl rfl ag45 sz45 (.cons (.cons .nil))) ?_
  simp [p0w,e]
theorem K0k (ws vs:List Int)(hl:ws.length<10000000000000)(hl2:vs.length<10000000000000)(h:Wd ws)(h2:Wd vs)(ht:Tr ws)(ht2:Tr vs):v3 E 143 [pW ws,pW vs] (vZ (d8 (val ws) (val vs))):=by
 refine D2 (xs:=[vZ (d8 (val ws) (val vs))]) Tryz.func143 rfl Tryz.ntmps143 Tryz.results143 sM fun F hG hX0 hnt hdf P0=>?_
 obtain ⟨L,hX,hN⟩:=pro hnt hX0 hG
 refine exr (aV L rfl (zn [(0,_),(1,_)] [] t2 trivial (R1 (exr (mV L rfl (sw (R2 un43 L) t1 t0 (mV L rfl (sw (R2 un43 L) t1 t0 (sw (c_n L) t2 t0 (zn [(0,_),(1,_),(10,_)] [] t3 trivial ?_))))))))))
 refine j2 rfl (fun hc=>?_) (fun hc=>?_)
 ·have hc:=ndt hc
  refine R1 (exr (mV L rfl (sw (R2 un43 L) t1 t0 (mV L rfl (sw (R2 un43 L) t1 t0 (sw (P3 L) t2 t0 (zn [(15,_)] [] t1 trivial ?_)))))))
  refine j2 rfl (fun hd=>?_) (fun hd=>?_)
  ·have hd:=dt hd
   refine exr (aV L rfl (zn [(4,_)] [] t1 trivial (X1 ?_)))
   refine Q0 (.tmp rfl) ?_
   rw [p0q h h2 ht ht2 oM,if_pos oM]
  ·have hd:=df hd
   refine U1 (xq ?_)
   refine exr (aV L rfl (zn [(4,_)] [] t1 trivial (X1 ?_)))
   refine Q0 (.tmp rfl) ?_
   rw [p0q h h2 ht ht2 oM,if_neg oM]
 ·have hc:=ndf hc
  refine U1 (xq ?_)
  refine R1 (exr (mV L rfl (sw (R2 un43 L) t1 t0 (sw (n6 L (w64 oM oM)) t2 t0 (aV L rfl (zn [(0,_),(1,_),(5,_)] [] t3 trivial (V1 ?_)))))))
  refine exl (α:=Nat) (fun n=>[(5,vi ((n:Int) - 1))]) (fun n=>[]) (fun n=>n≤ws.length∧ws.drop n=vs.drop n) (fun n=>n) (ws.length) (sl:=[(0,_),(1,_)]) (hb:=[]) ?_ ⟨oR,rfl,rfl,trivial⟩ t0 ?_
  ·exact ⟨Nat.le_refl _,by rw [List.drop_length,List.drop_of_length_le oM]⟩
  intro n hn
  refine R1 (exr (mV L rfl (sw (d0b L) t2 t0 (zn [(0,_),(1,_),(5,_),(20,_)] [] t4 trivial ?_))))
  refine j2 rfl (fun hd=>?_) (fun hd=>?_)
  ·have hd:=dt hd
   have hs:n - 1+1=n:=by omega
   refine U1 (xq ?_)
   refine R1 (V1 (R1 (exd rF ?_)))
   refine mV L rfl (mV L rfl (sw (ixJ un43 sz119 (j:=n - 1) rO oM sM L) t2 t0 ?_))
   refine sw (d4 ag119 (by first | exact b6 oM | rfl) L) t1 t0 ?_
   refine mV L rfl (mV L rfl (sw (ixJ un43 sz119 (j:=n - 1) rO oM sM L) t2 t0 ?_))
   refine sw (d4 ag119 (by first | exact b6 oM | rfl) L) t1 t0 ?_
   refine sw (P3 L) t2 t0 ?_
   refine O1 ⟨d5 [⟨[0],[],[23],[]⟩,⟨[5],[],[24],[]⟩,⟨[23,24],[],[25],[]⟩,⟨[25],[],[26],[]⟩,⟨[1],[],[27],[]⟩,⟨[5],[],[28],[]⟩,⟨[27,28],[],[29],[]⟩,⟨[29],[],[30],[]⟩,⟨[26,30],[],[31],[]⟩] rF rF dC,[(0,_),(1,_),(5,_),(31,_)],[],t4,trivial,?_⟩
   refine j2 rfl (fun he=>?_) (fun he=>?_)
   ·have he:=dt he
    refine exr (aV L rfl (zn [(4,_)] [] t1 trivial (X1 ?_)))
    refine Q0 (.tmp rfl) ?_
    rw [m0a h h2 oM (i:=n - 1) oM (by rw [hs]; exact hn.2) oM,if_pos he]
   ·have he:=df he
    refine U1 (xq ?_)
    refine exd rF ?_
    refine mV L rfl (mV L rfl (sw (ixJ un43 sz119 (j:=n - 1) rO oM sM L) t2 t0 ?_))
    refine sw (d4 ag119 (by first | exact b6 oM | rfl) L) t1 t0 ?_
    refine mV L rfl (mV L rfl (sw (ixJ un43 sz119 (j:=n - 1) rO oM sM L) t2 t0 ?_))
    refine sw (d4 ag119 (by first | exact b6 oM | rfl) L) t1 t0 ?_
    refine sw (i7 L) t2 t0 ?_
    refine O1 ⟨d5 [⟨[0],[],[32],[]⟩,⟨[5],[],[33],[]⟩,⟨[32,33],[],[34],[]⟩,⟨[34],[],[35],[]⟩,⟨[1],[],[36],[]⟩,⟨[5],[],[37],[]⟩,⟨[36,37],[],[38],[]⟩,⟨[38],[],[39],[]⟩,⟨[35,39],[],[40],[]⟩] rF rF dC,[(0,_),(1,_),(5,_),(40,_)],[],t4,trivial,?_⟩
    refine j2 rfl (fun hf=>?_) (fun hf=>?_)
    ·have hf:=dt hf
     refine exr (aV L rfl (zn [(4,_)] [] t1 trivial (X1 ?_)))
     refine Q0 (.tmp rfl) ?_
     rw [m0a h h2 oM (i:=n - 1) oM (by rw [hs]; exact hn.2) oM,if_neg he]
    ·have hf:=df hf
     refine U1 (xq ?_)
     refine j3 (mV L rfl (sw (n6 L (w64 oM oM)) t2 t0 (aV L rfl (O1 ?_))))
     exact ⟨n - 1,⟨by omega,p0k oM oM (by rw [hs]; exact hn.2) oM⟩,by omega,l3 ⟨oR,rfl,rfl,trivial⟩ trivial⟩
  ·have hd:=df hd
   have h3:n=0:=by omega
   subst h3
   refine G2 (xq ?_)
   refine exr (aV L rfl (zn [(4,_)] [] t1 trivial (X1 ?_)))
   refine Q0 (.tmp rfl) ?_
   have e:ws=vs:=by simpa using hn.2
   rw [e,K0r]
theorem b0r (n:Int)(h0 : -9223372036854775808≤n)(h1:n<9223372036854775808):v3 E 119 [vZ n] (pZ n):=by
 refine D2 (xs:=[pZ n]) Tryz.func119 rfl Tryz.ntmps119 Tryz.results119 sM fun F hG hX0 hnt hdf P0=>?_
 obtain ⟨L,hX,hN⟩:=pro hnt hX0 hG
 refine exr (swb (R3 (k:=2) (n:=2) zv45 (.cons rfl (.cons rfl .nil)) rfl (P0 _ rfl) L) t0 t0 ⟨rfl,rfl⟩ (zn [(0,_),(2,_)] [(2,_)] t2 t1 (exr (mV L rfl (sw (D4 un3 un127 L G0v) t1 t0 (aV L rfl (zn [(0,_),(2,_),(3,_)] [(2,_)] t3 t1 (R1 (exr (mV L rfl (sw (P3 L) t2 t0 ?_)))))))))))
 refine zn [(0,_),(2,_),(3,_),(7,_)] [(2,_)] t4 t1 ?_
 refine j2 rfl (fun hc=>?_) (fun hc=>?_)
 ·have hc:=dt hc
  refine j3 (mV L rfl (sw (q1c L (show _ = -n by rw [G0v]; omega)) t1 t0 ?_))
  refine aV L rfl (O1 (exr (mV L rfl (sw (P3 L) t2 t0 (mV L rfl (sw (D4 un127 un119 L m8) t1 t0 (mV L rfl (sw (I9 L dC (f0d (c:=4294967296) rF dC)) t2 t0 ?_))))))))
  refine sw (D4 un127 un119 L m8) t1 t0 (sw (q4 (vs:=[_,_]) un43 ti119 rfl rfl dC dC rfl (K2 (.cons rfl .nil) rfl) rfl (.cons rfl (.atom rfl) rfl pu1 (.cons rfl (.atom rfl) rfl (.skip pu1) .nil)) (.cons (.cons .nil)) L) t2 t0 (cK hG hX cl122 hN (q6 (decide (n<0)) [-n % 4294967296,-n / 4294967296 % 4294967296] sM (by simp [Wd]; omega)) L t2 ?_))
  refine sb (U2 sz45 rF pa2 rfl pu2) t2 t1 ?_
  refine zn [(2,_)] [(2,_)] t1 t1 (X1 ?_)
  refine Q0 (.agg rfl rfl rfl ag45 sz45 (.cons (.cons .nil))) ?_
  have:val [-n % 4294967296,-n / 4294967296 % 4294967296] = -n:=by simp only [val]; omega
  rw [this]; simp [sg,hc]
 ·have hc:=df hc
  refine U1 (xq ?_)
  refine exr (mV L rfl (sw (P3 L) t2 t0 (mV L rfl (sw (D4 un127 un119 L m8) t1 t0 (mV L rfl (sw (I9 L dC (f0d (c:=4294967296) rF dC)) t2 t0 ?_))))))
  refine sw (D4 un127 un119 L m8) t1 t0 (sw (q4 (vs:=[_,_]) un43 ti119 rfl rfl dC dC rfl (K2 (.cons rfl .nil) rfl) rfl (.cons rfl (.atom rfl) rfl pu1 (.cons rfl (.atom rfl) rfl (.skip pu1) .nil)) (.cons (.cons .nil)) L) t2 t0 (cK hG hX cl122 hN (q6 (decide (n<0)) [n % 18446744073709551616 % 4294967296,n % 18446744073709551616 / 4294967296 % 4294967296] sM (by simp [Wd]; omega)) L t2 ?_))
  refine sb (U2 sz45 rF pa2 rfl pu2) t2 t1 ?_
  refine zn [(2,_)] [(2,_)] t1 t1 (X1 ?_)
  refine Q0 (.agg rfl rfl rfl ag45 sz45 (.cons (.cons .nil))) ?_
  have:val [n % 18446744073709551616 % 4294967296,n % 18446744073709551616 / 4294967296 % 4294967296]=n:=by simp only [val]; omega
  rw [this]; simp [sg,hc]
theorem g1m (neg:Bool)(ws:List Int)(hl:ws.length<10000000000000)(h:Wd ws):v3 E 78 [pI neg ws] (vZ (if P2 neg ws=true then (sg neg (val ws)).sign else 0)):=by
 refine D2 (xs:=[vZ (if P2 neg ws=true then (sg neg (val ws)).sign else 0)]) Tryz.func78 rfl Tryz.ntmps78 Tryz.results78 sM fun F hG hX0 hnt hdf P0=>?_
 obtain ⟨L,hX,hN⟩:=pro hnt hX0 hG
 refine exr (swb (U3 (k:=1) (n:=2) pa2 rfl rfl (P0 _ rfl) L) t1 t0 ⟨rfl,rfl⟩ (aV L rfl (zn [(1,_)] [(1,_)] t1 t1 (R1 ?_))))
 refine exm (sl:=[(11,vb (!(P2 neg ws && !decide (ws.length=0))))]) (sl0:=[(1,_)]) (hb:=[]) (hb0:=[(1,_)]) t1 t1 ?_ ?_
 ·by_cases hc:P2 neg ws=true
  ·refine lp2 ag45 sz45 L rfl rfl (cK hG hX cl77 hN (E5 neg ws hl) L t1 (sw (C4 L) t1 t0 (mV L rfl (swg (g:=6) rfl (by simp [hc]) (i2 un45 rfl sz43 dC rX L) rfl t1 t1 ?_))))
   refine swg (g:=6) rfl (by simp [hc]) (Y1 ag43 rF rF L) rfl t1 t1 ?_
   refine swg (g:=6) rfl (by simp [hc]) (R2 un43 L) rfl t1 t0 ?_
   refine swg (g:=6) rfl (by simp [hc]) (c_e L) rfl t2 t0 ?_
   refine sw (y4 (by simp [hc]) L) t2 t0 ?_
   exact O1 ⟨⟨ob rfl (by simp [hc]),rfl,trivial⟩,t1⟩
  ·refine lp2 ag45 sz45 L rfl rfl (cK hG hX cl77 hN (E5 neg ws hl) L t1 (sw (C4 L) t1 t0 (mV L rfl (swn (g:=6) rfl (by simp [hc]) L rfl ?_))))
   refine swn (g:=6) rfl (by simp [hc]) L rfl ?_
   refine swn (g:=6) rfl (by simp [hc]) L rfl ?_
   refine swn (g:=6) rfl (by simp [hc]) L rfl ?_
   refine sw (O4 (by simp [hc]) L) t2 t0 ?_
   exact O1 ⟨⟨ob rfl (by simp [hc]),rfl,trivial⟩,t1⟩
 refine j2 rfl (fun hd=>?_) (fun hd=>?_)
 ·refine exr (aV L rfl (zn [(2,_)] [] t1 trivial (X1 ?_)))
  refine Q0 (.tmp rfl) ?_
  have hd:P2 neg ws=true→ws=[]:=by intro hc; simpa [hc] using hd
  split
  ·rename_i hc; rw [hd hc]; cases neg <;> simp [sg,val]
  ·rfl
 ·have hd:P2 neg ws=true∧¬ ws=[]:=by simpa using hd
  have hv:=F2 h
  have hv2:val ws≠0:=fun e=>hd.2 (I7 h (P5 hd.1).1 e)
  refine U1 (xq ?_)
  refine R1 (exr (sw (i2 un45 rfl sz4 dC rX L) t1 t1 ?_))
  refine sw (Y1 ag4 rF rF L) t1 t1 ?_
  refine zn [(13,_)] [] t1 trivial ?_
  refine j2 rfl (fun hn=>?_) (fun hn=>?_)
  ·refine exr (aV L rfl (zn [(2,_)] [] t1 trivial (X1 ?_)))
   refine Q0 (.tmp rfl) ?_
   rw [if_pos hd.1,hn,sg,if_pos rfl,Int.sign_eq_neg_one_of_neg oM]
  ·refine U1 (xq ?_)
   refine exr (aV L rfl (zn [(2,_)] [] t1 trivial (X1 ?_)))
   refine Q0 (.tmp rfl) ?_
   rw [if_pos hd.1,hn,sg]
   simp only [Bool.false_eq_true,if_false]
   rw [Int.sign_eq_one_of_pos oM]
theorem p1h (neg:Bool)(ws:List Int)(hl:ws.length<10000000000000)(h:Wd ws):v3 E 105 [pI neg ws] (pZ (if P2 neg ws=true then -(sg neg (val ws)) else 0)):=by
 refine D2 (xs:=[pZ (if P2 neg ws=true then -(sg neg (val ws)) else 0)]) Tryz.func105 rfl Tryz.ntmps105 Tryz.results105 sM fun F hG hX0 hnt hdf P0=>?_
 obtain ⟨L,hX,hN⟩:=pro hnt hX0 hG
 refine exr (swb (U3 (k:=1) (n:=2) pa2 rfl rfl (P0 _ rfl) L) t1 t0 ⟨rfl,rfl⟩ (swb (R3 (k:=2) (n:=2) zv45 (.cons rfl (.cons rfl .nil)) rfl (P0 _ rfl) L) t0 t0 ⟨rfl,rfl⟩ (zn [(1,_),(2,_)] [(1,_),(2,_)] t2 t2 (R1 (exr (lp2 ag45 sz45 L rfl rfl (cK hG hX cl77 hN (E5 neg ws hl) L t1 (sw (C4 L) t1 t0 (zn [(1,_),(2,_),(5,_)] [(1,_),(2,_)] t3 t2 ?_)))))))))
 refine j2 rfl (fun hc=>?_) (fun hc=>?_)
 ·have hc:P2 neg ws=false:=by simpa using hc
  refine exr (sw (b0d (G7 (vs:=[]) un45 zv45 (.cons rfl (.cons rfl .nil)) ((J2.cons sz4 (J2.cons sz43 J2.nil))).to rfl .nil (.cons (.cons .nil)) L) (.agg (.cons .same (.cons .nil .nil)))) t0 t0 (sb (U2 sz45 rF pa2 rfl pu2) t2 t1 ?_))
  refine zn [(2,_)] [(2,_)] t1 t1 (X1 ?_)
  refine Q0 (.agg rfl rfl rfl ag45 sz45 (.cons (.cons .nil))) ?_
  simp [hc,pZ,U4]; rfl
 ·have hc:P2 neg ws=true:=by simpa using hc
  refine U1 (xq ?_)
  refine exr (sw (i2 un45 rfl sz4 dC rX L) t1 t1 ?_)
  refine sw (Y1 ag4 rF rF L) t1 t1 ?_
  refine sw (C4 L) t1 t0 (sw (i2 un45 rfl sz43 dC rX L) t1 t1 ?_)
  refine sw (Y1 ag43 rF rF L) t1 t1 ?_
  refine cK hG hX cl122 hN (q6 (!neg) ws hl h) L t2 (sb (U2 sz45 rF pa2 rfl pu2) t2 t1 ?_)
  refine zn [(2,_)] [(2,_)] t1 t1 (X1 ?_)
  refine Q0 (.agg rfl rfl rfl ag45 sz45 (.cons (.cons .nil))) ?_
  rw [if_pos hc]; cases neg <;> simp [sg]
theorem M0q (neg:Bool)(ws:List Int)(hl:ws.length<10000000000000)(h:Wd ws):v3 E 117 [pI neg ws] (pZ (if P2 neg ws=true then ((sg neg (val ws)).natAbs:Int) else 0)):=by
 refine D2 (xs:=[pZ (if P2 neg ws=true then ((sg neg (val ws)).natAbs:Int) else 0)]) Tryz.func117 rfl Tryz.ntmps117 Tryz.results117 sM fun F hG hX0 hnt hdf P0=>?_
 obtain ⟨L,hX,hN⟩:=pro hnt hX0 hG
 refine exr (swb (U3 (k:=1) (n:=2) pa2 rfl rfl (P0 _ rfl) L) t1 t0 ⟨rfl,rfl⟩ (swb (R3 (k:=2) (n:=2) zv45 (.cons rfl (.cons rfl .nil)) rfl (P0 _ rfl) L) t0 t0 ⟨rfl,rfl⟩ (zn [(1,_),(2,_)] [(1,_),(2,_)] t2 t2 (R1 (exr (lp2 ag45 sz45 L rfl rfl (cK hG hX cl77 hN (E5 neg ws hl) L t1 (sw (C4 L) t1 t0 (zn [(1,_),(2,_),(5,_)] [(1,_),(2,_)] t3 t2 ?_)))))))))
 refine j2 rfl (fun hc=>?_) (fun hc=>?_)
 ·have hc:P2 neg ws=false:=by simpa using hc
  refine exr (sw (b0d (G7 (vs:=[]) un45 zv45 (.cons rfl (.cons rfl .nil)) ((J2.cons sz4 (J2.cons sz43 J2.nil))).to rfl .nil (.cons (.cons .nil)) L) (.agg (.cons .same (.cons .nil .nil)))) t0 t0 (sb (U2 sz45 rF pa2 rfl pu2) t2 t1 ?_))
  refine zn [(2,_)] [(2,_)] t1 t1 (X1 ?_)
  refine Q0 (.agg rfl rfl rfl ag45 sz45 (.cons (.cons .nil))) ?_
  simp [hc,pZ,U4]; rfl
 ·have hc:P2 neg ws=true:=by simpa using hc
  refine U1 (xq ?_)
  refine exr (sw (i2 un45 rfl sz43 dC rX L) t1 t1 ?_)
  refine sw (Y1 ag43 rF rF L) t1 t1 ?_
  refine cK hG hX cl122 hN (q6 false ws hl h) L t2 (sb (U2 sz45 rF pa2 rfl pu2) t2 t1 ?_)
  refine zn [(2,_)] [(2,_)] t1 t1 (X1 ?_)
  refine Q0 (.agg rfl rfl rfl ag45 sz45 (.cons (.cons .nil))) ?_
  have e:((sg neg (val ws)).natAbs:Int)=sg false (val ws):=by have:=F2 h; cases neg <;> simp [sg] <;> omega
  rw [if_pos hc,e]
theorem H0b (x y c:Int)(hx:0≤x∧x<4294967296)(hy:0≤y∧y<4294967296)(hc:0≤c∧c≤1):v3 E 171 [oZ x,oZ y,oZ c] (.tup [oZ ((x+y+c) % 4294967296),oZ ((x+y+c) / 4294967296)]):=by
 refine D2 (xs:=[oZ ((x+y+c) % 4294967296),oZ ((x+y+c) / 4294967296)]) Tryz.func171 rfl Tryz.ntmps171 Tryz.results171 sM fun F hG hX0 hnt hdf P0=>?_
 obtain ⟨L,hX,hN⟩:=pro hnt hX0 hG
 refine exr (aV L rfl (aV L rfl (zn [(0,_),(1,_),(2,_)] [] t3 trivial (exr (mV L rfl (sw (D4 un119 un127 L (I4 oM oM)) t1 t0 (mV L rfl (sw (D4 un119 un127 L (I4 oM oM)) t1 t0 (sw (B3 L (I4 oM oM)) t2 t0 (mV L rfl (sw (D4 un119 un127 L (I4 oM oM)) t1 t0 ?_)))))))))))
 refine sw (B3 L (I4 oM oM)) t2 t0 (aV L rfl (zn [(8,_)] [] t1 trivial (exr (mV L rfl (sw (D4 un127 un119 L m8) t1 t0 (aV L rfl (zn [(6,_),(8,_)] [] t2 trivial (exr (mV L rfl (sw (I9 L dC (f0d (c:=4294967296) rF dC)) t2 t0 ?_))))))))))
 refine sw (D4 un127 un119 L (D0b oM oM)) t1 t0 (aV L rfl (zn [(6,_),(7,_)] [] t2 trivial (X1 ?_)))
 refine Y0 (.tmp rfl) (.tmp rfl) ?_
 rfl
theorem h1j (x y c:Int)(hx:0≤x∧x<4294967296)(hy:0≤y∧y<4294967296)(hc:0≤c∧c≤1):y0x E 173 [.p (oZ x),.p (oZ y),.at_ 1000 0 1] [(1000,⟨119,1,.mix [.p (oZ c)]⟩)] [(1000,⟨119,1,.mix [.p (oZ ((x+y+c) / 4294967296))]⟩)] (oZ ((x+y+c) % 4294967296)):=by
 refine f0r (xs:=[oZ ((x+y+c) % 4294967296)]) Tryz.func173 rfl Tryz.ntmps173 Tryz.results173 sM rfl (n0f rfl) fun F hG hX hnt hdf P0 hXp=>?_
 have L:=@lti _ _ hnt
 have hN:=Y5 hG
 refine exr (aV L rfl (zn [(0,_),(1,_),(2,_)] [(1000,_)] t3 t1 (exr (mV L rfl (mV L rfl (sw (Y1 ag119 rF rF L) t1 t1 ?_))))))
 refine cK hG hX cl171 hN (H0b x y c hx hy hc) L t3 (mV L rfl (sw (O3 rfl L) t1 t0 (sw (O3 rfl L) t1 t0 (aV L rfl (aV L rfl (zn [(2,_),(6,_),(7,_)] [(1000,_)] t3 t1 (exr (mV L rfl (sb (U2 sz119 rF (.atom rfl) rfl pu1) t2 t1 ?_)))))))))
 refine zn [(6,_)] [(1000,_)] t1 t1 (exr (mV L rfl (aV L rfl (zn [(5,_)] [(1000,_)] t1 t1 (X1 ?_)))))
 refine ⟨.inr rfl,X4.cast (.cons (.tmp rfl) .nil) ?_,t1⟩
 rfl
theorem M0y (neg:Bool)(ws:List Int)(hl:ws.length<10000000000000)(h:Wd ws):v3 E 162 [.a (.bool neg),pW ws] (.tup [vZ (if ws.length≤1 then sg neg (val ws) else 0),bZ (decide (ws.length≤1))]):=by
 refine D2 (xs:=[vZ (if ws.length≤1 then sg neg (val ws) else 0),bZ (decide (ws.length≤1))]) Tryz.func162 rfl Tryz.ntmps162 Tryz.results162 sM fun F hG hX0 hnt hdf P0=>?_
 obtain ⟨L,hX,hN⟩:=pro hnt hX0 hG
 refine exr (aV L rfl (aV L rfl (zn [(0,_),(1,_)] [] t2 trivial (R1 (exr (mV L rfl (sw (R2 un43 L) t1 t0 (sw (i7 L) t2 t0 (zn [(0,_),(1,_),(9,_)] [] t3 trivial ?_)))))))))
 refine j2 rfl (fun hc=>?_) (fun hc=>?_)
 ·have hc:=dt hc
  refine exr (aV L rfl (aV L rfl (zn [(4,_),(5,_)] [] t2 trivial (X1 ?_))))
  refine Y0 (.tmp rfl) (.tmp rfl) ?_
  rw [if_neg oM,decide_eq_false oM]
 ·have hc:=df hc
  refine U1 (xq ?_)
  refine exr (aV L rfl (zn [(0,_),(1,_),(6,_)] [] t3 trivial (R1 (exr (mV L rfl (sw (R2 un43 L) t1 t0 (sw (c_e L) t2 t0 (zn [(0,_),(1,_),(6,_),(12,_)] [] t4 trivial ?_))))))))
  refine g0x (sl:=[(6,vi (val ws))]) (sl0:=[(0,_)]) (hb:=[]) (hb0:=[]) t1 t0 ?_ ?_
  ·refine j2 rfl (fun hd=>?_) (fun hd=>?_)
   ·have hd:=dt hd
    have hw:=h.get (i:=0) oM
    refine j3 (mV L rfl (sw (ixJ un43 sz119 (j:=0) rfl oM sM L) t2 t0 ?_))
    refine sw (d4 ag119 (by first | exact b6 oM | rfl) L) t1 t0 ?_
    refine sw (D4 un119 un2 L (w64 oM oM)) t1 t0 (aV L rfl (O1 ?_))
    exact ⟨⟨oi (k0n oM) rfl,oR,trivial⟩,trivial⟩
   ·have hd:=df hd
    have e:ws=[]:=E0 oM
    refine U1 ?_
    exact ⟨⟨oi (by rw [e]; rfl) rfl,oR,trivial⟩,trivial⟩
  ·have hv:=F2 h
   have hv2:=k0m h oM
   refine R1 (exr (mV L rfl (zn [(6,_),(17,_)] [] t2 trivial ?_)))
   refine g0x (sl:=[(6,vi (sg neg (val ws)))]) (sl0:=[]) (hb:=[]) (hb0:=[]) t0 t0 ?_ ?_
   ·refine j2 rfl (fun hn=>?_) (fun hn=>?_)
    ·refine j3 (mV L rfl (sw (q1c L (w64 oM oM)) t1 t0 (aV L rfl (O1 ?_))))
     exact ⟨⟨oi (by rw [hn,sg,if_pos rfl]; omega) rfl,trivial⟩,trivial⟩
    ·refine U1 ?_
     exact ⟨⟨oi (by rw [hn]; rfl) rfl,trivial⟩,trivial⟩
   ·refine exr (mV L rfl (aV L rfl (aV L rfl (zn [(4,_),(5,_)] [] t2 trivial (X1 ?_)))))
    refine Y0 (.tmp rfl) (.tmp rfl) ?_
    rw [if_pos oM,decide_eq_true oM]
theorem D1a (X Y:BitVec 32)(b:Int)(hb:0≤b∧b≤1):v3 E 175 [oZ X.toNat,oZ Y.toNat,oZ b] (.tup [oZ (((X.toNat:Int) - Y.toNat - b) % 4294967296),oZ (if (X.toNat:Int)<Y.toNat+b then 1 else 0)]):=by
 refine D2 (xs:=[oZ (((X.toNat:Int) - Y.toNat - b) % 4294967296),oZ (if (X.toNat:Int)<Y.toNat+b then 1 else 0)]) Tryz.func175 rfl Tryz.ntmps175 Tryz.results175 sM fun F hG hX0 hnt hdf P0=>?_
 obtain ⟨L,hX,hN⟩:=pro hnt hX0 hG
 have hx:=X.isLt
 have hy:=Y.isLt
 obtain ⟨D,hD⟩:∃ D:BitVec 32,(D.toNat:Int)=((X.toNat:Int) - Y.toNat - b) % 4294967296:=⟨BitVec.ofInt 32 ((X.toNat:Int) - Y.toNat - b),by rw [BitVec.toNat_ofInt]; omega⟩
 refine exr (aV L rfl (aV L rfl (zn [(0,_),(1,_),(2,_)] [] t3 trivial (exr (mV L rfl (mV L rfl (sw (n6 L m8) t2 t0 (mV L rfl (sw (n6 L (show _=(D.toNat:Int) by rw [m8,hD]; omega)) t2 t0 ?_)))))))))
 refine aV L rfl (zn [(0,_),(1,_),(6,_)] [] t3 trivial (exr (mV L rfl (sw (M0b rfl L (G1b X)) t1 t0 (mV L rfl (sw (J1r L (B1k (~~~X) Y)) t2 t0 (mV L rfl (mV L rfl (sw (c_x L (V1z X Y)) t2 t0 (sw (M0b rfl L (G1b (X ^^^ Y))) t1 t0 (mV L rfl ?_)))))))))))
 refine sw (J1r L (B1k (~~~(X ^^^ Y)) D)) t2 t0 (sw (v0r L (Y1g (~~~X &&& Y) (~~~(X ^^^ Y) &&& D))) t2 t0 (sw (I9 L dC (f0d (c:=2147483648) rF dC)) t2 t0 ?_))
 refine aV L rfl (zn [(6,_),(7,_)] [] t2 trivial (X1 ?_))
 refine Y0 (.tmp rfl) (.tmp rfl) ?_
 rw [D1q X Y b hb D hD,hD]
theorem h1s (x y c:Int)(hx:0≤x∧x<4294967296)(hy:0≤y∧y<4294967296)(hc:0≤c∧c≤1):v3 E 175 [oZ x,oZ y,oZ c] (.tup [oZ ((x - y - c) % 4294967296),oZ (if x<y+c then 1 else 0)]):=by
 have e:∀ {z:Int},0≤z∧z<4294967296→((BitVec.ofInt 32 z).toNat:Int)=z:=fun {z} hz=>by rw [BitVec.toNat_ofInt]; omega
 have:=D1a (BitVec.ofInt 32 x) (BitVec.ofInt 32 y) c hc
 rwa [e hx,e hy] at this
theorem V0y (x y c:Int)(hx:0≤x∧x<4294967296)(hy:0≤y∧y<4294967296)(hc:0≤c∧c≤1):y0x E 174 [.p (oZ x),.p (oZ y),.at_ 1000 0 1] [(1000,⟨119,1,.mix [.p (oZ c)]⟩)] [(1000,⟨119,1,.mix [.p (oZ (if x<y+c then 1 else 0))]⟩)] (oZ ((x - y - c) % 4294967296)):=by
 refine f0r (xs:=[oZ ((x - y - c) % 4294967296)]) Tryz.func174 rfl Tryz.ntmps174 Tryz.results174 sM rfl (n0f rfl) fun F hG hX hnt hdf P0 hXp=>?_
 have L:=@lti _ _ hnt
 have hN:=Y5 hG
 refine exr (aV L rfl (zn [(0,_),(1,_),(2,_)] [(1000,_)] t3 t1 (exr (mV L rfl (mV L rfl (sw (Y1 ag119 rF rF L) t1 t1 ?_))))))
 refine cK hG hX cl175 hN (h1s x y c hx hy hc) L t3 (mV L rfl (sw (O3 rfl L) t1 t0 (sw (O3 rfl L) t1 t0 (aV L rfl (aV L rfl (zn [(2,_),(6,_),(7,_)] [(1000,_)] t3 t1 (exr (mV L rfl (sb (U2 sz119 rF (.atom rfl) rfl pu1) t2 t1 ?_)))))))))
 refine zn [(6,_)] [(1000,_)] t1 t1 (exr (mV L rfl (aV L rfl (zn [(5,_)] [(1000,_)] t1 t1 (X1 ?_)))))
 refine ⟨.inr rfl,X4.cast (.cons (.tmp rfl) .nil) ?_,t1⟩
 rfl
theorem n1x (ws vs:List Int)(hl:ws.length<10000000000000)(hl2:vs.length<10000000000000)(h:Wd ws)(h2:Wd vs):y0x E 172 [.p (pW ws),.p (pW vs),.clo (.func 173) [] [.at_ 1000 0 1]] [(1000,⟨119,1,.mix [.p (oZ 0)]⟩)] [(1000,⟨119,1,.mix [.p (oZ 0)]⟩)] (pW (G4 (max ws.length vs.length+1) (val ws+val vs))):=by
 refine f0r (xs:=[pW (G4 (max ws.length vs.length+1) (val ws+val vs))]) Tryz.func172 rfl Tryz.ntmps172 Tryz.results172 sM rfl (n0f rfl) fun F hG hX hnt hdf P0 hXp=>?_
 have L:=@lti _ _ hnt
 have hN:=Y5 hG
 obtain ⟨n,hn⟩:∃ n,n=max ws.length vs.length+1:=⟨_,rfl⟩
 rw [← hn]
 refine exr (aV L rfl (zn [(0,_),(1,_),(2,_)] [(1000,_)] t3 t1 (exr (mV L rfl (sw (R2 un43 L) t1 t0 (mV L rfl (sw (R2 un43 L) t1 t0 (sw (V1p L) t2 t0 (sw (B3 L (w64 oM oM)) t2 t0 (aV L rfl ?_))))))))))
 refine O1 ⟨[(0,_),(1,_),(2,_),(7,vi (n:Int))],[(1000,_)],⟨rfl,rfl,rfl,oi oM rfl,trivial⟩,t1,?_⟩
 refine exr (mV L rfl (swb (v0a (k:=19) un43 ti119 rfl rfl rfl rfl rfl rfl (Nat.le_refl _) (by simp [Tryz.t119]; omega) oM (P0 _ rfl) L) t2 t0 ⟨rfl,rfl⟩ ?_))
 refine aV L rfl (zn [(0,_),(1,_),(2,_),(7,_),(8,_)] [(19,_),(1000,_)] t5 t2 (R1 (exr (mV L rfl (mV L rfl (zn [(0,_),(1,_),(2,_),(8,_),(20,_),(21,_)] [(19,_),(1000,_)] t6 t2 (V1 ?_)))))))
 refine exl (α:=(Nat×List Int×Int)) (fun x=>[(21,vi (x.1:Int))]) (fun x=>[(19,⟨119,1,.pure (J4 (x.2.1++List.replicate (n - x.1) 0))⟩),(1000,⟨119,1,.mix [.p (oZ x.2.2)]⟩)]) (fun x=>q0q ws vs n x) (fun x=>n - x.1) (((0:Nat),([]:List Int),(0:Int))) (sl:=[(0,_),(1,_),(2,_),(8,_),(20,_)]) (hb:=[]) ?_ ⟨oR,rfl,rfl,rfl,rfl,rfl,trivial⟩ ⟨obl rfl (by simp [J4]),rfl,trivial⟩ ?_
 ·exact q0q.zero ws vs n
 intro x hx
 obtain ⟨i,ys,c⟩:=x
 have hlen:=hx.len
 have hle:=hx.le
 have hc0:=hx.c0
 have hc1:=hx.c1
 simp only at hlen hle hc0 hc1
 dsimp only
 have hw:=h.getD i
 have hw2:=h2.getD i
 refine exr (sw (P3 L) t2 t0 (zn [(0,_),(1,_),(2,_),(8,_),(20,_),(21,_),(22,_)] [(19,_),(1000,_)] t7 t2 (R1 ?_)))
 refine j2 rfl (fun he=>?_) (fun he=>?_)
 ·have he:=dt he
  refine U1 (xq ?_)
  refine R1 (V1 (exr (mV L rfl (aV L rfl (zn [(0,_),(1,_),(2,_),(8,_),(9,_),(20,_),(21,_)] [(19,_),(1000,_)] t7 t2 (exr (aV L rfl (aV L rfl (zn [(0,_),(1,_),(2,_),(8,_),(9,_),(10,_),(11,_),(20,_),(21,_)] [(19,_),(1000,_)] t9 t2 (R1 (exr ?_)))))))))))
  refine mV L rfl (mV L rfl (sw (R2 un43 L) t1 t0 (sw (P3 L) t2 t0 (zn [(0,_),(1,_),(2,_),(8,_),(9,_),(10,_),(11,_),(20,_),(21,_),(27,_)] [(19,_),(1000,_)] t10 t2 ?_))))
  refine g0x (sl:=[(10,vu (ws.getD i 0))]) (sl0:=[(0,_),(1,_),(2,_),(8,_),(9,_),(11,_),(20,_),(21,_)]) (hb:=[]) (hb0:=[(19,_),(1000,_)]) t8 t2 ?_ ?_
  ·refine j2 rfl (fun hd=>?_) (fun hd=>?_)
   ·have hd:=dt hd
    refine j3 (mV L rfl (mV L rfl (sw (ixJ un43 sz119 (j:=i) rO oM sM L) t2 t0 ?_)))
    refine sw (d4 ag119 (by first | exact b6 oM | rfl) L) t1 t0 ?_
    refine aV L rfl (O1 ?_)
    exact ⟨⟨oR,oR,oR,oR,oR,oR,oR,oR,oR,trivial⟩,t2⟩
   ·have hd:=df hd
    refine U1 ?_
    exact ⟨⟨oi (F9 oM).symm rfl,oR,oR,oR,oR,oR,oR,oR,oR,trivial⟩,t2⟩
  ·refine R1 (exr (mV L rfl (mV L rfl (sw (R2 un43 L) t1 t0 (sw (P3 L) t2 t0 (zn [(0,_),(1,_),(2,_),(8,_),(9,_),(10,_),(11,_),(20,_),(21,_),(35,_)] [(19,_),(1000,_)] t10 t2 ?_))))))
   refine g0x (sl:=[(11,vu (vs.getD i 0))]) (sl0:=[(0,_),(1,_),(2,_),(8,_),(9,_),(10,_),(20,_),(21,_)]) (hb:=[]) (hb0:=[(19,_),(1000,_)]) t8 t2 ?_ ?_
   ·refine j2 rfl (fun hd=>?_) (fun hd=>?_)
    ·have hd:=dt hd
     refine j3 (mV L rfl (mV L rfl (sw (ixJ un43 sz119 (j:=i) rO oM sM L) t2 t0 ?_)))
     refine sw (d4 ag119 (by first | exact b6 oM | rfl) L) t1 t0 ?_
     refine aV L rfl (O1 ?_)
     exact ⟨⟨oR,oR,oR,oR,oR,oR,oR,oR,oR,trivial⟩,t2⟩
    ·have hd:=df hd
     refine U1 ?_
     exact ⟨⟨oi (F9 oM).symm rfl,oR,oR,oR,oR,oR,oR,oR,oR,trivial⟩,t2⟩
   ·refine j3 (mV L rfl (mV L rfl (mV L rfl (mV L rfl (mV L rfl (swB (n1s hG hX [1000] hN (h1j (ws.getD i 0) (vs.getD i 0) c hw hw2 ⟨hc0,hc1⟩) rfl (w7 (fst:=[]) (ys:=[_,_]) (cap:=[_]) cl173 rfl rF) rF rF rF rF (h0m.to (.cons rfl .nil)) rF rF L) t3 t1 ?_))))))
    refine sw (y6 un43 sz119 (by exact sO) (j:=i) rO oM L) t2 t1 ?_
    refine sb (d0c sz119 (by exact sO) (.atom rfl) oM) t2 t1 ?_
    refine O1 (j3 (sw (B3 L (w64 oM oM)) t2 t0 (mV L rfl (O1 ?_))))
    exact ⟨(i+1,ys++[(ws.getD i 0+vs.getD i 0+c) % 4294967296],(ws.getD i 0+vs.getD i 0+c) / 4294967296),hx.next h h2 oM,(by simp only; omega),l3 ⟨oR,rfl,rfl,rfl,rfl,rfl,trivial⟩ ⟨obl rfl (by rw [m5,Y0v hlen oM]),rfl,trivial⟩⟩
 ·have he:=df he
  have hi:i=n:=by omega
  subst hi
  obtain ⟨e1,e2⟩:c=0∧ys=G4 i (val ws+val vs):=M1m h h2 hx.wd hlen hn hc0 hx.eq
  subst e1
  refine G2 (xq ?_)
  refine exr (mV L rfl (aV L rfl (zn [(6,_)] [(19,_),(1000,_)] t1 t2 (s4 [19] (sl:=[(6,_)]) (hb:=[(1000,_)]) (y1k hXp rfl) ⟨⟨_,rfl,(.ref rfl rfl (by exact sO) (by first | rfl | omega))⟩,trivial⟩ ⟨⟨rfl,_,rfl,.same⟩,trivial⟩ ?_))))
  refine X1 ?_
  refine ⟨.inr rfl,X4.cast (.cons (.tmp rfl) .nil) ?_,t1⟩
  rw [e2]; simp [E3]
theorem p1c (ws vs:List Int)(hl:ws.length<10000000000000)(hl2:vs.length<10000000000000)(h:Wd ws)(h2:Wd vs)(hle0:val vs≤val ws):y0x E 172 [.p (pW ws),.p (pW vs),.clo (.func 174) [] [.at_ 1000 0 1]] [(1000,⟨119,1,.mix [.p (oZ 0)]⟩)] [(1000,⟨119,1,.mix [.p (oZ 0)]⟩)] (pW (G4 (max ws.length vs.length+1) (val ws - val vs))):=by
 refine f0r (xs:=[pW (G4 (max ws.length vs.length+1) (val ws - val vs))]) Tryz.func172 rfl Tryz.ntmps172 Tryz.results172 sM rfl (n0f rfl) fun F hG hX hnt hdf P0 hXp=>?_
 have L:=@lti _ _ hnt
 have hN:=Y5 hG
 obtain ⟨n,hn⟩:∃ n,n=max ws.length vs.length+1:=⟨_,rfl⟩
 rw [← hn]
 refine exr (aV L rfl (zn [(0,_),(1,_),(2,_)] [(1000,_)] t3 t1 (exr (mV L rfl (sw (R2 un43 L) t1 t0 (mV L rfl (sw (R2 un43 L) t1 t0 (sw (V1p L) t2 t0 (sw (B3 L (w64 oM oM)) t2 t0 (aV L rfl ?_))))))))))
 refine O1 ⟨[(0,_),(1,_),(2,_),(7,vi (n:Int))],[(1000,_)],⟨rfl,rfl,rfl,oi oM rfl,trivial⟩,t1,?_⟩
 refine exr (mV L rfl (swb (v0a (k:=19) un43 ti119 rfl rfl rfl rfl rfl rfl (Nat.le_refl _) (by simp [Tryz.t119]; omega) oM (P0 _ rfl) L) t2 t0 ⟨rfl,rfl⟩ ?_))
 refine aV L rfl (zn [(0,_),(1,_),(2,_),(7,_),(8,_)] [(19,_),(1000,_)] t5 t2 (R1 (exr (mV L rfl (mV L rfl (zn [(0,_),(1,_),(2,_),(8,_),(20,_),(21,_)] [(19,_),(1000,_)] t6 t2 (V1 ?_)))))))
 refine exl (α:=(Nat×List Int×Int)) (fun x=>[(21,vi (x.1:Int))]) (fun x=>[(19,⟨119,1,.pure (J4 (x.2.1++List.replicate (n - x.1) 0))⟩),(1000,⟨119,1,.mix [.p (oZ x.2.2)]⟩)]) (fun x=>m0w ws vs n x) (fun x=>n - x.1) (((0:Nat),([]:List Int),(0:Int))) (sl:=[(0,_),(1,_),(2,_),(8,_),(20,_)]) (hb:=[]) ?_ ⟨oR,rfl,rfl,rfl,rfl,rfl,trivial⟩ ⟨obl rfl (by simp [J4]),rfl,trivial⟩ ?_
 ·exact m0w.zero ws vs n
 intro x hx
 obtain ⟨i,ys,c⟩:=x
 have hlen:=hx.len
 have hle:=hx.le
 have hc0:=hx.c0
 have hc1:=hx.c1
 simp only at hlen hle hc0 hc1
 dsimp only
 have hw:=h.getD i
 have hw2:=h2.getD i
 refine exr (sw (P3 L) t2 t0 (zn [(0,_),(1,_),(2,_),(8,_),(20,_),(21,_),(22,_)] [(19,_),(1000,_)] t7 t2 (R1 ?_)))
 refine j2 rfl (fun he=>?_) (fun he=>?_)
 ·have he:=dt he
  refine U1 (xq ?_)
  refine R1 (V1 (exr (mV L rfl (aV L rfl (zn [(0,_),(1,_),(2,_),(8,_),(9,_),(20,_),(21,_)] [(19,_),(1000,_)] t7 t2 (exr (aV L rfl (aV L rfl (zn [(0,_),(1,_),(2,_),(8,_),(9,_),(10,_),(11,_),(20,_),(21,_)] [(19,_),(1000,_)] t9 t2 (R1 (exr ?_)))))))))))
  refine mV L rfl (mV L rfl (sw (R2 un43 L) t1 t0 (sw (P3 L) t2 t0 (zn [(0,_),(1,_),(2,_),(8,_),(9,_),(10,_),(11,_),(20,_),(21,_),(27,_)] [(19,_),(1000,_)] t10 t2 ?_))))
  refine g0x (sl:=[(10,vu (ws.getD i 0))]) (sl0:=[(0,_),(1,_),(2,_),(8,_),(9,_),(11,_),(20,_),(21,_)]) (hb:=[]) (hb0:=[(19,_),(1000,_)]) t8 t2 ?_ ?_
  ·refine j2 rfl (fun hd=>?_) (fun hd=>?_)
   ·have hd:=dt hd
    refine j3 (mV L rfl (mV L rfl (sw (ixJ un43 sz119 (j:=i) rO oM sM L) t2 t0 ?_)))
    refine sw (d4 ag119 (by first | exact b6 oM | rfl) L) t1 t0 ?_
    refine aV L rfl (O1 ?_)
    exact ⟨⟨oR,oR,oR,oR,oR,oR,oR,oR,oR,trivial⟩,t2⟩
   ·have hd:=df hd
    refine U1 ?_
    exact ⟨⟨oi (F9 oM).symm rfl,oR,oR,oR,oR,oR,oR,oR,oR,trivial⟩,t2⟩
  ·refine R1 (exr (mV L rfl (mV L rfl (sw (R2 un43 L) t1 t0 (sw (P3 L) t2 t0 (zn [(0,_),(1,_),(2,_),(8,_),(9,_),(10,_),(11,_),(20,_),(21,_),(35,_)] [(19,_),(1000,_)] t10 t2 ?_))))))
   refine g0x (sl:=[(11,vu (vs.getD i 0))]) (sl0:=[(0,_),(1,_),(2,_),(8,_),(9,_),(10,_),(20,_),(21,_)]) (hb:=[]) (hb0:=[(19,_),(1000,_)]) t8 t2 ?_ ?_
   ·refine j2 rfl (fun hd=>?_) (fun hd=>?_)
    ·have hd:=dt hd
     refine j3 (mV L rfl (mV L rfl (sw (ixJ un43 sz119 (j:=i) rO oM sM L) t2 t0 ?_)))
     refine sw (d4 ag119 (by first | exact b6 oM | rfl) L) t1 t0 ?_
     refine aV L rfl (O1 ?_)
     exact ⟨⟨oR,oR,oR,oR,oR,oR,oR,oR,oR,trivial⟩,t2⟩
    ·have hd:=df hd
     refine U1 ?_
     exact ⟨⟨oi (F9 oM).symm rfl,oR,oR,oR,oR,oR,oR,oR,oR,trivial⟩,t2⟩
   ·refine j3 (mV L rfl (mV L rfl (mV L rfl (mV L rfl (mV L rfl (swB (n1s hG hX [1000] hN (V0y (ws.getD i 0) (vs.getD i 0) c hw hw2 ⟨hc0,hc1⟩) rfl (w7 (fst:=[]) (ys:=[_,_]) (cap:=[_]) cl174 rfl rF) rF rF rF rF (h0m.to (.cons rfl .nil)) rF rF L) t3 t1 ?_))))))
    refine sw (y6 un43 sz119 (by exact sO) (j:=i) rO oM L) t2 t1 ?_
    refine sb (d0c sz119 (by exact sO) (.atom rfl) oM) t2 t1 ?_
    refine O1 (j3 (sw (B3 L (w64 oM oM)) t2 t0 (mV L rfl (O1 ?_))))
    exact ⟨(i+1,ys++[(ws.getD i 0 - vs.getD i 0 - c) % 4294967296],if ws.getD i 0<vs.getD i 0+c then 1 else 0),hx.next h h2 oM,(by simp only; omega),l3 ⟨oR,rfl,rfl,rfl,rfl,rfl,trivial⟩ ⟨obl rfl (by rw [m5,Y0v hlen oM]),rfl,trivial⟩⟩
 ·have he:=df he
  have hi:i=n:=by omega
  subst hi
  obtain ⟨e1,e2⟩:c=0∧ys=G4 i (val ws - val vs):=m1j h h2 hle0 oM oM hx
  subst e1
  refine G2 (xq ?_)
  refine exr (mV L rfl (aV L rfl (zn [(6,_)] [(19,_),(1000,_)] t1 t2 (s4 [19] (sl:=[(6,_)]) (hb:=[(1000,_)]) (y1k hXp rfl) ⟨⟨_,rfl,(.ref rfl rfl (by exact sO) (by first | rfl | omega))⟩,trivial⟩ ⟨⟨rfl,_,rfl,.same⟩,trivial⟩ ?_))))
  refine X1 ?_
  refine ⟨.inr rfl,X4.cast (.cons (.tmp rfl) .nil) ?_,t1⟩
  rw [e2]; simp [E3]
theorem p1w (ws vs:List Int)(hl:ws.length<10000000000000)(hl2:vs.length<10000000000000)(h:Wd ws)(h2:Wd vs):v3 E 163 [pW ws,pW vs] (pW (G4 (max ws.length vs.length+1) (val ws+val vs))):=by
 refine D2 (xs:=[pW (G4 (max ws.length vs.length+1) (val ws+val vs))]) Tryz.func163 rfl Tryz.ntmps163 Tryz.results163 sM fun F hG hX0 hnt hdf P0=>?_
 obtain ⟨L,hX,hN⟩:=pro hnt hX0 hG
 refine exr (aV L rfl (zn [(0,_),(1,_)] [] t2 trivial (exr (swb (R3 (k:=5) (n:=1) zv119 (.cons rfl .nil) rfl (P0 _ rfl) L) t0 t0 ⟨rfl,rfl⟩ (zn [(0,_),(1,_),(5,_)] [(5,_)] t3 t1 (exr (mV L rfl (mV L rfl (sw (j0k (vs:=[]) (us:=[_]) rfl rfl L) t1 t0 (swB (n1s hG hX [5] hN (n1x ws vs hl hl2 h h2) rfl (K4 (ys:=[_,_,_]) cl172 rfl rF) rF rF rF rF (h0m.to (.cons rfl .nil)) rF rF L) t3 t1 ?_))))))))))
 refine aV L rfl (zn [(4,_)] [] t1 trivial (X1 ?_))
 refine Q0 (.tmp rfl) ?_
 rfl
theorem H0k (ws vs:List Int)(hl:ws.length<10000000000000)(hl2:vs.length<10000000000000)(h:Wd ws)(h2:Wd vs)(hle:val vs≤val ws):v3 E 164 [pW ws,pW vs] (pW (G4 (max ws.length vs.length+1) (val ws - val vs))):=by
 refine D2 (xs:=[pW (G4 (max ws.length vs.length+1) (val ws - val vs))]) Tryz.func164 rfl Tryz.ntmps164 Tryz.results164 sM fun F hG hX0 hnt hdf P0=>?_
 obtain ⟨L,hX,hN⟩:=pro hnt hX0 hG
 refine exr (aV L rfl (zn [(0,_),(1,_)] [] t2 trivial (exr (swb (R3 (k:=5) (n:=1) zv119 (.cons rfl .nil) rfl (P0 _ rfl) L) t0 t0 ⟨rfl,rfl⟩ (zn [(0,_),(1,_),(5,_)] [(5,_)] t3 t1 (exr (mV L rfl (mV L rfl (sw (j0k (vs:=[]) (us:=[_]) rfl rfl L) t1 t0 (swB (n1s hG hX [5] hN (p1c ws vs hl hl2 h h2 hle) rfl (K4 (ys:=[_,_,_]) cl172 rfl rF) rF rF rF rF (h0m.to (.cons rfl .nil)) rF rF L) t3 t1 ?_))))))))))
 refine aV L rfl (zn [(4,_)] [] t1 trivial (X1 ?_))
 refine Q0 (.tmp rfl) ?_
 rfl
theorem j0z (ws vs:List Int)(m n:Bool)(hl:ws.length<9999999999999)(hl2:vs.length<9999999999999)(h:Wd ws)(h2:Wd vs)(ht:Tr ws)(ht2:Tr vs):v3 E 153 [pW ws,bZ m,pW vs,bZ n] (pZ (sg m (val ws)+sg n (val vs))):=by
 refine D2 (xs:=[pZ (sg m (val ws)+sg n (val vs))]) Tryz.func153 rfl Tryz.ntmps153 Tryz.results153 sM fun F hG hX0 hnt hdf P0=>?_
 obtain ⟨L,hX,hN⟩:=pro hnt hX0 hG
 have hv:=F2 h
 have hv2:=F2 h2
 refine exr (swb (R3 (k:=8) (n:=2) zv45 (.cons rfl (.cons rfl .nil)) rfl (P0 _ rfl) L) t0 t0 ⟨rfl,rfl⟩ (zn [(0,_),(1,_),(2,_),(3,_),(8,_)] [(8,_)] t5 t1 (R1 (exr (mV L rfl (mV L rfl (cK hG hX cl162 hN (M0y m ws oM h) L t2 (mV L rfl (sw (O3 rfl L) t1 t0 (sw (O3 rfl L) t1 t0 (aV L rfl ?_)))))))))))
 refine aV L rfl (zn [(0,_),(1,_),(2,_),(3,_),(8,_),(9,_),(10,_)] [(8,_)] t7 t1 (exr (mV L rfl (zn [(0,_),(1,_),(2,_),(3,_),(8,_),(9,_),(19,_)] [(8,_)] t7 t1 ?_))))
 refine g0x (sl:=[]) (sl0:=[(0,_),(1,_),(2,_),(3,_),(8,_)]) (hb:=[]) (hb0:=[(8,_)]) t5 t1 ?_ ?_
 ·refine j2 rfl (fun hd=>?_) (fun hd=>?_)
  ·have hd:=dt hd
   have hw:=k0m h hd
   refine exr (mV L rfl (mV L rfl (cK hG hX cl162 hN (M0y n vs oM h2) L t2 (mV L rfl (sw (O3 rfl L) t1 t0 (sw (O3 rfl L) t1 t0 (aV L rfl (aV L rfl (zn [(0,_),(1,_),(2,_),(3,_),(8,_),(9,_),(11,_),(12,_)] [(8,_)] t8 t1 (exr (mV L rfl ?_)))))))))))
   refine zn [(0,_),(1,_),(2,_),(3,_),(8,_),(9,_),(11,_),(26,_)] [(8,_)] t8 t1 ?_
   refine j2 rfl (fun he=>?_) (fun he=>?_)
   ·have he:=dt he
    have hw2:=k0m h2 he
    rw [if_pos hd,if_pos he]
    have b1:=m1p m hv hw
    have b2:=m1p n hv2 hw2
    refine exr (mV L rfl (mV L rfl (sw (B3 L (w64 oM oM)) t2 t0 (cK hG hX cl101 hN (P0w (sg m (val ws)+sg n (val vs)) oM oM) L t1 (sb (U2 sz45 rF pa2 rfl pu2) t2 t1 ?_)))))
    refine zn [(8,_)] [(8,_)] t1 t1 (X1 ?_)
    refine Q0 (.agg rfl rfl rfl ag45 sz45 (.cons (.cons .nil))) ?_
    rfl
   ·refine U1 ?_
    exact ⟨⟨oR,oR,oR,oR,oR,trivial⟩,t1⟩
  ·refine U1 ?_
   exact ⟨⟨oR,oR,oR,oR,oR,trivial⟩,t1⟩
 ·refine R1 (exr (mV L rfl (mV L rfl (sw (b2m un4 L) t2 t0 (zn [(0,_),(1,_),(2,_),(3,_),(8,_),(33,_)] [(8,_)] t6 t1 ?_)))))
  refine j2 rfl (fun hd=>?_) (fun hd=>?_)
  ·have hd:m=n:=by simpa using hd
   subst hd
   refine exr (mV L rfl (mV L rfl (mV L rfl (cK hG hX cl163 hN (p1w ws vs oM oM h h2) L t2 (cK hG hX cl131 hN (B7 m (G4 (max ws.length vs.length+1) (val ws+val vs)) (by rw [E3]; omega) (w6 _ _)) L t2 ?_)))))
   refine sb (U2 sz45 rF pa2 rfl pu2) t2 t1 ?_
   refine zn [(8,_)] [(8,_)] t1 t1 (X1 ?_)
   refine Q0 (.agg rfl rfl rfl ag45 sz45 (.cons (.cons .nil))) ?_
   rw [i6 oM (b0p h h2),g1b]
  ·have hd:m≠n:=by simpa using hd
   refine U1 (xq ?_)
   refine R1 (exr (mV L rfl (mV L rfl (cK hG hX cl141 hN (f0a ws vs oM oM h h2 ht ht2) L t2 (sw (d0b L) t2 t0 (zn [(0,_),(1,_),(2,_),(3,_),(8,_),(42,_)] [(8,_)] t6 t1 ?_))))))
   have hx:val ws<4294967296 ^ (max ws.length vs.length+1):=by have:=b0p h h2; omega
   have hx2:val vs<4294967296 ^ (max ws.length vs.length+1):=by have:=b0p h h2; omega
   refine j2 rfl (fun he=>?_) (fun he=>?_)
   ·have he:=m1k (dt he)
    refine exr (mV L rfl (mV L rfl (mV L rfl (cK hG hX cl164 hN (H0k ws vs oM oM h h2 he) L t2 (cK hG hX cl131 hN (B7 m (G4 (max ws.length vs.length+1) (val ws - val vs)) (by rw [E3]; omega) (w6 _ _)) L t2 ?_)))))
    refine sb (U2 sz45 rF pa2 rfl pu2) t2 t1 ?_
    refine zn [(8,_)] [(8,_)] t1 t1 (X1 ?_)
    refine Q0 (.agg rfl rfl rfl ag45 sz45 (.cons (.cons .nil))) ?_
    rw [i6 oM oM,Q0v hd]
   ·have he:=m1d (df he)
    refine U1 (xq ?_)
    refine exr (mV L rfl (mV L rfl (mV L rfl (cK hG hX cl164 hN (H0k vs ws oM oM h2 h oM) L t2 (cK hG hX cl131 hN (B7 n (G4 (max vs.length ws.length+1) (val vs - val ws)) (by rw [E3]; omega) (w6 _ _)) L t2 ?_)))))
    refine sb (U2 sz45 rF pa2 rfl pu2) t2 t1 ?_
    refine zn [(8,_)] [(8,_)] t1 t1 (X1 ?_)
    refine Q0 (.agg rfl rfl rfl ag45 sz45 (.cons (.cons .nil))) ?_
    rw [i6 oM (by rw [Nat.max_comm]; omega),Q0v hd.symm,Int.add_comm]
theorem y1y (m n:Bool)(ws vs:List Int)(hl:ws.length<9999999999999)(hl2:vs.length<9999999999999)(h:Wd ws)(h2:Wd vs):v3 E 140 [pI m ws,pI n vs] (pZ (if P2 m ws=true∧P2 n vs=true then sg m (val ws)+sg n (val vs) else 0)):=by
 refine D2 (xs:=[pZ (if P2 m ws=true∧P2 n vs=true then sg m (val ws)+sg n (val vs) else 0)]) Tryz.func140 rfl Tryz.ntmps140 Tryz.results140 sM fun F hG hX0 hnt hdf P0=>?_
 obtain ⟨L,hX,hN⟩:=pro hnt hX0 hG
 refine exr (swb (U3 (k:=2) (n:=2) pa2 rfl rfl (P0 _ rfl) L) t1 t0 ⟨rfl,rfl⟩ (swb (U3 (k:=3) (n:=2) pa2 rfl rfl (P0 _ rfl) L) t1 t0 ⟨rfl,rfl⟩ (swb (R3 (k:=4) (n:=2) zv45 (.cons rfl (.cons rfl .nil)) rfl (P0 _ rfl) L) t0 t0 ⟨rfl,rfl⟩ (zn [(2,_),(3,_),(4,_)] [(2,_),(3,_),(4,_)] t3 t3 (R1 (exr (lp2 ag45 sz45 L rfl rfl (lp2 ag45 sz45 L rfl rfl (sw (q4 (vs:=[_,_]) un139 ti45 rfl rfl dC dC rfl (K2 (.cons rfl (.cons rfl .nil)) rfl) rfl (.cons rfl pa2 rfl pu2 (.cons rfl pa2 rfl (.skip (.skip pu2)) .nil)) (.cons (.cons (.cons (.cons .nil)))) L) t2 t0 (cK hG hX cl138 hN (f0m [(m,ws),(n,vs)] sM sO) L t1 ?_))))))))))
 refine sw (C4 L) t1 t0 (zn [(2,_),(3,_),(4,_),(9,_)] [(2,_),(3,_),(4,_)] t4 t3 ?_)
 refine j2 rfl (fun hc=>?_) (fun hc=>?_)
 ·have hc:¬ (P2 m ws=true∧P2 n vs=true):=by rintro ⟨h1,h2⟩; simp [h1,h2] at hc
  refine exr (sw (b0d (G7 (vs:=[]) un45 zv45 (.cons rfl (.cons rfl .nil)) ((J2.cons sz4 (J2.cons sz43 J2.nil))).to rfl .nil (.cons (.cons .nil)) L) (.agg (.cons .same (.cons .nil .nil)))) t0 t0 (sb (U2 sz45 rF pa2 rfl pu2) t2 t1 ?_))
  refine zn [(4,_)] [(4,_)] t1 t1 (X1 ?_)
  refine Q0 (.agg rfl rfl rfl ag45 sz45 (.cons (.cons .nil))) ?_
  rw [if_neg hc,U8]; rfl
 ·have hc:P2 m ws=true∧P2 n vs=true:=by simpa using hc
  refine U1 (xq ?_)
  refine exr (sw (i2 un45 rfl sz43 dC rX L) t1 t1 ?_)
  refine sw (Y1 ag43 rF rF L) t1 t1 ?_
  refine sw (i2 un45 rfl sz4 dC rX L) t1 t1 ?_
  refine sw (Y1 ag4 rF rF L) t1 t1 ?_
  refine sw (i2 un45 rfl sz43 dC rX L) t1 t1 ?_
  refine sw (Y1 ag43 rF rF L) t1 t1 ?_
  refine sw (i2 un45 rfl sz4 dC rX L) t1 t1 ?_
  refine sw (Y1 ag4 rF rF L) t1 t1 ?_
  refine cK hG hX cl153 hN (j0z ws vs m n hl hl2 h h2 (P5 hc.1).1 (P5 hc.2).1) L t4 (sb (U2 sz45 rF pa2 rfl pu2) t2 t1 ?_)
  refine zn [(4,_)] [(4,_)] t1 t1 (X1 ?_)
  refine Q0 (.agg rfl rfl rfl ag45 sz45 (.cons (.cons .nil))) ?_
  rw [if_pos hc]
theorem y1x (m n:Bool)(ws vs:List Int)(hl:ws.length<9999999999999)(hl2:vs.length<9999999999999)(h:Wd ws)(h2:Wd vs):v3 E 161 [pI m ws,pI n vs] (pZ (if P2 m ws=true∧P2 n vs=true then sg m (val ws) - sg n (val vs) else 0)):=by
 refine D2 (xs:=[pZ (if P2 m ws=true∧P2 n vs=true then sg m (val ws) - sg n (val vs) else 0)]) Tryz.func161 rfl Tryz.ntmps161 Tryz.results161 sM fun F hG hX0 hnt hdf P0=>?_
 obtain ⟨L,hX,hN⟩:=pro hnt hX0 hG
 refine exr (swb (U3 (k:=2) (n:=2) pa2 rfl rfl (P0 _ rfl) L) t1 t0 ⟨rfl,rfl⟩ (swb (U3 (k:=3) (n:=2) pa2 rfl rfl (P0 _ rfl) L) t1 t0 ⟨rfl,rfl⟩ (swb (R3 (k:=4) (n:=2) zv45 (.cons rfl (.cons rfl .nil)) rfl (P0 _ rfl) L) t0 t0 ⟨rfl,rfl⟩ (zn [(2,_),(3,_),(4,_)] [(2,_),(3,_),(4,_)] t3 t3 (R1 (exr (lp2 ag45 sz45 L rfl rfl (lp2 ag45 sz45 L rfl rfl (sw (q4 (vs:=[_,_]) un139 ti45 rfl rfl dC dC rfl (K2 (.cons rfl (.cons rfl .nil)) rfl) rfl (.cons rfl pa2 rfl pu2 (.cons rfl pa2 rfl (.skip (.skip pu2)) .nil)) (.cons (.cons (.cons (.cons .nil)))) L) t2 t0 (cK hG hX cl138 hN (f0m [(m,ws),(n,vs)] sM sO) L t1 ?_))))))))))
 refine sw (C4 L) t1 t0 (zn [(2,_),(3,_),(4,_),(9,_)] [(2,_),(3,_),(4,_)] t4 t3 ?_)
 refine j2 rfl (fun hc=>?_) (fun hc=>?_)
 ·have hc:¬ (P2 m ws=true∧P2 n vs=true):=by rintro ⟨h1,h2⟩; simp [h1,h2] at hc
  refine exr (sw (b0d (G7 (vs:=[]) un45 zv45 (.cons rfl (.cons rfl .nil)) ((J2.cons sz4 (J2.cons sz43 J2.nil))).to rfl .nil (.cons (.cons .nil)) L) (.agg (.cons .same (.cons .nil .nil)))) t0 t0 (sb (U2 sz45 rF pa2 rfl pu2) t2 t1 ?_))
  refine zn [(4,_)] [(4,_)] t1 t1 (X1 ?_)
  refine Q0 (.agg rfl rfl rfl ag45 sz45 (.cons (.cons .nil))) ?_
  rw [if_neg hc,U8]; rfl
 ·have hc:P2 m ws=true∧P2 n vs=true:=by simpa using hc
  refine U1 (xq ?_)
  refine exr (sw (i2 un45 rfl sz43 dC rX L) t1 t1 ?_)
  refine sw (Y1 ag43 rF rF L) t1 t1 ?_
  refine sw (i2 un45 rfl sz4 dC rX L) t1 t1 ?_
  refine sw (Y1 ag4 rF rF L) t1 t1 ?_
  refine sw (i2 un45 rfl sz43 dC rX L) t1 t1 ?_
  refine sw (Y1 ag43 rF rF L) t1 t1 ?_
  refine sw (i2 un45 rfl sz4 dC rX L) t1 t1 ?_
  refine sw (Y1 ag4 rF rF L) t1 t1 ?_
  refine sw (C4 L) t1 t0 (cK hG hX cl153 hN (j0z ws vs m (!n) hl hl2 h h2 (P5 hc.1).1 (P5 hc.2).1) L t4 (sb (U2 sz45 rF pa2 rfl pu2) t2 t1 ?_))
  refine zn [(4,_)] [(4,_)] t1 t1 (X1 ?_)
  refine Q0 (.agg rfl rfl rfl ag45 sz45 (.cons (.cons .nil))) ?_
  rw [if_pos hc,Q1c,Int.sub_eq_add_neg]
theorem g1a (ws vs:List Int)(hl:ws.length<4000000000000)(hl2:vs.length<4000000000000)(h:Wd ws)(h2:Wd vs):v3 E 139 [pW ws,pW vs] (pW (G4 (ws.length+vs.length) (val ws*val vs))):=by
 refine D2 (xs:=[pW (G4 (ws.length+vs.length) (val ws*val vs))]) Tryz.func139 rfl Tryz.ntmps139 Tryz.results139 sM fun F hG hX0 hnt hdf P0=>?_
 obtain ⟨L,hX,hN⟩:=pro hnt hX0 hG
 refine exr (aV L rfl (zn [(0,_),(1,_)] [] t2 trivial (exr (mV L rfl (sw (R2 un43 L) t1 t0 (mV L rfl (sw (R2 un43 L) t1 t0 (sw (B3 L (w64 oM oM)) t2 t0 (swb (v0a (k:=17) un43 ti119 rfl rfl rfl rfl (show _=((ws.length+vs.length:Nat):Int) by omega) (show _=((ws.length+vs.length:Nat):Int) by omega) (Nat.le_refl _) (by simp [Tryz.t119]; omega) oM (P0 _ rfl) L) t2 t0 ⟨rfl,rfl⟩ ?_)))))))))
 refine aV L rfl (zn [(0,_),(1,_),(5,_)] [(17,_)] t3 t1 (R1 (exr (mV L rfl (sw (R2 un43 L) t1 t0 (mV L rfl (zn [(1,_),(5,_),(18,_),(19,_),(20,_)] [(17,_)] t5 t1 (V1 ?_))))))))
 refine exl (α:=(Nat×List Int)) (fun x=>[(20,vi (x.1:Int))]) (fun x=>[(17,⟨119,1,.pure (J4 x.2)⟩)]) (fun x=>B0c ws vs x) (fun x=>ws.length - x.1) (((0:Nat),List.replicate (ws.length+vs.length) (0:Int))) (sl:=[(1,_),(5,_),(18,_),(19,_)]) (hb:=[]) ?_ ⟨oR,rfl,rfl,rfl,rfl,trivial⟩ ⟨obl rfl (by rw [b0q]),trivial⟩ ?_
 ·exact B0c.zero ws vs
 intro x hx
 obtain ⟨i,r⟩:=x
 have hlen:=hx.len
 have hle:=hx.le
 simp only at hlen hle
 dsimp only
 refine exr (sw (P3 L) t2 t0 (zn [(1,_),(5,_),(18,_),(19,_),(20,_),(21,_)] [(17,_)] t6 t1 (R1 ?_)))
 refine j2 rfl (fun he=>?_) (fun he=>?_)
 ·have he:=dt he
  have hw:=h.getD i
  refine U1 (xq ?_)
  refine R1 (V1 (exr (mV L rfl (sw (ixJ un43 sz119 (j:=i) rO oM sM L) t2 t0 ?_))))
  refine sw (d4 ag119 (by first | exact b6 oM | rfl) L) t1 t0 ?_
  refine aV L rfl (aV L rfl (zn [(1,_),(5,_),(6,_),(7,_),(18,_),(19,_),(20,_)] [(17,_)] t7 t1 (exr (aV L rfl (zn [(1,_),(5,_),(6,_),(7,_),(8,_),(18,_),(19,_),(20,_)] [(17,_)] t8 t1 (R1 (exr (mV L rfl (sw (R2 un43 L) t1 t0 (mV L rfl (zn [(1,_),(5,_),(6,_),(7,_),(8,_),(18,_),(19,_),(20,_),(25,_),(26,_),(27,_)] [(17,_)] t11 t1 ?_)))))))))))
  refine V1 ?_
  refine exl (α:=(Nat×List Int×Int)) (fun y=>[(27,vi (y.1:Int)),(8,vw y.2.2)]) (fun y=>[(17,⟨119,1,.pure (J4 y.2.1)⟩)]) (fun y=>j0x ws vs i y) (fun y=>vs.length - y.1) (((0:Nat),r,(0:Int))) (sl:=[(1,_),(5,_),(6,_),(7,_),(18,_),(19,_),(20,_),(25,_),(26,_)]) (hb:=[]) ?_ ⟨oR,oR,rfl,rfl,rfl,rfl,rfl,rfl,rfl,rfl,rfl,trivial⟩ t1 ?_
  ·exact j0x.zero h h2 hx oM
  intro y hy
  obtain ⟨j,s,c⟩:=y
  have hlen2:=hy.len
  have hle2:=hy.le
  have hc0:=hy.c0
  have hc1:=hy.c1
  simp only at hlen2 hle2 hc0 hc1
  dsimp only
  refine exr (sw (P3 L) t2 t0 (zn [(1,_),(5,_),(6,_),(7,_),(8,_),(18,_),(19,_),(20,_),(25,_),(26,_),(27,_),(28,_)] [(17,_)] t12 t1 (R1 ?_)))
  refine j2 rfl (fun hf=>?_) (fun hf=>?_)
  ·have hf:=dt hf
   have hv:=h2.getD j
   have hb:=g0w hw hv
   have hs:=hy.wd.getD (i+j)
   simp only at hs
   obtain ⟨key,k1,k2⟩:=hy.next h h2 oM oM rfl
   refine U1 (xq ?_)
   refine R1 (V1 (exr (mV L rfl (sw (ixJ un43 sz119 (j:=j) rO oM sM L) t2 t0 ?_))))
   refine sw (d4 ag119 (by first | exact b6 oM | rfl) L) t1 t0 ?_
   refine aV L rfl (aV L rfl (zn [(1,_),(5,_),(6,_),(7,_),(8,_),(9,_),(10,_),(18,_),(19,_),(20,_),(25,_),(26,_),(27,_)] [(17,_)] t13 t1 (exr (mV L rfl (sw (D4 un119 un127 L (I4 oM oM)) t1 t0 (mV L rfl (sw (D4 un119 un127 L (I4 oM oM)) t1 t0 (sw (d1c L (I4 oM oM)) t2 t0 (mV L rfl (mV L rfl (mV L rfl ?_)))))))))))
   refine sw (B3 L (w64 oM oM)) t2 t0 (sw (y6 un43 sz119 (by exact sO) (j:=i+j) rO oM L) t2 t1 ?_)
   refine sw (Y1 ag119 (by exact sO) (g0k (by first | exact b6 oM | rfl)) L) t1 t1 ?_
   refine sw (D4 un119 un127 L (I4 oM oM)) t1 t0 (sw (B3 L (I4 oM oM)) t2 t0 (mV L rfl (sw (B3 L (I4 oM oM)) t2 t0 (aV L rfl (zn [(1,_),(5,_),(6,_),(7,_),(9,_),(11,_),(18,_),(19,_),(20,_),(25,_),(26,_),(27,_)] [(17,_)] t12 t1 (exr (mV L rfl (mV L rfl (mV L rfl (sw (B3 L (w64 oM oM)) t2 t0 (mV L rfl ?_)))))))))))
   refine sw (D4 un127 un119 L m8) t1 t0 (sw (y6 un43 sz119 (by exact sO) (j:=i+j) rO oM L) t2 t1 ?_)
   refine sb (d0c sz119 (by exact sO) (.atom rfl) oM) t2 t1 ?_
   refine zn [(1,_),(5,_),(6,_),(7,_),(11,_),(18,_),(19,_),(20,_),(25,_),(26,_),(27,_)] [(17,_)] t11 t1 (j3 (mV L rfl (sw (I9 L dC (f0d (c:=4294967296) rF dC)) t2 t0 ?_)))
   refine aV L rfl (O1 (j3 (sw (B3 L (w64 oM oM)) t2 t0 (mV L rfl (O1 ?_)))))
   exact ⟨(j+1,s.set (i+j) ((ws.getD i 0*vs.getD j 0+s.getD (i+j) 0+c) % 4294967296),(ws.getD i 0*vs.getD j 0+s.getD (i+j) 0+c) / 4294967296),key,(by simp only; omega),l3 ⟨oR,oR,rfl,rfl,rfl,rfl,rfl,rfl,rfl,rfl,rfl,trivial⟩ ⟨obl rfl (by rw [m5]),trivial⟩⟩
  ·have hf:=df hf
   have hj:j=vs.length:=by omega
   subst hj
   refine G2 (xq ?_)
   refine j3 (mV L rfl (mV L rfl (mV L rfl (sw (R2 un43 L) t1 t0 (sw (B3 L (w64 oM oM)) t2 t0 (mV L rfl (sw (D4 un127 un119 L (D0b oM oM)) t1 t0 (sw (y6 un43 sz119 (by exact sO) (j:=i+vs.length) rO oM L) t2 t1 ?_))))))))
   refine sb (d0c sz119 (by exact sO) (.atom rfl) oM) t2 t1 ?_
   refine O1 (j3 (sw (B3 L (w64 oM oM)) t2 t0 (mV L rfl (O1 ?_))))
   exact ⟨(i+1,s.set (i+vs.length) c),hy.done oM,(by simp only; omega),l3 ⟨oR,rfl,rfl,rfl,rfl,trivial⟩ ⟨obl rfl (by rw [m5]),trivial⟩⟩
 ·have he:=df he
  have hi:i=ws.length:=by omega
  subst hi
  have e:r=G4 (ws.length+vs.length) (val ws*val vs):=by
   have:=hx.eq
   simp only [I0] at this
   rw [← this,← hlen,v7 hx.wd]
  refine G2 (xq ?_)
  refine exr (mV L rfl (aV L rfl (zn [(4,_)] [(17,_)] t1 t1 (s4 [17] (sl:=[(4,_)]) (hb:=[]) (F3 hX0) ⟨⟨_,rfl,(.ref rfl rfl (by exact sO) (by first | rfl | omega))⟩,trivial⟩ t0 ?_))))
  refine X1 ?_
  refine Q0 (.tmp rfl) ?_
  rw [e]; simp [E3]
theorem w1x (m n:Bool)(ws vs:List Int)(hl:ws.length<4000000000000)(hl2:vs.length<4000000000000)(h:Wd ws)(h2:Wd vs):v3 E 111 [pI m ws,pI n vs] (pZ (if P2 m ws=true∧P2 n vs=true then sg m (val ws)*sg n (val vs) else 0)):=by
 refine D2 (xs:=[pZ (if P2 m ws=true∧P2 n vs=true then sg m (val ws)*sg n (val vs) else 0)]) Tryz.func111 rfl Tryz.ntmps111 Tryz.results111 sM fun F hG hX0 hnt hdf P0=>?_
 obtain ⟨L,hX,hN⟩:=pro hnt hX0 hG
 have hv:=F2 h
 have hv2:=F2 h2
 have hvv:0≤val ws*val vs:=Int.mul_nonneg hv hv2
 refine exr (swb (U3 (k:=2) (n:=2) pa2 rfl rfl (P0 _ rfl) L) t1 t0 ⟨rfl,rfl⟩ (swb (U3 (k:=3) (n:=2) pa2 rfl rfl (P0 _ rfl) L) t1 t0 ⟨rfl,rfl⟩ (swb (R3 (k:=4) (n:=2) zv45 (.cons rfl (.cons rfl .nil)) rfl (P0 _ rfl) L) t0 t0 ⟨rfl,rfl⟩ (zn [(2,_),(3,_),(4,_)] [(2,_),(3,_),(4,_)] t3 t3 (R1 (exr (lp2 ag45 sz45 L rfl rfl (lp2 ag45 sz45 L rfl rfl (sw (q4 (vs:=[_,_]) un139 ti45 rfl rfl dC dC rfl (K2 (.cons rfl (.cons rfl .nil)) rfl) rfl (.cons rfl pa2 rfl pu2 (.cons rfl pa2 rfl (.skip (.skip pu2)) .nil)) (.cons (.cons (.cons (.cons .nil)))) L) t2 t0 (cK hG hX cl138 hN (f0m [(m,ws),(n,vs)] sM sO) L t1 ?_))))))))))
 refine sw (C4 L) t1 t0 (zn [(2,_),(3,_),(4,_),(9,_)] [(2,_),(3,_),(4,_)] t4 t3 ?_)
 refine j2 rfl (fun hc=>?_) (fun hc=>?_)
 ·have hc:¬ (P2 m ws=true∧P2 n vs=true):=by rintro ⟨h1,h2⟩; simp [h1,h2] at hc
  refine exr (sw (b0d (G7 (vs:=[]) un45 zv45 (.cons rfl (.cons rfl .nil)) ((J2.cons sz4 (J2.cons sz43 J2.nil))).to rfl .nil (.cons (.cons .nil)) L) (.agg (.cons .same (.cons .nil .nil)))) t0 t0 (sb (U2 sz45 rF pa2 rfl pu2) t2 t1 ?_))
  refine zn [(4,_)] [(4,_)] t1 t1 (X1 ?_)
  refine Q0 (.agg rfl rfl rfl ag45 sz45 (.cons (.cons .nil))) ?_
  rw [if_neg hc,U8]; rfl
 ·have hc:P2 m ws=true∧P2 n vs=true:=by simpa using hc
  have es:sg (m != n) (val ws*val vs)=sg m (val ws)*sg n (val vs):=by cases m <;> cases n <;> simp [sg,Int.mul_neg,Int.neg_mul]
  refine U1 (xq ?_)
  refine R1 ?_
  refine exm (sl:=[(20,vb (decide (ws.length=1∧vs.length=1)))]) (sl0:=[(2,_),(3,_),(4,_)]) (hb:=[]) (hb0:=[(2,_),(3,_),(4,_)]) t3 t3 ?_ ?_
  ·by_cases hd:ws.length=1
   ·refine sw (i2 un45 rfl sz43 dC rX L) t1 t1 ?_
    refine sw (Y1 ag43 rF rF L) t1 t1 ?_
    refine sw (R2 un43 L) t1 t0 (sw (c_e L) t2 t0 (mV L rfl (swg (g:=15) rfl (decide_eq_true oM) (i2 un45 rfl sz43 dC rX L) rfl t1 t1 ?_)))
    refine swg (g:=15) rfl (decide_eq_true oM) (Y1 ag43 rF rF L) rfl t1 t1 ?_
    refine swg (g:=15) rfl (decide_eq_true oM) (R2 un43 L) rfl t1 t0 (swg (g:=15) rfl (decide_eq_true oM) (c_e L) rfl t2 t0 (sw (O4 (decide_eq_true oM) L) t2 t0 ?_))
    exact O1 ⟨⟨ob rfl (C7 oM),rfl,rfl,rfl,trivial⟩,t3⟩
   ·refine sw (i2 un45 rfl sz43 dC rX L) t1 t1 ?_
    refine sw (Y1 ag43 rF rF L) t1 t1 ?_
    refine sw (R2 un43 L) t1 t0 (sw (c_e L) t2 t0 (mV L rfl (swn (g:=15) rfl (decide_eq_false oM) L rfl (swn (g:=15) rfl (decide_eq_false oM) L rfl (swn (g:=15) rfl (decide_eq_false oM) L rfl (swn (g:=15) rfl (decide_eq_false oM) L rfl (sw (y4 (decide_eq_false oM) L) t2 t0 ?_)))))))
    exact O1 ⟨⟨ob rfl (by simp [hd]),rfl,rfl,rfl,trivial⟩,t3⟩
  refine j2 rfl (fun hd=>?_) (fun hd=>?_)
  ·have hd:=dt hd
   have hw:=h.getD 0
   have hw2:=h2.getD 0
   have hb:=g0w hw hw2
   refine exd rF ?_
   refine sw (i2 un45 rfl sz4 dC rX L) t1 t1 ?_
   refine sw (Y1 ag4 rF rF L) t1 t1 ?_
   refine sw (i2 un45 rfl sz4 dC rX L) t1 t1 ?_
   refine sw (Y1 ag4 rF rF L) t1 t1 ?_
   refine sw (y0n un4 L) t2 t0 (sw (i2 un45 rfl sz43 dC rX L) t1 t1 ?_)
   refine sw (Y1 ag43 rF rF L) t1 t1 ?_
   refine sw (ixJ un43 sz119 (j:=0) rfl oM sM L) t2 t0 ?_
   refine sw (d4 ag119 (by first | exact b6 oM | rfl) L) t1 t0 ?_
   refine sw (D4 un119 un127 L (I4 oM oM)) t1 t0 (sw (i2 un45 rfl sz43 dC rX L) t1 t1 ?_)
   refine sw (Y1 ag43 rF rF L) t1 t1 ?_
   refine sw (ixJ un43 sz119 (j:=0) rfl oM sM L) t2 t0 ?_
   refine sw (d4 ag119 (by first | exact b6 oM | rfl) L) t1 t0 ?_
   refine sw (D4 un119 un127 L (I4 oM oM)) t1 t0 (sw (d1c L (I4 oM oM)) t2 t0 (cK hG hX cl129 hN (U9 (m != n) (ws.getD 0 0*vs.getD 0 0) hb.1 oM) L t2 (sb (U2 sz45 rF pa2 rfl pu2) t2 t1 ?_)))
   refine O1 ⟨d5 [⟨[2],[2],[21],[]⟩,⟨[21],[2],[22],[]⟩,⟨[3],[3],[23],[]⟩,⟨[23],[3],[24],[]⟩,⟨[22,24],[],[25],[]⟩,⟨[2],[2],[26],[]⟩,⟨[26],[2],[27],[]⟩,⟨[27],[],[28],[]⟩,⟨[28],[],[29],[]⟩,⟨[29],[],[30],[]⟩,⟨[3],[3],[31],[]⟩,⟨[31],[3],[32],[]⟩,⟨[32],[],[33],[]⟩,⟨[33],[],[34],[]⟩,⟨[34],[],[35],[]⟩,⟨[30,35],[],[36],[]⟩,⟨[25,36],[],[37],[]⟩,⟨[4,37],[4],[],[4]⟩] rF rF dC,[(4,_)],[(4,_)],t1,t1,?_⟩
   refine X1 ?_
   refine Q0 (.agg rfl rfl rfl ag45 sz45 (.cons (.cons .nil))) ?_
   rw [if_pos hc,k0n hd.1,k0n hd.2,es]
  ·have hd:=df hd
   refine U1 (xq ?_)
   refine exd rF ?_
   refine sw (i2 un45 rfl sz4 dC rX L) t1 t1 ?_
   refine sw (Y1 ag4 rF rF L) t1 t1 ?_
   refine sw (i2 un45 rfl sz4 dC rX L) t1 t1 ?_
   refine sw (Y1 ag4 rF rF L) t1 t1 ?_
   refine sw (y0n un4 L) t2 t0 (sw (i2 un45 rfl sz43 dC rX L) t1 t1 ?_)
   refine sw (Y1 ag43 rF rF L) t1 t1 ?_
   refine sw (i2 un45 rfl sz43 dC rX L) t1 t1 ?_
   refine sw (Y1 ag43 rF rF L) t1 t1 ?_
   refine cK hG hX cl139 hN (g1a ws vs hl hl2 h h2) L t2 (cK hG hX cl131 hN (B7 (m != n) (G4 (ws.length+vs.length) (val ws*val vs)) (by rw [E3]; omega) (w6 _ _)) L t2 ?_)
   refine sb (U2 sz45 rF pa2 rfl pu2) t2 t1 ?_
   refine O1 ⟨d5 [⟨[2],[2],[38],[]⟩,⟨[38],[2],[39],[]⟩,⟨[3],[3],[40],[]⟩,⟨[40],[3],[41],[]⟩,⟨[39,41],[],[42],[]⟩,⟨[2],[2],[43],[]⟩,⟨[43],[2],[44],[]⟩,⟨[3],[3],[45],[]⟩,⟨[45],[3],[46],[]⟩,⟨[44,46],[],[47],[]⟩,⟨[42,47],[],[48],[]⟩,⟨[4,48],[4],[],[4]⟩] rF rF dC,[(4,_)],[(4,_)],t1,t1,?_⟩
   refine X1 ?_
   refine Q0 (.agg rfl rfl rfl ag45 sz45 (.cons (.cons .nil))) ?_
   rw [if_pos hc,i6 hvv (by have:=h0w h h2 (i:=ws.length) (Nat.le_refl _); rwa [I0] at this),es]
theorem J8 (neg:Bool)(ws:List Int)(hl:ws.length<10000000000000)(h:Wd ws)(ht:Tr ws):v3 E 118 [pI neg ws] (.tup [vZ (if val ws<4611686018427387904 then sg neg (val ws) else 0),bZ (decide (val ws<4611686018427387904))]):=by
 refine D2 (xs:=[vZ (if val ws<4611686018427387904 then sg neg (val ws) else 0),bZ (decide (val ws<4611686018427387904))]) Tryz.func118 rfl Tryz.ntmps118 Tryz.results118 sM fun F hG hX0 hnt hdf P0=>?_
 obtain ⟨L,hX,hN⟩:=pro hnt hX0 hG
 have hw:=h.getD 0
 have hw1:=h.getD 1
 have hv:=F2 h
 refine exr (swb (U3 (k:=1) (n:=2) pa2 rfl rfl (P0 _ rfl) L) t1 t0 ⟨rfl,rfl⟩ (aV L rfl (aV L rfl (zn [(1,_)] [(1,_)] t1 t1 (exd rF ?_)))))
 refine sw (i2 un45 rfl sz43 dC rX L) t1 t1 ?_
 refine sw (Y1 ag43 rF rF L) t1 t1 ?_
 refine cK hG hX cl145 hN (q5 ws hl h 0 oM) L t2 (sw (i2 un45 rfl sz43 dC rX L) t1 t1 ?_)
 refine sw (Y1 ag43 rF rF L) t1 t1 ?_
 refine cK hG hX cl145 hN (q5 ws hl h 1 oM) L t2 (sw (B0n L dC (J0r (c:=4294967296) rF (I4 oM oM))) t2 t0 ?_)
 refine sw (v0r L (K1c (b:=ws.getD 1 0) 32 rfl hw.1 hw.2 hw1.1 dC oM oM)) t2 t0 (aV L rfl ?_)
 refine O1 ⟨d5 [⟨[1],[1],[5],[]⟩,⟨[5],[1],[6],[]⟩,⟨[6],[],[7],[]⟩,⟨[1],[1],[8],[]⟩,⟨[8],[1],[9],[]⟩,⟨[9],[],[10],[]⟩,⟨[10],[],[11],[]⟩,⟨[7,11],[],[12],[]⟩,⟨[12],[],[4],[]⟩] rF rF dC,[(1,_),(4,vw (ws.getD 0 0+ws.getD 1 0*4294967296))],[(1,_)],t2,t1,?_⟩
 refine R1 ?_
 refine exm (sl:=[(20,vb (!decide (val ws<4611686018427387904)))]) (sl0:=[(1,_),(4,_)]) (hb:=[]) (hb0:=[(1,_)]) t2 t1 ?_ ?_
 ·by_cases hc:2<ws.length
  ·have hb:=Y1y h ht hc
   refine sw (i2 un45 rfl sz43 dC rX L) t1 t1 ?_
   refine sw (Y1 ag43 rF rF L) t1 t1 ?_
   refine sw (R2 un43 L) t1 t0 (sw (i7 L) t2 t0 (mV L rfl (swn (g:=17) rfl (decide_eq_true oM) L rfl (swn (g:=17) rfl (decide_eq_true oM) L rfl (sw (O4 (decide_eq_true oM) L) t2 t0 ?_)))))
   exact O1 ⟨⟨ob rfl sO,rfl,rfl,trivial⟩,t1⟩
  ·have hb:=w0s h oM
   refine sw (i2 un45 rfl sz43 dC rX L) t1 t1 ?_
   refine sw (Y1 ag43 rF rF L) t1 t1 ?_
   refine sw (R2 un43 L) t1 t0 (sw (i7 L) t2 t0 (mV L rfl (gV (g:=17) rfl (decide_eq_false oM) L rfl rfl (swg (g:=17) rfl (decide_eq_false oM) (d0b L) rfl t2 t0 (sw (y4 (decide_eq_false oM) L) t2 t0 ?_)))))
   exact O1 ⟨⟨ob rfl (by rw [hb]; simp only [← decide_not]; exact C7 oM),rfl,rfl,trivial⟩,t1⟩
 refine j2 rfl (fun hd=>?_) (fun hd=>?_)
 ·have hd:=ndt hd
  refine exr (aV L rfl (aV L rfl (zn [(2,_),(3,_)] [] t2 trivial (X1 ?_))))
  refine Y0 (.tmp rfl) (.tmp rfl) ?_
  rw [if_neg hd,decide_eq_false hd]
 ·have hd:=ndf hd
  have hb:=w0s h (J1f h ht hd)
  refine U1 (xq ?_)
  refine R1 (exr (sw (i2 un45 rfl sz4 dC rX L) t1 t1 ?_))
  refine sw (Y1 ag4 rF rF L) t1 t1 ?_
  refine zn [(4,_),(22,_)] [] t2 trivial ?_
  refine j2 rfl (fun hn=>?_) (fun hn=>?_)
  ·refine exr (mV L rfl (sw (D4 un127 un3 L (w64 oM oM)) t1 t0 (sw (q1c L (w64 oM oM)) t1 t0 (aV L rfl (aV L rfl (zn [(2,_),(3,_)] [] t2 trivial (X1 ?_)))))))
   refine Y0 (.tmp rfl) (.tmp rfl) ?_
   rw [if_pos hd,decide_eq_true hd,hb,hn]; simp [sg]
  ·refine U1 (xq ?_)
   refine exr (mV L rfl (sw (D4 un127 un3 L (w64 oM oM)) t1 t0 (aV L rfl (aV L rfl (zn [(2,_),(3,_)] [] t2 trivial (X1 ?_))))))
   refine Y0 (.tmp rfl) (.tmp rfl) ?_
   rw [if_pos hd,decide_eq_true hd,hb,hn]; simp [sg]
theorem N0p (ws vs:List Int)(hl:ws.length<1000000000000)(hl2:vs.length<1000000000000)(h:Wd ws)(h2:Wd vs):v3 E 142 [pW ws,pW vs] (pW (y3 (val ws+val vs).toNat)):=by
 refine D2 (xs:=[pW (y3 (val ws+val vs).toNat)]) Tryz.func142 rfl Tryz.ntmps142 Tryz.results142 sM fun F hG hX0 hnt hdf P0=>?_
 obtain ⟨L,hX,hN⟩:=pro hnt hX0 hG
 have hv:=F2 h
 have hv2:=F2 h2
 obtain ⟨n,hn⟩:∃ n,n=max ws.length vs.length:=⟨_,rfl⟩
 refine exr (aV L rfl (zn [(0,_),(1,_)] [] t2 trivial (exr (aV L rfl (zn [(0,_),(1,_),(5,_)] [] t3 trivial (exr (aV L rfl (zn [(0,_),(1,_),(5,_),(6,_)] [] t4 trivial (R1 (exr (aV L rfl ?_)))))))))))
 refine zn [(0,_),(1,_),(5,_),(6,_),(7,_)] [] t5 trivial (V1 ?_)
 refine M1j (α:=(Nat×List Int×Int)) (fun x=>[(7,vi (x.1:Int)),(6,vw x.2.2),(5,.ref 34 0 x.2.1.length x.2.1.length)]) (fun x=>[(34,⟨119,1,.pure (J4 x.2.1)⟩)]) (fun x=>q0q ws vs n x∧0<x.1) (fun x=>n - x.1) (n+1) (sl:=[(0,_),(1,_)]) (hb:=[]) t2 t0 ?_ ?_
 ·refine R1 ?_
  refine exm (sl:=[(18,vb (decide (0<n)))]) (sl0:=[(0,_),(1,_),(5,_),(6,_),(7,_)]) (hb:=[]) (hb0:=[]) t5 t0 ?_ ?_
  ·by_cases hc:0<ws.length
   ·refine mV L rfl (mV L rfl (sw (R2 un43 L) t1 t0 (sw (P3 L) t2 t0 (mV L rfl (swn (g:=13) rfl (decide_eq_true oM) L rfl (swn (g:=13) rfl (decide_eq_true oM) L rfl (swn (g:=13) rfl (decide_eq_true oM) L rfl (swn (g:=13) rfl (decide_eq_true oM) L rfl (sw (O4 (decide_eq_true oM) L) t2 t0 ?_)))))))))
    exact O1 ⟨⟨ob rfl sO,rfl,rfl,rfl,rfl,rfl,trivial⟩,trivial⟩
   ·refine mV L rfl (mV L rfl (sw (R2 un43 L) t1 t0 (sw (P3 L) t2 t0 (mV L rfl (gV (g:=13) rfl (decide_eq_false oM) L rfl rfl (gV (g:=13) rfl (decide_eq_false oM) L rfl rfl (swg (g:=13) rfl (decide_eq_false oM) (R2 un43 L) rfl t1 t0 (swg (g:=13) rfl (decide_eq_false oM) (P3 L) rfl t2 t0 (sw (y4 (decide_eq_false oM) L) t2 t0 ?_)))))))))
    exact O1 ⟨⟨ob rfl (C7 oM),rfl,rfl,rfl,rfl,rfl,trivial⟩,trivial⟩
  refine j2 rfl (fun hd=>?_) (fun hd=>?_)
  ·have hd:=dt hd
   have hw:=h.getD 0
   have hw2:=h2.getD 0
   have key:=(q0q.zero ws vs n).next h h2 hd
   refine U1 (xq ?_)
   refine R1 (V1 (exr (mV L rfl (mV L rfl (cK hG hX cl145 hN (q5 ws oM h 0 oM) L t2 (mV L rfl (mV L rfl (cK hG hX cl145 hN (q5 vs oM h2 0 oM) L t2 (sw (B3 L (I4 oM oM)) t2 t0 (mV L rfl (sw (B3 L (I4 oM oM)) t2 t0 ?_)))))))))))
   refine aV L rfl (zn [(0,_),(1,_),(5,_),(7,_),(8,_)] [] t5 trivial (exr (mV L rfl (mV L rfl (sw (D4 un127 un119 L m8) t1 t0 (sw (q4 (vs:=[_]) un43 ti119 rfl rfl dC dC rfl (K2 (.cons rfl .nil) rfl) rfl (.cons rfl (.atom rfl) rfl pu1 .nil) (.cons .nil) L) t1 t0 (swb (apN (k:=34) (sz:=1) un43 un43 ti119 rfl rfl rfl dC sM rfl (by first | (simp [Tryz.t119]; done) | (simp [Tryz.t119]; omega)) oM (P0 _ rfl) L) t2 t0 ⟨rfl,rfl⟩ ?_)))))))
   refine aV L rfl (zn [(0,_),(1,_),(5,_),(7,_),(8,_)] [(34,_)] t5 t1 (j3 (mV L rfl (sw (I9 L dC (f0d (c:=4294967296) rF dC)) t2 t0 ?_))))
   refine aV L rfl (O1 (j3 (mV L rfl (sw (B3 L (w64 oM oM)) t2 t0 (aV L rfl (O1 ?_))))))
   exact ⟨(1,[(ws.getD 0 0+vs.getD 0 0+0) % 4294967296],(ws.getD 0 0+vs.getD 0 0+0) / 4294967296),⟨key,Nat.one_pos⟩,(by simp only; omega),l3 ⟨oR,oR,oR,rfl,rfl,trivial⟩ t1⟩
  ·have hd:=df hd
   refine G2 (xq ?_)
   refine exr (mV L rfl (mV L rfl (sw (D4 un127 un119 L m8) t1 t0 (sw (q4 (vs:=[_]) un43 ti119 rfl rfl dC dC rfl (K2 (.cons rfl .nil) rfl) rfl (.cons rfl (.atom rfl) rfl pu1 .nil) (.cons .nil) L) t1 t0 (swb (apN (k:=41) (sz:=1) un43 un43 ti119 rfl rfl rfl dC sM rfl (by first | (simp [Tryz.t119]; done) | (simp [Tryz.t119]; omega)) oM (P0 _ rfl) L) t2 t0 ⟨rfl,rfl⟩ ?_)))))
   refine aV L rfl (zn [(5,_)] [(41,_)] t1 t1 (s4 [41] (sl:=[(5,_)]) (hb:=[]) (F3 hX0) ⟨⟨_,rfl,(.ref rfl rfl (by exact sM) (by first | rfl | omega))⟩,trivial⟩ t0 ?_))
   refine exr (mV L rfl (cK hG hX cl147 hN (s6 [0] sM) L t1 ?_))
   refine aV L rfl (zn [(4,_)] [] t1 trivial (X1 ?_))
   refine Q0 (.tmp rfl) ?_
   have e1:ws=[]:=E0 oM
   have e2:vs=[]:=E0 oM
   rw [e1,e2]; simp [trim,E6,val,U4]
 ·intro x hx
  obtain ⟨i,ys,c⟩:=x
  obtain ⟨hx,hi0⟩:=hx
  have hlen:=hx.len
  have hle:=hx.le
  have hc0:=hx.c0
  have hc1:=hx.c1
  simp only at hlen hle hc0 hc1 hi0
  dsimp only
  have hw:=h.getD i
  have hw2:=h2.getD i
  refine R1 ?_
  refine exm (sl:=[(18,vb (decide (i<n)))]) (sl0:=[(0,_),(1,_),(5,_),(6,_),(7,_)]) (hb:=[]) (hb0:=[(34,_)]) t5 t1 ?_ ?_
  ·by_cases hc:i<ws.length
   ·refine mV L rfl (mV L rfl (sw (R2 un43 L) t1 t0 (sw (P3 L) t2 t0 (mV L rfl (swn (g:=13) rfl (decide_eq_true oM) L rfl (swn (g:=13) rfl (decide_eq_true oM) L rfl (swn (g:=13) rfl (decide_eq_true oM) L rfl (swn (g:=13) rfl (decide_eq_true oM) L rfl (sw (O4 (decide_eq_true oM) L) t2 t0 ?_)))))))))
    exact O1 ⟨⟨ob rfl sO,rfl,rfl,rfl,rfl,rfl,trivial⟩,t1⟩
   ·refine mV L rfl (mV L rfl (sw (R2 un43 L) t1 t0 (sw (P3 L) t2 t0 (mV L rfl (gV (g:=13) rfl (decide_eq_false oM) L rfl rfl (gV (g:=13) rfl (decide_eq_false oM) L rfl rfl (swg (g:=13) rfl (decide_eq_false oM) (R2 un43 L) rfl t1 t0 (swg (g:=13) rfl (decide_eq_false oM) (P3 L) rfl t2 t0 (sw (y4 (decide_eq_false oM) L) t2 t0 ?_)))))))))
    exact O1 ⟨⟨ob rfl (C7 oM),rfl,rfl,rfl,rfl,rfl,trivial⟩,t1⟩
  refine j2 rfl (fun hd=>?_) (fun hd=>?_)
  ·have hd:=dt hd
   have key:=hx.next h h2 hd
   refine U1 (xq ?_)
   refine R1 (V1 (exr (mV L rfl (mV L rfl (cK hG hX cl145 hN (q5 ws oM h i oM) L t2 (mV L rfl (mV L rfl (cK hG hX cl145 hN (q5 vs oM h2 i oM) L t2 (sw (B3 L (I4 oM oM)) t2 t0 (mV L rfl (sw (B3 L (I4 oM oM)) t2 t0 ?_)))))))))))
   refine aV L rfl (zn [(0,_),(1,_),(5,_),(7,_),(8,_)] [(34,_)] t5 t1 (exr (mV L rfl (mV L rfl (sw (D4 un127 un119 L m8) t1 t0 (sw (q4 (vs:=[_]) un43 ti119 rfl rfl dC dC rfl (K2 (.cons rfl .nil) rfl) rfl (.cons rfl (.atom rfl) rfl pu1 .nil) (.cons .nil) L) t1 t0 (swb (apP (sz:=1) un43 un43 ti119 rfl rfl rfl dC (by exact sM) oF sM rfl rfl rfl (by first | (simp [Tryz.t119]; done) | (simp [Tryz.t119]; omega)) oM (P0 _ rfl) L) t2 t1 t0 ?_)))))))
   refine aV L rfl (zn [(0,_),(1,_),(5,_),(7,_),(8,_)] [(34,_)] t5 t1 (j3 (mV L rfl (sw (I9 L dC (f0d (c:=4294967296) rF dC)) t2 t0 ?_))))
   refine aV L rfl (O1 (j3 (mV L rfl (sw (B3 L (w64 oM oM)) t2 t0 (aV L rfl (O1 ?_))))))
   exact ⟨(i+1,ys++[(ws.getD i 0+vs.getD i 0+c) % 4294967296],(ws.getD i 0+vs.getD i 0+c) / 4294967296),⟨key,Nat.succ_pos _⟩,(by simp only; omega),l3 ⟨oR,oR,ov rfl sM,rfl,rfl,trivial⟩ ⟨obl rfl (by rw [q0p]),trivial⟩⟩
  ·have hd:=df hd
   have hi:i=n:=by omega
   subst hi
   have hwd:Wd (ys++[c % 4294967296]):=hx.wd.snoc oM oM
   have he:val (ys++[c % 4294967296])=val ws+val vs:=by
    have:=hx.eq
    simp only at this
    rw [f0k oM,f0k oM] at this
    rw [g8,hlen,← this,Int.emod_eq_of_lt hc0 oM]
   refine G2 (xq ?_)
   refine exr (mV L rfl (mV L rfl (sw (D4 un127 un119 L m8) t1 t0 (sw (q4 (vs:=[_]) un43 ti119 rfl rfl dC dC rfl (K2 (.cons rfl .nil) rfl) rfl (.cons rfl (.atom rfl) rfl pu1 .nil) (.cons .nil) L) t1 t0 (swb (apP (sz:=1) un43 un43 ti119 rfl rfl rfl dC (by exact sM) oF sM rfl rfl rfl (by first | (simp [Tryz.t119]; done) | (simp [Tryz.t119]; omega)) oM (P0 _ rfl) L) t2 t1 t0 ?_)))))
   refine aV L rfl ?_
   refine O1 ⟨[(5,.ref 34 0 (ys++[c % 4294967296]).length (ys++[c % 4294967296]).length)],[(34,⟨119,1,.pure (J4 (ys++[c % 4294967296]))⟩)],⟨ov rfl sM,trivial⟩,⟨obl rfl (by rw [q0p]),trivial⟩,?_⟩
   refine s4 [34] (sl:=[(5,_)]) (hb:=[]) (F3 hX0) ⟨⟨_,rfl,(.ref rfl rfl (by exact sM) (by first | rfl | omega))⟩,trivial⟩ t0 ?_
   refine exr (mV L rfl (cK hG hX cl147 hN (s6 (ys++[c % 4294967296]) sO) L t1 (aV L rfl (zn [(4,_)] [] t1 trivial (X1 ?_)))))
   refine Q0 (.tmp rfl) ?_
   rw [f6 hwd,he]
theorem y0c (ws vs:List Int)(hl:ws.length<1000000000000)(hl2:vs.length≤ws.length)(h:Wd ws)(h2:Wd vs)(hle0:val vs≤val ws):v3 E 144 [pW ws,pW vs] (pW (y3 (val ws - val vs).toNat)):=by
 refine D2 (xs:=[pW (y3 (val ws - val vs).toNat)]) Tryz.func144 rfl Tryz.ntmps144 Tryz.results144 sM fun F hG hX0 hnt hdf P0=>?_
 obtain ⟨L,hX,hN⟩:=pro hnt hX0 hG
 have hv:=F2 h
 have hv2:=F2 h2
 obtain ⟨n,hn⟩:∃ n,n=ws.length:=⟨_,rfl⟩
 refine exr (aV L rfl (zn [(0,_),(1,_)] [] t2 trivial (exr (aV L rfl (zn [(0,_),(1,_),(5,_)] [] t3 trivial (exr (aV L rfl (zn [(0,_),(1,_),(5,_),(6,_)] [] t4 trivial (R1 (exr (aV L rfl ?_)))))))))))
 refine zn [(0,_),(1,_),(5,_),(6,_),(7,_)] [] t5 trivial (V1 ?_)
 refine M1j (α:=(Nat×List Int×Int)) (fun x=>[(7,vi (x.1:Int)),(6,vw x.2.2),(5,.ref 29 0 x.2.1.length x.2.1.length)]) (fun x=>[(29,⟨119,1,.pure (J4 x.2.1)⟩)]) (fun x=>m0w ws vs n x∧0<x.1) (fun x=>n - x.1) (n+1) (sl:=[(0,_),(1,_)]) (hb:=[]) t2 t0 ?_ ?_
 ·refine R1 (exr (mV L rfl (mV L rfl (sw (R2 un43 L) t1 t0 (sw (P3 L) t2 t0 (zn [(0,_),(1,_),(5,_),(6,_),(7,_),(12,_)] [] t6 trivial ?_))))))
  refine j2 rfl (fun hd=>?_) (fun hd=>?_)
  ·have hd:=dt hd
   have hw:=h.getD 0
   have hw2:=h2.getD 0
   have key:=(m0w.zero ws vs n).next h h2 oM
   refine U1 (xq ?_)
   refine R1 (V1 (exr (mV L rfl (mV L rfl (cK hG hX cl145 hN (q5 ws oM h 0 oM) L t2 (sw (B3 L (I4 oM oM)) t2 t0 (mV L rfl (mV L rfl (cK hG hX cl145 hN (q5 vs oM h2 0 oM) L t2 (sw (n6 L (I4 oM oM)) t2 t0 (mV L rfl ?_)))))))))))
   refine sw (n6 L (I4 oM oM)) t2 t0 (aV L rfl (zn [(0,_),(1,_),(5,_),(7,_),(8,_)] [] t5 trivial (exr (mV L rfl (mV L rfl (sw (D4 un127 un119 L m8) t1 t0 (sw (q4 (vs:=[_]) un43 ti119 rfl rfl dC dC rfl (K2 (.cons rfl .nil) rfl) rfl (.cons rfl (.atom rfl) rfl pu1 .nil) (.cons .nil) L) t1 t0 (swb (apN (k:=29) (sz:=1) un43 un43 ti119 rfl rfl rfl dC sM rfl (by first | (simp [Tryz.t119]; done) | (simp [Tryz.t119]; omega)) oM (P0 _ rfl) L) t2 t0 ⟨rfl,rfl⟩ ?_))))))))
   refine aV L rfl (zn [(0,_),(1,_),(5,_),(7,_),(8,_)] [(29,_)] t5 t1 (j3 (mV L rfl (sw (I9 L dC (f0d (c:=4294967296) rF dC)) t2 t0 ?_))))
   refine sw (n6 L (I4 oM oM)) t2 t0 (aV L rfl (O1 (j3 (mV L rfl (sw (B3 L (w64 oM oM)) t2 t0 (aV L rfl (O1 ?_)))))))
   exact ⟨(1,[(ws.getD 0 0 - vs.getD 0 0 - 0) % 4294967296],if ws.getD 0 0<vs.getD 0 0+0 then 1 else 0),⟨key,Nat.one_pos⟩,(by simp only; omega),l3 ⟨oR,oi (by simp only; split <;> omega) rfl,oR,rfl,rfl,trivial⟩ ⟨obl rfl (by simp only [J4,R0,List.map_nil]; rw [W0p]),trivial⟩⟩
  ·have hd:=df hd
   have e1:ws=[]:=E0 oM
   have e2:vs=[]:=E0 oM
   refine G2 (xq ?_)
   refine s4 [] (sl:=[(5,_)]) (hb:=[]) (F3 hX0) ⟨⟨_,rfl,(.p .nil)⟩,trivial⟩ t0 (exr (mV L rfl (cK hG hX cl147 hN (s6 [] sM) L t1 ?_)))
   refine aV L rfl (zn [(4,_)] [] t1 trivial (X1 ?_))
   refine Q0 (.tmp rfl) ?_
   rw [e1,e2]; simp [trim,E6,val,U4]
 ·intro x hx
  obtain ⟨i,ys,c⟩:=x
  obtain ⟨hx,hi0⟩:=hx
  have hlen:=hx.len
  have hle:=hx.le
  have hc0:=hx.c0
  have hc1:=hx.c1
  simp only at hlen hle hc0 hc1 hi0
  dsimp only
  have hw:=h.getD i
  have hw2:=h2.getD i
  refine R1 (exr (mV L rfl (mV L rfl (sw (R2 un43 L) t1 t0 (sw (P3 L) t2 t0 (zn [(0,_),(1,_),(5,_),(6,_),(7,_),(12,_)] [(29,_)] t6 t1 ?_))))))
  refine j2 rfl (fun hd=>?_) (fun hd=>?_)
  ·have hd:=dt hd
   have key:=hx.next h h2 oM
   refine U1 (xq ?_)
   refine R1 (V1 (exr (mV L rfl (mV L rfl (cK hG hX cl145 hN (q5 ws oM h i oM) L t2 (sw (B3 L (I4 oM oM)) t2 t0 (mV L rfl (mV L rfl (cK hG hX cl145 hN (q5 vs oM h2 i oM) L t2 (sw (n6 L (I4 oM oM)) t2 t0 (mV L rfl ?_)))))))))))
   refine sw (n6 L (I4 oM oM)) t2 t0 (aV L rfl (zn [(0,_),(1,_),(5,_),(7,_),(8,_)] [(29,_)] t5 t1 (exr (mV L rfl (mV L rfl (sw (D4 un127 un119 L m8) t1 t0 (sw (q4 (vs:=[_]) un43 ti119 rfl rfl dC dC rfl (K2 (.cons rfl .nil) rfl) rfl (.cons rfl (.atom rfl) rfl pu1 .nil) (.cons .nil) L) t1 t0 (swb (apP (sz:=1) un43 un43 ti119 rfl rfl rfl dC (by exact sM) oF sM rfl rfl rfl (by first | (simp [Tryz.t119]; done) | (simp [Tryz.t119]; omega)) oM (P0 _ rfl) L) t2 t1 t0 ?_))))))))
   refine aV L rfl (zn [(0,_),(1,_),(5,_),(7,_),(8,_)] [(29,_)] t5 t1 (j3 (mV L rfl (sw (I9 L dC (f0d (c:=4294967296) rF dC)) t2 t0 ?_))))
   refine sw (n6 L (I4 oM oM)) t2 t0 (aV L rfl (O1 (j3 (mV L rfl (sw (B3 L (w64 oM oM)) t2 t0 (aV L rfl (O1 ?_)))))))
   exact ⟨(i+1,ys++[(ws.getD i 0 - vs.getD i 0 - c) % 4294967296],if ws.getD i 0<vs.getD i 0+c then 1 else 0),⟨key,Nat.succ_pos _⟩,(by simp only; omega),l3 ⟨oR,oi (by simp only; split <;> omega) rfl,ov rfl sM,rfl,rfl,trivial⟩ ⟨obl rfl (by rw [q0p,W0p]),trivial⟩⟩
  ·have hd:=df hd
   have hi:i=n:=by omega
   subst hi
   obtain ⟨e1,e2⟩:c=0∧ys=G4 i (val ws - val vs):=m1j h h2 hle0 oM oM hx
   refine G2 (xq ?_)
   refine s4 [29] (sl:=[(5,_)]) (hb:=[]) (F3 hX0) ⟨⟨_,rfl,(.ref rfl rfl (by exact sM) (by first | rfl | omega))⟩,trivial⟩ t0 ?_
   refine exr (mV L rfl (cK hG hX cl147 hN (s6 ys oM) L t1 (aV L rfl (zn [(4,_)] [] t1 trivial (X1 ?_)))))
   refine Q0 (.tmp rfl) ?_
   have hy:val ys=val ws - val vs:=by rw [e2,i6 oM (by have:=j5 h; rw [← hn] at this; omega)]
   rw [f6 hx.wd]; simp only; rw [hy]
theorem p1f (ws vs:List Int)(hl:ws.length<4000000000000)(hl2:vs.length<4000000000000)(h:Wd ws)(h2:Wd vs):v3 E 123 [pW ws,pW vs] (pW (y3 (val ws*val vs).toNat)):=by
 refine D2 (xs:=[pW (y3 (val ws*val vs).toNat)]) Tryz.func123 rfl Tryz.ntmps123 Tryz.results123 sM fun F hG hX0 hnt hdf P0=>?_
 obtain ⟨L,hX,hN⟩:=pro hnt hX0 hG
 refine exr (aV L rfl (zn [(0,_),(1,_)] [] t2 trivial (exr (mV L rfl (sw (R2 un43 L) t1 t0 (mV L rfl (sw (R2 un43 L) t1 t0 (sw (B3 L (w64 oM oM)) t2 t0 (swb (v0a (k:=15) un43 ti119 rfl rfl rfl rfl (show _=((ws.length+vs.length:Nat):Int) by omega) (show _=((ws.length+vs.length:Nat):Int) by omega) (Nat.le_refl _) (by simp [Tryz.t119]; omega) oM (P0 _ rfl) L) t2 t0 ⟨rfl,rfl⟩ ?_)))))))))
 refine aV L rfl (zn [(0,_),(1,_),(5,_)] [(15,_)] t3 t1 (R1 (exr (aV L rfl (zn [(0,_),(1,_),(5,_),(6,_)] [(15,_)] t4 t1 (V1 ?_))))))
 refine exl (α:=(Nat×List Int)) (fun x=>[(6,vi (x.1:Int))]) (fun x=>[(15,⟨119,1,.pure (J4 x.2)⟩)]) (fun x=>B0c ws vs x) (fun x=>ws.length - x.1) (((0:Nat),List.replicate (ws.length+vs.length) (0:Int))) (sl:=[(0,_),(1,_),(5,_)]) (hb:=[]) ?_ ⟨oR,rfl,rfl,rfl,trivial⟩ ⟨obl rfl (by rw [b0q]),trivial⟩ ?_
 ·exact B0c.zero ws vs
 intro x hx
 obtain ⟨i,r⟩:=x
 have hlen:=hx.len
 have hle:=hx.le
 simp only at hlen hle
 dsimp only
 refine R1 (exr (mV L rfl (mV L rfl (sw (R2 un43 L) t1 t0 (sw (P3 L) t2 t0 (zn [(0,_),(1,_),(5,_),(6,_),(19,_)] [(15,_)] t5 t1 ?_))))))
 refine j2 rfl (fun he=>?_) (fun he=>?_)
 ·have he:=dt he
  have hw:=h.getD i
  refine U1 (xq ?_)
  refine R1 (V1 (exr (aV L rfl (zn [(0,_),(1,_),(5,_),(6,_),(7,_)] [(15,_)] t5 t1 (R1 (exr (aV L rfl (zn [(0,_),(1,_),(5,_),(6,_),(7,_),(8,_)] [(15,_)] t6 t1 (V1 ?_)))))))))
  refine exl (α:=(Nat×List Int×Int)) (fun y=>[(8,vi (y.1:Int)),(7,vw y.2.2)]) (fun y=>[(15,⟨119,1,.pure (J4 y.2.1)⟩)]) (fun y=>j0x ws vs i y) (fun y=>vs.length - y.1) (((0:Nat),r,(0:Int))) (sl:=[(0,_),(1,_),(5,_),(6,_)]) (hb:=[]) ?_ ⟨oR,oR,rfl,rfl,rfl,rfl,trivial⟩ t1 ?_
  ·exact j0x.zero h h2 hx oM
  intro y hy
  obtain ⟨j,s,c⟩:=y
  have hlen2:=hy.len
  have hle2:=hy.le
  have hc0:=hy.c0
  have hc1:=hy.c1
  simp only at hlen2 hle2 hc0 hc1
  dsimp only
  refine R1 (exr (mV L rfl (mV L rfl (sw (R2 un43 L) t1 t0 (sw (P3 L) t2 t0 (zn [(0,_),(1,_),(5,_),(6,_),(7,_),(8,_),(25,_)] [(15,_)] t7 t1 ?_))))))
  refine j2 rfl (fun hf=>?_) (fun hf=>?_)
  ·have hf:=dt hf
   have hv:=h2.getD j
   have hb:=g0w hw hv
   have hs:=hy.wd.getD (i+j)
   simp only at hs
   obtain ⟨key,k1,k2⟩:=hy.next h h2 oM oM rfl
   refine U1 (xq ?_)
   refine R1 (V1 (exd rF ?_))
   refine mV L rfl (mV L rfl (sw (ixJ un43 sz119 (j:=i) rO oM sM L) t2 t0 ?_))
   refine sw (d4 ag119 (by first | exact b6 oM | rfl) L) t1 t0 ?_
   refine sw (D4 un119 un127 L (I4 oM oM)) t1 t0 (mV L rfl (mV L rfl (sw (ixJ un43 sz119 (j:=j) rO oM sM L) t2 t0 ?_)))
   refine sw (d4 ag119 (by first | exact b6 oM | rfl) L) t1 t0 ?_
   refine sw (D4 un119 un127 L (I4 oM oM)) t1 t0 (sw (d1c L (I4 oM oM)) t2 t0 (mV L rfl (mV L rfl (mV L rfl (sw (B3 L (w64 oM oM)) t2 t0 (sw (y6 un43 sz119 (by exact sO) (j:=i+j) rO oM L) t2 t1 ?_))))))
   refine sw (Y1 ag119 (by exact sO) (g0k (by first | exact b6 oM | rfl)) L) t1 t1 ?_
   refine sw (D4 un119 un127 L (I4 oM oM)) t1 t0 (sw (B3 L (I4 oM oM)) t2 t0 (mV L rfl (sw (B3 L (I4 oM oM)) t2 t0 (aV L rfl ?_))))
   refine O1 ⟨d5 [⟨[0],[],[28],[]⟩,⟨[6],[],[29],[]⟩,⟨[28,29],[],[30],[]⟩,⟨[30],[],[31],[]⟩,⟨[31],[],[32],[]⟩,⟨[1],[],[33],[]⟩,⟨[8],[],[34],[]⟩,⟨[33,34],[],[35],[]⟩,⟨[35],[],[36],[]⟩,⟨[36],[],[37],[]⟩,⟨[32,37],[],[38],[]⟩,⟨[5],[],[39],[]⟩,⟨[6],[],[40],[]⟩,⟨[8],[],[41],[]⟩,⟨[40,41],[],[42],[]⟩,⟨[39,42],[15],[43],[]⟩,⟨[43],[15],[44],[]⟩,⟨[44],[],[45],[]⟩,⟨[38,45],[],[46],[]⟩,⟨[7],[],[47],[]⟩,⟨[46,47],[],[48],[]⟩,⟨[48],[],[9],[]⟩] rF rF dC,[(0,_),(1,_),(5,_),(6,_),(8,_),(9,_)],[(15,_)],t6,t1,?_⟩
   refine exr (mV L rfl (mV L rfl (mV L rfl (sw (B3 L (w64 oM oM)) t2 t0 (mV L rfl (sw (D4 un127 un119 L m8) t1 t0 (sw (y6 un43 sz119 (by exact sO) (j:=i+j) rO oM L) t2 t1 ?_)))))))
   refine sb (d0c sz119 (by exact sO) (.atom rfl) oM) t2 t1 ?_
   refine zn [(0,_),(1,_),(5,_),(6,_),(8,_),(9,_)] [(15,_)] t6 t1 (j3 (mV L rfl (sw (I9 L dC (f0d (c:=4294967296) rF dC)) t2 t0 ?_)))
   refine aV L rfl (O1 (j3 (mV L rfl (sw (B3 L (w64 oM oM)) t2 t0 (aV L rfl (O1 ?_))))))
   exact ⟨(j+1,s.set (i+j) ((ws.getD i 0*vs.getD j 0+s.getD (i+j) 0+c) % 4294967296),(ws.getD i 0*vs.getD j 0+s.getD (i+j) 0+c) / 4294967296),key,(by simp only; omega),l3 ⟨oR,oR,rfl,rfl,rfl,rfl,trivial⟩ ⟨obl rfl (by rw [m5]),trivial⟩⟩
  ·have hf:=df hf
   have hj:j=vs.length:=by omega
   subst hj
   refine G2 (xq ?_)
   refine j3 (mV L rfl (mV L rfl (mV L rfl (sw (R2 un43 L) t1 t0 (sw (B3 L (w64 oM oM)) t2 t0 (mV L rfl (sw (D4 un127 un119 L (D0b oM oM)) t1 t0 (sw (y6 un43 sz119 (by exact sO) (j:=i+vs.length) rO oM L) t2 t1 ?_))))))))
   refine sb (d0c sz119 (by exact sO) (.atom rfl) oM) t2 t1 ?_
   refine O1 (j3 (mV L rfl (sw (B3 L (w64 oM oM)) t2 t0 (aV L rfl (O1 ?_)))))
   exact ⟨(i+1,s.set (i+vs.length) c),hy.done oM,(by simp only; omega),l3 ⟨oR,rfl,rfl,rfl,trivial⟩ ⟨obl rfl (by rw [m5]),trivial⟩⟩
 ·have he:=df he
  have hi:i=ws.length:=by omega
  subst hi
  have e:val r=val ws*val vs:=by
   have:=hx.eq
   simpa only [I0] using this
  refine G2 (xq ?_)
  refine s4 [15] (sl:=[(5,_)]) (hb:=[]) (F3 hX0) ⟨⟨_,rfl,(.ref rfl rfl (by exact sO) (by first | rfl | omega))⟩,trivial⟩ t0 ?_
  rw [← hlen]
  refine exr (mV L rfl (cK hG hX cl147 hN (s6 r oM) L t1 (aV L rfl (zn [(4,_)] [] t1 trivial (X1 ?_)))))
  refine Q0 (.tmp rfl) ?_
  rw [f6 hx.wd]; simp only; rw [e]
theorem f1c (m n:Bool)(ws vs:List Int)(hl:ws.length<4000000000000)(hl2:vs.length<4000000000000)(h:Wd ws)(h2:Wd vs):v3 E 83 [pI m ws,pI n vs] (pZ (if P2 m ws=true∧P2 n vs=true then sg m (val ws)*sg n (val vs) else 0)):=by
 refine D2 (xs:=[pZ (if P2 m ws=true∧P2 n vs=true then sg m (val ws)*sg n (val vs) else 0)]) Tryz.func83 rfl Tryz.ntmps83 Tryz.results83 sM fun F hG hX0 hnt hdf P0=>?_
 obtain ⟨L,hX,hN⟩:=pro hnt hX0 hG
 have hv:=F2 h
 have hv2:=F2 h2
 have hvv:0≤val ws*val vs:=Int.mul_nonneg hv hv2
 have hml:=J1c h h2
 refine exr (swb (U3 (k:=2) (n:=2) pa2 rfl rfl (P0 _ rfl) L) t1 t0 ⟨rfl,rfl⟩ (swb (U3 (k:=3) (n:=2) pa2 rfl rfl (P0 _ rfl) L) t1 t0 ⟨rfl,rfl⟩ (swb (R3 (k:=4) (n:=2) zv45 (.cons rfl (.cons rfl .nil)) rfl (P0 _ rfl) L) t0 t0 ⟨rfl,rfl⟩ (zn [(2,_),(3,_),(4,_)] [(2,_),(3,_),(4,_)] t3 t3 (R1 ?_)))))
 refine exm (sl:=[(12,vb (!(P2 m ws && P2 n vs)))]) (sl0:=[(2,_),(3,_),(4,_)]) (hb:=[]) (hb0:=[(2,_),(3,_),(4,_)]) t3 t3 ?_ ?_
 ·by_cases hc:P2 m ws=true
  ·refine lp2 ag45 sz45 L rfl rfl (cK hG hX cl77 hN (E5 m ws oM) L t1 (sw (C4 L) t1 t0 (mV L rfl (swg (g:=8) rfl (by simp [hc]) (R6 ag45 sz45 rF (by exact al2) rfl L) rfl t1 t1 ?_))))
   refine swg (g:=8) rfl (by simp [hc]) (c_c hG hX cl77 rfl hN (E5 n vs oM) L) rfl t1 t0 ?_
   refine swg (g:=8) rfl (by simp [hc]) (C4 L) rfl t1 t0 ?_
   refine sw (y4 (by simp [hc]) L) t2 t0 ?_
   exact O1 ⟨⟨ob rfl (by simp [hc]),rfl,rfl,rfl,trivial⟩,t3⟩
  ·refine lp2 ag45 sz45 L rfl rfl (cK hG hX cl77 hN (E5 m ws oM) L t1 (sw (C4 L) t1 t0 (mV L rfl (swn (g:=8) rfl (by simp [hc]) L rfl ?_))))
   refine swn (g:=8) rfl (by simp [hc]) L rfl ?_
   refine swn (g:=8) rfl (by simp [hc]) L rfl ?_
   refine sw (O4 (by simp [hc]) L) t2 t0 ?_
   exact O1 ⟨⟨ob rfl (by simp [hc]),rfl,rfl,rfl,trivial⟩,t3⟩
 refine j2 rfl (fun hc=>?_) (fun hc=>?_)
 ·have hc:¬ (P2 m ws=true∧P2 n vs=true):=by rintro ⟨h1,h2⟩; simp [h1,h2] at hc
  refine exr (sw (b0d (G7 (vs:=[]) un45 zv45 (.cons rfl (.cons rfl .nil)) ((J2.cons sz4 (J2.cons sz43 J2.nil))).to rfl .nil (.cons (.cons .nil)) L) (.agg (.cons .same (.cons .nil .nil)))) t0 t0 (sb (U2 sz45 rF pa2 rfl pu2) t2 t1 ?_))
  refine zn [(4,_)] [(4,_)] t1 t1 (X1 ?_)
  refine Q0 (.agg rfl rfl rfl ag45 sz45 (.cons (.cons .nil))) ?_
  rw [if_neg hc,U8]; rfl
 ·have hc:P2 m ws=true∧P2 n vs=true:=by simpa using hc
  have es:sg (m != n) (val ws*val vs)=sg m (val ws)*sg n (val vs):=by cases m <;> cases n <;> simp [sg,Int.mul_neg,Int.neg_mul]
  refine U1 (xq ?_)
  refine exd rF ?_
  refine sw (i2 un45 rfl sz4 dC rX L) t1 t1 ?_
  refine sw (Y1 ag4 rF rF L) t1 t1 ?_
  refine sw (i2 un45 rfl sz4 dC rX L) t1 t1 ?_
  refine sw (Y1 ag4 rF rF L) t1 t1 ?_
  refine sw (y0n un4 L) t2 t0 (sw (i2 un45 rfl sz43 dC rX L) t1 t1 ?_)
  refine sw (Y1 ag43 rF rF L) t1 t1 ?_
  refine sw (i2 un45 rfl sz43 dC rX L) t1 t1 ?_
  refine sw (Y1 ag43 rF rF L) t1 t1 ?_
  refine cK hG hX cl123 hN (p1f ws vs hl hl2 h h2) L t2 (cK hG hX cl122 hN (q6 (m != n) (y3 (val ws*val vs).toNat) oM (M3 _)) L t2 (sb (U2 sz45 rF pa2 rfl pu2) t2 t1 ?_))
  refine O1 ⟨d5 [⟨[2],[2],[14],[]⟩,⟨[14],[2],[15],[]⟩,⟨[3],[3],[16],[]⟩,⟨[16],[3],[17],[]⟩,⟨[15,17],[],[18],[]⟩,⟨[2],[2],[19],[]⟩,⟨[19],[2],[20],[]⟩,⟨[3],[3],[21],[]⟩,⟨[21],[3],[22],[]⟩,⟨[20,22],[],[23],[]⟩,⟨[18,23],[],[24],[]⟩,⟨[4,24],[4],[],[4]⟩] rF rF dC,[(4,_)],[(4,_)],t1,t1,?_⟩
  refine X1 ?_
  refine Q0 (.agg rfl rfl rfl ag45 sz45 (.cons (.cons .nil))) ?_
  rw [if_pos hc,M9 hvv,es]
theorem f1x (m n:Bool)(ws vs:List Int)(hl:ws.length<999999999999)(hl2:vs.length<999999999999)(h:Wd ws)(h2:Wd vs):v3 E 116 [pI m ws,pI n vs] (pZ (if P2 m ws=true∧P2 n vs=true then sg m (val ws)+sg n (val vs) else 0)):=by
 refine D2 (xs:=[pZ (if P2 m ws=true∧P2 n vs=true then sg m (val ws)+sg n (val vs) else 0)]) Tryz.func116 rfl Tryz.ntmps116 Tryz.results116 sM fun F hG hX0 hnt hdf P0=>?_
 obtain ⟨L,hX,hN⟩:=pro hnt hX0 hG
 have hv:=F2 h
 have hv2:=F2 h2
 have hal:=K1v h h2
 refine exr (swb (U3 (k:=2) (n:=2) pa2 rfl rfl (P0 _ rfl) L) t1 t0 ⟨rfl,rfl⟩ (swb (U3 (k:=3) (n:=2) pa2 rfl rfl (P0 _ rfl) L) t1 t0 ⟨rfl,rfl⟩ (swb (R3 (k:=4) (n:=2) zv45 (.cons rfl (.cons rfl .nil)) rfl (P0 _ rfl) L) t0 t0 ⟨rfl,rfl⟩ (zn [(2,_),(3,_),(4,_)] [(2,_),(3,_),(4,_)] t3 t3 (R1 ?_)))))
 refine exm (sl:=[(16,vb (!(P2 m ws && P2 n vs)))]) (sl0:=[(2,_),(3,_),(4,_)]) (hb:=[]) (hb0:=[(2,_),(3,_),(4,_)]) t3 t3 ?_ ?_
 ·by_cases hc:P2 m ws=true
  ·refine lp2 ag45 sz45 L rfl rfl (cK hG hX cl77 hN (E5 m ws oM) L t1 (sw (C4 L) t1 t0 (mV L rfl (swg (g:=12) rfl (by simp [hc]) (R6 ag45 sz45 rF (by exact al2) rfl L) rfl t1 t1 ?_))))
   refine swg (g:=12) rfl (by simp [hc]) (c_c hG hX cl77 rfl hN (E5 n vs oM) L) rfl t1 t0 ?_
   refine swg (g:=12) rfl (by simp [hc]) (C4 L) rfl t1 t0 ?_
   refine sw (y4 (by simp [hc]) L) t2 t0 ?_
   exact O1 ⟨⟨ob rfl (by simp [hc]),rfl,rfl,rfl,trivial⟩,t3⟩
  ·refine lp2 ag45 sz45 L rfl rfl (cK hG hX cl77 hN (E5 m ws oM) L t1 (sw (C4 L) t1 t0 (mV L rfl (swn (g:=12) rfl (by simp [hc]) L rfl ?_))))
   refine swn (g:=12) rfl (by simp [hc]) L rfl ?_
   refine swn (g:=12) rfl (by simp [hc]) L rfl ?_
   refine sw (O4 (by simp [hc]) L) t2 t0 ?_
   exact O1 ⟨⟨ob rfl (by simp [hc]),rfl,rfl,rfl,trivial⟩,t3⟩
 refine j2 rfl (fun hc=>?_) (fun hc=>?_)
 ·have hc:¬ (P2 m ws=true∧P2 n vs=true):=by rintro ⟨h1,h2⟩; simp [h1,h2] at hc
  refine exr (sw (b0d (G7 (vs:=[]) un45 zv45 (.cons rfl (.cons rfl .nil)) ((J2.cons sz4 (J2.cons sz43 J2.nil))).to rfl .nil (.cons (.cons .nil)) L) (.agg (.cons .same (.cons .nil .nil)))) t0 t0 (sb (U2 sz45 rF pa2 rfl pu2) t2 t1 ?_))
  refine zn [(4,_)] [(4,_)] t1 t1 (X1 ?_)
  refine Q0 (.agg rfl rfl rfl ag45 sz45 (.cons (.cons .nil))) ?_
  rw [if_neg hc,U8]; rfl
 ·have hc:P2 m ws=true∧P2 n vs=true:=by simpa using hc
  have ht:=(P5 hc.1).1
  have ht2:=(P5 hc.2).1
  rw [if_pos hc]
  refine U1 (xq ?_)
  refine exr (lp2 ag45 sz45 L rfl rfl (cK hG hX cl118 hN (J8 m ws oM h ht) L t1 (mV L rfl (sw (O3 rfl L) t1 t0 (sw (O3 rfl L) t1 t0 (aV L rfl (aV L rfl (zn [(2,_),(3,_),(4,_),(5,_),(6,_)] [(2,_),(3,_),(4,_)] t5 t3 (exr (lp2 ag45 sz45 L rfl rfl (cK hG hX cl118 hN (J8 n vs oM h2 ht2) L t1 ?_)))))))))))
  refine mV L rfl (sw (O3 rfl L) t1 t0 (sw (O3 rfl L) t1 t0 (aV L rfl (aV L rfl (zn [(2,_),(3,_),(4,_),(5,_),(6,_),(7,_),(8,_)] [(2,_),(3,_),(4,_)] t7 t3 (R1 ?_))))))
  refine exm (sl:=[(31,vb (decide (val ws<4611686018427387904∧val vs<4611686018427387904)))]) (sl0:=[(2,_),(3,_),(4,_),(5,_),(7,_)]) (hb:=[]) (hb0:=[(2,_),(3,_),(4,_)]) t5 t3 ?_ ?_
  ·by_cases hd:val ws<4611686018427387904
   ·refine mV L rfl (mV L rfl (gV (g:=29) rfl (decide_eq_true hd) L rfl rfl (sw (O4 (decide_eq_true hd) L) t2 t0 ?_)))
    exact O1 ⟨⟨ob rfl (C7 oM),rfl,rfl,rfl,rfl,rfl,trivial⟩,t3⟩
   ·refine mV L rfl (mV L rfl (swn (g:=29) rfl (decide_eq_false hd) L rfl (sw (y4 (decide_eq_false hd) L) t2 t0 ?_)))
    exact O1 ⟨⟨ob rfl (by simp [hd]),rfl,rfl,rfl,rfl,rfl,trivial⟩,t3⟩
  refine j2 rfl (fun hd=>?_) (fun hd=>?_)
  ·have hd:=dt hd
   rw [if_pos hd.1,if_pos hd.2]
   have b1:=m1p m hv hd.1
   have b2:=m1p n hv2 hd.2
   refine exr (mV L rfl (mV L rfl (sw (B3 L (w64 oM oM)) t2 t0 (cK hG hX cl119 hN (b0r (sg m (val ws)+sg n (val vs)) oM oM) L t1 (sb (U2 sz45 rF pa2 rfl pu2) t2 t1 ?_)))))
   refine zn [(4,_)] [(4,_)] t1 t1 (X1 ?_)
   refine Q0 (.agg rfl rfl rfl ag45 sz45 (.cons (.cons .nil))) ?_
   rfl
  ·refine U1 (xq ?_)
   refine R1 (exr (sw (i2 un45 rfl sz4 dC rX L) t1 t1 ?_))
   refine sw (Y1 ag4 rF rF L) t1 t1 ?_
   refine sw (i2 un45 rfl sz4 dC rX L) t1 t1 ?_
   refine sw (Y1 ag4 rF rF L) t1 t1 ?_
   refine sw (b2m un4 L) t2 t0 (zn [(2,_),(3,_),(4,_),(40,_)] [(2,_),(3,_),(4,_)] t4 t3 ?_)
   refine j2 rfl (fun hs=>?_) (fun hs=>?_)
   ·have hs:m=n:=by simpa using hs
    subst hs
    refine exd rF ?_
    refine sw (i2 un45 rfl sz4 dC rX L) t1 t1 ?_
    refine sw (Y1 ag4 rF rF L) t1 t1 ?_
    refine sw (i2 un45 rfl sz43 dC rX L) t1 t1 ?_
    refine sw (Y1 ag43 rF rF L) t1 t1 ?_
    refine sw (i2 un45 rfl sz43 dC rX L) t1 t1 ?_
    refine sw (Y1 ag43 rF rF L) t1 t1 ?_
    refine cK hG hX cl142 hN (N0p ws vs oM oM h h2) L t2 (cK hG hX cl122 hN (q6 m (y3 (val ws+val vs).toNat) oM (M3 _)) L t2 (sb (U2 sz45 rF pa2 rfl pu2) t2 t1 ?_))
    refine O1 ⟨d5 [⟨[2],[2],[41],[]⟩,⟨[41],[2],[42],[]⟩,⟨[2],[2],[43],[]⟩,⟨[43],[2],[44],[]⟩,⟨[3],[3],[45],[]⟩,⟨[45],[3],[46],[]⟩,⟨[44,46],[],[47],[]⟩,⟨[42,47],[],[48],[]⟩,⟨[4,48],[4],[],[4]⟩] rF rF dC,[(4,_)],[(4,_)],t1,t1,?_⟩
    refine X1 ?_
    refine Q0 (.agg rfl rfl rfl ag45 sz45 (.cons (.cons .nil))) ?_
    rw [M9 oM,g1b]
   ·have hs:m≠n:=by simpa using hs
    refine U1 (xq ?_)
    refine R1 (exr (sw (i2 un45 rfl sz43 dC rX L) t1 t1 ?_))
    refine sw (Y1 ag43 rF rF L) t1 t1 ?_
    refine sw (i2 un45 rfl sz43 dC rX L) t1 t1 ?_
    refine sw (Y1 ag43 rF rF L) t1 t1 ?_
    refine cK hG hX cl143 hN (K0k ws vs oM oM h h2 ht ht2) L t2 (sw (d0b L) t2 t0 (zn [(2,_),(3,_),(4,_),(54,_)] [(2,_),(3,_),(4,_)] t4 t3 ?_))
    refine j2 rfl (fun he=>?_) (fun he=>?_)
    ·have he:=m1k (dt he)
     have hsl:=j1m h h2 he
     refine exd rF ?_
     refine sw (i2 un45 rfl sz4 dC rX L) t1 t1 ?_
     refine sw (Y1 ag4 rF rF L) t1 t1 ?_
     refine sw (i2 un45 rfl sz43 dC rX L) t1 t1 ?_
     refine sw (Y1 ag43 rF rF L) t1 t1 ?_
     refine sw (i2 un45 rfl sz43 dC rX L) t1 t1 ?_
     refine sw (Y1 ag43 rF rF L) t1 t1 ?_
     refine cK hG hX cl144 hN (y0c ws vs oM (v0x h h2 ht2 he) h h2 he) L t2 (cK hG hX cl122 hN (q6 m (y3 (val ws - val vs).toNat) oM (M3 _)) L t2 (sb (U2 sz45 rF pa2 rfl pu2) t2 t1 ?_))
     refine O1 ⟨d5 [⟨[2],[2],[55],[]⟩,⟨[55],[2],[56],[]⟩,⟨[2],[2],[57],[]⟩,⟨[57],[2],[58],[]⟩,⟨[3],[3],[59],[]⟩,⟨[59],[3],[60],[]⟩,⟨[58,60],[],[61],[]⟩,⟨[56,61],[],[62],[]⟩,⟨[4,62],[4],[],[4]⟩] rF rF dC,[(4,_)],[(4,_)],t1,t1,?_⟩
     refine X1 ?_
     refine Q0 (.agg rfl rfl rfl ag45 sz45 (.cons (.cons .nil))) ?_
     rw [M9 oM,Q0v hs]
    ·have he:=m1d (df he)
     have hsl:=j1m h2 h oM
     refine U1 (xq ?_)
     refine exd rF ?_
     refine sw (i2 un45 rfl sz4 dC rX L) t1 t1 ?_
     refine sw (Y1 ag4 rF rF L) t1 t1 ?_
     refine sw (i2 un45 rfl sz43 dC rX L) t1 t1 ?_
     refine sw (Y1 ag43 rF rF L) t1 t1 ?_
     refine sw (i2 un45 rfl sz43 dC rX L) t1 t1 ?_
     refine sw (Y1 ag43 rF rF L) t1 t1 ?_
     refine cK hG hX cl144 hN (y0c vs ws oM (v0x h2 h ht oM) h2 h oM) L t2 (cK hG hX cl122 hN (q6 n (y3 (val vs - val ws).toNat) oM (M3 _)) L t2 (sb (U2 sz45 rF pa2 rfl pu2) t2 t1 ?_))
     refine O1 ⟨d5 [⟨[3],[3],[63],[]⟩,⟨[63],[3],[64],[]⟩,⟨[3],[3],[65],[]⟩,⟨[65],[3],[66],[]⟩,⟨[2],[2],[67],[]⟩,⟨[67],[2],[68],[]⟩,⟨[66,68],[],[69],[]⟩,⟨[64,69],[],[70],[]⟩,⟨[4,70],[4],[],[4]⟩] rF rF dC,[(4,_)],[(4,_)],t1,t1,?_⟩
     refine X1 ?_
     refine Q0 (.agg rfl rfl rfl ag45 sz45 (.cons (.cons .nil))) ?_
     rw [M9 oM,Q0v hs.symm,Int.add_comm]
theorem g1g (ws:List Int)(d:Int)(hl:ws.length<10000000000000)(h:Wd ws)(hd:0<d∧d<4294967296):y0x E 156 [.ref 1000 0 ws.length ws.length,.p (oZ d)] [(1000,⟨119,1,.pure (J4 ws)⟩)] [(1000,⟨119,1,.pure (J4 (G4 ws.length (val ws / d)))⟩)] (oZ (val ws % d)):=by
 refine f0r (xs:=[oZ (val ws % d)]) Tryz.func156 rfl Tryz.ntmps156 Tryz.results156 sM rfl (n0f rfl) fun F hG hX hnt hdf P0 hXp=>?_
 have L:=@lti _ _ hnt
 have hN:=Y5 hG
 refine exr (aV L rfl (zn [(0,_),(1,_)] [(1000,_)] t2 t1 (exr (aV L rfl (zn [(0,_),(1,_),(5,_)] [(1000,_)] t3 t1 (R1 (exr (mV L rfl (sw (p0m un43 (by exact sM) L) t1 t1 ?_)))))))))
 refine sw (n6 L (w64 oM oM)) t2 t0 (aV L rfl (zn [(0,_),(1,_),(5,_),(6,_)] [(1000,_)] t4 t1 (V1 ?_)))
 refine exl (α:=(Nat×List Int×Int)) (fun x=>[(6,vi ((x.1:Int) - 1)),(5,vw x.2.2)]) (fun x=>[(1000,⟨119,1,.pure (J4 (ws.take x.1++x.2.1))⟩)]) (fun x=>V9 ws d x) (fun x=>x.1) ((ws.length,([]:List Int),(0:Int))) (sl:=[(0,_),(1,_)]) (hb:=[]) ?_ ⟨oR,oR,rfl,rfl,trivial⟩ ⟨obl rfl sM,trivial⟩ ?_
 ·exact V9.start ws d
 intro x hx
 obtain ⟨n,qs,r⟩:=x
 have hle:=hx.le
 have hq:qs.length=ws.length - n:=by have:=hx.q; simp only at this; rw [this,E3]
 have hr:0≤r∧r<d:=by have:=hx.r; simp only at this; rw [this]; exact ⟨Int.emod_nonneg _ oM,Int.emod_lt_of_pos _ hd.1⟩
 simp only at hle
 dsimp only
 refine R1 (exr (mV L rfl (sw (d0b L) t2 t0 (zn [(0,_),(1,_),(5,_),(6,_),(11,_)] [(1000,_)] t5 t1 ?_))))
 refine j2 rfl (fun he=>?_) (fun he=>?_)
 ·have he:=dt he
  obtain ⟨key,k1,k2⟩:=hx.next h hd.1 oM
  have hw:=h.getD (n - 1)
  have hg:(ws.take n++qs).getD (n - 1) 0=ws.getD (n - 1) 0:=p1g oM oM
  refine U1 (xq ?_)
  refine R1 (V1 (exr (mV L rfl (sw (B0n L dC (J0r (c:=4294967296) rF (I4 oM oM))) t2 t0 ?_))))
  refine mV L rfl (mV L rfl (sw (y6 un43 sz119 (by exact sO) (j:=n - 1) rO oM L) t2 t1 ?_))
  refine sw (Y1 ag119 (by exact sO) (g0k (b6 (ws:=ws.take n++qs) (i:=n - 1) sO)) L) t1 t1 ?_
  refine sw (D4 un119 un127 L (show _=ws.getD (n - 1) 0 by rw [hg]; exact W1f oM oM)) t1 t0 ?_
  refine sw (v0r L (H0n (b:=r) 32 rfl hw.1 hw.2 hr.1 dC oM oM)) t2 t0 (aV L rfl ?_)
  refine O1 ⟨[(0,_),(1,_),(5,vw (r*4294967296+ws.getD (n - 1) 0)),(6,_)],[(1000,_)],⟨rfl,rfl,oi oM rfl,rfl,trivial⟩,t1,?_⟩
  refine exr (mV L rfl (mV L rfl (mV L rfl (mV L rfl (sw (D4 un119 un127 L (I4 oM oM)) t1 t0 (sw (c_q L oM (b1m oM oM)) t2 t0 (sw (D4 un127 un119 L (D0b oM oM)) t1 t0 (sw (y6 un43 sz119 (by exact sO) (j:=n - 1) rO oM L) t2 t1 ?_))))))))
  refine sb (d0c sz119 (by exact sO) (.atom rfl) oM) t2 t1 ?_
  refine zn [(0,_),(1,_),(5,_),(6,_)] [(1000,_)] t4 t1 (j3 (mV L rfl (mV L rfl (sw (D4 un119 un127 L (I4 oM oM)) t1 t0 (sw (c_r L oM (b1v oM oM)) t2 t0 (aV L rfl (O1 (j3 (mV L rfl (sw (n6 L (w64 oM oM)) t2 t0 (aV L rfl ?_)))))))))))
  refine O1 ?_
  exact ⟨(n - 1,(r*4294967296+ws.getD (n - 1) 0) / d :: qs,(r*4294967296+ws.getD (n - 1) 0) % d),key,(by simp only; omega),l3 ⟨oR,oR,rfl,rfl,trivial⟩ ⟨obl rfl (by rw [m5,d1a sO,List.take_take,G1 oM]),trivial⟩⟩
 ·have he:=df he
  have hn:n=0:=by omega
  subst hn
  have e1:r=val ws % d:=by simpa using hx.r
  have e2:qs=G4 ws.length (val ws / d):=by simpa using hx.q
  refine G2 (xq ?_)
  refine exr (mV L rfl (sw (D4 un127 un119 L (D0b oM oM)) t1 t0 (aV L rfl (zn [(4,_)] [(1000,_)] t1 t1 (X1 ?_)))))
  refine ⟨.inr rfl,X4.cast (.cons (.tmp rfl) .nil) ?_,⟨obl rfl (by simp [e2]),trivial⟩⟩
  rw [e1]
theorem q0a (ws:List Int)(k:Nat)(hl:ws.length<9999999999999)(h:Wd ws)(hk:k<32):y0r E 158 [pW ws,vZ k] 119 1 (ws.length+1) (J4 (G4 (ws.length+1) (val ws*2 ^ k))):=by
 refine p0s (k:=11) (tot:=ws.length+1) Tryz.func158 rfl Tryz.ntmps158 Tryz.results158 sM fun F hG hX0 hnt hdf P0=>?_
 obtain ⟨L,hX,hN⟩:=pro hnt hX0 hG
 refine exr (aV L rfl (zn [(0,_),(1,_)] [] t2 trivial (exr (mV L rfl (sw (R2 un43 L) t1 t0 (sw (B3 L (w64 oM oM)) t2 t0 (swb (v0a (k:=11) un43 ti119 rfl rfl rfl rfl (show _=((ws.length+1:Nat):Int) by omega) (show _=((ws.length+1:Nat):Int) by omega) (Nat.le_refl _) (by simp [Tryz.t119]; omega) oM (P0 _ rfl) L) t2 t0 ⟨rfl,rfl⟩ ?_)))))))
 refine aV L rfl (zn [(0,_),(1,_),(5,_)] [(11,_)] t3 t1 (R1 (exr (mV L rfl (sw (R2 un43 L) t1 t0 (mV L rfl (zn [(1,_),(5,_),(12,_),(13,_),(14,_)] [(11,_)] t5 t1 (V1 ?_))))))))
 refine exl (α:=(Nat×List Int×Int)) (fun x=>[(14,vi (x.1:Int))]) (fun x=>[(11,⟨119,1,.pure (J4 (x.2.1++x.2.2 :: List.replicate (ws.length - x.1) 0))⟩)]) (fun x=>n8 ws k x) (fun x=>ws.length - x.1) (((0:Nat),([]:List Int),(0:Int))) (sl:=[(1,_),(5,_),(12,_),(13,_)]) (hb:=[]) ?_ ⟨oR,rfl,rfl,rfl,rfl,trivial⟩ ⟨obl rfl (by rw [b0q]; rfl),trivial⟩ ?_
 ·exact n8.zero ws k
 intro x hx
 obtain ⟨i,ys,c⟩:=x
 have hlen:=hx.len
 have hle:=hx.le
 have h0:=hx.h0
 have h1:=hx.h1
 simp only at hlen hle h0 h1
 dsimp only
 refine exr (sw (P3 L) t2 t0 (zn [(1,_),(5,_),(12,_),(13,_),(14,_),(15,_)] [(11,_)] t6 t1 (R1 ?_)))
 refine j2 rfl (fun he=>?_) (fun he=>?_)
 ·have he:=dt he
  have hw:=h.getD i
  have key:=hx.next h oM
  have kq0:=key.h0
  have kq1:=key.h1
  simp only at kq0 kq1
  have hp:=N0h (Nat.le_of_lt hk)
  have sa:=j1p (Nat.le_of_lt hk) (ws.getD i 0) h0 h1
  have hg:(ys++c :: List.replicate (ws.length - i) 0).getD i 0=c:=by rw [f0,D0 oM,hlen,Nat.sub_self]; rfl
  refine U1 (xq ?_)
  refine R1 (V1 (exr (mV L rfl (sw (ixJ un43 sz119 (j:=i) rO oM sM L) t2 t0 ?_))))
  refine sw (d4 ag119 (by first | exact b6 oM | rfl) L) t1 t0 ?_
  refine aV L rfl (aV L rfl (zn [(1,_),(5,_),(6,_),(7,_),(12,_),(13,_),(14,_)] [(11,_)] t7 t1 (exd rF ?_)))
  refine mV L rfl (mV L rfl (sw (y6 un43 sz119 (by exact sO) (j:=i) rO oM L) t2 t1 ?_))
  refine sw (Y1 ag119 (by exact sO) (g0k (b6 sO)) L) t1 t1 ?_
  refine mV L rfl (mV L rfl (sw (B0n L oM (Q1z (Nat.le_of_lt hk))) t2 t0 (sw (v0r L (show _=(ws.getD i 0*2 ^ k+c) % 4294967296 by rw [hg,Y1f (b:=ws.getD i 0 % 2 ^ (32 - k)) k rfl h0 h1 sa.2.2.1 (Nat.le_of_lt hk) sa.2.2.2 sa.2.1,sa.1])) t2 t0 ?_)))
  refine sw (y6 un43 sz119 (by exact sO) (j:=i) rO oM L) t2 t1 ?_
  refine sb (d0c sz119 (by exact sO) (.atom rfl) oM) t2 t1 ?_
  refine O1 ⟨d5 [⟨[5],[],[19],[]⟩,⟨[6],[],[20],[]⟩,⟨[19,20],[11],[21],[]⟩,⟨[21],[11],[22],[]⟩,⟨[7],[],[23],[]⟩,⟨[1],[],[24],[]⟩,⟨[23,24],[],[25],[]⟩,⟨[22,25],[],[26],[]⟩,⟨[19,20],[11],[27],[]⟩,⟨[27,26],[11],[],[11]⟩] rF rF dC,[(1,_),(5,_),(6,_),(7,_),(12,_),(13,_),(14,_)],[(11,_)],t7,t1,?_⟩
  refine j3 (mV L rfl (mV L rfl (sw (B3 L (w64 oM oM)) t2 t0 (mV L rfl (sw (D4 un119 un127 L (I4 oM oM)) t1 t0 (mV L rfl (sw (n6 L (w64 oM oM)) t2 t0 (sw (I9 L oM (show _=(ws.getD i 0*2 ^ k+c) / 4294967296 by rw [V0p (Nat.le_of_lt hk) _ h0 h1]; exact V1b hk)) t2 t0 ?_))))))))
  refine sw (D4 un127 un119 L (D0b oM oM)) t1 t0 (sw (y6 un43 sz119 (by exact (List.length_set.trans sO)) (j:=i+1) rO oM L) t2 t1 ?_)
  refine sb (d0c sz119 (by exact (List.length_set.trans sO)) (.atom rfl) oM) t2 t1 ?_
  refine O1 (j3 (sw (B3 L (w64 oM oM)) t2 t0 (mV L rfl (O1 ?_))))
  exact ⟨(i+1,ys++[(ws.getD i 0*2 ^ k+c) % 4294967296],(ws.getD i 0*2 ^ k+c) / 4294967296),key,(by simp only; omega),l3 ⟨oR,rfl,rfl,rfl,rfl,trivial⟩ ⟨obl rfl (by simp only; rw [m5,m5,F0k hlen oM]),trivial⟩⟩
 ·have he:=df he
  have hi:i=ws.length:=by omega
  subst hi
  obtain ⟨e1,e2⟩:=hx.end_ oM
  refine G2 (xq ?_)
  refine exr (mV L rfl (aV L rfl (zn [(4,_)] [(11,_)] t1 t1 (X1 ?_))))
  refine ⟨.inr rfl,rfl,_,rfl,by simp; omega,?_,by simp [E3]⟩
  rw [← e1,Nat.sub_self]; exact C0 sO
theorem k0q (ws:List Int)(hl:ws.length<10000000000000)(h:Wd ws):v3 E 150 [pW ws] (.tup [uZ (if ws.length≤2 then val ws else 0),bZ (decide (ws.length≤2))]):=by
 refine D2 (xs:=[uZ (if ws.length≤2 then val ws else 0),bZ (decide (ws.length≤2))]) Tryz.func150 rfl Tryz.ntmps150 Tryz.results150 sM fun F hG hX0 hnt hdf P0=>?_
 obtain ⟨L,hX,hN⟩:=pro hnt hX0 hG
 have hw:=h.getD 0
 have hw1:=h.getD 1
 refine exr (aV L rfl (aV L rfl (zn [(0,_)] [] t1 trivial (R1 (exr (mV L rfl (sw (R2 un43 L) t1 t0 (zn [(0,_),(5,_)] [] t2 trivial (V1 (exr (sw (c_e L) t2 t0 ?_)))))))))))
 refine aV L rfl (zn [(0,_),(5,_),(6,_)] [] t3 trivial ?_)
 refine j2 rfl (fun h0=>?_) (fun h0=>?_)
 ·have h0:=dt h0
  have e:ws=[]:=E0 oM
  refine exr (aV L rfl (aV L rfl (zn [(2,_),(3,_)] [] t2 trivial (X1 ?_))))
  refine Y0 (.tmp rfl) (.tmp rfl) ?_
  rw [e]; rfl
 ·have h0:=df h0
  refine exr (sw (c_e L) t2 t0 (aV L rfl (zn [(0,_),(5,_),(8,_)] [] t3 trivial ?_)))
  refine j2 rfl (fun h1=>?_) (fun h1=>?_)
  ·have h1:=dt h1
   refine exr (mV L rfl (sw (ixJ un43 sz119 (j:=0) rfl oM sM L) t2 t0 ?_))
   refine sw (d4 ag119 (by first | exact b6 oM | rfl) L) t1 t0 ?_
   refine sw (D4 un119 un127 L (I4 oM oM)) t1 t0 (aV L rfl (aV L rfl (zn [(2,_),(3,_)] [] t2 trivial (X1 ?_))))
   refine Y0 (.tmp rfl) (.tmp rfl) ?_
   rw [if_pos oM,decide_eq_true oM,k0n oM]
  ·have h1:=df h1
   refine exr (sw (c_e L) t2 t0 (aV L rfl (zn [(0,_),(14,_)] [] t2 trivial ?_)))
   refine j2 rfl (fun h2=>?_) (fun h2=>?_)
   ·have h2:=dt h2
    refine exd rF ?_
    refine mV L rfl (sw (ixJ un43 sz119 (j:=1) rfl oM sM L) t2 t0 ?_)
    refine sw (d4 ag119 (by first | exact b6 oM | rfl) L) t1 t0 ?_
    refine sw (D4 un119 un127 L (I4 oM oM)) t1 t0 (sw (B0n L dC (J0r (c:=4294967296) rF (I4 oM oM))) t2 t0 ?_)
    refine mV L rfl (sw (ixJ un43 sz119 (j:=0) rfl oM sM L) t2 t0 ?_)
    refine sw (d4 ag119 (by first | exact b6 oM | rfl) L) t1 t0 ?_
    refine sw (D4 un119 un127 L (I4 oM oM)) t1 t0 (sw (v0r L (H0n (b:=ws.getD 1 0) 32 rfl hw.1 hw.2 hw1.1 dC oM oM)) t2 t0 (aV L rfl (aV L rfl ?_)))
    refine O1 ⟨d5 [⟨[0],[],[16],[]⟩,⟨[16],[],[17],[]⟩,⟨[17],[],[18],[]⟩,⟨[18],[],[19],[]⟩,⟨[19],[],[20],[]⟩,⟨[0],[],[21],[]⟩,⟨[21],[],[22],[]⟩,⟨[22],[],[23],[]⟩,⟨[23],[],[24],[]⟩,⟨[20,24],[],[25],[]⟩,⟨[25],[],[2],[]⟩,⟨[],[],[3],[]⟩] rF rF dC,[(2,_),(3,_)],[],t2,trivial,?_⟩
    refine X1 ?_
    refine Y0 (.tmp rfl) (.tmp rfl) ?_
    rw [if_pos oM,decide_eq_true oM,← w0s h oM]; rfl
   ·have h2:=df h2
    refine U1 (xq ?_)
    refine exr (aV L rfl (aV L rfl (zn [(2,_),(3,_)] [] t2 trivial (X1 ?_))))
    refine Y0 (.tmp rfl) (.tmp rfl) ?_
    rw [if_neg oM,decide_eq_false oM]
theorem D0w (n:Int)(h0:0≤n)(h1:n<18446744073709551616):v3 E 155 [uZ n] (pW (G4 2 n)):=by
 refine D2 (xs:=[pW (G4 2 n)]) Tryz.func155 rfl Tryz.ntmps155 Tryz.results155 sM fun F hG hX0 hnt hdf P0=>?_
 obtain ⟨L,hX,hN⟩:=pro hnt hX0 hG
 refine exr (aV L rfl (zn [(0,_)] [] t1 trivial (exr (mV L rfl (sw (D4 un127 un119 L m8) t1 t0 (mV L rfl (sw (I9 L dC (f0d (c:=4294967296) rF dC)) t2 t0 ?_)))))))
 refine sw (D4 un127 un119 L m8) t1 t0 (sw (q4 (vs:=[_,_]) un43 ti119 rfl rfl dC dC rfl (K2 (.cons rfl .nil) rfl) rfl (.cons rfl (.atom rfl) rfl pu1 (.cons rfl (.atom rfl) rfl (.skip pu1) .nil)) (.cons (.cons .nil)) L) t2 t0 (aV L rfl (zn [(2,_)] [] t1 trivial (X1 ?_))))
 refine Q0 (.tmp rfl) ?_
 simp [G4,J4]
theorem J1y (x:Int)(h0:0≤x)(h1:x<4294967296):v3 E 157 [oZ x] (vZ (32 - (bl x.toNat:Int))):=by
 refine D2 (xs:=[vZ (32 - (bl x.toNat:Int))]) Tryz.func157 rfl Tryz.ntmps157 Tryz.results157 sM fun F hG hX0 hnt hdf P0=>?_
 obtain ⟨L,hX,hN⟩:=pro hnt hX0 hG
 have hb:=J1w h1
 refine exr (aV L rfl (zn [(0,_)] [] t1 trivial (exr (mV L rfl (cK hG hX cl169 hN (g1z x h0 h1) L t1 (sw (n6 L (w64 oM oM)) t2 t0 (aV L rfl (zn [(2,_)] [] t1 trivial (X1 ?_)))))))))
 refine Q0 (.tmp rfl) ?_
 rfl
theorem Q0j (ws:List Int)(d:Int)(hl:ws.length<9999999999999)(h:Wd ws)(hd:0<d∧d<4294967296):v3 E 165 [pW ws,uZ d] (.tup [pW (y3 (val ws / d).toNat),pW (y3 (val ws % d).toNat)]):=by
 refine D2 (xs:=[pW (y3 (val ws / d).toNat),pW (y3 (val ws % d).toNat)]) Tryz.func165 rfl Tryz.ntmps165 Tryz.results165 sM fun F hG hX0 hnt hdf P0=>?_
 obtain ⟨L,hX,hN⟩:=pro hnt hX0 hG
 have hv:=F2 h
 refine exr (aV L rfl (aV L rfl (zn [(0,_),(1,_)] [] t2 trivial (exr (mV L rfl (sw (R2 un43 L) t1 t0 (swb (v0a (k:=11) un43 ti119 rfl rfl rfl rfl rfl rfl (Nat.le_refl _) (by simp [Tryz.t119]; omega) oM (P0 _ rfl) L) t2 t0 ⟨rfl,rfl⟩ ?_)))))))
 refine aV L rfl (zn [(0,_),(1,_),(4,_)] [(11,_)] t3 t1 (exr (aV L rfl (zn [(0,_),(1,_),(4,_),(6,_)] [(11,_)] t4 t1 (R1 (exr (mV L rfl (sw (R2 un43 L) t1 t0 (sw (n6 L (w64 oM oM)) t2 t0 (aV L rfl (zn [(0,_),(1,_),(4,_),(6,_),(7,_)] [(11,_)] t5 t1 ?_)))))))))))
 refine V1 ?_
 refine exl (α:=(Nat×List Int×Int)) (fun x=>[(7,vi ((x.1:Int) - 1)),(6,vw x.2.2)]) (fun x=>[(11,⟨119,1,.pure (J4 (List.replicate x.1 0++x.2.1))⟩)]) (fun x=>V9 ws d x) (fun x=>x.1) ((ws.length,([]:List Int),(0:Int))) (sl:=[(0,_),(1,_),(4,_)]) (hb:=[]) ?_ ⟨oR,oR,rfl,rfl,rfl,trivial⟩ ⟨obl rfl (by rw [b0q]; simp),trivial⟩ ?_
 ·exact V9.start ws d
 intro x hx
 obtain ⟨n,qs,r⟩:=x
 have hle:=hx.le
 have hq:qs.length=ws.length - n:=by have:=hx.q; simp only at this; rw [this,E3]
 have hr:0≤r∧r<d:=by have:=hx.r; simp only at this; rw [this]; exact ⟨Int.emod_nonneg _ oM,Int.emod_lt_of_pos _ hd.1⟩
 simp only at hle
 dsimp only
 refine R1 (exr (mV L rfl (sw (d0b L) t2 t0 (zn [(0,_),(1,_),(4,_),(6,_),(7,_),(16,_)] [(11,_)] t6 t1 ?_))))
 refine j2 rfl (fun he=>?_) (fun he=>?_)
 ·have he:=dt he
  obtain ⟨key,k1,k2⟩:=hx.next h hd.1 oM
  have hw:=h.getD (n - 1)
  refine U1 (xq ?_)
  refine R1 (V1 (exr (mV L rfl (sw (B0n L dC (J0r (c:=4294967296) rF (I4 oM oM))) t2 t0 ?_))))
  refine mV L rfl (mV L rfl (sw (ixJ un43 sz119 (j:=n - 1) rO oM sM L) t2 t0 ?_))
  refine sw (d4 ag119 (by first | exact b6 oM | rfl) L) t1 t0 ?_
  refine sw (D4 un119 un127 L (I4 oM oM)) t1 t0 (sw (v0r L (H0n (b:=r) 32 rfl hw.1 hw.2 hr.1 dC oM oM)) t2 t0 (aV L rfl ?_))
  refine O1 ⟨[(0,_),(1,_),(4,_),(7,_),(8,vw (r*4294967296+ws.getD (n - 1) 0))],[(11,_)],⟨rfl,rfl,rfl,rfl,oi oM rfl,trivial⟩,t1,?_⟩
  refine exr (mV L rfl (mV L rfl (mV L rfl (mV L rfl (sw (c_q L oM (b1m oM oM)) t2 t0 (sw (D4 un127 un119 L (D0b oM oM)) t1 t0 (sw (y6 un43 sz119 (by exact sO) (j:=n - 1) rO oM L) t2 t1 ?_)))))))
  refine sb (d0c sz119 (by exact sO) (.atom rfl) oM) t2 t1 ?_
  refine zn [(0,_),(1,_),(4,_),(7,_),(8,_)] [(11,_)] t5 t1 (j3 (mV L rfl (mV L rfl (sw (c_r L oM (b1v oM oM)) t2 t0 (aV L rfl (O1 (j3 (mV L rfl (sw (n6 L (w64 oM oM)) t2 t0 (aV L rfl (O1 ?_)))))))))))
  exact ⟨(n - 1,(r*4294967296+ws.getD (n - 1) 0) / d :: qs,(r*4294967296+ws.getD (n - 1) 0) % d),key,(by simp only; omega),l3 ⟨oR,oR,rfl,rfl,rfl,trivial⟩ ⟨obl rfl (by rw [m5,d1a sO]; simp),trivial⟩⟩
 ·have he:=df he
  have hn:n=0:=by omega
  subst hn
  have e1:r=val ws % d:=by simpa using hx.r
  have e2:qs=G4 ws.length (val ws / d):=by simpa using hx.q
  have hql:qs.length=ws.length:=by omega
  refine G2 (xq ?_)
  refine s4 [11] (sl:=[(4,_),(6,_)]) (hb:=[]) (F3 hX0) ⟨⟨_,rfl,(.ref rfl rfl (by exact sO) (by first | rfl | omega))⟩,⟨_,rfl,.same⟩,trivial⟩ t0 ?_
  rw [← hql]
  simp only [List.replicate_zero,List.nil_append]
  refine exr (mV L rfl (cK hG hX cl147 hN (s6 qs oM) L t1 (mV L rfl (sw (D4 un127 un119 L (D0b oM oM)) t1 t0 (sw (q4 (vs:=[_]) un43 ti119 rfl rfl dC dC rfl (K2 (.cons rfl .nil) rfl) rfl (.cons rfl (.atom rfl) rfl pu1 .nil) (.cons .nil) L) t1 t0 (cK hG hX cl147 hN (s6 [r] sM) L t1 ?_))))))
  refine aV L rfl (aV L rfl (zn [(4,_),(5,_)] [] t2 trivial (X1 ?_)))
  refine Y0 (.tmp rfl) (.tmp rfl) ?_
  have q1:0≤val ws / d:=Int.ediv_nonneg hv oM
  have q2:val ws / d<4294967296 ^ ws.length:=by
   have:=j5 h
   have h3:val ws / d≤val ws:=Int.ediv_le_self _ hv
   omega
  rw [f6 (by rw [e2]; exact w6 _ _),f6 (ws:=[r]) (by simp [Wd]; omega),e2,i6 q1 q2,← e1]
  simp [val]
theorem J0j (ws:List Int)(s:Nat)(hl:ws.length<1000000000000)(h:Wd ws)(hs:s≤32):v3 E 168 [pW ws,vZ s] (pW (y3 (val ws / 2 ^ s).toNat)):=by
 refine D2 (xs:=[pW (y3 (val ws / 2 ^ s).toNat)]) Tryz.func168 rfl Tryz.ntmps168 Tryz.results168 sM fun F hG hX0 hnt hdf P0=>?_
 obtain ⟨L,hX,hN⟩:=pro hnt hX0 hG
 have hv:=F2 h
 obtain ⟨n,hn⟩:∃ n,n=ws.length:=⟨_,rfl⟩
 refine exr (aV L rfl (zn [(0,_),(1,_)] [] t2 trivial (exr (aV L rfl (zn [(0,_),(1,_),(5,_)] [] t3 trivial (R1 (exr (aV L rfl (zn [(0,_),(1,_),(5,_),(6,_)] [] t4 trivial (V1 ?_))))))))))
 refine M1j (α:=(Nat×List Int)) (fun x=>[(6,vi (x.1:Int)),(5,.ref 27 0 x.2.length x.2.length)]) (fun x=>[(27,⟨119,1,.pure (J4 x.2)⟩)]) (fun x=>B0s ws s x∧0<x.1) (fun x=>n - x.1) (n+1) (sl:=[(0,_),(1,_)]) (hb:=[]) t2 t0 ?_ ?_
 ·refine R1 (exr (mV L rfl (mV L rfl (sw (R2 un43 L) t1 t0 (sw (P3 L) t2 t0 (zn [(0,_),(1,_),(5,_),(6,_),(10,_)] [] t5 trivial ?_))))))
  refine j2 rfl (fun hd=>?_) (fun hd=>?_)
  ·have hd:=dt hd
   have hw:=h.getD 0
   have hw1:=h.getD 1
   have key:=(B0s.zero ws s).next h hs oM
   have hb:=d1r (s:=s) (a:=ws.getD 0 0+ws.getD 1 0*4294967296) oM oM
   refine U1 (xq ?_)
   refine R1 (V1 (j3 (mV L rfl (mV L rfl (mV L rfl (cK hG hX cl145 hN (q5 ws oM h 0 oM) L t2 (mV L rfl (mV L rfl (sw (B3 L (w64 oM oM)) t2 t0 (cK hG hX cl145 hN (q5 ws oM h 1 oM) L t2 (sw (B0n L dC (J0r (c:=4294967296) rF (I4 oM oM))) t2 t0 ?_)))))))))))
   refine sw (v0r L (K1c (b:=ws.getD 1 0) 32 rfl hw.1 hw.2 hw1.1 dC oM oM)) t2 t0 (mV L rfl (sw (I9 L oM (d1y oM)) t2 t0 (sw (D4 un127 un119 L m8) t1 t0 (sw (q4 (vs:=[_]) un43 ti119 rfl rfl dC dC rfl (K2 (.cons rfl .nil) rfl) rfl (.cons rfl (.atom rfl) rfl pu1 .nil) (.cons .nil) L) t1 t0 (swb (apN (k:=27) (sz:=1) un43 un43 ti119 rfl rfl rfl dC sM rfl (by first | (simp [Tryz.t119]; done) | (simp [Tryz.t119]; omega)) oM (P0 _ rfl) L) t2 t0 ⟨rfl,rfl⟩ ?_)))))
   refine aV L rfl (O1 (j3 (mV L rfl (sw (B3 L (w64 oM oM)) t2 t0 (aV L rfl (O1 ?_))))))
   exact ⟨(1,[(ws.getD 0 0+ws.getD 1 0*4294967296) / 2 ^ s % 4294967296]),⟨key,Nat.one_pos⟩,(by simp only; omega),l3 ⟨oR,oR,rfl,rfl,trivial⟩ t1⟩
  ·have hd:=df hd
   have e1:ws=[]:=E0 oM
   refine G2 (xq ?_)
   refine s4 [] (sl:=[(5,_)]) (hb:=[]) (F3 hX0) ⟨⟨_,rfl,(.p .nil)⟩,trivial⟩ t0 (exr (mV L rfl (cK hG hX cl147 hN (s6 [] sM) L t1 ?_)))
   refine aV L rfl (zn [(4,_)] [] t1 trivial (X1 ?_))
   refine Q0 (.tmp rfl) ?_
   rw [e1]; simp [trim,E6,val,U4]
 ·intro x hx
  obtain ⟨i,ys⟩:=x
  obtain ⟨hx,hi0⟩:=hx
  have hlen:=hx.len
  have hle:=hx.le
  simp only at hlen hle hi0
  dsimp only
  refine R1 (exr (mV L rfl (mV L rfl (sw (R2 un43 L) t1 t0 (sw (P3 L) t2 t0 (zn [(0,_),(1,_),(5,_),(6,_),(10,_)] [(27,_)] t5 t1 ?_))))))
  refine j2 rfl (fun hd=>?_) (fun hd=>?_)
  ·have hd:=dt hd
   have hw:=h.getD i
   have hw1:=h.getD (i+1)
   have key:=hx.next h hs oM
   have hb:=d1r (s:=s) (a:=ws.getD i 0+ws.getD (i+1) 0*4294967296) oM oM
   refine U1 (xq ?_)
   refine R1 (V1 (j3 (mV L rfl (mV L rfl (mV L rfl (cK hG hX cl145 hN (q5 ws oM h i oM) L t2 (mV L rfl (mV L rfl (sw (B3 L (w64 oM oM)) t2 t0 (cK hG hX cl145 hN (q5 ws oM h (i+1) oM) L t2 (sw (B0n L dC (J0r (c:=4294967296) rF (I4 oM oM))) t2 t0 ?_)))))))))))
   refine sw (v0r L (K1c (b:=ws.getD (i+1) 0) 32 rfl hw.1 hw.2 hw1.1 dC oM oM)) t2 t0 (mV L rfl (sw (I9 L oM (d1y oM)) t2 t0 (sw (D4 un127 un119 L m8) t1 t0 (sw (q4 (vs:=[_]) un43 ti119 rfl rfl dC dC rfl (K2 (.cons rfl .nil) rfl) rfl (.cons rfl (.atom rfl) rfl pu1 .nil) (.cons .nil) L) t1 t0 (swb (apP (sz:=1) un43 un43 ti119 rfl rfl rfl dC (by exact sM) oF sM rfl rfl rfl (by first | (simp [Tryz.t119]; done) | (simp [Tryz.t119]; omega)) oM (P0 _ rfl) L) t2 t1 t0 ?_)))))
   refine aV L rfl (O1 (j3 (mV L rfl (sw (B3 L (w64 oM oM)) t2 t0 (aV L rfl (O1 ?_))))))
   exact ⟨(i+1,ys++[(ws.getD i 0+ws.getD (i+1) 0*4294967296) / 2 ^ s % 4294967296]),⟨key,Nat.succ_pos _⟩,(by simp only; omega),l3 ⟨oR,ov rfl sM,rfl,rfl,trivial⟩ ⟨obl rfl (by rw [q0p]; rfl),trivial⟩⟩
  ·have hd:=df hd
   have hi:i=ws.length:=by omega
   subst hi
   have e:=hx.end_
   refine G2 (xq ?_)
   refine s4 [27] (sl:=[(5,_)]) (hb:=[]) (F3 hX0) ⟨⟨_,rfl,(.ref rfl rfl (by exact sM) (by first | rfl | omega))⟩,trivial⟩ t0 ?_
   refine exr (mV L rfl (cK hG hX cl147 hN (s6 ys oM) L t1 (aV L rfl (zn [(4,_)] [] t1 trivial (X1 ?_)))))
   refine Q0 (.tmp rfl) ?_
   rw [f6 hx.wd]; simp only; rw [e]
theorem Y0c (ws:List Int)(hl:ws.length<10000000000000):F1d E 147 [.ref 1000 0 ws.length ws.length] [(1000,⟨119,1,.pure (J4 ws)⟩)] [(1000,⟨119,1,.pure (J4 ws)⟩)] (.ref 1000 0 (E6 ws ws.length) ws.length):=by
 refine D1g Tryz.func147 rfl Tryz.ntmps147 Tryz.results147 sM rfl (n0f rfl) fun F hG hX hnt hdf P0 hXp=>?_
 have L:=@lti _ _ hnt
 have hN:=Y5 hG
 refine exr (aV L rfl (zn [(0,_)] [(1000,_)] t1 t1 (exr (mV L rfl (sw (p0m un43 (by exact sM) L) t1 t1 ?_)))))
 refine aV L rfl (zn [(0,_),(3,_)] [(1000,_)] t2 t1 (R1 (V1 ?_)))
 refine exl (α:=Nat) (fun n=>[(3,vi (n:Int))]) (fun n=>[]) (fun n=>n≤ws.length∧E6 ws n=E6 ws ws.length) (fun n=>n) (ws.length) (sl:=[(0,_)]) (hb:=[(1000,_)]) ?_ ⟨oR,rfl,trivial⟩ t1 ?_
 ·exact ⟨Nat.le_refl _,rfl⟩
 intro n hn
 refine R1 ?_
 refine exm (sl:=[(15,vb (decide (0<n∧ws.getD (n - 1) 0=0)))]) (sl0:=[(0,_),(3,_)]) (hb:=[]) (hb0:=[(1000,_)]) t2 t1 ?_ ?_
 ·by_cases h:n=0
  ·refine mV L rfl (sw (i7 L) t2 t0 (mV L rfl (swn (g:=8) rfl (by simp [h]) L rfl ?_)))
   refine swn (g:=8) rfl (by simp [h]) L rfl ?_
   refine swn (g:=8) rfl (by simp [h]) L rfl ?_
   refine swn (g:=8) rfl (by simp [h]) L rfl ?_
   refine swn (g:=8) rfl (by simp [h]) L rfl ?_
   refine swn (g:=8) rfl (by simp [h]) L rfl ?_
   refine sw (y4 (by simp [h]) L) t2 t0 ?_
   exact O1 ⟨⟨ob rfl (by simp [h]),rfl,rfl,trivial⟩,t1⟩
  ·refine mV L rfl (sw (i7 L) t2 t0 (mV L rfl (gV (g:=8) rfl sO L rfl rfl (gV (g:=8) rfl sO L rfl rfl (swg (g:=8) rfl sO (n6 L (w64 oM oM)) rfl t2 t0 (swg (g:=8) rfl sO (y6 un43 sz119 (by exact sM) (j:=n - 1) rO oM L) rfl t2 t1 ?_))))))
   refine swg (g:=8) rfl sO (Y1 ag119 (by exact sM) (g0k (by first | exact b6 oM | rfl)) L) rfl t1 t1 ?_
   refine swg (g:=8) rfl sO (c_e L) rfl t2 t0 (sw (O4 sO L) t2 t0 ?_)
   exact O1 ⟨⟨ob rfl sO,rfl,rfl,trivial⟩,t1⟩
 refine j2 rfl (fun hc=>?_) (fun hc=>?_)
 ·have hc:=dt hc
  refine U1 (xq ?_)
  refine V1 (j3 (mV L rfl (sw (n6 L (w64 oM oM)) t2 t0 (aV L rfl (O1 ?_)))))
  exact ⟨n - 1,⟨by omega,by rw [← hn.2]; conv=>rhs; rw [show n=(n - 1)+1 by omega]; simp only [E6,hc.2,if_true]⟩,by omega,l3 ⟨oR,rfl,trivial⟩ t1⟩
 ·have hc:=df hc
  have e:E6 ws ws.length=n:=by
   rw [← hn.2]
   cases n with
   | zero=>rfl
   | succ n=>simp only [E6]; rw [if_neg]; intro h; exact hc ⟨by omega,by simpa using h⟩
  rw [e]
  refine G2 (xq ?_)
  refine exr (mV L rfl (mV L rfl (sw (f1v un43 sz119 rfl (by exact sM) (h:=n) rO oM L) t2 t1 ?_)))
  refine aV L rfl (zn [(2,_)] [(1000,_)] t1 t1 (X1 ?_))
  refine ⟨.inr rfl,rfl,t1⟩
theorem m0r (ws:List Int)(k:Nat)(hl:ws.length<1000000000000)(h:Wd ws)(hk:k<1000000000000):y0r E 167 [pW ws,vZ k] 119 1 (y3 (val ws*2 ^ k).toNat).length (J4 (y3 (val ws*2 ^ k).toNat)):=by
 refine p0s (k:=14) (tot:=k / 32+ws.length+1) Tryz.func167 rfl Tryz.ntmps167 Tryz.results167 sM fun F hG hX0 hnt hdf P0=>?_
 obtain ⟨L,hX,hN⟩:=pro hnt hX0 hG
 obtain ⟨q,hq⟩:∃ q,q=k / 32:=⟨_,rfl⟩
 obtain ⟨s,hs⟩:∃ s,s=k % 32:=⟨_,rfl⟩
 have hs32:s<32:=by omega
 rw [← hq]
 refine exr (aV L rfl (zn [(0,_),(1,_)] [] t2 trivial (exr (mV L rfl (sw (c_q L dC (Q0c (show _=(q:Int) by omega))) t2 t0 ?_)))))
 refine mV L rfl (sw (R2 un43 L) t1 t0 (sw (B3 L (w64 oM oM)) t2 t0 (sw (B3 L (w64 oM oM)) t2 t0 (swb (v0a (k:=14) un43 ti119 rfl rfl rfl rfl (show _=((q+ws.length+1:Nat):Int) by omega) (show _=((q+ws.length+1:Nat):Int) by omega) (Nat.le_refl _) (by simp [Tryz.t119]; omega) oM (P0 _ rfl) L) t2 t0 ⟨rfl,rfl⟩ ?_))))
 refine aV L rfl (zn [(0,_),(1,_),(5,_)] [(14,_)] t3 t1 (R1 (exr (aV L rfl (zn [(0,_),(1,_),(5,_),(6,_)] [(14,_)] t4 t1 (V1 ?_))))))
 refine exl (α:=(Nat×List Int×Int)) (fun x=>[(6,vi (x.1:Int))]) (fun x=>[(14,⟨119,1,.pure (J4 (List.replicate q 0++(x.2.1++x.2.2 :: List.replicate (ws.length - x.1) 0)))⟩)]) (fun x=>n8 ws s x) (fun x=>ws.length - x.1) (((0:Nat),([]:List Int),(0:Int))) (sl:=[(0,_),(1,_),(5,_)]) (hb:=[]) ?_ ⟨oR,rfl,rfl,rfl,trivial⟩ ⟨obl rfl (by rw [b0q,Y0z]),trivial⟩ ?_
 ·exact n8.zero ws s
 intro x hx
 obtain ⟨i,ys,c⟩:=x
 have hlen:=hx.len
 have hle:=hx.le
 have h0:=hx.h0
 have h1:=hx.h1
 simp only at hlen hle h0 h1
 dsimp only
 refine R1 (exr (mV L rfl (mV L rfl (sw (R2 un43 L) t1 t0 (sw (P3 L) t2 t0 (zn [(0,_),(1,_),(5,_),(6,_),(18,_)] [(14,_)] t5 t1 ?_))))))
 refine j2 rfl (fun he=>?_) (fun he=>?_)
 ·have he:=dt he
  have hw:=h.getD i
  have key:=hx.next h oM
  have kq0:=key.h0
  have kq1:=key.h1
  simp only at kq0 kq1
  have hp:=N0h (Nat.le_of_lt hs32)
  have sa:=j1p (Nat.le_of_lt hs32) (ws.getD i 0) h0 h1
  have sbd:=P1h hs32 hw
  have sd:ws.getD i 0*2 ^ s / 4294967296=(ws.getD i 0*2 ^ s+c) / 4294967296:=by
   rw [V0p (Nat.le_of_lt hs32) _ h0 h1]
   have:=V0p (Nat.le_of_lt hs32) (ws.getD i 0) (c:=0) (Int.le_refl _) oM
   simpa using this
  have hg:(List.replicate q 0++(ys++c :: List.replicate (ws.length - i) 0)).getD (i+q) 0=c:=q1b hlen
  refine U1 (xq ?_)
  refine R1 (V1 (exr (mV L rfl (mV L rfl (sw (ixJ un43 sz119 (j:=i) rO oM sM L) t2 t0 ?_)))))
  refine sw (d4 ag119 (by first | exact b6 oM | rfl) L) t1 t0 ?_
  refine sw (D4 un119 un127 L (I4 oM oM)) t1 t0 (mV L rfl (sw (c_r L dC (show _=(s:Int) by rw [Int.tmod_eq_emod_of_nonneg oM]; omega)) t2 t0 ?_))
  refine sw (B0n L oM (Q1r oM sbd)) t2 t0 (aV L rfl (zn [(0,_),(1,_),(5,_),(6,_),(7,_)] [(14,_)] t5 t1 (exr (mV L rfl (mV L rfl (mV L rfl (sw (c_q L dC (Q0c (show _=(q:Int) by omega))) t2 t0 ?_)))))))
  refine sw (B3 L (w64 oM oM)) t2 t0 (mV L rfl (mV L rfl (mV L rfl (sw (c_q L dC (Q0c (show _=(q:Int) by omega))) t2 t0 ?_))))
  refine sw (B3 L (w64 oM oM)) t2 t0 (sw (y6 un43 sz119 (by exact sO) (j:=i+q) rO oM L) t2 t1 ?_)
  refine sw (Y1 ag119 (by exact sO) (g0k (b6 sO)) L) t1 t1 ?_
  refine mV L rfl (sw (D4 un127 un119 L m8) t1 t0 (sw (v0r L (show _=(ws.getD i 0*2 ^ s+c) % 4294967296 by rw [hg,Y1f (b:=ws.getD i 0 % 2 ^ (32 - s)) s (P0m (Nat.le_of_lt hs32) _) h0 h1 sa.2.2.1 (Nat.le_of_lt hs32) sa.2.2.2 sa.2.1,sa.1])) t2 t0 ?_))
  refine sw (y6 un43 sz119 (by exact sO) (j:=i+q) rO oM L) t2 t1 ?_
  refine sb (d0c sz119 (by exact sO) (.atom rfl) oM) t2 t1 ?_
  refine zn [(0,_),(1,_),(5,_),(6,_),(7,_)] [(14,_)] t5 t1 (j3 (mV L rfl (mV L rfl (mV L rfl (sw (c_q L dC (Q0c (show _=(q:Int) by omega))) t2 t0 ?_)))))
  refine sw (B3 L (w64 oM oM)) t2 t0 (sw (B3 L (w64 oM oM)) t2 t0 (mV L rfl (sw (I9 L dC (f0d (c:=4294967296) rF dC)) t2 t0 ?_)))
  refine sw (D4 un127 un119 L (show _=(ws.getD i 0*2 ^ s+c) / 4294967296 by rw [sd]; exact D0b oM oM)) t1 t0 ?_
  refine sw (y6 un43 sz119 (by exact (List.length_set.trans sO)) (j:=i+q+1) rO oM L) t2 t1 ?_
  refine sb (d0c sz119 (by exact (List.length_set.trans sO)) (.atom rfl) oM) t2 t1 ?_
  refine O1 (j3 (mV L rfl (sw (B3 L (w64 oM oM)) t2 t0 (aV L rfl (O1 ?_)))))
  exact ⟨(i+1,ys++[(ws.getD i 0*2 ^ s+c) % 4294967296],(ws.getD i 0*2 ^ s+c) / 4294967296),key,(by simp only; omega),l3 ⟨oR,rfl,rfl,rfl,trivial⟩ ⟨obl rfl (by simp only; rw [m5,m5,W0g hlen oM]),trivial⟩⟩
 ·have he:=df he
  have hi:i=ws.length:=by omega
  subst hi
  obtain ⟨X,hX1⟩:∃ X,X=List.replicate q 0++(ys++[c]):=⟨_,rfl⟩
  have hXl:X.length=q+ws.length+1:=by rw [hX1]; simp; omega
  have hXt:=p1r hx oM hX1 (show k=32*q+s by omega)
  rw [Nat.sub_self,List.replicate_zero,← hX1,← hXl,hXt.2]
  refine G2 (xq ?_)
  refine exr (mV L rfl (swB (d2m hG hX [14] hN (Y0c X oM) rfl rfl (K4 (ys:=[_]) cl147 rfl rF) rF rF rF rF (h0m.to (.cons rfl .nil)) rF rF L) t1 t1 ?_))
  refine aV L rfl (zn [(4,_)] [(14,_)] t1 t1 (X1 ?_))
  refine ⟨.inr rfl,rfl,_,rfl,by simp,?_,by rw [k0b,hXt.2]; simp⟩
  rw [Nat.mul_one,k0y,← hXt.1,trim]
end Go.Proofs.YtjagfionflbjbaaGreat.N
namespace Go.Proofs.YtjagfionflbjbaaGreat.NumA
open Go
theorem f1p {U u2 u3 d1 d2 d3 P R D q r Q:Int}(hR:R=(U*4294967296+u2)*P+u3)(hD:D=(d1*4294967296+d2)*P+d3)(hP:0<P)(hu3:0≤u3∧u3<P)(hd3:0≤d3)(hq0:0≤q)(hqr:q*d1+r=U)(hQ:Q*D≤R)(hQB:Q<4294967296)(hDpos:0<D)(hbig:4294967296≤q∨r*4294967296+u2<q*d2):Q≤q - 1:=by
 rcases hbig with h | h
 ·omega
 ·by_cases e:Q≤q - 1
  ·exact e
  ·have h1:q*D≤Q*D:=Z0 (by omega) (E1 hDpos)
   have h2:(U*4294967296+u2+1)*P≤(q*(d1*4294967296+d2))*P:=Z0 (by rw [← hqr]; grind) (E1 hP)
   have h3:q*D=q*(d1*4294967296+d2)*P+q*d3:=by rw [hD]; grind
   have h4:0≤q*d3:=Int.mul_nonneg hq0 hd3
   have h5:(U*4294967296+u2+1)*P=(U*4294967296+u2)*P+P:=by grind
   omega
end Go.Proofs.YtjagfionflbjbaaGreat.NumA
namespace Go.Proofs.YtjagfionflbjbaaGreat.NumA
open Go
theorem P0c {U u2 u3 d1 d2 d3 P R D q r:Int}(hR:R=(U*4294967296+u2)*P+u3)(hD:D=(d1*4294967296+d2)*P+d3)(hP:0<P)(hu2:0≤u2)(hu3:0≤u3)(hd1:1≤d1)(hd2:0≤d2∧d2<4294967296)(hd3:0≤d3∧d3<P)(hq0:0≤q)(hqB:q<4294967296)(hqr:q*d1+r=U)(hend:4294967296≤r∨q*d2≤r*4294967296+u2):(q - 1)*D≤R:=by
 have h3:q*D=q*(d1*4294967296+d2)*P+q*d3:=by rw [hD]; grind
 have h4:q*d3≤q*P:=F0 (by omega) hq0
 have h5:q*P≤4294967296*P:=Z0 (by omega) (E1 hP)
 have h6:1*(4294967296*P)≤d1*(4294967296*P):=Z0 hd1 (by omega)
 have h7:0≤d2*P:=Int.mul_nonneg hd2.1 (E1 hP)
 have h8:D=d1*(4294967296*P)+d2*P+d3:=by rw [hD]; grind
 have h9:q*(d1*4294967296+d2)≤U*4294967296+u2:=by
  rcases hend with h | h
  ·have h10:q*d2≤q*4294967296:=F0 (by omega) hq0
   have h11:q*(d1*4294967296+d2)=(U - r)*4294967296+q*d2:=by rw [← hqr]; grind
   have h12:(U - r)*4294967296=U*4294967296 - r*4294967296:=by grind
   omega
  ·have h11:q*(d1*4294967296+d2)=(U - r)*4294967296+q*d2:=by rw [← hqr]; grind
   have h12:(U - r)*4294967296=U*4294967296 - r*4294967296:=by grind
   omega
 have h13:q*(d1*4294967296+d2)*P≤(U*4294967296+u2)*P:=Z0 h9 (E1 hP)
 have h14:(q - 1)*D=q*D - D:=by grind
 omega
end Go.Proofs.YtjagfionflbjbaaGreat.NumA
namespace Go.Proofs.YtjagfionflbjbaaGreat.NumA
open Go
def gL (u2 d1 d2:Int):Nat→Int→Int→Int
 | 0,q,_=>q
 | n+1,q,r=>if 4294967296≤q∨r*4294967296+u2<q*d2 then (if 4294967296≤r+d1 then q - 1 else gL u2 d1 d2 n (q - 1) (r+d1)) else q
def n0p (u0 u1 u2 d1 d2:Int):Int:=gL u2 d1 d2 2 ((u0*4294967296+u1) / d1) ((u0*4294967296+u1) % d1)
theorem W1j {U u2 u3 d1 d2 d3 P R D Q:Int}(hR:R=(U*4294967296+u2)*P+u3)(hD:D=(d1*4294967296+d2)*P+d3)(hP:0<P)(hu2:0≤u2)(hu3:0≤u3∧u3<P)(hd1:1≤d1)(hd2:0≤d2∧d2<4294967296)(hd3:0≤d3∧d3<P)(hU:U≤d1*4294967296+4294967295)(hQ0:0≤Q)(hQ:Q*D≤R)(hQB:Q<4294967296)(hDpos:0<D) :
  ∀ (n:Nat) (q r:Int),0≤q→q*d1+r=U→0≤r→r<4294967296→4294967296≤r+n*d1→Q≤q→Q≤gL u2 d1 d2 n q r∧gL u2 d1 d2 n q r<4294967296∧(gL u2 d1 d2 n q r - 1)*D≤R:=by
 intro n
 induction n with
 | zero=>intro q r _ _ _ h1 h2; omega
 | succ n ih =>
  intro q r hq0 hqr hr0 hr1 hn hQq
  rw [gL]
  split
  ·rename_i hbad
   have hdn:=f1p hR hD hP hu3 hd3.1 hq0 hqr hQ hQB hDpos hbad
   have hqr':(q - 1)*d1+(r+d1)=U:=by rw [← hqr]; grind
   split
   ·rename_i hb
    have hqB:q - 1<4294967296:=by
     by_cases e:q - 1<4294967296
     ·exact e
     ·have h1:4294967297*d1≤q*d1:=Z0 (by omega) (by omega)
      omega
    exact ⟨hdn,hqB,P0c hR hD hP hu2 hu3.1 hd1 hd2 hd3 (by omega) hqB hqr' (.inl hb)⟩
   ·rename_i hb
    refine ih (q - 1) (r+d1) (by omega) hqr' (by omega) (by omega) ?_ hdn
    have:((n+1:Nat):Int)*d1=n*d1+d1:=by rw [Int.natCast_succ,Int.add_mul,Int.one_mul]
    omega
  ·rename_i hg
   exact ⟨hQq,by omega,P0c hR hD hP hu2 hu3.1 hd1 hd2 hd3 hq0 (by omega) hqr (.inr (by omega))⟩
structure Y8 (win vs:List Int) (q:Int) (x:Nat×List Int×Int×Int):Prop where
 le:x.1≤win.length
 len:x.2.1.length=x.1
 wd:Wd x.2.1
 c0:0≤x.2.2.1
 c1:x.2.2.1<4294967296
 b:x.2.2.2=0∨x.2.2.2=1
 eq:val x.2.1+q*val (vs.take x.1)=val (win.take x.1)+4294967296 ^ x.1*(x.2.2.1+x.2.2.2)
 cb:4294967296 ^ x.1*x.2.2.1≤q*val (vs.take x.1)
theorem Y8.zero (win vs:List Int)(q:Int):Y8 win vs q (0,[],0,0):=⟨Nat.zero_le _,rfl,Wd.nil,Int.le_refl _,(by decide),.inl rfl,by simp [val],by simp [val]⟩
theorem Q0g {q w c:Int}(hq:0≤q∧q<4294967296)(hw:0≤w∧w<4294967296)(hc:0≤c∧c<4294967296):0≤q*w+c∧q*w+c≤18446744069414584320:=by
 have:=g0w hq hw
 omega
theorem Y8.next {win vs:List Int}{q:Int}(h2:Wd vs)(hq:0≤q∧q<4294967296){j:Nat}{ys:List Int}{c b:Int}(ha:Y8 win vs q (j,ys,c,b))(hj:j<win.length){p d b':Int}(hp:p=q*vs.getD j 0+c)(hd:d=(win.getD j 0 - p % 4294967296 - b) % 4294967296)(hb':b'=if win.getD j 0<p % 4294967296+b then 1 else 0)(hu:0≤win.getD j 0∧win.getD j 0<4294967296) :
  Y8 win vs q (j+1,ys++[d],p / 4294967296,b'):=by
 obtain ⟨h1,hl,hw,c0,c1,hb,heq,hcb⟩:=ha
 simp only at h1 hl hw c0 c1 hb heq hcb
 have hv:=h2.getD j
 have hbd:=Q0g hq hv ⟨c0,c1⟩
 rw [← hp] at hbd
 have hd2:d=win.getD j 0 - p % 4294967296 - b+4294967296*b':=by rw [hd,hb']; split <;> omega
 have hP:(0:Int)<4294967296 ^ j:=Int.pow_pos (by decide)
 refine ⟨hj,by simp [hl],hw.snoc (by omega) (by omega),by simp only; omega,by simp only; omega,?_,?_,?_⟩
 ·simp only; rw [hb']; split <;> simp
 ·simp only
  have hpp:p=p % 4294967296+4294967296*(p / 4294967296):=by omega
  rw [g8,hl,V3 j,V3 j,Int.pow_succ,hd2]
  generalize p / 4294967296=ph at *
  generalize p % 4294967296=pl at *
  generalize val (vs.take j)=A at *
  generalize val (win.take j)=B at *
  generalize win.getD j 0=u at *
  generalize vs.getD j 0=w at *
  have hc2:c=pl+4294967296*ph - q*w:=by omega
  subst hc2
  grind
 ·simp only
  rw [V3 j,Int.pow_succ]
  have h5:4294967296 ^ j*(4294967296*(p / 4294967296))≤4294967296 ^ j*p:=F0 (by omega) (E1 hP)
  have h6:4294967296 ^ j*p=q*(4294967296 ^ j*vs.getD j 0)+4294967296 ^ j*c:=by rw [hp]; grind
  have h7:(4294967296:Int) ^ j*4294967296*(p / 4294967296)=4294967296 ^ j*(4294967296*(p / 4294967296)):=by grind
  have h8:q*(val (vs.take j)+4294967296 ^ j*vs.getD j 0)=q*val (vs.take j)+q*(4294967296 ^ j*vs.getD j 0):=by grind
  omega
theorem Y8.end_ {win vs ys:List Int}{q c b:Int}(h:Wd win)(hl:vs.length<win.length)(h2:Wd vs)(hq:0≤q∧q<4294967296)(ha:Y8 win vs q (win.length,ys,c,b)):c=0∧val ys=val win - q*val vs+4294967296 ^ win.length*b∧(b=0↔q*val vs≤val win):=by
 obtain ⟨h1,hlen,hw,c0,c1,hb,heq,hcb⟩:=ha
 simp only at h1 hlen hw c0 c1 hb heq hcb
 rw [C0 (by omega)] at heq hcb
 rw [I0] at heq
 have hP:(0:Int)<4294967296 ^ win.length:=Int.pow_pos (by decide)
 have hvl:=j5 h2
 have hvn:=F2 h2
 have hD:q*val vs<4294967296 ^ win.length:=by
  have e:(4294967296:Int) ^ win.length=4294967296*4294967296 ^ (win.length - 1):=by
   rw [show win.length=(win.length - 1)+1 by omega,Int.pow_succ,Nat.add_sub_cancel,Int.mul_comm]
  have h3:(4294967296:Int) ^ vs.length≤4294967296 ^ (win.length - 1):=by
   have h2:((4294967296 ^ vs.length:Nat):Int)≤((4294967296 ^ (win.length - 1):Nat):Int):=Int.ofNat_le.2 (Nat.pow_le_pow_right (by decide) (show vs.length≤win.length - 1 by omega))
   rw [Int.natCast_pow,Int.natCast_pow] at h2
   exact h2
  have h4:q*val vs≤4294967295*val vs:=Z0 (by omega) hvn
  omega
 have hc:c=0:=by
  by_cases e:c=0
  ·exact e
  ·have:(4294967296:Int) ^ win.length*1≤4294967296 ^ win.length*c:=F0 (by omega) (E1 hP)
   omega
 subst hc
 rw [Int.zero_add] at heq
 have hy:=F2 hw
 have hy2:=j5 hw
 have hwv:=j5 h
 have hwn:=F2 h
 rw [hlen] at hy2
 refine ⟨rfl,by omega,?_⟩
 rcases hb with hb | hb
 ·subst hb; rw [Int.mul_zero] at heq; exact ⟨fun _=>by omega,fun _=>rfl⟩
 ·subst hb; rw [Int.mul_one] at heq; exact ⟨fun h=>by omega,fun h=>by omega⟩
structure H9 (win vs:List Int) (x:Nat×List Int×Int):Prop where
 le:x.1≤win.length
 len:x.2.1.length=x.1
 wd:Wd x.2.1
 c:x.2.2=0∨x.2.2=1
 eq:val x.2.1+4294967296 ^ x.1*x.2.2=val (win.take x.1)+val (vs.take x.1)
theorem H9.zero (win vs:List Int):H9 win vs (0,[],0):=⟨Nat.zero_le _,rfl,Wd.nil,.inl rfl,by simp [val]⟩
theorem H9.next {win vs:List Int}(h:Wd win)(h2:Wd vs){j:Nat}{ys:List Int}{c:Int}(ha:H9 win vs (j,ys,c))(hj:j<win.length){s:Int}(hs:s=win.getD j 0+vs.getD j 0+c) :
  H9 win vs (j+1,ys++[s % 4294967296],s / 4294967296):=by
 obtain ⟨h1,hl,hw,hc,heq⟩:=ha
 simp only at h1 hl hw hc heq
 have hu:=h.getD j
 have hv:=h2.getD j
 refine ⟨hj,by simp [hl],hw.snoc (by omega) (by omega),by simp only; omega,?_⟩
 simp only
 rw [g8,hl,V3 j,V3 j,Int.pow_succ]
 have hpp:s=s % 4294967296+4294967296*(s / 4294967296):=by omega
 generalize s / 4294967296=ph at *
 generalize s % 4294967296=pl at *
 generalize val (vs.take j)=A at *
 generalize val (win.take j)=B at *
 generalize win.getD j 0=u at *
 generalize vs.getD j 0=w at *
 have hc2:c=pl+4294967296*ph - u - w:=by omega
 subst hc2
 grind
end Go.Proofs.YtjagfionflbjbaaGreat.NumA
namespace Go.Proofs.YtjagfionflbjbaaGreat.NumA
open Go
theorem w0h (n:Nat):(0:Int)<4294967296 ^ n:=Int.pow_pos (by decide)
theorem H0z {m n:Nat}(h:m≤n):(4294967296:Int) ^ m≤4294967296 ^ n:=by
 have h2:((4294967296 ^ m:Nat):Int)≤((4294967296 ^ n:Nat):Int):=Int.ofNat_le.2 (Nat.pow_le_pow_right (by decide) h)
 rw [Int.natCast_pow,Int.natCast_pow] at h2
 exact h2
theorem P1a (n:Nat):(2:Int) ^ (32*n)=4294967296 ^ n:=by rw [Int.pow_mul]; rfl
theorem b2b {vs:List Int}{n:Nat}(hl:vs.length=n+2):val vs=(vs.getD (n+1) 0*4294967296+vs.getD n 0)*4294967296 ^ n+val (vs.take n):=by
 have h1:=V3 (ws:=vs) (n+1)
 have h2:=V3 (ws:=vs) n
 rw [C0 (by omega)] at h1
 rw [h1,h2,Int.pow_succ]; grind
theorem b2q {win:List Int}{n:Nat}(hl:win.length=n+3):val win=((win.getD (n+2) 0*4294967296+win.getD (n+1) 0)*4294967296+win.getD n 0)*4294967296 ^ n+val (win.take n):=by
 have h1:=V3 (ws:=win) (n+2)
 have h2:=V3 (ws:=win) (n+1)
 have h3:=V3 (ws:=win) n
 rw [C0 (by omega)] at h1
 rw [h1,h2,h3,Int.pow_succ,Int.pow_succ]; grind
theorem q0y {ws:List Int}(h:Wd ws){n:Nat}(hn:n≤ws.length):0≤val (ws.take n)∧val (ws.take n)<4294967296 ^ n:=by
 have h1:=F2 (h.take n)
 have h2:=j5 (h.take n)
 rw [J0,G1 hn] at h2
 exact ⟨h1,h2⟩
theorem y0z {win vs:List Int}{n:Nat}(h:Wd win)(h2:Wd vs)(hl:win.length=n+3)(hl2:vs.length=n+2)(hd1:2147483648≤vs.getD (n+1) 0)(hlt:val win<4294967296*val vs) :
  0<val vs∧0≤val win / val vs∧val win / val vs*val vs≤val win∧val win / val vs<4294967296∧win.getD (n+2) 0*4294967296+win.getD (n+1) 0≤vs.getD (n+1) 0*4294967296+4294967295∧val win / val vs≤(win.getD (n+2) 0*4294967296+win.getD (n+1) 0) / vs.getD (n+1) 0:=by
 have e1:=b2q hl
 have e2:=b2b hl2
 have t1:=q0y h (n:=n) (by omega)
 have t2:=q0y h2 (n:=n) (by omega)
 have w2:=h.getD n
 have w3:=h.getD (n+1)
 have w4:=h.getD (n+2)
 have v1:=h2.getD (n+1)
 have v2:=h2.getD n
 have hP:=w0h n
 have hU0:0≤win.getD (n+2) 0*4294967296+win.getD (n+1) 0:=by omega
 generalize val (win.take n)=u3 at *
 generalize val (vs.take n)=d3 at *
 generalize win.getD (n+2) 0*4294967296+win.getD (n+1) 0=U at *
 generalize vs.getD (n+1) 0=d1 at *
 generalize vs.getD n 0=d2 at *
 generalize win.getD n 0=u2 at *
 generalize (4294967296:Int) ^ n=P at *
 generalize val win=R at *
 generalize val vs=D at *
 have hDpos:0<D:=by
  have:1*P≤(d1*4294967296+d2)*P:=Z0 (by omega) (by omega)
  omega
 have hR0:0≤R:=by
  have:=Int.mul_nonneg (show 0≤U*4294967296+u2 by omega) (E1 hP); omega
 have hQ0:0≤R / D:=Int.ediv_nonneg hR0 (by omega)
 have hQD:R / D*D≤R:=Int.ediv_mul_le R (by omega)
 have hQB:R / D<4294967296:=Int.ediv_lt_of_lt_mul hDpos hlt
 refine ⟨hDpos,hQ0,hQD,hQB,?_,?_⟩
 ·by_cases e:U≤d1*4294967296+4294967295
  ·exact e
  ·have g1:((d1*4294967296+4294967296)*4294967296+u2)*P≤(U*4294967296+u2)*P:=Z0 (by omega) (by omega)
   have g2:(d1*4294967296+d2+1)*P≤(d1*4294967296+4294967296)*P:=Z0 (by omega) (by omega)
   have g3:((d1*4294967296+4294967296)*4294967296+u2)*P=4294967296*((d1*4294967296+4294967296)*P)+u2*P:=by grind
   have g4:0≤u2*P:=Int.mul_nonneg (by omega) (by omega)
   have g5:(d1*4294967296+d2+1)*P=(d1*4294967296+d2)*P+P:=by grind
   omega
 ·generalize R / D=Q at *
  have hq:Q*d1≤U:=by
   by_cases e:Q*d1≤U
   ·exact e
   ·have g1:((U+1)*4294967296)*P≤(Q*d1*4294967296)*P:=Z0 (by omega) (by omega)
    have g2:(Q*d1*4294967296)*P+Q*(d2*P+d3)=Q*D:=by rw [e2]; grind
    have g3:0≤Q*(d2*P+d3):=Int.mul_nonneg hQ0 (by have:=Int.mul_nonneg (show 0≤d2 by omega) (E1 hP); omega)
    have g4:(u2+1)*P≤4294967296*P:=Z0 (by omega) (by omega)
    have g5:(U*4294967296+u2)*P=U*4294967296*P+u2*P:=by grind
    have g6:((U+1)*4294967296)*P=U*4294967296*P+4294967296*P:=by grind
    have g7:(u2+1)*P=u2*P+P:=by grind
    omega
  exact (Int.le_ediv_iff_mul_le (by omega)).2 hq
theorem w1r {win vs:List Int}{n:Nat}(h:Wd win)(h2:Wd vs)(hl:win.length=n+3)(hl2:vs.length=n+2)(hd1:2147483648≤vs.getD (n+1) 0)(hlt:val win<4294967296*val vs){q:Int}(hq:q=n0p (win.getD (n+2) 0) (win.getD (n+1) 0) (win.getD n 0) (vs.getD (n+1) 0) (vs.getD n 0)) :
  val win / val vs≤q∧q<4294967296∧(q - 1)*val vs≤val win:=by
 obtain ⟨hDpos,hQ0,hQD,hQB,hU,hQq⟩:=y0z h h2 hl hl2 hd1 hlt
 have t1:=q0y h (n:=n) (by omega)
 have t2:=q0y h2 (n:=n) (by omega)
 have w2:=h.getD n
 have w3:=h.getD (n+1)
 have w4:=h.getD (n+2)
 have v1:=h2.getD (n+1)
 have v2:=h2.getD n
 subst hq
 unfold n0p
 have hU0:0≤win.getD (n+2) 0*4294967296+win.getD (n+1) 0:=by omega
 refine W1j (b2q hl) (b2b hl2) (w0h n) w2.1 t1 (by omega) v2 t2 hU hQ0 hQD hQB hDpos 2 _ _ ?_ ?_ ?_ ?_ ?_ hQq
 ·exact Int.ediv_nonneg hU0 (by omega)
 ·rw [Int.mul_comm]; exact Int.mul_ediv_add_emod _ _
 ·exact Int.emod_nonneg _ (by omega)
 ·have:=Int.emod_lt_of_pos (win.getD (n+2) 0*4294967296+win.getD (n+1) 0) (show 0<vs.getD (n+1) 0 by omega); omega
 ·have:=Int.emod_nonneg (win.getD (n+2) 0*4294967296+win.getD (n+1) 0) (show vs.getD (n+1) 0≠0 by omega); omega
structure I8 (U u2 d1 d2 G:Int) (x:Nat×Int×Int):Prop where
 n:1≤x.1
 q0:0≤x.2.1
 qr:x.2.1*d1+x.2.2=U
 r:0≤x.2.2∧x.2.2<4294967296
 f:4294967296≤x.2.2+x.1*d1
 g:gL u2 d1 d2 x.1 x.2.1 x.2.2=G
theorem I8.start {u0 u1 u2 d1 d2:Int}(h0:0≤u0*4294967296+u1)(hd:2147483648≤d1∧d1<4294967296):I8 (u0*4294967296+u1) u2 d1 d2 (n0p u0 u1 u2 d1 d2) (2,(u0*4294967296+u1) / d1,(u0*4294967296+u1) % d1):=by
 have h1:=Int.emod_nonneg (u0*4294967296+u1) (show d1≠0 by omega)
 have h2:=Int.emod_lt_of_pos (u0*4294967296+u1) (show 0<d1 by omega)
 exact ⟨by show 1≤2; decide,Int.ediv_nonneg h0 (by omega),by simp only; rw [Int.mul_comm]; exact Int.mul_ediv_add_emod _ _,⟨h1,by simp only; omega⟩,by simp only; omega,rfl⟩
theorem I8.qb {U u2 d1 d2 G q r:Int}{n:Nat}(ha:I8 U u2 d1 d2 G (n,q,r))(hd:2147483648≤d1):q≤U:=by
 have h1:=ha.qr
 have h2:=ha.r.1
 have h3:=ha.q0
 simp only at h1 h2 h3
 have:q*1≤q*d1:=F0 (by omega) h3
 omega
theorem I8.bad {U u2 d1 d2 G q r:Int}{n:Nat}(ha:I8 U u2 d1 d2 G (n,q,r))(hb:4294967296≤q∨r*4294967296+u2<q*d2)(hu2:0≤u2)(hd:0≤d1):1≤q∧(4294967296≤r+d1→q - 1=G)∧(r+d1<4294967296→I8 U u2 d1 d2 G (n - 1,q - 1,r+d1)):=by
 obtain ⟨h1,h2,h3,h4,h5,h6⟩:=ha
 simp only at h1 h2 h3 h4 h5 h6
 have hq:1≤q:=by
  rcases hb with e | e
  ·omega
  ·by_cases c:q=0
   ·rw [c,Int.zero_mul] at e; omega
   ·omega
 obtain ⟨m,rfl⟩:∃ m,n=m+1:=⟨n - 1,by omega⟩
 rw [gL,if_pos hb] at h6
 have e1:((m+1:Nat):Int)*d1=m*d1+d1:=by rw [Int.natCast_succ,Int.add_mul,Int.one_mul]
 refine ⟨hq,fun h=>by rw [if_pos h] at h6; exact h6,fun h=>?_⟩
 rw [if_neg (by omega)] at h6
 have hm:1≤m:=by
  by_cases c:m=0
  ·subst c; simp at h5; omega
  ·omega
 exact ⟨by simpa using hm,by simp only; omega,by simp only; rw [← h3]; grind,by simp only; omega,by simp only [Nat.add_sub_cancel]; omega,by simpa using h6⟩
theorem I8.good {U u2 d1 d2 G q r:Int}{n:Nat}(ha:I8 U u2 d1 d2 G (n,q,r))(hb:¬ (4294967296≤q∨r*4294967296+u2<q*d2)):q=G:=by
 obtain ⟨h1,h2,h3,h4,h5,h6⟩:=ha
 simp only at h1 h6
 obtain ⟨m,rfl⟩:∃ m,n=m+1:=⟨n - 1,by omega⟩
 rwa [gL,if_neg hb] at h6
structure j9 (W:List Int) (n:Nat) (D:Int) (x:Nat×Int×List Int):Prop where
 le:x.1+n≤W.length
 r:0≤x.2.1∧x.2.1<D
 wd:Wd x.2.2
 len:x.2.2.length+x.1+n=W.length
 eq:val x.2.2*D+x.2.1=val (W.drop x.1)
theorem j9.start {W:List Int}{n:Nat}{D:Int}(h:Wd W)(hn:n≤W.length)(hlt:val (W.drop (W.length - n))<D):j9 W n D (W.length - n,val (W.drop (W.length - n)),[]) :=
 ⟨by simp only; omega,⟨F2 (h.drop _),hlt⟩,Wd.nil,by simp only [List.length_nil]; omega,by simp [val]⟩
def J7 (W:List Int)(n:Nat)(i:Nat)(R:Int):List Int:=W.take i++(G4 n R++List.replicate (W.length - n - i) 0)
theorem B4 {W:List Int}{n i:Nat}{R:Int}(h:i+n≤W.length):(J7 W n i R).length=W.length:=by simp [J7,E3]; omega
theorem M0m {W:List Int}{n i:Nat}{R:Int}(h:Wd W):Wd (J7 W n i R):=(h.take i).append ((w6 _ _).append (Wd.rep _))
theorem q0s {W:List Int}{n:Nat}(h:Wd W)(hn:n≤W.length):J7 W n (W.length - n) (val (W.drop (W.length - n)))=W:=by
 have e:G4 n (val (W.drop (W.length - n)))=W.drop (W.length - n):=by
  have:=v7 (h.drop (W.length - n))
  rwa [List.length_drop,show W.length - (W.length - n)=n by omega] at this
 rw [J7,e,Nat.sub_self,List.replicate_zero,List.append_nil,List.take_append_drop]
theorem H0d {W:List Int}{n i:Nat}{R:Int}(hi:i<W.length):J7 W n (i+1) R=W.take i++((W.getD i 0 :: G4 n R)++List.replicate (W.length - n - (i+1)) 0):=by
 rw [J7,List.take_succ_eq_append_getElem hi,List.append_assoc,List.singleton_append,L1]
 simp [f0,hi]
theorem b1g {n:Nat}{m:Int}(h0:0≤m)(h1:m<4294967296 ^ n):G4 (n+1) m=G4 n m++[0]:=by
 have hw:Wd (G4 n m++[0]):=(w6 n m).snoc (by decide) (by decide)
 have hv:val (G4 n m++[0])=m:=by rw [g8,i6 h0 h1]; simp
 have:=v7 hw
 rw [hv] at this
 simpa [E3] using this
theorem B0g {W:List Int}{n i:Nat}{R:Int}(h0:0≤R)(h1:R<4294967296 ^ n)(hi:i+1+n≤W.length):W.take i++(G4 (n+1) R++List.replicate (W.length - n - (i+1)) 0)=J7 W n i R:=by
 rw [J7,b1g h0 h1,List.append_assoc,show W.length - n - i=(W.length - n - (i+1))+1 by omega,List.replicate_succ,List.singleton_append]
theorem j9.win {W:List Int}{n:Nat}{D R:Int}{i:Nat}{qs:List Int}(h:Wd W)(hD:D<4294967296 ^ n)(ha:j9 W n D (i+1,R,qs)):Wd (W.getD i 0 :: G4 n R)∧(W.getD i 0 :: G4 n R).length=n+1∧val (W.getD i 0 :: G4 n R)=W.getD i 0+4294967296*R∧val (W.getD i 0 :: G4 n R)<4294967296*D:=by
 have hr:=ha.r
 simp only at hr
 have hw:=h.getD i
 have e:val (W.getD i 0 :: G4 n R)=W.getD i 0+4294967296*R:=by rw [val,i6 hr.1 (by omega)]
 exact ⟨Wd.cons.2 ⟨hw,w6 _ _⟩,by simp [E3],e,by omega⟩
theorem j9.next {W:List Int}{n:Nat}{D R:Int}{i:Nat}{qs:List Int}(h:Wd W)(hDpos:0<D)(ha:j9 W n D (i+1,R,qs)){V:Int}(hV:V=W.getD i 0+4294967296*R):j9 W n D (i,V % D,V / D :: qs):=by
 obtain ⟨hle,hr,hw,hlen,heq⟩:=ha
 simp only at hle hr hw hlen heq
 have hwi:=h.getD i
 have h1:=Int.ediv_nonneg (a:=V) (b:=D) (by omega) (by omega)
 have h2:V / D<4294967296:=Int.ediv_lt_of_lt_mul hDpos (by omega)
 refine ⟨by simp only; omega,⟨Int.emod_nonneg _ (by omega),Int.emod_lt_of_pos _ hDpos⟩,Wd.cons.2 ⟨⟨h1,h2⟩,hw⟩,by simp only [D1]; omega,?_⟩
 simp only
 rw [val,G0c W i,← heq]
 have h3:=Int.mul_ediv_add_emod V D
 generalize V / D=Q at *
 generalize V % D=r at *
 rw [hV] at h3
 generalize W.getD i 0=w at *
 have:w=D*Q+r - 4294967296*R:=by omega
 subst this
 grind
theorem d1n {A b R:Int}{qs:List Int}{k:Nat}(hb:0<b)(heq:val qs*(b*2 ^ k)+R=A*2 ^ k)(hr:0≤R∧R<b*2 ^ k):val qs=A / b∧R / 2 ^ k=A % b:=by
 have hp:(0:Int)<2 ^ k:=Int.pow_pos (by decide)
 have e:R=2 ^ k*(A - val qs*b):=by
  have:R=A*2 ^ k - val qs*(b*2 ^ k):=by omega
  rw [this]; grind
 have e2:R / 2 ^ k=A - val qs*b:=by rw [e,Int.mul_ediv_cancel_left _ (by omega)]
 have h0:0≤A - val qs*b:=by rw [← e2]; exact Int.ediv_nonneg hr.1 (by omega)
 have h1:A - val qs*b<b:=by
  by_cases c:A - val qs*b<b
  ·exact c
  ·have:=F0 (show b≤A - val qs*b by omega) (E1 hp)
   rw [← e,Int.mul_comm] at this; omega
 have hu:=(Int.ediv_emod_unique (a:=A) (b:=b) (r:=A - val qs*b) (q:=val qs) hb).2 ⟨by rw [Int.mul_comm b]; omega,h0,h1⟩
 exact ⟨hu.1.symm,by rw [e2]; exact hu.2.symm⟩
theorem J1p {W:List Int}(h:Wd W){i:Nat}(hi:i≤W.length):4294967296 ^ i*val (W.drop i)≤val W:=by
 have h1:=j0f W i
 have h2:=F2 (h.take i)
 rw [G1 hi] at h1
 omega
theorem k1k {ws:List Int}(h:Wd ws)(ht:Tr ws)(hn:ws≠[]){k:Nat}(hk:k+bl (ws.getD (ws.length - 1) 0).toNat=32):2147483648*4294967296 ^ (ws.length - 1)≤val ws*2 ^ k∧val ws*2 ^ k<4294967296 ^ ws.length∧k<32:=by
 have hb:=h1k h ht hn
 have hlen:0<ws.length:=List.length_pos_iff.2 hn
 have hv:=F2 h
 have htop:ws.getD (ws.length - 1) 0≠0:=by
  rcases ht with e | e
  ·omega
  ·exact e
 have hw:=h.getD (ws.length - 1)
 have h1:1≤bl (ws.getD (ws.length - 1) 0).toNat:=by
  by_cases e:1≤bl (ws.getD (ws.length - 1) 0).toNat
  ·exact e
  ·have:=(g0h (n:=(ws.getD (ws.length - 1) 0).toNat) (k:=0)).1 (by omega)
   rw [Nat.pow_zero] at this; omega
 have hbl:bl (val ws).toNat=32*(ws.length - 1)+bl (ws.getD (ws.length - 1) 0).toNat:=by omega
 generalize bl (ws.getD (ws.length - 1) 0).toNat=t at *
 have hlo:2 ^ (32*(ws.length - 1)+t - 1)≤(val ws).toNat:=by
  by_cases e:2 ^ (32*(ws.length - 1)+t - 1)≤(val ws).toNat
  ·exact e
  ·have:=(g0h (n:=(val ws).toNat) (k:=32*(ws.length - 1)+t - 1)).2 (by omega)
   omega
 have hhi:=(g0h (n:=(val ws).toNat) (k:=32*(ws.length - 1)+t)).1 (by omega)
 have hlo2:(2:Int) ^ (32*(ws.length - 1)+t - 1)≤val ws:=by
  have:((2 ^ (32*(ws.length - 1)+t - 1):Nat):Int)≤((val ws).toNat:Int):=Int.ofNat_le.2 hlo
  rw [Int.natCast_pow,Int.toNat_of_nonneg hv] at this; exact this
 have hhi2:val ws<(2:Int) ^ (32*(ws.length - 1)+t):=by
  have:((val ws).toNat:Int)<((2 ^ (32*(ws.length - 1)+t):Nat):Int):=Int.ofNat_lt.2 hhi
  rw [Int.natCast_pow,Int.toNat_of_nonneg hv] at this; exact this
 have hp:(0:Int)<2 ^ k:=Int.pow_pos (by decide)
 refine ⟨?_,?_,by omega⟩
 ·have:=Z0 hlo2 (E1 hp)
  rw [← Int.pow_add,show 32*(ws.length - 1)+t - 1+k=31+32*(ws.length - 1) by omega,Int.pow_add,P1a] at this
  exact this
 ·have:=Int.mul_lt_mul_of_pos_right hhi2 hp
  rw [← Int.pow_add,show 32*(ws.length - 1)+t+k=32*ws.length by omega,P1a] at this
  exact this
theorem J1s {vs:List Int}(h:Wd vs){n:Nat}(hl:vs.length=n+1)(hv:2147483648*4294967296 ^ n≤val vs):2147483648≤vs.getD n 0:=by
 have h1:=V3 (ws:=vs) n
 rw [C0 (by omega)] at h1
 have h2:=q0y h (n:=n) (by omega)
 by_cases e:2147483648≤vs.getD n 0
 ·exact e
 ·have h3:4294967296 ^ n*(vs.getD n 0+1)≤4294967296 ^ n*2147483648:=F0 (by omega) (E1 (w0h n))
  have h4:(4294967296:Int) ^ n*(vs.getD n 0+1)=4294967296 ^ n*vs.getD n 0+4294967296 ^ n:=by grind
  omega
end Go.Proofs.YtjagfionflbjbaaGreat.NumA
namespace Go.Proofs.YtjagfionflbjbaaGreat.NumA
open Go
theorem div_pos {m:Bool}{A B:Int}(hA:0≤A)(hB:0<B):(sg m A / B=if m=true∧A % B≠0 then -(A / B+1) else sg m (A / B))∧(sg m A % B=if m=true∧A % B≠0 then B - A % B else A % B):=by
 have h1:=Int.mul_ediv_add_emod A B
 have h2:=Int.emod_nonneg A (show B≠0 by omega)
 have h3:=Int.emod_lt_of_pos A hB
 cases m with
 | false=>simp [sg]
 | true =>
  generalize A / B=Q at *
  generalize A % B=R at *
  by_cases e:R=0
  ·subst e
   have:=(Int.ediv_emod_unique (a:=-A) (b:=B) (r:=0) (q:=-Q) hB).2 ⟨by rw [Int.mul_neg]; omega,by omega,by omega⟩
   simp [sg,this]
  ·have e2:B * -(Q+1) = -(B*Q) - B:=by grind
   have:=(Int.ediv_emod_unique (a:=-A) (b:=B) (r:=B - R) (q:=-(Q+1)) hB).2 ⟨by omega,by omega,by omega⟩
   simp [sg,this,e]
theorem F1c {m n:Bool}{A B:Int}(hA:0≤A)(hB:0<B):(sg m A / sg n B=if m=true∧A % B≠0 then sg (m != n) (A / B+1) else sg (m != n) (A / B))∧(sg m A % sg n B=if m=true∧A % B≠0 then B - A % B else A % B):=by
 have h:=div_pos (m:=m) hA hB
 cases n with
 | false =>
  simp only [Bool.bne_false]
  refine ⟨?_,by simpa [sg] using h.2⟩
  have h1:=h.1
  rw [show sg false B=B by simp [sg],h1]
  split
  ·rename_i e; simp [sg,e.1]
  ·rfl
 | true =>
  have e1:sg true B = -B:=by simp [sg]
  rw [e1,Int.ediv_neg,Int.emod_neg,h.1,h.2]
  refine ⟨?_,rfl⟩
  split
  ·rename_i e; simp [sg,e.1]
  ·cases m <;> simp [sg]
theorem q0r (x y:Nat):Nat.gcd x y=Nat.gcd y (x % y):=by
 rw [Nat.gcd_comm x y,Nat.gcd_rec y x,Nat.gcd_comm]
end Go.Proofs.YtjagfionflbjbaaGreat.NumA
set_option maxRecDepth 100000
set_option maxHeartbeats 4000000
namespace Go.Proofs.YtjagfionflbjbaaGreat.N
open Go Go.Proofs.YtjagfionflbjbaaGreat.SH Go.Proofs.YtjagfionflbjbaaGreat.NumA
open Go.Proofs.Tryz renaming isAgg119→ag119,sizeOf119→sz119,underlying119→un119,underlying127→un127,underlying146→un146
theorem f1y (u0 u1 u2 d1 d2:Int)(h0:0≤u0∧u0<4294967296)(h1:0≤u1∧u1<4294967296)(h2:0≤u2∧u2<4294967296)(hd1:2147483648≤d1∧d1<4294967296)(hd2:0≤d2∧d2<4294967296):v3 E 159 [.agg [oZ u0,oZ u1,oZ u2],oZ d1,oZ d2] (uZ (n0p u0 u1 u2 d1 d2)):=by
 refine D2 (xs:=[uZ (n0p u0 u1 u2 d1 d2)]) Tryz.func159 rfl Tryz.ntmps159 Tryz.results159 sM fun F hG hX0 hnt hdf P0=>?_
 obtain ⟨L,hX,hN⟩:=pro hnt hX0 hG
 have hU0:0≤u0*4294967296+u1:=by omega
 have hqb:(u0*4294967296+u1) / d1<18446744073709551616:=by have:=Int.ediv_le_self d1 hU0; omega
 refine exr (swb (U3 (k:=3) (n:=3) pa3 rfl rfl (P0 _ rfl) L) t1 t0 ⟨rfl,rfl⟩ (aV L rfl (zn [(1,_),(2,_),(3,_)] [(3,_)] t3 t1 (exr (sw (J9 un146 sz119 rF dC oM L) t2 t1 ?_)))))
 refine sw (Y1 ag119 rF rF L) t1 t1 ?_
 refine sw (D4 un119 un127 L (I4 oM oM)) t1 t0 (sw (B0n L dC (J0r (c:=4294967296) rF (I4 oM oM))) t2 t0 ?_)
 refine sw (J9 un146 sz119 rF dC oM L) t2 t1 ?_
 refine sw (Y1 ag119 rF rF L) t1 t1 ?_
 refine sw (D4 un119 un127 L (I4 oM oM)) t1 t0 (sw (v0r L (H0n (b:=u0) 32 rfl h1.1 h1.2 h0.1 dC oM oM)) t2 t0 (aV L rfl ?_))
 refine O1 ⟨[(1,_),(2,_),(3,_),(7,vw (u0*4294967296+u1))],[(3,_)],⟨rfl,rfl,rfl,oi oM rfl,trivial⟩,t1,?_⟩
 refine exd rF ?_
 refine mV L rfl (mV L rfl (sw (D4 un119 un127 L (I4 oM oM)) t1 t0 (sw (c_q L oM (b1m hU0 oM hqb)) t2 t0 (mV L rfl (mV L rfl (sw (D4 un119 un127 L (I4 oM oM)) t1 t0 (sw (c_r L oM (b1v hU0 oM)) t2 t0 (aV L rfl (aV L rfl ?_)))))))))
 refine O1 ⟨d5 [⟨[7],[],[18],[]⟩,⟨[1],[],[19],[]⟩,⟨[19],[],[20],[]⟩,⟨[18,20],[],[21],[]⟩,⟨[7],[],[22],[]⟩,⟨[1],[],[23],[]⟩,⟨[23],[],[24],[]⟩,⟨[22,24],[],[25],[]⟩,⟨[21],[],[8],[]⟩,⟨[25],[],[9],[]⟩] rF rF dC,[(1,_),(2,_),(3,_),(8,_),(9,_)],[(3,_)],t5,t1,?_⟩
 refine R1 (V1 ?_)
 refine exl (α:=(Nat×Int×Int)) (fun x=>[(8,vw x.2.1),(9,vw x.2.2)]) (fun x=>[]) (fun x=>I8 (u0*4294967296+u1) u2 d1 d2 (n0p u0 u1 u2 d1 d2) x) (fun x=>x.1) ((2,(u0*4294967296+u1) / d1,(u0*4294967296+u1) % d1)) (sl:=[(1,_),(2,_),(3,_)]) (hb:=[(3,_)]) ?_ ⟨oR,oR,rfl,rfl,rfl,trivial⟩ t1 ?_
 ·exact I8.start hU0 hd1
 intro x hx
 obtain ⟨n,q,r⟩:=x
 have hn:=hx.n
 have hq0:=hx.q0
 have hr:=hx.r
 have hqU:=hx.qb hd1.1
 simp only at hn hq0 hr
 dsimp only
 refine R1 ?_
 refine exm (sl:=[(40,vb (decide (4294967296≤q∨r*4294967296+u2<q*d2)))]) (sl0:=[(1,_),(2,_),(3,_),(8,_),(9,_)]) (hb:=[]) (hb0:=[(3,_)]) t5 t1 ?_ ?_
 ·by_cases hq:4294967296≤q
  ·refine mV L rfl (sw (d0b L) t2 t0 (mV L rfl (swn (g:=28) rfl (decide_eq_true hq) L rfl (swn (g:=28) rfl (decide_eq_true hq) L rfl (swn (g:=28) rfl (decide_eq_true hq) L rfl (swn (g:=28) rfl (decide_eq_true hq) L rfl (swn (g:=28) rfl (decide_eq_true hq) L rfl (swn (g:=28) rfl (decide_eq_true hq) L rfl (swn (g:=28) rfl (decide_eq_true hq) L rfl (swn (g:=28) rfl (decide_eq_true hq) L rfl (swn (g:=28) rfl (decide_eq_true hq) L rfl ?_)))))))))))
   refine swn (g:=28) rfl (decide_eq_true hq) L rfl (swn (g:=28) rfl (decide_eq_true hq) L rfl (sw (O4 (decide_eq_true hq) L) t2 t0 ?_))
   exact O1 ⟨⟨ob rfl (by simp [hq]),rfl,rfl,rfl,rfl,rfl,trivial⟩,t1⟩
  ·refine mV L rfl (sw (d0b L) t2 t0 (mV L rfl (gV (g:=28) rfl (decide_eq_false hq) L rfl rfl (gV (g:=28) rfl (decide_eq_false hq) L rfl rfl (swg (g:=28) rfl (decide_eq_false hq) (D4 un119 un127 L (I4 oM oM)) rfl t1 t0 (swg (g:=28) rfl (decide_eq_false hq) (d1c L (I4 (g0w ⟨hq0,by omega⟩ hd2).1 (by have:=g0w (x:=q) ⟨hq0,by omega⟩ hd2; omega))) rfl t2 t0 ?_))))))
   refine gV (g:=28) rfl (decide_eq_false hq) L rfl rfl (swg (g:=28) rfl (decide_eq_false hq) (B0n L dC (J0r (c:=4294967296) rF (I4 oM oM))) rfl t2 t0 ?_)
   refine swg (g:=28) rfl (decide_eq_false hq) (J9 un146 sz119 rF dC oM L) rfl t2 t1 ?_
   refine swg (g:=28) rfl (decide_eq_false hq) (Y1 ag119 rF rF L) rfl t1 t1 ?_
   refine swg (g:=28) rfl (decide_eq_false hq) (D4 un119 un127 L (I4 oM oM)) rfl t1 t0 (swg (g:=28) rfl (decide_eq_false hq) (v0r L (H0n (b:=r) 32 rfl h2.1 h2.2 hr.1 dC oM oM)) rfl t2 t0 (swg (g:=28) rfl (decide_eq_false hq) (i7 L) rfl t2 t0 (sw (y4 (decide_eq_false hq) L) t2 t0 ?_)))
   exact O1 ⟨⟨ob rfl (C7 oM),rfl,rfl,rfl,rfl,rfl,trivial⟩,t1⟩
 refine j2 rfl (fun hb=>?_) (fun hb=>?_)
 ·have hb:=dt hb
  obtain ⟨b1,b2,b3⟩:=hx.bad hb h2.1 oM
  refine U1 (xq ?_)
  refine V1 (exr (mV L rfl (sw (n6 L (I4 oM oM)) t2 t0 (aV L rfl (zn [(1,_),(2,_),(3,_),(8,_),(9,_)] [(3,_)] t5 t1 (exr (mV L rfl (mV L rfl (sw (D4 un119 un127 L (I4 oM oM)) t1 t0 (sw (B3 L (I4 oM oM)) t2 t0 (aV L rfl ?_)))))))))))
  refine zn [(1,_),(2,_),(3,_),(8,_),(9,_)] [(3,_)] t5 t1 (exr (mV L rfl (sw (d0b L) t2 t0 (zn [(1,_),(2,_),(3,_),(8,_),(9,_),(48,_)] [(3,_)] t6 t1 ?_))))
  refine j2 rfl (fun hc=>?_) (fun hc=>?_)
  ·have hc:=dt hc
   refine G2 (xq ?_)
   refine exr (mV L rfl (aV L rfl (zn [(6,_)] [] t1 trivial (X1 ?_))))
   refine Q0 (.tmp rfl) ?_
   rw [b2 oM]
  ·have hc:=df hc
   refine U1 ?_
   exact ⟨(n - 1,q - 1,r+d1),b3 oM,(by simp only; omega),l3 ⟨oR,oR,rfl,rfl,rfl,trivial⟩ t1⟩
 ·have hb:=df hb
  refine G2 (xq ?_)
  refine exr (mV L rfl (aV L rfl (zn [(6,_)] [] t1 trivial (X1 ?_))))
  refine Q0 (.tmp rfl) ?_
  rw [hx.good hb]
end Go.Proofs.YtjagfionflbjbaaGreat.N
namespace Go.Proofs.YtjagfionflbjbaaGreat.NumA
open Go
theorem j1q {xs ys win zs:List Int}{j:Nat}(hl:ys.length=j)(hj:j<win.length):(xs++((ys++win.drop j)++zs)).getD (xs.length+j) 0=win.getD j 0:=by
 rw [f7 hj,f0,D0 (by omega),Nat.add_sub_cancel_left,X0 (by simp; omega),D0 (by omega),hl,Nat.sub_self]
 rfl
theorem q0m {xs ys win zs:List Int}{j:Nat}(hl:ys.length=j)(hj:j<win.length)(d:Int):(xs++((ys++win.drop j)++zs)).set (xs.length+j) d=xs++(((ys++[d])++win.drop (j+1))++zs):=by
 rw [List.set_append_right _ _ (by omega),Nat.add_sub_cancel_left,List.set_append_left _ _ (by simp; omega),List.set_append_right _ _ (by omega),hl,Nat.sub_self,f7 hj,List.set_cons_zero]
 simp
theorem w1m {win vs ys:List Int}{q c:Int}(h:Wd win)(hl:vs.length<win.length)(h2:Wd vs)(hq:0≤q∧q<4294967296)(ha:Y8 win vs q (win.length,ys,c,0)):q*val vs≤val win∧ys=G4 win.length (val win - q*val vs):=by
 obtain ⟨-,h4,h5⟩:=ha.end_ h hl h2 hq
 have hlen:=ha.len
 simp only at hlen
 rw [Int.mul_zero,Int.add_zero] at h4
 refine ⟨h5.1 rfl,?_⟩
 rw [← h4,← hlen]; exact (v7 ha.wd).symm
theorem H1x {win vs w1 ys:List Int}{q e:Int}(hlw:vs.length≤win.length)(h2:Wd vs)(hw1:val w1=val win - q*val vs+4294967296 ^ win.length*1)(hl1:w1.length=win.length)(ha:H9 w1 vs (win.length,ys,e))(hq1:(q - 1)*val vs≤val win):ys=G4 win.length (val win - (q - 1)*val vs)∧e=1:=by
 have heq:=ha.eq
 have hlen:=ha.len
 have hy:=ha.wd
 have hc:=ha.c
 simp only at heq hlen hy hc
 rw [C0 (show w1.length≤win.length by omega),C0 hlw,hw1] at heq
 have hv:=j5 h2
 have hp:=H0z hlw
 have hy0:=F2 hy
 have hy1:=j5 hy
 rw [hlen] at hy1
 rw [Int.sub_mul,Int.one_mul] at hq1 ⊢
 have he:e=1:=by
  rcases hc with e0 | e1
  ·rw [e0,Int.mul_zero] at heq; omega
  ·exact e1
 rw [he] at heq
 refine ⟨?_,he⟩
 have:val ys=val win - (q*val vs - val vs):=by omega
 rw [← this,← hlen]; exact (v7 hy).symm
theorem w1a {win vs w1 ys:List Int}{q e:Int}(hlw:vs.length≤win.length)(h2:Wd vs)(hw1:val w1=val win - q*val vs+4294967296 ^ win.length*1)(hl1:w1.length=win.length)(h1:Wd w1)(hw:Wd win)(ha:H9 w1 vs (win.length,ys,e))(hnot:¬ q*val vs≤val win):val ys=val win - (q - 1)*val vs+4294967296 ^ win.length*(1 - e)∧(1 - e=0↔(q - 1)*val vs≤val win):=by
 have heq:=ha.eq
 have hlen:=ha.len
 have hy:=ha.wd
 have hc:=ha.c
 simp only at heq hlen hy hc
 rw [C0 (show w1.length≤win.length by omega),C0 hlw,hw1] at heq
 have hv:=j5 h2
 have hp:=H0z hlw
 have hy0:=F2 hy
 have hy1:=j5 hy
 rw [hlen] at hy1
 rw [Int.sub_mul,Int.one_mul,Int.mul_sub]
 refine ⟨by omega,?_⟩
 rcases hc with e0 | e1
 ·rw [e0,Int.mul_zero] at heq; rw [e0]; omega
 ·rw [e1] at heq ⊢; omega
end Go.Proofs.YtjagfionflbjbaaGreat.NumA
set_option maxRecDepth 100000
set_option maxHeartbeats 4000000
namespace Go.Proofs.YtjagfionflbjbaaGreat.N
open Go Go.Proofs.YtjagfionflbjbaaGreat.SH Go.Proofs.YtjagfionflbjbaaGreat.NumA
open Go.Proofs.Tryz renaming call171→cl171,isAgg119→ag119,sizeOf119→sz119,underlying119→un119,underlying127→un127,underlying43→un43
theorem G1k {xs ys win zs:List Int}{j:Nat}(hl:ys.length=j)(hj:j<win.length):(J4 (xs++((ys++win.drop j)++zs)))[xs.length+j]? = some (.a (.int .u32 (win.getD j 0))):=by
 rw [b6 sO,j1q hl hj]
theorem v1f (xs win zs vs:List Int)(q:Int)(N:Nat)(hNN:xs.length+(win.length+zs.length)=N)(hN2:N<10000000000000)(h:Wd win)(hlw:win.length=vs.length+1)(h2:Wd vs)(hq:0≤q∧q<4294967296)(hq1:(q - 1)*val vs≤val win):y0x E 160 [.ref 1000 0 N N,.p (pW vs),.p (vZ xs.length),.p (uZ q)] [(1000,⟨119,1,.pure (J4 (xs++(win++zs)))⟩)] [(1000,⟨119,1,.pure (J4 (xs++(G4 win.length (val win - (if q*val vs≤val win then q else q - 1)*val vs)++zs)))⟩)] (bZ (decide (q*val vs≤val win))):=by
 refine f0r (xs:=[bZ (decide (q*val vs≤val win))]) Tryz.func160 rfl Tryz.ntmps160 Tryz.results160 sM rfl (n0f rfl) fun F hG hX hnt hdf P0 hXp=>?_
 have L:=@lti _ _ hnt
 have hN:=Y5 hG
 refine exr (aV L rfl (zn [(0,_),(1,_),(2,_),(3,_)] [(1000,_)] t4 t1 (exr (aV L rfl (aV L rfl (zn [(0,_),(1,_),(2,_),(3,_),(9,_),(10,_)] [(1000,_)] t6 t1 (R1 (exr (mV L rfl (sw (R2 un43 L) t1 t0 (mV L rfl ?_)))))))))))
 refine zn [(0,_),(1,_),(2,_),(3,_),(9,_),(10,_),(20,_),(21,_),(22,_)] [(1000,_)] t9 t1 (V1 ?_)
 refine exl (α:=(Nat×List Int×Int×Int)) (fun x=>[(22,vi (x.1:Int)),(9,vw x.2.2.2),(10,vw x.2.2.1)]) (fun x=>[(1000,⟨119,1,.pure (J4 (xs++((x.2.1++win.drop x.1)++zs)))⟩)]) (fun x=>Y8 win vs q x∧x.1≤vs.length) (fun x=>vs.length - x.1) (((0:Nat),([]:List Int),(0:Int),(0:Int))) (sl:=[(0,_),(1,_),(2,_),(3,_),(20,_),(21,_)]) (hb:=[]) ?_ ⟨oR,oR,oR,rfl,rfl,rfl,rfl,rfl,rfl,trivial⟩ ⟨obl rfl sM,trivial⟩ ?_
 ·exact ⟨Y8.zero win vs q,Nat.zero_le _⟩
 intro x hx
 obtain ⟨j,ys,c,b⟩:=x
 obtain ⟨hx,hjl⟩:=hx
 have hlen:=hx.len
 have c0:=hx.c0
 have c1:=hx.c1
 have hb:=hx.b
 simp only at hlen hjl c0 c1 hb
 dsimp only
 have hu:=h.getD j
 refine exr (sw (P3 L) t2 t0 (zn [(0,_),(1,_),(2,_),(3,_),(9,_),(10,_),(20,_),(21,_),(22,_),(23,_)] [(1000,_)] t10 t1 (R1 ?_)))
 refine j2 rfl (fun he=>?_) (fun he=>?_)
 ·have he:=dt he
  have hw:=h2.getD j
  have tb:=Q0g hq hw ⟨c0,c1⟩
  have mb:=g0w hq hw
  have key:=hx.next h2 hq oM (p:=q*vs.getD j 0+c) rfl rfl rfl hu
  refine U1 (xq ?_)
  refine R1 (V1 (exr (mV L rfl (sw (ixJ un43 sz119 (j:=j) rO oM sM L) t2 t0 ?_))))
  refine sw (d4 ag119 (by first | exact b6 oM | rfl) L) t1 t0 ?_
  refine aV L rfl (aV L rfl (zn [(0,_),(1,_),(2,_),(3,_),(9,_),(10,_),(11,_),(12,_),(20,_),(21,_),(22,_)] [(1000,_)] t11 t1 (exr (mV L rfl (mV L rfl (sw (D4 un119 un127 L (I4 oM oM)) t1 t0 (sw (d1c L (I4 oM oM)) t2 t0 (mV L rfl (sw (B3 L (I4 oM oM)) t2 t0 (aV L rfl (zn [(0,_),(1,_),(2,_),(3,_),(9,_),(11,_),(13,_),(20,_),(21,_),(22,_)] [(1000,_)] t10 t1 ?_)))))))))))
  refine exr (mV L rfl (sw (I9 L dC (f0d (c:=4294967296) rF dC)) t2 t0 ?_))
  refine aV L rfl (zn [(0,_),(1,_),(2,_),(3,_),(9,_),(10,_),(11,_),(13,_),(20,_),(21,_),(22,_)] [(1000,_)] t11 t1 (exr (mV L rfl (mV L rfl (mV L rfl (sw (B3 L (w64 oM oM)) t2 t0 (sw (y6 un43 sz119 (by exact sO) (j:=xs.length+j) rO oM L) t2 t1 ?_)))))))
  refine sw (Y1 ag119 (by exact sO) (g0k (G1k hlen oM)) L) t1 t1 ?_
  refine sw (D4 un119 un127 L (I4 oM oM)) t1 t0 (mV L rfl (sw (J1r L (P1b oM oM)) t2 t0 (mV L rfl (sw (F0a s64 oM oM oM rfl rfl L) t3 t0 (mV L rfl (sw (O3 rfl L) t1 t0 (sw (O3 rfl L) t1 t0 (aV L rfl (aV L rfl (zn [(0,_),(1,_),(2,_),(3,_),(10,_),(11,_),(14,_),(15,_),(20,_),(21,_),(22,_)] [(1000,_)] t11 t1 (exr ?_)))))))))))
  refine mV L rfl (mV L rfl (mV L rfl (sw (B3 L (w64 oM oM)) t2 t0 (mV L rfl (sw (D4 un127 un119 L (show _=(win.getD j 0 - (q*vs.getD j 0+c) % 4294967296 - b) % 4294967296 by rw [m8]; omega)) t1 t0 ?_)))))
  refine sw (y6 un43 sz119 (by exact sO) (j:=xs.length+j) rO oM L) t2 t1 ?_
  refine sb (d0c sz119 (by exact sO) (.atom rfl) oM) t2 t1 ?_
  refine zn [(0,_),(1,_),(2,_),(3,_),(10,_),(15,_),(20,_),(21,_),(22,_)] [(1000,_)] t9 t1 (j3 (mV L rfl (aV L rfl (O1 (j3 (sw (B3 L (w64 oM oM)) t2 t0 (mV L rfl (O1 ?_))))))))
  exact ⟨(j+1,ys++[(win.getD j 0 - (q*vs.getD j 0+c) % 4294967296 - b) % 4294967296],(q*vs.getD j 0+c) / 4294967296,if win.getD j 0<(q*vs.getD j 0+c) % 4294967296+b then 1 else 0),⟨key,by simp only; omega⟩,(by simp only; omega),l3 ⟨oR,oR,oR,rfl,rfl,rfl,rfl,rfl,rfl,trivial⟩ ⟨obl rfl (by rw [m5,q0m hlen oM]),trivial⟩⟩
 ·have he:=df he
  have hj:j=vs.length:=by omega
  subst hj
  have ec:c % 4294967296=c:=Int.emod_eq_of_lt c0 c1
  have key:=hx.next h2 hq oM (p:=c) (d:=(win.getD vs.length 0 - c - b) % 4294967296) (b':=if win.getD vs.length 0<c+b then 1 else 0) (by rw [F9 (Nat.le_refl _)]; simp) (by rw [ec]) (by rw [ec]) hu
  rw [← hlw] at key
  have hw1:=key.wd
  have hl1:=key.len
  have hb1:=key.b
  simp only at hw1 hl1 hb1
  obtain ⟨w1,hw1e⟩:∃ w1,w1=ys++[(win.getD vs.length 0 - c - b) % 4294967296]:=⟨_,rfl⟩
  obtain ⟨b1,hb1e⟩:∃ b1:Int,b1=if win.getD vs.length 0<c+b then 1 else 0:=⟨_,rfl⟩
  rw [← hw1e,← hb1e] at key
  rw [← hw1e] at hw1 hl1
  rw [← hb1e] at hb1
  obtain ⟨-,hk2,hk3⟩:=key.end_ h oM h2 hq
  have hmid:=q0m (xs:=xs) (zs:=zs) hlen (show vs.length<win.length by omega) ((win.getD vs.length 0 - c - b) % 4294967296)
  rw [← hw1e,List.drop_of_length_le (show win.length≤vs.length+1 by omega),List.append_nil] at hmid
  refine G2 (xq ?_)
  refine exr (mV L rfl (mV L rfl (mV L rfl (sw (R2 un43 L) t1 t0 (sw (B3 L (w64 oM oM)) t2 t0 (sw (y6 un43 sz119 (by exact sO) (j:=xs.length+vs.length) rO oM L) t2 t1 ?_))))))
  refine sw (Y1 ag119 (by exact sO) (g0k (G1k hlen oM)) L) t1 t1 ?_
  refine sw (D4 un119 un127 L (I4 oM oM)) t1 t0 (mV L rfl (mV L rfl (sw (F0a s64 oM oM oM rfl rfl L) t3 t0 (mV L rfl (sw (O3 rfl L) t1 t0 (sw (O3 rfl L) t1 t0 (aV L rfl (aV L rfl (zn [(0,_),(1,_),(2,_),(9,_),(16,_)] [(1000,_)] t5 t1 ?_)))))))))
  rw [← hb1e]
  refine exr (mV L rfl (mV L rfl (mV L rfl (sw (R2 un43 L) t1 t0 (sw (B3 L (w64 oM oM)) t2 t0 (mV L rfl (sw (D4 un127 un119 L (show _=(win.getD vs.length 0 - c - b) % 4294967296 by rw [m8]; omega)) t1 t0 ?_)))))))
  refine sw (y6 un43 sz119 (by exact sO) (j:=xs.length+vs.length) rO oM L) t2 t1 ?_
  refine sb (d0c sz119 (by exact sO) (.atom rfl) oM) t2 t1 ?_
  refine zn [(0,_),(1,_),(2,_),(9,_)] [(1000,_)] t4 t1 ?_
  rw [m5,hmid]
  refine R1 (exr (mV L rfl (sw (c_e L) t2 t0 (zn [(0,_),(1,_),(2,_),(81,_)] [(1000,_)] t4 t1 ?_))))
  refine j2 rfl (fun hz=>?_) (fun hz=>?_)
  ·have hz:=dt hz
   rw [hz] at key
   have hf:=w1m h oM h2 hq key
   refine exr (aV L rfl (zn [(8,_)] [(1000,_)] t1 t1 (X1 ?_)))
   refine ⟨.inr rfl,X4.cast (.cons (.tmp rfl) .nil) ?_,⟨obl rfl (by rw [if_pos hf.1,hf.2]),trivial⟩⟩
   rw [decide_eq_true hf.1]
  ·have hz:=df hz
   have hb11:b1=1:=by omega
   have hnot:¬ q*val vs≤val win:=fun hh=>hz (hk3.2 hh)
   rw [hb11] at hk2
   refine U1 (xq ?_)
   refine exr (aV L rfl (zn [(0,_),(1,_),(2,_),(17,_)] [(1000,_)] t4 t1 (R1 (exr (mV L rfl (sw (R2 un43 L) t1 t0 (mV L rfl (zn [(0,_),(1,_),(2,_),(17,_),(82,_),(83,_),(84,_)] [(1000,_)] t7 t1 (V1 ?_)))))))))
   refine exl (α:=(Nat×List Int×Int)) (fun y=>[(84,vi (y.1:Int)),(17,vu y.2.2)]) (fun y=>[(1000,⟨119,1,.pure (J4 (xs++((y.2.1++w1.drop y.1)++zs)))⟩)]) (fun y=>H9 w1 vs y∧y.1≤vs.length) (fun y=>vs.length - y.1) (((0:Nat),([]:List Int),(0:Int))) (sl:=[(0,_),(1,_),(2,_),(82,_),(83,_)]) (hb:=[]) ?_ ⟨oR,oR,rfl,rfl,rfl,rfl,rfl,trivial⟩ ⟨obl rfl sM,trivial⟩ ?_
   ·exact ⟨H9.zero w1 vs,Nat.zero_le _⟩
   intro y hy
   obtain ⟨k,zs2,e⟩:=y
   obtain ⟨hy,hkl⟩:=hy
   have hlen2:=hy.len
   have hec:=hy.c
   simp only at hlen2 hec hkl
   dsimp only
   have hu1:=hw1.getD k
   refine exr (sw (P3 L) t2 t0 (zn [(0,_),(1,_),(2,_),(17,_),(82,_),(83,_),(84,_),(85,_)] [(1000,_)] t8 t1 (R1 ?_)))
   refine j2 rfl (fun hf=>?_) (fun hf=>?_)
   ·have hf:=dt hf
    have hw:=h2.getD k
    refine U1 (xq ?_)
    refine R1 (V1 (exr (mV L rfl (sw (ixJ un43 sz119 (j:=k) rO oM sM L) t2 t0 ?_))))
    refine sw (d4 ag119 (by first | exact b6 oM | rfl) L) t1 t0 ?_
    refine aV L rfl (aV L rfl (zn [(0,_),(1,_),(2,_),(17,_),(18,_),(19,_),(82,_),(83,_),(84,_)] [(1000,_)] t9 t1 (j3 (mV L rfl (mV L rfl (mV L rfl (sw (B3 L (w64 oM oM)) t2 t0 (mV L rfl (mV L rfl (mV L rfl (sw (B3 L (w64 oM oM)) t2 t0 ?_)))))))))))
    refine sw (y6 un43 sz119 (by exact sO) (j:=xs.length+k) rO oM L) t2 t1 ?_
    refine sw (Y1 ag119 (by exact sO) (g0k (G1k hlen2 oM)) L) t1 t1 ?_
    refine mV L rfl (mV L rfl (cK hG hX cl171 hN (H0b (w1.getD k 0) (vs.getD k 0) e hu1 hw oM) L t3 (mV L rfl (sw (O3 rfl L) t1 t0 (sw (O3 rfl L) t1 t0 (sw (y6 un43 sz119 (by exact sO) (j:=xs.length+k) rO oM L) t2 t1 ?_))))))
    refine sb (d0c sz119 (by exact sO) (.atom rfl) oM) t2 t1 ?_
    refine aV L rfl (O1 (j3 (sw (B3 L (w64 oM oM)) t2 t0 (mV L rfl (O1 ?_)))))
    exact ⟨(k+1,zs2++[(w1.getD k 0+vs.getD k 0+e) % 4294967296],(w1.getD k 0+vs.getD k 0+e) / 4294967296),⟨hy.next hw1 h2 oM rfl,by simp only; omega⟩,(by simp only; omega),l3 ⟨oR,oR,rfl,rfl,rfl,rfl,rfl,trivial⟩ ⟨obl rfl (by rw [m5,q0m hlen2 oM]),trivial⟩⟩
   ·have hf:=df hf
    have hk:k=vs.length:=by omega
    subst hk
    have key2:=hy.next hw1 h2 oM (s:=w1.getD vs.length 0+e) (by rw [F9 (Nat.le_refl vs.length)]; omega)
    rw [← hlw] at key2
    have hfin:=H1x oM h2 hk2 hl1 key2 hq1
    have hmid2:=q0m (xs:=xs) (zs:=zs) hlen2 (show vs.length<w1.length by omega) ((w1.getD vs.length 0+e) % 4294967296)
    rw [List.drop_of_length_le (show w1.length≤vs.length+1 by omega),List.append_nil,hfin.1] at hmid2
    refine G2 (xq ?_)
    refine exr (mV L rfl (mV L rfl (mV L rfl (sw (R2 un43 L) t1 t0 (sw (B3 L (w64 oM oM)) t2 t0 (sw (y6 un43 sz119 (by exact sO) (j:=xs.length+vs.length) rO oM L) t2 t1 ?_))))))
    refine sw (Y1 ag119 (by exact sO) (g0k (G1k hlen2 oM)) L) t1 t1 ?_
    refine mV L rfl (sw (B3 L m8) t2 t0 (sw (y6 un43 sz119 (by exact sO) (j:=xs.length+vs.length) rO oM L) t2 t1 ?_))
    refine sb (d0c sz119 (by exact sO) (.atom rfl) oM) t2 t1 ?_
    refine zn [] [(1000,_)] trivial t1 ?_
    rw [m5,hmid2]
    refine exr (aV L rfl (zn [(8,_)] [(1000,_)] t1 t1 (X1 ?_)))
    refine ⟨.inr rfl,X4.cast (.cons (.tmp rfl) .nil) ?_,⟨obl rfl (by rw [if_neg hnot]),trivial⟩⟩
    rw [decide_eq_false hnot]
end Go.Proofs.YtjagfionflbjbaaGreat.N
namespace Go.Proofs.YtjagfionflbjbaaGreat.NumA
open Go
def h0x (ws vs:List Int):List Int:=if d8 (val ws) (val vs)<0 then [] else if ws.length≤2 then G4 2 (val ws / val vs) else if vs.length=1 then G4 ws.length (val ws / val vs) else G4 (ws.length - vs.length+1) (val ws / val vs)
def d0g (ws vs:List Int):List Int:=if d8 (val ws) (val vs)<0 then ws else if ws.length≤2 then G4 2 (val ws % val vs) else if vs.length=1 then [val ws % val vs] else G4 vs.length (val ws % val vs)
theorem j0w {a b:Int}:d8 a b<0↔a<b:=by unfold d8; split <;> (try split) <;> omega
theorem D1c (n:Nat):(4294967296:Int) ^ (n+1)=4294967296 ^ n*4294967296:=Int.pow_succ _ _
theorem G0f {ws:List Int}(h:Wd ws){k:Nat}(hk:k≤32):0≤val ws*2 ^ k∧val ws*2 ^ k<4294967296 ^ (ws.length+1):=by
 have h1:=j5 h
 have h0:=F2 h
 have hp:(0:Int)<2 ^ k:=Int.pow_pos (by decide)
 have h2:val ws*2 ^ k<4294967296 ^ ws.length*2 ^ k:=Int.mul_lt_mul_of_pos_right h1 hp
 have h3:(4294967296:Int) ^ ws.length*2 ^ k≤4294967296 ^ ws.length*4294967296:=F0 (N0h hk) (E1 (w0h _))
 rw [D1c]
 exact ⟨Int.mul_nonneg h0 (E1 hp),by omega⟩
theorem F0c {ws vs:List Int}{m k:Nat}(h:Wd ws)(h2:Wd vs)(ht2:Tr vs)(hm:vs.length=m+2)(hk:k+bl (vs.getD (vs.length - 1) 0).toNat=32)(hle:vs.length≤ws.length) :
  k<32∧0<val vs∧0<val vs*2 ^ k∧val vs*2 ^ k<4294967296 ^ (m+2)∧val (G4 (m+2) (val vs*2 ^ k))=val vs*2 ^ k∧(G4 (m+3) (val vs*2 ^ k)).take (m+2)=G4 (m+2) (val vs*2 ^ k)∧2147483648≤(G4 (m+2) (val vs*2 ^ k)).getD (m+1) 0∧val (G4 (ws.length+1) (val ws*2 ^ k))=val ws*2 ^ k ∧
  j9 (G4 (ws.length+1) (val ws*2 ^ k)) (m+2) (val vs*2 ^ k) (ws.length+1 - (m+2),val ((G4 (ws.length+1) (val ws*2 ^ k)).drop (ws.length+1 - (m+2))),[]):=by
 have hn:vs≠[]:=by intro e; rw [e] at hm; simp at hm
 obtain ⟨n1,n2,n3⟩:=k1k h2 ht2 hn hk
 have hw:=G0f h (Nat.le_of_lt n3)
 have hp:(0:Int)<2 ^ k:=Int.pow_pos (by decide)
 have hB:=w0h (vs.length - 1)
 have hDpos:0<val vs*2 ^ k:=by omega
 have hv:0<val vs:=by
  by_cases e:0<val vs
  ·exact e
  ·have:=F2 h2
   rw [show val vs=0 by omega,Int.zero_mul] at hDpos; omega
 rw [hm] at n2
 rw [hm,show m+2 - 1=m+1 by omega] at n1
 have e1:=i6 (n:=m+2) (E1 hDpos) n2
 have e2:=i6 hw.1 hw.2
 have e3:(G4 (m+3) (val vs*2 ^ k)).take (m+2)=G4 (m+2) (val vs*2 ^ k):=by
  rw [b1g (E1 hDpos) n2,List.take_append_of_le_length (by rw [E3]; exact Nat.le_refl _),C0 (by rw [E3]; exact Nat.le_refl _)]
 have e4:=J1s (w6 (m+2) (val vs*2 ^ k)) (n:=m+1) (by rw [E3]) (by rw [e1]; exact n1)
 refine ⟨n3,hv,hDpos,n2,e1,e3,e4,e2,?_⟩
 have hWd:=w6 (ws.length+1) (val ws*2 ^ k)
 have hWl:=E3 (ws.length+1) (val ws*2 ^ k)
 generalize G4 (ws.length+1) (val ws*2 ^ k)=W at *
 have hd:=J1p hWd (i:=W.length - (m+2)) (by omega)
 rw [← hWl]
 refine j9.start hWd (by omega) ?_
 generalize val (List.drop (W.length - (m+2)) W)=x at *
 by_cases c:x<val vs*2 ^ k
 ·exact c
 ·have g1:4294967296 ^ (W.length - (m+2))*(2147483648*4294967296 ^ (m+1))≤4294967296 ^ (W.length - (m+2))*x:=F0 (by omega) (E1 (w0h _))
  have g2:(4294967296:Int) ^ (W.length - (m+2))*(2147483648*4294967296 ^ (m+1))=2147483648*4294967296 ^ ws.length:=by
   rw [show (4294967296:Int) ^ (W.length - (m+2))*(2147483648*4294967296 ^ (m+1))=2147483648*(4294967296 ^ (W.length - (m+2))*4294967296 ^ (m+1)) by grind,← Int.pow_add,show W.length - (m+2)+(m+1)=ws.length by omega]
  have g3:=Int.mul_lt_mul_of_pos_right (j5 h) hp
  have g4:(2:Int) ^ k≤2147483648:=by
   have h2:((2 ^ k:Nat):Int)≤((2 ^ 31:Nat):Int):=Int.ofNat_le.2 (Nat.pow_le_pow_right (by decide) (by omega))
   rw [Int.natCast_pow] at h2
   exact h2
  have g5:(4294967296:Int) ^ ws.length*2 ^ k≤4294967296 ^ ws.length*2147483648:=F0 g4 (E1 (w0h _))
  omega
theorem b1q {V D q:Int}(hD:0<D)(h1:V / D≤q)(h2:(q - 1)*D≤V):(if q*D≤V then q else q - 1)=V / D∧V - V / D*D=V % D:=by
 have h3:=Int.mul_ediv_add_emod V D
 rw [Int.mul_comm] at h3
 refine ⟨?_,by omega⟩
 split
 ·rename_i e
  have:=(Int.le_ediv_iff_mul_le hD).2 e
  omega
 ·rename_i e
  have h4:=(Int.le_ediv_iff_mul_le hD).2 h2
  have h5:V / D≠q:=fun hq=>e (by rw [← hq]; have:=Int.emod_nonneg V (show D≠0 by omega); omega)
  omega
theorem H1k {xs win zs:List Int}{i j:Nat}(hx:xs.length=i)(hj:j<win.length):(xs++(win++zs)).getD (i+j) 0=win.getD j 0:=by
 have:=j1q (xs:=xs) (zs:=zs) (ys:=[]) (j:=j) (win:=win.drop 0)
 subst hx
 rw [f0,D0 (by omega),Nat.add_sub_cancel_left,X0 hj,← f0]
theorem D1n {i:Nat}{qs:List Int}(w:Int):(List.replicate (i+1) 0++qs).set i w=List.replicate i 0++w :: qs:=by
 rw [List.replicate_succ',List.append_assoc,List.set_append_right _ _ (by simp),List.length_replicate,Nat.sub_self,List.singleton_append,List.set_cons_zero]
theorem w0a {ws vs:List Int}(h:Wd ws)(h2:Wd vs)(ht:Tr ws)(ht2:Tr vs)(hv:0<val vs):Wd (h0x ws vs)∧Wd (d0g ws vs)∧val (h0x ws vs)=val ws / val vs∧val (d0g ws vs)=val ws % val vs∧(h0x ws vs).length≤ws.length+2∧(d0g ws vs).length≤ws.length+2:=by
 have a0:=F2 h
 have q0:=Int.ediv_nonneg a0 (E1 hv)
 have q1:=Int.ediv_le_self (val vs) a0
 have r0:=Int.emod_nonneg (val ws) (show val vs≠0 by omega)
 have r1:=Int.emod_lt_of_pos (val ws) hv
 unfold h0x d0g
 split
 ·rename_i e
  rw [j0w] at e
  exact ⟨Wd.nil,h,by rw [Int.ediv_eq_zero_of_lt a0 e]; rfl,by rw [Int.emod_eq_of_lt a0 e],by simp,by omega⟩
 ·rename_i e
  rw [j0w] at e
  split
  ·rename_i hl
   have:=F0w h hl
   refine ⟨w6 _ _,w6 _ _,i6 q0 (by simp; omega),i6 r0 (by simp; omega),by simp [E3],by simp [E3]⟩
  ·split
   ·rename_i hl
    have hb:=k0m h2 (by omega)
    refine ⟨w6 _ _,Wd.cons.2 ⟨⟨r0,by omega⟩,Wd.nil⟩,i6 q0 (by have:=j5 h; omega),by simp [val],by simp [E3],by simp⟩
   ·have hlen:=v0x h h2 ht2 (by omega)
    refine ⟨w6 _ _,w6 _ _,i6 q0 ?_,i6 r0 (by have:=j5 h2; omega),by rw [E3]; omega,by rw [E3]; omega⟩
    have hn:vs≠[]:=by intro c; rw [c] at hv; simp [val] at hv
    have hl2:0<vs.length:=List.length_pos_iff.2 hn
    have hbig:4294967296 ^ (vs.length - 1)≤val vs:=by
     have e1:=V3 (ws:=vs) (vs.length - 1)
     rw [show vs.length - 1+1=vs.length by omega,I0] at e1
     have e2:=F2 (h2.take (vs.length - 1))
     have e3:=h2.getD (vs.length - 1)
     have e4:vs.getD (vs.length - 1) 0≠0:=by
      rcases ht2 with c | c
      ·omega
      ·exact c
     have e5:(4294967296:Int) ^ (vs.length - 1)*1≤4294967296 ^ (vs.length - 1)*vs.getD (vs.length - 1) 0:=F0 (by omega) (E1 (w0h _))
     omega
    refine Int.ediv_lt_of_lt_mul hv ?_
    have e6:(4294967296:Int) ^ (ws.length - vs.length+1)*4294967296 ^ (vs.length - 1)≤4294967296 ^ (ws.length - vs.length+1)*val vs:=F0 hbig (E1 (w0h _))
    rw [← Int.pow_add,show ws.length - vs.length+1+(vs.length - 1)=ws.length by omega] at e6
    have:=j5 h
    omega
end Go.Proofs.YtjagfionflbjbaaGreat.NumA
namespace Go.Proofs.YtjagfionflbjbaaGreat.NumA
open Go
theorem G1j {ys L:List Int}{j i:Nat}(hl:ys.length=j):(ys++L.drop j).getD (j+i) 0=L.getD (j+i) 0:=by
 rw [f0,D0 (by omega),hl,Nat.add_sub_cancel_left,List.getElem?_drop,f0]
theorem B1x {ys L:List Int}{j:Nat}(hl:ys.length=j)(hj:j<L.length)(d:Int):(ys++L.drop j).set j d=(ys++[d])++L.drop (j+1):=by
 rw [List.set_append_right _ _ (by omega),hl,Nat.sub_self,f7 hj,List.set_cons_zero]
 simp
theorem K0n {W:List Int}{n:Nat}{R:Int}:J7 W n 0 R=G4 n R++List.replicate (W.length - n) 0:=by simp [J7]
theorem V1j {L ys:List Int}{n s k:Nat}{R:Int}(hL:L=G4 n R++List.replicate s 0)(h0:0≤R)(h1:R<4294967296 ^ n)(ha:B0s L k (n,ys)):ys=G4 n (R / 2 ^ k):=by
 have heq:=ha.eq
 have hlen:=ha.len
 simp only at heq hlen
 have e1:L.drop n=List.replicate s 0:=by
  rw [hL,List.drop_append_of_le_length (by rw [E3]; exact Nat.le_refl _),List.drop_of_length_le (by rw [E3]; exact Nat.le_refl _),List.nil_append]
 have e2:val L=R:=by rw [hL,Z6,q0n,Int.mul_zero,i6 h0 h1,Int.add_zero]
 rw [e1,e2,q0n,Int.zero_ediv,Int.mul_zero,Int.add_zero] at heq
 rw [← heq,← hlen]; exact (v7 ha.wd).symm
end Go.Proofs.YtjagfionflbjbaaGreat.NumA
set_option maxRecDepth 100000
set_option maxHeartbeats 4000000
namespace Go.Proofs.YtjagfionflbjbaaGreat.N
open Go Go.Proofs.YtjagfionflbjbaaGreat.SH Go.Proofs.YtjagfionflbjbaaGreat.NumA
open Go.Proofs.Tryz renaming call141→cl141,call150→cl150,call155→cl155,call156→cl156,call157→cl157,call158→cl158,call159→cl159,call160→cl160,isAgg119→ag119,sizeOf119→sz119,typeInfo119→ti119,underlying119→un119,underlying127→un127,underlying146→un146,underlying43→un43,zeroValue146→zv146
theorem B1q {xs win zs:List Int}{i j:Nat}(hx:xs.length=i)(hj:j<win.length):(J4 (xs++(win++zs)))[i+j]? = some (.a (.int .u32 (win.getD j 0))):=by
 rw [b6 sO,H1k hx hj]
theorem W1q {ys L:List Int}{j i p q:Nat}(hl:ys.length=j)(hp:p=q)(hq:q=j+i)(hj:q<L.length):(J4 (ys++L.drop j))[p]? = some (.a (.int .u32 (L.getD q 0))):=by
 subst hp hq
 rw [b6 sO,G1j hl]
theorem B0j (ws vs:List Int)(hl:ws.length<4000000000000)(hl2:vs.length<4000000000000)(h:Wd ws)(h2:Wd vs)(ht:Tr ws)(ht2:Tr vs)(hv:0<val vs):v3 E 151 [pW ws,pW vs] (.tup [pW (h0x ws vs),pW (d0g ws vs)]):=by
 refine D2 (xs:=[pW (h0x ws vs),pW (d0g ws vs)]) Tryz.func151 rfl Tryz.ntmps151 Tryz.results151 sM fun F hG hX0 hnt hdf P0=>?_
 obtain ⟨L,hX,hN⟩:=pro hnt hX0 hG
 have a0:=F2 h
 have q0:=Int.ediv_nonneg a0 (E1 hv)
 have q1:=Int.ediv_le_self (val vs) a0
 have r0:=Int.emod_nonneg (val ws) (show val vs≠0 by omega)
 have r1:=Int.emod_lt_of_pos (val ws) hv
 refine exr (aV L rfl (aV L rfl (zn [(0,_),(1,_)] [] t2 trivial (R1 (exr (mV L rfl (mV L rfl (cK hG hX cl141 hN (f0a ws vs oM oM h h2 ht ht2) L t2 (sw (P3 L) t2 t0 (zn [(0,_),(1,_),(20,_)] [] t3 trivial ?_))))))))))
 refine j2 rfl (fun hc=>?_) (fun hc=>?_)
 ·have hc:=dt hc
  refine exr (mV L rfl (aV L rfl (aV L rfl (zn [(4,_),(5,_)] [] t2 trivial (s4 [] (sl:=[(4,_),(5,_)]) (hb:=[]) (F3 hX0) ⟨⟨_,rfl,(.p .nil)⟩,⟨_,rfl,.same⟩,trivial⟩ t0 (X1 ?_))))))
  refine Y0 (.tmp rfl) (.tmp rfl) ?_
  simp only [h0x,d0g,if_pos hc]; rfl
 ·have hc:=df hc
  have hge:val vs≤val ws:=by rw [j0w] at hc; omega
  have hlen:=v0x h h2 ht2 hge
  refine U1 (xq ?_)
  refine R1 (exr (mV L rfl (cK hG hX cl150 hN (k0q ws oM h) L t1 (mV L rfl (sw (O3 rfl L) t1 t0 (sw (O3 rfl L) t1 t0 (aV L rfl (aV L rfl (zn [(0,_),(1,_),(6,_),(7,_)] [] t4 trivial (exr (mV L rfl ?_)))))))))))
  refine zn [(0,_),(1,_),(6,_),(27,_)] [] t4 trivial ?_
  refine j2 rfl (fun hp=>?_) (fun hp=>?_)
  ·have hp:=dt hp
   have s1:=F0w h hp
   have s2:=F0w h2 oM
   rw [if_pos hp]
   refine exr (mV L rfl (cK hG hX cl150 hN (k0q vs oM h2) L t1 (mV L rfl (sw (O3 rfl L) t1 t0 (sw (O3 rfl L) t1 t0 (aV L rfl (aV L rfl (zn [(6,_),(8,_)] [] t2 trivial ?_))))))))
   rw [if_pos (show vs.length≤2 by omega)]
   refine exd rF ?_
   refine mV L rfl (mV L rfl (sw (c_q L oM (b1m a0 oM)) t2 t0 (cK hG hX cl155 hN (D0w (val ws / val vs) q0 oM) L t1 (mV L rfl (mV L rfl (sw (c_r L oM (b1v a0 oM)) t2 t0 (cK hG hX cl155 hN (D0w (val ws % val vs) r0 oM) L t1 (aV L rfl (aV L rfl ?_)))))))))
   refine O1 ⟨d5 [⟨[6],[],[33],[]⟩,⟨[8],[],[34],[]⟩,⟨[33,34],[],[35],[]⟩,⟨[35],[],[36],[]⟩,⟨[6],[],[37],[]⟩,⟨[8],[],[38],[]⟩,⟨[37,38],[],[39],[]⟩,⟨[39],[],[40],[]⟩,⟨[36],[],[4],[]⟩,⟨[40],[],[5],[]⟩] rF rF dC,[(4,_),(5,_)],[],t2,trivial,?_⟩
   refine X1 ?_
   refine Y0 (.tmp rfl) (.tmp rfl) ?_
   simp only [h0x,d0g,if_neg hc,if_pos hp]
  ·have hp:=df hp
   refine U1 (xq ?_)
   refine R1 (exr (mV L rfl (sw (R2 un43 L) t1 t0 (sw (c_e L) t2 t0 (zn [(0,_),(1,_),(43,_)] [] t3 trivial ?_)))))
   refine j2 rfl (fun h1=>?_) (fun h1=>?_)
   ·have h1:=dt h1
    have hl1:vs.length=1:=by omega
    have hv1:=k0n hl1
    have hvb:=k0m h2 oM
    refine exr (mV L rfl (sw (R2 un43 L) t1 t0 (swb (v0a (k:=46) un43 ti119 rfl rfl rfl rfl rfl rfl (Nat.le_refl _) (by simp [Tryz.t119]; omega) oM (P0 _ rfl) L) t2 t0 ⟨rfl,rfl⟩ ?_)))
    refine aV L rfl (zn [(0,_),(1,_),(4,_)] [(46,_)] t3 t1 (exr (mV L rfl (mV L rfl (swb (b2s un43 ti119 (by exact List.length_replicate) rfl sM L) t2 t1 t0 ?_)))))
    refine O1 ⟨[(1,_),(4,_)],[(46,⟨119,1,.pure (J4 ws)⟩)],t2,⟨obl rfl (by rw [C0 sM,List.drop_of_length_le sM,List.append_nil]),trivial⟩,?_⟩
    refine exr (mV L rfl (mV L rfl (mV L rfl (sw (ixJ un43 sz119 (j:=0) rfl oM sM L) t2 t0 ?_))))
    refine sw (d4 ag119 (by first | exact b6 oM | rfl) L) t1 t0 ?_
    refine swB (n1s hG hX [46] hN (g1g ws (vs.getD 0 0) oM h oM) rfl (K4 (ys:=[_,_]) cl156 rfl rF) rF rF rF rF (h0m.to (.cons (len_pure (by simp [E3])) .nil)) rF rF L) t2 t1 ?_
    refine sw (q4 (vs:=[_]) un43 ti119 rfl rfl dC dC rfl (K2 (.cons rfl .nil) rfl) rfl (.cons rfl (.atom rfl) rfl pu1 .nil) (.cons .nil) L) t1 t0 (aV L rfl (aV L rfl (zn [(4,_),(5,_)] [(46,_)] t2 t1 (s4 [46] (sl:=[(4,_),(5,_)]) (hb:=[]) (F3 hX0) ⟨⟨_,rfl,(.ref rfl rfl (by exact (by simp [E3])) (by first | rfl | omega))⟩,⟨_,rfl,.same⟩,trivial⟩ t0 ?_))))
    refine X1 ?_
    refine Y0 (.tmp rfl) (.tmp rfl) ?_
    simp only [h0x,d0g,if_neg hc,if_neg hp,if_pos hl1]; rw [hv1]; simp [E3,J4]
   ·have h1:=df h1
    have htw:=h2.getD (vs.length - 1)
    have hbl:=J1w htw.2
    have hvn:vs.length≠0:=by
     intro e
     rw [E0 e] at hv; simp [val] at hv
    obtain ⟨m,hm⟩:∃ m,vs.length=m+2:=⟨vs.length - 2,by omega⟩
    refine U1 (xq ?_)
    refine exr (mV L rfl (mV L rfl (sw (R2 un43 L) t1 t0 (sw (n6 L (w64 oM oM)) t2 t0 (sw (ixJ un43 sz119 (j:=vs.length - 1) rO oM sM L) t2 t0 ?_)))))
    refine sw (d4 ag119 (by first | exact b6 oM | rfl) L) t1 t0 ?_
    refine cK hG hX cl157 hN (J1y (vs.getD (vs.length - 1) 0) htw.1 htw.2) L t1 (aV L rfl (zn [(0,_),(1,_),(10,_)] [] t3 trivial ?_))
    obtain ⟨k,hk⟩:∃ k:Nat,k+bl (vs.getD (vs.length - 1) 0).toNat=32:=⟨32 - bl (vs.getD (vs.length - 1) 0).toNat,by omega⟩
    have ek:(32 - (bl (vs.getD (vs.length - 1) 0).toNat:Int))=(k:Int):=by omega
    rw [ek]
    obtain ⟨k32,-,hDpos,hDlt,hDv,htake,htop,hWv,hstart⟩:=F0c h h2 ht2 hm hk hlen
    refine exd rF ?_
    refine mV L rfl (mV L rfl (swb (d1z (k:=66) hG hX cl158 rfl hN (q0a ws k oM h k32) (P0 _ rfl) L) t2 t0 ⟨rfl,rfl⟩ (mV L rfl (mV L rfl (swb (d1z (k:=69) hG hX cl158 rfl hN (q0a vs k oM h2 k32) (P0 _ rfl) L) t2 t0 ⟨rfl,rfl⟩ (mV L rfl (sw (R2 un43 L) t1 t0 (sw (f1v un43 sz119 rfl (by exact (by first | (simp [E3]; done) | (simp; omega))) (by first | exact rfl | exact ixn oM) oM L) t2 t1 ?_))))))))
    refine aV L rfl (aV L rfl ?_)
    refine O1 ⟨aok rfl rfl,[(0,_),(1,_),(10,_),(11,_),(12,_)],[(66,_),(69,_)],t5,t2,?_⟩
    refine s4 [69] (sl:=[(0,_),(1,_),(10,_),(11,_),(12,_)]) (hb:=[(66,_)]) (F3 hX0) ⟨⟨_,rfl,.same⟩,⟨_,rfl,.same⟩,⟨_,rfl,.same⟩,⟨_,rfl,.same⟩,⟨_,rfl,(.refo rfl rfl (by exact (by first | (simp [E3]; done) | (simp; omega))) rfl)⟩,trivial⟩ ⟨⟨rfl,_,rfl,.same⟩,trivial⟩ ?_
    rw [show vs.length+1=m+3 by omega]
    obtain ⟨W,hW⟩:∃ W,W=G4 (ws.length+1) (val ws*2 ^ k):=⟨_,rfl⟩
    obtain ⟨Dv,hDe⟩:∃ Dv,Dv=G4 (m+2) (val vs*2 ^ k):=⟨_,rfl⟩
    have hWl:W.length=ws.length+1:=by rw [hW,E3]
    have hWd:Wd W:=by rw [hW]; exact w6 _ _
    have hDl:Dv.length=m+2:=by rw [hDe,E3]
    have hDwd:Wd Dv:=by rw [hDe]; exact w6 _ _
    have e12:L2.sl vs.length (List.take (vs.length*1) (List.drop 0 (J4 (G4 (m+3) (val vs*2 ^ k)))))=pW Dv:=by
     rw [List.drop_zero,Nat.mul_one,k0y,hm,htake,← hDe,pW,hDl]
    rw [e12,← hW,Nat.mul_one (ws.length+1)]
    rw [← hW] at hstart hWv
    rw [← hDe] at hDv htop
    rw [← hDv] at hstart hDpos hDlt
    refine exr (mV L rfl (sw (R2 un43 L) t1 t0 (aV L rfl (zn [(0,_),(10,_),(11,_),(12,_),(13,_)] [(66,_)] t5 t1 (exr (mV L rfl (sw (R2 un43 L) t1 t0 (mV L rfl (sw (n6 L (w64 oM oM)) t2 t0 (sw (B3 L (w64 oM oM)) t2 t0 (swb (v0a (k:=80) un43 ti119 rfl rfl rfl rfl (show _=((ws.length - vs.length+1:Nat):Int) by omega) (show _=((ws.length - vs.length+1:Nat):Int) by omega) (Nat.le_refl _) (by simp [Tryz.t119]; omega) oM (P0 _ rfl) L) t2 t0 ⟨rfl,rfl⟩ ?_)))))))))))
    refine aV L rfl (zn [(0,_),(4,_),(10,_),(11,_),(12,_),(13,_)] [(66,_),(80,_)] t6 t2 (R1 (exr (mV L rfl (sw (R2 un43 L) t1 t0 (mV L rfl (sw (n6 L (w64 oM oM)) t2 t0 (aV L rfl (zn [(4,_),(10,_),(11,_),(12,_),(13,_),(14,_)] [(66,_),(80,_)] t6 t2 (V1 ?_))))))))))
    refine exl (α:=(Nat×Int×List Int)) (fun x=>[(14,vi ((x.1:Int) - 1))]) (fun x=>[(66,⟨119,1,.pure (J4 (J7 W (m+2) x.1 x.2.1))⟩),(80,⟨119,1,.pure (J4 (List.replicate x.1 0++x.2.2))⟩)]) (fun x=>j9 W (m+2) (val Dv) x) (fun x=>x.1) ((ws.length+1 - (m+2),val (W.drop (ws.length+1 - (m+2))),([]:List Int))) (sl:=[(4,_),(10,_),(11,_),(12,_),(13,_)]) (hb:=[]) ?_ ⟨oi oM rfl,rfl,rfl,rfl,rfl,rfl,trivial⟩ ⟨obl rfl (by rw [← hWl,q0s hWd oM]),obl rfl (by rw [b0q,List.append_nil,show ws.length - vs.length+1=ws.length+1 - (m+2) by omega]),trivial⟩ ?_
    ·exact hstart
    intro x hx
    obtain ⟨r,R,qs⟩:=x
    have hle:=hx.le
    have hr:=hx.r
    have hlq:=hx.len
    simp only at hle hr hlq
    dsimp only
    refine R1 (exr (mV L rfl (sw (d0b L) t2 t0 (zn [(4,_),(10,_),(11,_),(12,_),(13,_),(14,_),(86,_)] [(66,_),(80,_)] t7 t2 ?_))))
    refine j2 rfl (fun he=>?_) (fun he=>?_)
    ·have he:=dt he
     obtain ⟨i,rfl⟩:∃ i,r=i+1:=⟨r - 1,by omega⟩
     have ei:(((i+1:Nat):Int) - 1)=(i:Int):=by omega
     rw [ei]
     obtain ⟨w1,w2,w3,w4⟩:=hx.win hWd hDlt
     obtain ⟨win,hwin⟩:∃ win,win=W.getD i 0 :: G4 (m+2) R:=⟨_,rfl⟩
     rw [← hwin] at w1 w2 w3 w4
     obtain ⟨zs,hzs⟩:∃ zs:List Int,zs=List.replicate (W.length - (m+2) - (i+1)) 0:=⟨_,rfl⟩
     have hzl:zs.length=W.length - (m+2) - (i+1):=by rw [hzs,List.length_replicate]
     rw [H0d oM,← hwin,← hzs]
     have hti:(W.take i).length=i:=by simp; omega
     obtain ⟨q,hq⟩:∃ q,q=n0p (win.getD (m+2) 0) (win.getD (m+1) 0) (win.getD m 0) (Dv.getD (m+1) 0) (Dv.getD m 0):=⟨_,rfl⟩
     obtain ⟨g1,g2,g3⟩:=w1r w1 hDwd (n:=m) w2 hDl htop w4 hq
     have gv0:=F2 w1
     have gq0:=Int.ediv_nonneg gv0 (E1 hDpos)
     have gqB:val win / val Dv<4294967296:=Int.ediv_lt_of_lt_mul hDpos w4
     have key:=hx.next hWd hDpos w3
     refine U1 (xq ?_)
     refine R1 (V1 (exd rF ?_))
     refine mV L rfl (mV L rfl (mV L rfl (sw (B3 L (w64 oM oM)) t2 t0 (sw (y6 un43 sz119 (by exact (by simp [B4 hle,hWl] <;> omega)) (j:=i+(m+2)) rO oM L) t2 t1 ?_))))
     refine sw (Y1 ag119 (by exact (by simp [B4 hle,hWl] <;> omega)) (g0k (B1q hti oM)) L) t1 t1 ?_
     refine mV L rfl (mV L rfl (mV L rfl (sw (B3 L (w64 oM oM)) t2 t0 (sw (n6 L (w64 oM oM)) t2 t0 (sw (y6 un43 sz119 (by exact (by simp [B4 hle,hWl] <;> omega)) (j:=i+(m+1)) rO oM L) t2 t1 ?_)))))
     refine sw (Y1 ag119 (by exact (by simp [B4 hle,hWl] <;> omega)) (g0k (B1q hti oM)) L) t1 t1 ?_
     refine mV L rfl (mV L rfl (mV L rfl (sw (B3 L (w64 oM oM)) t2 t0 (sw (n6 L (w64 oM oM)) t2 t0 (sw (y6 un43 sz119 (by exact (by simp [B4 hle,hWl] <;> omega)) (j:=i+m) rO oM L) t2 t1 ?_)))))
     refine sw (Y1 ag119 (by exact (by simp [B4 hle,hWl] <;> omega)) (g0k (B1q hti oM)) L) t1 t1 ?_
     refine sw (J0k (vs:=[_,_,_]) un146 zv146 (.cons rfl (.cons rfl (.cons rfl .nil))) sz119 rfl (.cons rfl (.atom rfl) rfl pu1 (.cons rfl (.atom rfl) rfl (.skip pu1) (.cons rfl (.atom rfl) rfl (.skip (.skip pu1)) .nil))) (.cons (.cons (.cons .nil))) L) t3 t0 (mV L rfl (mV L rfl (sw (n6 L (w64 oM oM)) t2 t0 (sw (ixJ un43 sz119 (j:=m+1) rO oM sM L) t2 t0 ?_))))
     refine sw (d4 ag119 (by first | exact b6 oM | rfl) L) t1 t0 ?_
     refine mV L rfl (mV L rfl (sw (n6 L (w64 oM oM)) t2 t0 (sw (ixJ un43 sz119 (j:=m) rO oM sM L) t2 t0 ?_)))
     refine sw (d4 ag119 (by first | exact b6 oM | rfl) L) t1 t0 ?_
     refine cK hG hX cl159 hN (f1y (win.getD (m+2) 0) (win.getD (m+1) 0) (win.getD m 0) (Dv.getD (m+1) 0) (Dv.getD m 0) (w1.getD _) (w1.getD _) (w1.getD _) ⟨htop,(hDwd.getD _).2⟩ (hDwd.getD _)) L t3 (aV L rfl ?_)
     refine O1 ⟨d5 [⟨[11],[],[89],[]⟩,⟨[14],[],[90],[]⟩,⟨[13],[],[91],[]⟩,⟨[90,91],[],[92],[]⟩,⟨[89,92],[66],[93],[]⟩,⟨[93],[66],[94],[]⟩,⟨[11],[],[95],[]⟩,⟨[14],[],[96],[]⟩,⟨[13],[],[97],[]⟩,⟨[96,97],[],[98],[]⟩,⟨[98],[],[99],[]⟩,⟨[95,99],[66],[100],[]⟩,⟨[100],[66],[101],[]⟩,⟨[11],[],[102],[]⟩,⟨[14],[],[103],[]⟩,⟨[13],[],[104],[]⟩,⟨[103,104],[],[105],[]⟩,⟨[105],[],[106],[]⟩,⟨[102,106],[66],[107],[]⟩,⟨[107],[66],[108],[]⟩,⟨[94,101,108],[],[109],[]⟩,⟨[12],[],[110],[]⟩,⟨[13],[],[111],[]⟩,⟨[111],[],[112],[]⟩,⟨[110,112],[],[113],[]⟩,⟨[113],[],[114],[]⟩,⟨[12],[],[115],[]⟩,⟨[13],[],[116],[]⟩,⟨[116],[],[117],[]⟩,⟨[115,117],[],[118],[]⟩,⟨[118],[],[119],[]⟩,⟨[109,114,119],[],[120],[]⟩,⟨[120],[],[15],[]⟩] rF rF dC,[(4,_),(10,_),(11,_),(12,_),(13,_),(14,_),(15,_)],[(66,_),(80,_)],t7,t2,?_⟩
     rw [← hq]
     have tk:=v1f (W.take i) win zs Dv q (ws.length+1) oM oM w1 oM hDwd ⟨by omega,g2⟩ g3
     have tr:=b1q hDpos g1 g3
     have hrest:W.take i++(G4 win.length (val win % val Dv)++zs)=J7 W (m+2) i (val win % val Dv):=by
      rw [w2,hzs,B0g (Int.emod_nonneg _ oM) (by have:=Int.emod_lt_of_pos (val win) hDpos; omega) oM]
     rw [hti,tr.1,tr.2,hrest] at tk
     refine R1 (exr (mV L rfl (mV L rfl (mV L rfl (mV L rfl (swB (n1s hG hX [66] hN tk rfl (K4 (ys:=[_,_,_,_]) cl160 rfl rF) rF rF rF rF (h0m.to (.cons (len_pure (by rw [k0b,k0b,B4 oM]; simp; omega)) .nil)) rF rF L) t4 t1 ?_))))))
     refine sw (C4 L) t1 t0 (zn [(4,_),(10,_),(11,_),(12,_),(13,_),(14,_),(15,_),(126,_)] [(66,_),(80,_)] t8 t2 ?_)
     refine j2 rfl (fun hb=>?_) (fun hb=>?_)
     ·have hb:=ndt hb
      have e:q - 1=val win / val Dv:=by rw [← tr.1,if_neg hb]
      refine j3 (mV L rfl (sw (n6 L (I4 oM oM)) t2 t0 (aV L rfl (O1 ?_))))
      rw [e]
      refine j3 (mV L rfl (mV L rfl (mV L rfl (sw (D4 un127 un119 L (D0b oM oM)) t1 t0 (sw (y6 un43 sz119 (by exact sO) (j:=i) rO oM L) t2 t1 ?_)))))
      refine sb (d0c sz119 (by exact sO) (.atom rfl) oM) t2 t1 ?_
      refine O1 (j3 (mV L rfl (sw (n6 L (w64 oM oM)) t2 t0 (aV L rfl (O1 ?_)))))
      exact ⟨(i,val win % val Dv,val win / val Dv :: qs),key,(by simp only; omega),l3 ⟨oR,rfl,rfl,rfl,rfl,rfl,trivial⟩ ⟨rfl,obl rfl (by rw [m5,D1n]),trivial⟩⟩
     ·have hb:=ndf hb
      have e:q=val win / val Dv:=by rw [← tr.1,if_pos hb]
      rw [e]
      refine U1 (xq ?_)
      refine j3 (mV L rfl (mV L rfl (mV L rfl (sw (D4 un127 un119 L (D0b oM oM)) t1 t0 (sw (y6 un43 sz119 (by exact sO) (j:=i) rO oM L) t2 t1 ?_)))))
      refine sb (d0c sz119 (by exact sO) (.atom rfl) oM) t2 t1 ?_
      refine O1 (j3 (mV L rfl (sw (n6 L (w64 oM oM)) t2 t0 (aV L rfl (O1 ?_)))))
      exact ⟨(i,val win % val Dv,val win / val Dv :: qs),key,(by simp only; omega),l3 ⟨oR,rfl,rfl,rfl,rfl,rfl,trivial⟩ ⟨rfl,obl rfl (by rw [m5,D1n]),trivial⟩⟩
    ·have he:=df he
     have hr0:r=0:=by omega
     subst hr0
     have heq:=hx.eq
     have hqw:=hx.wd
     simp only [List.drop_zero] at heq hqw
     rw [hDv,hWv] at heq
     rw [hDv] at hr
     obtain ⟨pe1,pe2⟩:=d1n hv heq hr
     have hqs:qs=G4 (ws.length - vs.length+1) (val ws / val vs):=by
      rw [← pe1,show ws.length - vs.length+1=qs.length by omega]; exact (v7 hqw).symm
     obtain ⟨X,hL⟩:∃ X,X=J7 W (m+2) 0 R:=⟨_,rfl⟩
     have hLl:X.length=ws.length+1:=by rw [hL,B4 oM,hWl]
     have hLw:Wd X:=by rw [hL]; exact M0m hWd
     have hL2:=hL
     rw [K0n] at hL2
     rw [← hL]
     refine G2 (xq ?_)
     refine exr (mV L rfl (mV L rfl (sw (f1v un43 sz119 rfl (by exact (by simp [B4 hle,hWl] <;> omega)) (h:=vs.length) rO oM L) t2 t1 ?_)))
     refine aV L rfl (zn [(4,_),(5,_),(10,_),(11,_)] [(66,_),(80,_)] t4 t2 (R1 (exr (mV L rfl (sw (p0m un43 (by exact (by simp [B4 hle,hWl] <;> omega)) L) t1 t1 ?_)))))
     refine mV L rfl (zn [(4,_),(5,_),(10,_),(11,_),(138,_),(139,_)] [(66,_),(80,_)] t6 t2 (V1 ?_))
     refine exl (α:=(Nat×List Int)) (fun y=>[(139,vi (y.1:Int))]) (fun y=>[(66,⟨119,1,.pure (J4 (y.2++X.drop y.1))⟩)]) (fun y=>B0s X k y∧y.1≤m+2) (fun y=>m+2 - y.1) (((0:Nat),([]:List Int))) (sl:=[(4,_),(5,_),(10,_),(11,_),(138,_)]) (hb:=[(80,_)]) ?_ ⟨oR,rfl,rfl,rfl,rfl,rfl,trivial⟩ ⟨obl rfl sM,rfl,trivial⟩ ?_
     ·exact ⟨B0s.zero X k,Nat.zero_le _⟩
     intro y hy
     obtain ⟨j,ys⟩:=y
     obtain ⟨hy,hjl⟩:=hy
     have hyl:=hy.len
     simp only at hyl hjl
     dsimp only
     refine exr (sw (P3 L) t2 t0 (zn [(4,_),(5,_),(10,_),(11,_),(138,_),(139,_),(140,_)] [(66,_),(80,_)] t7 t2 (R1 ?_)))
     refine j2 rfl (fun hf=>?_) (fun hf=>?_)
     ·have hf:=dt hf
      have u0:=hLw.getD j
      have u1:=hLw.getD (j+1)
      have ub:=d1r (s:=k) (show 0≤X.getD j 0+X.getD (j+1) 0*4294967296 by omega) oM
      refine U1 (xq ?_)
      refine R1 (V1 (exr (mV L rfl (aV L rfl (zn [(4,_),(5,_),(10,_),(11,_),(16,_),(138,_),(139,_)] [(66,_),(80,_)] t7 t2 (b0z rF ?_))))))
      refine mV L rfl (mV L rfl (mV L rfl (mV L rfl (sw (B3 L (w64 oM oM)) t2 t0 (sw (y6 un43 sz119 (by exact sO) (j:=j+1) rO oM L) t2 t1 ?_)))))
      refine sw (Y1 ag119 (by exact sO) (g0k (W1q (L:=X) (p:=j+1) (q:=j+1) (i:=1) hyl rfl rfl oM)) L) t1 t1 ?_
      refine sw (D4 un119 un127 L (I4 oM oM)) t1 t0 (sw (B0n L dC (J0r (c:=4294967296) rF (I4 oM oM))) t2 t0 ?_)
      refine mV L rfl (mV L rfl (sw (ixR un43 sz119 (by exact sO) (j:=j) rO oM L) t2 t1 ?_))
      refine sw (Y1 ag119 (by exact sO) (g0k (W1q (L:=X) (p:=0+j) (q:=j) (i:=0) hyl oM rfl oM)) L) t1 t1 ?_
      refine sw (D4 un119 un127 L (I4 oM oM)) t1 t0 (sw (v0r L (Eq.trans (H0n (b:=X.getD (j+1) 0) 32 rfl u0.1 u0.2 u1.1 dC oM oM) (show _=X.getD j 0+X.getD (j+1) 0*4294967296 by omega))) t2 t0 ?_)
      refine mV L rfl (sw (I9 L oM (d1y oM)) t2 t0 (sw (D4 un127 un119 L m8) t1 t0 (sw (ixR un43 sz119 (by exact sO) (j:=j) rO oM L) t2 t1 ?_)))
      refine sb (d0c sz119 (by exact sO) (.atom rfl) oM) t2 t1 ?_
      refine O1 ⟨d5 [⟨[5],[],[142],[]⟩,⟨[16],[],[143],[]⟩,⟨[11],[],[144],[]⟩,⟨[16],[],[145],[]⟩,⟨[145],[],[146],[]⟩,⟨[144,146],[66],[147],[]⟩,⟨[147],[66],[148],[]⟩,⟨[148],[],[149],[]⟩,⟨[149],[],[150],[]⟩,⟨[5],[],[151],[]⟩,⟨[16],[],[152],[]⟩,⟨[151,152],[66],[153],[]⟩,⟨[153],[66],[154],[]⟩,⟨[154],[],[155],[]⟩,⟨[150,155],[],[156],[]⟩,⟨[10],[],[157],[]⟩,⟨[156,157],[],[158],[]⟩,⟨[158],[],[159],[]⟩,⟨[142,143],[66],[160],[]⟩,⟨[160,159],[66],[],[66]⟩] rF rF dC,?_⟩
      refine j3 (sw (B3 L (w64 oM oM)) t2 t0 (mV L rfl (O1 ?_)))
      exact ⟨(j+1,ys++[(X.getD j 0+X.getD (j+1) 0*4294967296) / 2 ^ k % 4294967296]),⟨hy.next hLw oM oM,by simp only; omega⟩,(by simp only; omega),l3 ⟨oR,rfl,rfl,rfl,rfl,rfl,trivial⟩ ⟨obl rfl (by rw [m5,F1,B1x hyl oM]),rfl,trivial⟩⟩
     ·have hf:=df hf
      have hj:j=m+2:=by omega
      subst hj
      have hys:=V1j hL2 hr.1 (by rw [← hDv] at hr; omega) hy
      rw [pe2] at hys
      refine G2 (xq ?_)
      refine exr (mV L rfl (mV L rfl (aV L rfl (aV L rfl (zn [(4,_),(5,_)] [(66,_),(80,_)] t2 t2 (s4 [66,80] (sl:=[(4,_),(5,_)]) (hb:=[]) (F3 hX0) ⟨⟨_,rfl,(.ref rfl rfl (by exact sO) (by first | rfl | omega))⟩,⟨_,rfl,(.refo rfl rfl (by exact sO) rfl)⟩,trivial⟩ t0 ?_))))))
      refine X1 ?_
      refine Y0 (.tmp rfl) (.tmp rfl) ?_
      simp only [h0x,d0g,if_neg hc,if_neg hp,if_neg (show ¬ vs.length=1 by omega)]; rw [← hqs,Nat.mul_one,List.drop_zero,k0y,List.take_append_of_le_length oM,C0 oM,hys,hm]; simp [E3]; omega
end Go.Proofs.YtjagfionflbjbaaGreat.N
namespace Go.Proofs.YtjagfionflbjbaaGreat.NumA
open Go
def nw (a:Int):Nat:=(y3 a.natAbs).length
theorem D0v {a:Int}{k:Nat}(h:(a.natAbs:Int)<4294967296 ^ k):nw a≤k:=by
 have:a.natAbs=((a.natAbs:Int)).toNat:=by simp
 unfold nw; rw [this]
 exact K0a (by omega) h
theorem K0p {a:Int}:(a.natAbs:Int)<4294967296 ^ nw a:=by
 have h:=j5 (M3 a.natAbs)
 rwa [T4] at h
theorem T8 {a b:Int}(h:a.natAbs≤b.natAbs):nw a≤nw b:=D0v (by have:=K0p (a:=b); omega)
theorem p0b {m:Bool}{ws:List Int}(h:Wd ws):nw (sg m (val ws))≤ws.length:=D0v (by have:=j5 h; have:=F2 h; cases m <;> simp [sg] <;> omega)
theorem o7 (a b:Int):nw (a*b)≤nw a+nw b:=by
 apply D0v
 rw [Int.natAbs_mul,Int.natCast_mul,Int.pow_add]
 have h1:=K0p (a:=a)
 have h2:=K0p (a:=b)
 have h3:(a.natAbs:Int)*b.natAbs≤a.natAbs*4294967296 ^ nw b:=F0 (E1 h2) (by omega)
 have h4:(a.natAbs:Int)*4294967296 ^ nw b<4294967296 ^ nw a*4294967296 ^ nw b:=Int.mul_lt_mul_of_pos_right h1 (w0h _)
 omega
theorem f1d (a b:Int):nw (a+b)≤max (nw a) (nw b)+1:=by
 apply D0v
 have h1:=K0p (a:=a)
 have h2:=K0p (a:=b)
 have h3:=H0z (Nat.le_max_left (nw a) (nw b))
 have h4:=H0z (Nat.le_max_right (nw a) (nw b))
 rw [D1c]
 generalize (4294967296:Int) ^ max (nw a) (nw b)=M at *
 omega
theorem j1k {a:Int}:nw a=0↔a=0:=by
 unfold nw
 rw [List.length_eq_zero_iff,k0j]; omega
theorem H1n (a:Int):nw (-a)=nw a:=by unfold nw; rw [Int.natAbs_neg]
theorem b1j {m:Bool}{x:Int}(h:0≤x):val (y3 (sg m x).natAbs)=x:=by rw [T4]; cases m <;> simp [sg] <;> omega
theorem y7 {n:Nat}:(y3 n).length=0↔n=0:=by rw [List.length_eq_zero_iff,k0j]
theorem H1d {m:Bool}{x:Int}(h:0≤x):((sg m x).natAbs:Int)=x:=by cases m <;> simp [sg] <;> omega
theorem m1f {ws:List Int}(h:Wd ws)(ht:Tr ws)(hl:ws.length≠0):0<val ws:=by
 have h1:=F2 h
 by_cases e:val ws=0
 ·have:=I7 h ht e
  rw [this] at hl; simp at hl
 ·omega
def dQ (m n:Bool)(ws vs:List Int):Int:=if P2 m ws=true∧P2 n vs=true then sg m (val ws) / sg n (val vs) else 0
def dR (m n:Bool)(ws vs:List Int):Int:=if P2 m ws=true∧P2 n vs=true∧vs.length≠0 then sg m (val ws) % sg n (val vs) else 0
def dE (m n:Bool)(ws vs:List Int):Int:=if P2 m ws=true∧P2 n vs=true then (if vs.length=0 then 5 else 0) else 3
end Go.Proofs.YtjagfionflbjbaaGreat.NumA
