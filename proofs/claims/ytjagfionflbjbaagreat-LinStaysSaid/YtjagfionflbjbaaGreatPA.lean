/- Part A of the proof: lemmas for the walks of the given functions. No statement of its own. -/
import Derived.Orders
import Derived.OrdersIn
import Derived.ControlIn
import Derived.Below
import Derived.Laws.Sem
import Derived.Tactics
import Derived.Laws.AppendOwn
import Derived.Laws.MakeOwn
import Derived.Laws.CopyRow
import Derived.Laws.Cells
import Derived.Deep.AppendSrc
import Derived.Laws.Slices
import Derived.WalkKit
import Derived.RangeFuncIn
import Derived.RangeFuncLeaves
import Derived.RangeFuncRecord
import Derived.Great.BuildSlice
import Derived.Laws.Externs
set_option linter.unusedVariables false
set_option linter.unusedSimpArgs false
set_option linter.deprecated false
namespace Go
theorem f0:type_of% @List.getD_eq_getElem?_getD:=@List.getD_eq_getElem?_getD
theorem i0:type_of% @List.lookup_cons:=@List.lookup_cons
theorem j0:type_of% @Bool.and_eq_true:=@Bool.and_eq_true
theorem l0:type_of% @Option.none_or:=@Option.none_or
theorem s0:type_of% @List.all_eq_true:=@List.all_eq_true
theorem C0:type_of% @List.take_of_length_le:=@List.take_of_length_le
theorem D0:type_of% @List.getElem?_append_right:=@List.getElem?_append_right
theorem E0:type_of% @List.eq_nil_of_length_eq_zero:=@List.eq_nil_of_length_eq_zero
theorem F0:type_of% @Int.mul_le_mul_of_nonneg_left:=@Int.mul_le_mul_of_nonneg_left
theorem G0:type_of% @List.mem_map:=@List.mem_map
theorem I0:type_of% @List.take_length:=@List.take_length
theorem J0:type_of% @List.length_take:=@List.length_take
theorem K0:type_of% @Option.some_or:=@Option.some_or
theorem M0:type_of% @Option.map_eq_some_iff:=@Option.map_eq_some_iff
theorem O0:type_of% @List.length_map:=@List.length_map
theorem R0:type_of% @List.map_cons:=@List.map_cons
theorem U0:type_of% @Option.some.injEq:=@Option.some.injEq
theorem V0:type_of% @Nat.mul_le_mul_right:=@Nat.mul_le_mul_right
theorem X0:type_of% @List.getElem?_append_left:=@List.getElem?_append_left
theorem Z0:type_of% @Int.mul_le_mul_of_nonneg_right:=@Int.mul_le_mul_of_nonneg_right
theorem i1:type_of% @List.getElem?_eq_some_iff:=@List.getElem?_eq_some_iff
theorem j1:type_of% @Option.ne_none_iff_exists':=@Option.ne_none_iff_exists'
theorem D1:type_of% @List.length_cons:=@List.length_cons
theorem E1:type_of% @Int.le_of_lt:=@Int.le_of_lt
theorem F1:type_of% @Nat.zero_add:=@Nat.zero_add
theorem G1:type_of% @Nat.min_eq_left:=@Nat.min_eq_left
theorem I1:type_of% @List.take_add_one:=@List.take_add_one
theorem J1:type_of% @List.getElem?_eq_getElem:=@List.getElem?_eq_getElem
theorem K1:type_of% @List.length_append:=@List.length_append
theorem L1:type_of% @List.cons_append:=@List.cons_append
theorem M1:type_of% @List.mem_of_getElem?:=@List.mem_of_getElem?
end Go
namespace Go.Proofs.YtjagfionflbjbaaGreat.SH
open Go
inductive J2 where
 | a (v:Value)
 | sl (n:Nat) (xs:List J2)
 | agg (xs:List J2)
 | tup (xs:List J2)
 | ifc (t:TypeId) (x:J2)
 deriving Inhabited
def F6 (H:Nat→Option Obj)(b o:Nat):Option Value :=
 match H b with
 | some (.cells c _ _)=>c[o]?
 | _=>none
def hp (w:World):Nat→Option Obj:=fun b=>w.heap[b]?
theorem y0k (w:World)(b o:Nat):w.cell? ⟨b,o,none⟩=F6 (hp w) b o:=by
 unfold World.cell? F6 hp
 cases w.heap[b]? with
 | none=>rfl
 | some x=>cases x <;> rfl
mutual
def Rel (ok:Nat→Prop)(H:Nat→Option Obj):J2→Value→Prop
 | .a v,u=>u=v
 | .sl n xs,u=>∃ ad cap,u = .slice ad n cap∧n≤cap∧I7 ok H xs ad
 | .agg xs,u=>∃ cs:List Value,u = .agg cs.toArray∧K5 ok H xs cs∧∀ c∈cs,c.oneCell'=true
 | .tup xs,u=>∃ cs:List Value,u = .tuple cs.toArray∧K5 ok H xs cs
 | .ifc t x,u=>∃ y,u = .iface t y∧Rel ok H x y
def I7 (ok:Nat→Prop)(H:Nat→Option Obj):List J2→Option Addr→Prop
 | [],_=>True
 | x :: xs,ad=>∃ b o,ad=some ⟨b,o,none⟩∧ok b∧(∃ v,F6 H b o=some v∧v.oneCell'=true∧Rel ok H x v)∧Y4 ok H xs b (o+1)
def Y4 (ok:Nat→Prop)(H:Nat→Option Obj):List J2→Nat→Nat→Prop
 | [],_,_=>True
 | x :: xs,b,o=>(∃ v,F6 H b o=some v∧v.oneCell'=true∧Rel ok H x v)∧Y4 ok H xs b (o+1)
def K5 (ok:Nat→Prop)(H:Nat→Option Obj):List J2→List Value→Prop
 | [],vs=>vs=[]
 | x :: xs,vs=>∃ v r,vs=v :: r∧Rel ok H x v∧K5 ok H xs r
end
theorem h0q {H:Nat→Option Obj}{b o:Nat}{v:Value}(h:F6 H b o=some v):H b≠none:=by
 intro e; simp [F6,e] at h
def Carry (ok ok':Nat→Prop)(H H':Nat→Option Obj):Prop:=∀ b,ok b→H b≠none→ok' b∧H' b=H b
theorem Carry.cell {ok ok':Nat→Prop}{H H':Nat→Option Obj}(h:Carry ok ok' H H'){b o:Nat}{v:Value}(hb:ok b)(hc:F6 H b o=some v):F6 H' b o=some v:=by
 have:=(h b hb (h0q hc)).2
 simpa [F6,this] using hc
mutual
theorem Rel.mono {ok ok':Nat→Prop}{H H':Nat→Option Obj}(h:Carry ok ok' H H'):∀ (x:J2) (v:Value),Rel ok H x v→Rel ok' H' x v
 | .a _,_,hr=>by simpa [Rel] using hr
 | .sl n xs,v,hr=>by
  simp only [Rel] at hr ⊢
  obtain ⟨ad,cap,h1,h2,h3⟩:=hr
  exact ⟨ad,cap,h1,h2,I7.mono h xs ad h3⟩
 | .agg xs,v,hr=>by
  simp only [Rel] at hr ⊢
  obtain ⟨cs,h1,h2,h3⟩:=hr
  exact ⟨cs,h1,K5.mono h xs cs h2,h3⟩
 | .tup xs,v,hr=>by
  simp only [Rel] at hr ⊢
  obtain ⟨cs,h1,h2⟩:=hr
  exact ⟨cs,h1,K5.mono h xs cs h2⟩
 | .ifc t x,v,hr=>by
  simp only [Rel] at hr ⊢
  obtain ⟨y,h1,h2⟩:=hr
  exact ⟨y,h1,Rel.mono h x y h2⟩
theorem I7.mono {ok ok':Nat→Prop}{H H':Nat→Option Obj}(h:Carry ok ok' H H'):∀ (xs:List J2) (ad:Option Addr),I7 ok H xs ad→I7 ok' H' xs ad
 | [],_,_=>by simp [I7]
 | x :: xs,ad,hr=>by
  simp only [I7] at hr ⊢
  obtain ⟨b,o,h1,h2,⟨v,h3,h6,h4⟩,h5⟩:=hr
  exact ⟨b,o,h1,(h b h2 (h0q h3)).1,⟨v,h.cell h2 h3,h6,Rel.mono h x v h4⟩,Y4.mono h xs b (o+1) h2 h5⟩
theorem Y4.mono {ok ok':Nat→Prop}{H H':Nat→Option Obj}(h:Carry ok ok' H H'):∀ (xs:List J2) (b o:Nat),ok b→Y4 ok H xs b o→Y4 ok' H' xs b o
 | [],_,_,_,_=>by simp [Y4]
 | x :: xs,b,o,hb,hr=>by
  simp only [Y4] at hr ⊢
  obtain ⟨⟨v,h3,h6,h4⟩,h5⟩:=hr
  exact ⟨⟨v,h.cell hb h3,h6,Rel.mono h x v h4⟩,Y4.mono h xs b (o+1) hb h5⟩
theorem K5.mono {ok ok':Nat→Prop}{H H':Nat→Option Obj}(h:Carry ok ok' H H'):∀ (xs:List J2) (vs:List Value),K5 ok H xs vs→K5 ok' H' xs vs
 | [],_,hr=>by simpa [K5] using hr
 | x :: xs,vs,hr=>by
  simp only [K5] at hr ⊢
  obtain ⟨v,r,h1,h2,h3⟩:=hr
  exact ⟨v,r,h1,Rel.mono h x v h2,K5.mono h xs r h3⟩
end
section
variable {ok:Nat→Prop} {H:Nat→Option Obj}
theorem Y4.get:∀ {xs:List J2}{b o:Nat},Y4 ok H xs b o→∀ {i:Nat} {x:J2},xs[i]? = some x→∃ v,F6 H b (o+i)=some v∧v.oneCell'=true∧Rel ok H x v
 | [],_,_,_,i,x,hi=>by simp at hi
 | y :: ys,b,o,h,0,x,hi=>by
  simp only [Y4] at h
  obtain rfl:y=x:=by simpa using hi
  exact h.1
 | y :: ys,b,o,h,i+1,x,hi=>by
  simp only [Y4] at h
  have:=Y4.get h.2 (i:=i) (x:=x) (by simpa using hi)
  rwa [show o+(i+1)=o+1+i by omega]
theorem Y4.of:∀ {xs:List J2}{b o:Nat},(∀ (i:Nat) (x:J2),xs[i]? = some x→∃ v,F6 H b (o+i)=some v∧v.oneCell'=true∧Rel ok H x v)→Y4 ok H xs b o
 | [],_,_,_=>by simp [Y4]
 | y :: ys,b,o,h=>by
  simp only [Y4]
  refine ⟨by simpa using h 0 y rfl,Y4.of fun i x hi=>?_⟩
  have:=h (i+1) x (by simpa using hi)
  rwa [show o+1+i=o+(i+1) by omega]
theorem Y4.drop {xs:List J2}{b o:Nat}(h:Y4 ok H xs b o)(i:Nat):Y4 ok H (xs.drop i) b (o+i) :=
 Y4.of fun j x hj=>by
  rw [List.getElem?_drop] at hj
  have:=h.get hj
  rwa [show o+i+j=o+(i+j) by omega]
theorem Y4.take {xs:List J2}{b o:Nat}(h:Y4 ok H xs b o)(i:Nat):Y4 ok H (xs.take i) b o :=
 Y4.of fun j x hj=>by
  rw [List.getElem?_take] at hj
  split at hj
  ·exact h.get hj
  ·cases hj
theorem I7.at {xs:List J2}{ad:Option Addr}(h:I7 ok H xs ad)(hx:xs≠[]):∃ b o,ad=some ⟨b,o,none⟩∧ok b∧Y4 ok H xs b o:=by
 cases xs with
 | nil=>exact absurd rfl hx
 | cons x xs =>
  simp only [I7] at h
  obtain ⟨b,o,h1,h2,h3,h4⟩:=h
  exact ⟨b,o,h1,h2,by simp only [Y4]; exact ⟨h3,h4⟩⟩
theorem I7.of {xs:List J2}{b o:Nat}(hb:ok b)(h:Y4 ok H xs b o):I7 ok H xs (some ⟨b,o,none⟩):=by
 cases xs with
 | nil=>simp [I7]
 | cons x xs =>
  simp only [Y4] at h
  simp only [I7]
  exact ⟨b,o,rfl,hb,h.1,h.2⟩
theorem K5.length:∀ {xs:List J2}{vs:List Value},K5 ok H xs vs→vs.length=xs.length
 | [],vs,h=>by simp only [K5] at h; simp [h]
 | x :: xs,vs,h=>by
  simp only [K5] at h
  obtain ⟨v,r,rfl,_,h3⟩:=h
  simp [K5.length h3]
theorem K5.get:∀ {xs:List J2}{vs:List Value},K5 ok H xs vs→∀ {i:Nat} {x:J2},xs[i]? = some x→∃ v,vs[i]? = some v∧Rel ok H x v
 | [],vs,h,i,x,hi=>by simp at hi
 | y :: xs,vs,h,i,x,hi=>by
  simp only [K5] at h
  obtain ⟨v,r,rfl,h2,h3⟩:=h
  cases i with
  | zero =>
    obtain rfl : y = x := by simpa using hi
    exact ⟨v,rfl,h2⟩
  | succ i=>simpa using K5.get h3 (i:=i) (x:=x) (by simpa using hi)
theorem K5.of:∀ {xs:List J2}{vs:List Value},vs.length=xs.length→(∀ (i:Nat) (x:J2),xs[i]? = some x→∃ v,vs[i]? = some v∧Rel ok H x v)→K5 ok H xs vs
 | [],vs,hl,_=>by simp only [K5]; exact E0 (by simpa using hl)
 | x :: xs,[],hl,_=>by simp at hl
 | x :: xs,v :: vs,hl,h=>by
  simp only [K5]
  refine ⟨v,vs,rfl,?_,K5.of (by simpa using hl) fun i y hi=>?_⟩
  ·obtain ⟨u,hu,hr⟩:=h 0 x rfl
   obtain rfl:v=u:=by simpa using hu
   exact hr
  ·simpa using h (i+1) y (by simpa using hi)
end
inductive PV where
 | p (x:J2)
 | at_ (k off tot:Nat)
 | im (xs:List J2) (o:Nat)
 | ref (k off n tot:Nat)
 | agg (xs:List PV)
 | tup (xs:List PV)
 | clo (fn:Fn) (first captured:List PV)
 | ifc (t:TypeId) (x:PV)
 | dead
 deriving Inhabited
inductive Cells where
 | pure (xs:List J2)
 | mix (vs:List PV)
 deriving Inhabited
structure Blk where
 T:TypeId
 sz:Nat
 cs:Cells
 deriving Inhabited
def Cells.len:Cells→Nat
 | .pure xs=>xs.length
 | .mix vs=>vs.length
def Cells.get:Cells→Nat→Option PV
 | .pure xs,i=>(xs[i]?).map .p
 | .mix vs,i=>vs[i]?
mutual
def PV.free (k:Nat):PV→Bool
 | .p _=>true
 | .at_ j _ _=>j != k
 | .im _ _=>true
 | .ref j _ _ _=>j != k
 | .agg xs=>PV.freeL k xs
 | .tup xs=>PV.freeL k xs
 | .clo _ f c=>PV.freeL k f && PV.freeL k c
 | .ifc _ x=>x.free k
 | .dead=>true
def PV.freeL (k:Nat):List PV→Bool
 | []=>true
 | x :: xs=>x.free k && PV.freeL k xs
end
def Cells.free (k:Nat):Cells→Bool
 | .pure _=>true
 | .mix vs=>PV.freeL k vs
mutual
def K2 (β:Nat→Option Blk)(ρ:Nat→Nat)(ok:Nat→Prop)(H:Nat→Option Obj):PV→Value→Prop
 | .p x,v=>Rel ok H x v
 | .at_ k off tot,v=>∀ B,β k=some B→tot≤B.cs.len∧(B.cs.len=tot→v = .pointer (some ⟨ρ k,off,none⟩))
 | .im xs o,v=>∃ b p,v = .pointer (some ⟨b,p+o,none⟩)∧ok b∧H b≠none∧Y4 ok H xs b p
 | .ref k off n tot,v=>(∃ ad m c,v = .slice ad m c)∧∀ B,β k=some B→tot≤B.cs.len∧(B.cs.len=tot→∃ cap c T fr,v = .slice (some ⟨ρ k,off,none⟩) n cap∧n≤cap∧H (ρ k)=some (.cells c T fr)∧off+cap*B.sz≤c.size)
 | .agg xs,v=>∃ cs:List Value,v = .agg cs.toArray∧D3 β ρ ok H xs cs∧∀ c∈cs,c.oneCell'=true
 | .tup xs,v=>∃ cs:List Value,v = .tuple cs.toArray∧D3 β ρ ok H xs cs
 | .clo fn f c,v=>∃ fs cs:List Value,v = .func fn fs.toArray cs.toArray∧D3 β ρ ok H f fs∧D3 β ρ ok H c cs
 | .ifc t x,v=>∃ y,v = .iface t y∧K2 β ρ ok H x y
 | .dead,_=>True
def D3 (β:Nat→Option Blk)(ρ:Nat→Nat)(ok:Nat→Prop)(H:Nat→Option Obj):List PV→List Value→Prop
 | [],vs=>vs=[]
 | x :: xs,vs=>∃ v r,vs=v :: r∧K2 β ρ ok H x v∧D3 β ρ ok H xs r
end
def b0q (K:Nat→Prop)(β β':Nat→Option Blk)(ρ ρ':Nat→Nat)(H H':Nat→Option Obj):Prop :=
 ∀ k,K k→∀ B',β' k=some B'→∃ B,β k=some B∧B'.sz=B.sz∧B.cs.len≤B'.cs.len ∧
  (B'.cs.len=B.cs.len→ρ' k=ρ k∧∀ c T fr,H (ρ k)=some (.cells c T fr)→∃ c' T' fr',H' (ρ k)=some (.cells c' T' fr')∧c'.size=c.size)
mutual
theorem K2.mono {β β':Nat→Option Blk}{ρ ρ':Nat→Nat}{ok ok':Nat→Prop}{H H':Nat→Option Obj}{K:Nat→Prop}(h:Carry ok ok' H H')(hk:b0q K β β' ρ ρ' H H') :
  ∀ (x:PV) (v:Value),(∀ k,x.free k=false→K k)→K2 β ρ ok H x v→K2 β' ρ' ok' H' x v
 | .p x,v,_,hr=>by simp only [K2] at hr ⊢; exact Rel.mono h x v hr
 | .at_ k off tot,v,hf,hr=>by
  simp only [K2] at hr ⊢
  intro B' hB'
  obtain ⟨B,hB,hs,hl,he⟩:=hk k (hf k (by simp [PV.free])) B' hB'
  obtain ⟨h1,h2⟩:=hr B hB
  refine ⟨by omega,fun e=>?_⟩
  have e':B'.cs.len=B.cs.len:=by omega
  rw [(he e').1]
  exact h2 (by omega)
 | .im xs o,v,_,hr=>by
  simp only [K2] at hr ⊢
  obtain ⟨b,p,h1,h2,h3,h4⟩:=hr
  exact ⟨b,p,h1,(h b h2 h3).1,by rw [(h b h2 h3).2]; exact h3,Y4.mono h xs b p h2 h4⟩
 | .ref k off n tot,v,hf,hr=>by
  simp only [K2] at hr ⊢
  obtain ⟨hsl,hr⟩:=hr
  refine ⟨hsl,?_⟩
  intro B' hB'
  obtain ⟨B,hB,hs,hl,he⟩:=hk k (hf k (by simp [PV.free])) B' hB'
  obtain ⟨h1,h2⟩:=hr B hB
  refine ⟨by omega,fun e=>?_⟩
  have e':B'.cs.len=B.cs.len:=by omega
  obtain ⟨hρ,hc⟩:=he e'
  obtain ⟨cap,c,T,fr,h3,h4,h5,h6⟩:=h2 (by omega)
  obtain ⟨c',T',fr',h7,h8⟩:=hc c T fr h5
  exact ⟨cap,c',T',fr',by rw [hρ]; exact h3,h4,by rw [hρ]; exact h7,by rw [hs,h8]; exact h6⟩
 | .agg xs,v,hf,hr=>by
  simp only [K2] at hr ⊢
  obtain ⟨cs,h1,h2,h3⟩:=hr
  exact ⟨cs,h1,D3.mono h hk xs cs (fun k hh=>hf k (by simpa [PV.free] using hh)) h2,h3⟩
 | .tup xs,v,hf,hr=>by
  simp only [K2] at hr ⊢
  obtain ⟨cs,h1,h2⟩:=hr
  exact ⟨cs,h1,D3.mono h hk xs cs (fun k hh=>hf k (by simpa [PV.free] using hh)) h2⟩
 | .clo fn f c,v,hf,hr=>by
  simp only [K2] at hr ⊢
  obtain ⟨fs,cs,h1,h2,h3⟩:=hr
  exact ⟨fs,cs,h1,D3.mono h hk f fs (fun k hh=>hf k (by simp [PV.free,hh])) h2,D3.mono h hk c cs (fun k hh=>hf k (by simp [PV.free,hh])) h3⟩
 | .ifc t x,v,hf,hr=>by
  simp only [K2] at hr ⊢
  obtain ⟨y,h1,h2⟩:=hr
  exact ⟨y,h1,K2.mono h hk x y (fun k hh=>hf k (by simpa [PV.free] using hh)) h2⟩
 | .dead,_,_,_=>by simp [K2]
theorem D3.mono {β β':Nat→Option Blk}{ρ ρ':Nat→Nat}{ok ok':Nat→Prop}{H H':Nat→Option Obj}{K:Nat→Prop}(h:Carry ok ok' H H')(hk:b0q K β β' ρ ρ' H H') :
  ∀ (xs:List PV) (vs:List Value),(∀ k,PV.freeL k xs=false→K k)→D3 β ρ ok H xs vs→D3 β' ρ' ok' H' xs vs
 | [],_,_,hr=>by simpa [D3] using hr
 | x :: xs,vs,hf,hr=>by
  simp only [D3] at hr ⊢
  obtain ⟨v,r,h1,h2,h3⟩:=hr
  exact ⟨v,r,h1,K2.mono h hk x v (fun k hh=>hf k (by simp [PV.freeL,hh])) h2,D3.mono h hk xs r (fun k hh=>hf k (by simp [PV.freeL,hh])) h3⟩
end
structure m0d (H H':Nat→Option Obj):Prop where
 cells:∀ b c T fr,H b=some (.cells c T fr)→H' b=some (.cells c T fr)
 some_:∀ b,H b≠none→H' b≠none
theorem m0d.cell {H H':Nat→Option Obj}(h:m0d H H'){b o:Nat}{v:Value}(hc:F6 H b o=some v):F6 H' b o=some v:=by
 unfold F6 at hc ⊢
 cases e:H b with
 | none=>rw [e] at hc; cases hc
 | some x =>
  rw [e] at hc
  cases x with
  | cells c T fr=>rw [h.cells b c T fr e]; exact hc
  | _=>cases hc
mutual
theorem Rel.agree {ok:Nat→Prop}{H H':Nat→Option Obj}(h:m0d H H'):∀ (x:J2) (v:Value),Rel ok H x v→Rel ok H' x v
 | .a _,_,hr=>by simpa [Rel] using hr
 | .sl n xs,v,hr=>by
  simp only [Rel] at hr ⊢
  obtain ⟨ad,cap,h1,h2,h3⟩:=hr
  exact ⟨ad,cap,h1,h2,I7.agree h xs ad h3⟩
 | .agg xs,v,hr=>by
  simp only [Rel] at hr ⊢
  obtain ⟨cs,h1,h2,h3⟩:=hr
  exact ⟨cs,h1,K5.agree h xs cs h2,h3⟩
 | .tup xs,v,hr=>by
  simp only [Rel] at hr ⊢
  obtain ⟨cs,h1,h2⟩:=hr
  exact ⟨cs,h1,K5.agree h xs cs h2⟩
 | .ifc t x,v,hr=>by
  simp only [Rel] at hr ⊢
  obtain ⟨y,h1,h2⟩:=hr
  exact ⟨y,h1,Rel.agree h x y h2⟩
theorem I7.agree {ok:Nat→Prop}{H H':Nat→Option Obj}(h:m0d H H'):∀ (xs:List J2) (ad:Option Addr),I7 ok H xs ad→I7 ok H' xs ad
 | [],_,_=>by simp [I7]
 | x :: xs,ad,hr=>by
  simp only [I7] at hr ⊢
  obtain ⟨b,o,h1,h2,⟨v,h3,h6,h4⟩,h5⟩:=hr
  exact ⟨b,o,h1,h2,⟨v,h.cell h3,h6,Rel.agree h x v h4⟩,Y4.agree h xs b (o+1) h5⟩
theorem Y4.agree {ok:Nat→Prop}{H H':Nat→Option Obj}(h:m0d H H'):∀ (xs:List J2) (b o:Nat),Y4 ok H xs b o→Y4 ok H' xs b o
 | [],_,_,_=>by simp [Y4]
 | x :: xs,b,o,hr=>by
  simp only [Y4] at hr ⊢
  obtain ⟨⟨v,h3,h6,h4⟩,h5⟩:=hr
  exact ⟨⟨v,h.cell h3,h6,Rel.agree h x v h4⟩,Y4.agree h xs b (o+1) h5⟩
theorem K5.agree {ok:Nat→Prop}{H H':Nat→Option Obj}(h:m0d H H'):∀ (xs:List J2) (vs:List Value),K5 ok H xs vs→K5 ok H' xs vs
 | [],_,hr=>by simpa [K5] using hr
 | x :: xs,vs,hr=>by
  simp only [K5] at hr ⊢
  obtain ⟨v,r,h1,h2,h3⟩:=hr
  exact ⟨v,r,h1,Rel.agree h x v h2,K5.agree h xs r h3⟩
end
mutual
theorem K2.agree {β:Nat→Option Blk}{ρ:Nat→Nat}{ok:Nat→Prop}{H H':Nat→Option Obj}(h:m0d H H'):∀ (x:PV) (v:Value),K2 β ρ ok H x v→K2 β ρ ok H' x v
 | .p x,v,hr=>by simp only [K2] at hr ⊢; exact Rel.agree h x v hr
 | .at_ k off tot,v,hr=>by simpa only [K2] using hr
 | .im xs o,v,hr=>by
  simp only [K2] at hr ⊢
  obtain ⟨b,p,h1,h2,h3,h4⟩:=hr
  exact ⟨b,p,h1,h2,h.some_ b h3,Y4.agree h xs b p h4⟩
 | .ref k off n tot,v,hr=>by
  simp only [K2] at hr ⊢
  refine ⟨hr.1,fun B hB=>?_⟩
  obtain ⟨h1,h2⟩:=hr.2 B hB
  refine ⟨h1,fun e=>?_⟩
  obtain ⟨cap,c,T,fr,h3,h4,h5,h6⟩:=h2 e
  exact ⟨cap,c,T,fr,h3,h4,h.cells _ _ _ _ h5,h6⟩
 | .agg xs,v,hr=>by
  simp only [K2] at hr ⊢
  obtain ⟨cs,h1,h2,h3⟩:=hr
  exact ⟨cs,h1,D3.agree h xs cs h2,h3⟩
 | .tup xs,v,hr=>by
  simp only [K2] at hr ⊢
  obtain ⟨cs,h1,h2⟩:=hr
  exact ⟨cs,h1,D3.agree h xs cs h2⟩
 | .clo f a c,v,hr=>by
  simp only [K2] at hr ⊢
  obtain ⟨fs,cs,h1,h2,h3⟩:=hr
  exact ⟨fs,cs,h1,D3.agree h a fs h2,D3.agree h c cs h3⟩
 | .ifc t x,v,hr=>by
  simp only [K2] at hr ⊢
  obtain ⟨y,h1,h2⟩:=hr
  exact ⟨y,h1,K2.agree h x y h2⟩
 | .dead,_,_=>by simp [K2]
theorem D3.agree {β:Nat→Option Blk}{ρ:Nat→Nat}{ok:Nat→Prop}{H H':Nat→Option Obj}(h:m0d H H'):∀ (xs:List PV) (vs:List Value),D3 β ρ ok H xs vs→D3 β ρ ok H' xs vs
 | [],_,hr=>by simpa [D3] using hr
 | x :: xs,vs,hr=>by
  simp only [D3] at hr ⊢
  obtain ⟨v,r,h1,h2,h3⟩:=hr
  exact ⟨v,r,h1,K2.agree h x v h2,D3.agree h xs r h3⟩
end
end Go.Proofs.YtjagfionflbjbaaGreat.SH
namespace Go.Proofs.YtjagfionflbjbaaGreat.SH
open Go
structure St where
 sl:List (Nat×PV)
 hb:List (Nat×Blk)
 deriving Inhabited
def St.slot (S:St)(t:Nat):Option PV:=S.sl.lookup t
def St.blk (S:St)(k:Nat):Option Blk:=S.hb.lookup k
def St.opd (S:St):Operand→Option PV
 | .tmp t=>S.slot t
 | .const v=>some (.p (.a v))
 | .func f=>some (.clo (.func f) [] [])
 | .global _=>none
def F3 (k:Nat):List (Nat×PV)→Bool
 | []=>true
 | (_,v) :: r=>v.free k && F3 k r
def X2 (k:Nat):List (Nat×Blk)→Bool
 | []=>true
 | (_,b) :: r=>b.cs.free k && X2 k r
def St.free (S:St)(k:Nat):Bool:=F3 k S.sl && X2 k S.hb
structure Fr where
 w0:World
 okA:Nat→Prop
 X:Nat→Prop
 nt:Nat
 df:List Deferred
 pin:Nat→Option (Nat×Nat)
 ro:Option Nat
 esc:Act→World→Prop
 lo:Nat→Bool
abbrev fen (F:Fr):Fence:={ Fence.wide with round:=F.ro }
def okI (F:Fr)(β:Nat→Option Blk)(ρ:Nat→Nat)(b:Nat):Prop:=(F.okA b∨F.w0.heap.size≤b)∧∀ k,β k≠none→b≠ρ k
structure B0d (F:Fr) (w:World):Prop where
 os:w.os=F.w0.os
 tape:w.tape=F.w0.tape
 output:w.output=F.w0.output
 size:F.w0.heap.size≤w.heap.size
 block:∀ b,b<F.w0.heap.size→¬ F.X b→w.heap[b]? = F.w0.heap[b]?
def g0z (F:Fr)(ds:List Deferred)(w:World):Prop:=∃ Ds:List Nat,ds=Ds.map (fun D=>({ target:=.collected D,args:=#[] }:Deferred))++F.df∧Ds.Nodup∧∀ D∈Ds,F.w0.heap.size≤D∧w.heap[D]? = some (.deferred (some []))
theorem g0z.nil {F:Fr}{w:World}(h:F.df=[]):g0z F [] w:=⟨[],by simp [h],.nil,by simp⟩
structure b5 (F:Fr) (ρ:Nat→Nat) (S:St) (a:Act) (w:World):Prop where
 slots:∀ t v,S.slot t=some v→∃ u,a.tmps[t]? = some u∧K2 S.blk ρ (okI F S.blk ρ) (hp w) v u
 blks:∀ k B,S.blk k=some B→∃ c,hp w (ρ k)=some (.cells c B.T (0,0))∧((F.X (ρ k)∧F.lo k=false)∨F.w0.heap.size≤ρ k)∧B.cs.len≤c.size ∧
  ∀ i x,B.cs.get i=some x→∃ u,c[i]? = some u∧u.oneCell'=true∧K2 S.blk ρ (okI F S.blk ρ) (hp w) x u
 inj:∀ k k',S.blk k≠none→S.blk k'≠none→ρ k=ρ k'→k=k'
 frame:B0d F w
 nt:a.tmps.size=F.nt
 df:g0z F a.defers w
 pin:∀ j b n,F.pin j=some (b,n)→S.blk j≠none→ρ j=b∧∃ c T,hp w b=some (.cells c T (0,0))∧c.size=n
def Sat (F:Fr)(S:St)(a:Act)(w:World):Prop:=∃ ρ,b5 F ρ S a w
theorem b5.congr {F:Fr}{ρ:Nat→Nat}{S S':St}{a:Act}{w:World}(h:b5 F ρ S a w)(hs:∀ t,S'.slot t=S.slot t)(hb:∀ k,S'.blk k=S.blk k):b5 F ρ S' a w:=by
 have hb':S'.blk=S.blk:=funext hb
 exact ⟨fun t v ht=>by rw [hb']; exact h.slots t v (hs t ▸ ht),fun k B hk=>by rw [hb'] at hk ⊢; exact h.blks k B hk,by rw [hb']; exact h.inj,h.frame,h.nt,h.df,by rw [hb']; exact h.pin⟩
theorem Sat.congr {F:Fr}{S S':St}{a:Act}{w:World}(h:Sat F S a w)(hs:∀ t,S'.slot t=S.slot t)(hb:∀ k,S'.blk k=S.blk k):Sat F S' a w :=
 let ⟨ρ,h⟩:=h; ⟨ρ,h.congr hs hb⟩
theorem F0a {k:Nat}:∀ {l:List (Nat×PV)} {t:Nat} {v:PV},F3 k l=true→l.lookup t=some v→v.free k=true
 | [],_,_,_,h=>by simp at h
 | (s,u) :: r,t,v,hf,h=>by
  simp only [F3,j0] at hf
  rw [i0] at h
  split at h
  ·injection h with h; subst h; exact hf.1
  ·exact F0a hf.2 h
theorem D0g {k:Nat}:∀ {l:List (Nat×Blk)} {t:Nat} {v:Blk},X2 k l=true→l.lookup t=some v→v.cs.free k=true
 | [],_,_,_,h=>by simp at h
 | (s,u) :: r,t,v,hf,h=>by
  simp only [X2,j0] at hf
  rw [i0] at h
  split at h
  ·injection h with h; subst h; exact hf.1
  ·exact D0g hf.2 h
theorem f0p {k:Nat}:∀ {l:List PV} {i:Nat} {v:PV},PV.freeL k l=true→l[i]? = some v→v.free k=true
 | [],_,_,_,h=>by simp at h
 | u :: r,i,v,hf,h=>by
  simp only [PV.freeL,j0] at hf
  cases i with
  | zero =>
    obtain rfl : u = v := by simpa using h
    exact hf.1
  | succ i=>exact f0p hf.2 (by simpa using h)
theorem Cells.free_get {k:Nat}{c:Cells}{i:Nat}{x:PV}(hf:c.free k=true)(h:c.get i=some x):x.free k=true:=by
 cases c with
 | pure xs =>
  simp only [Cells.get,M0] at h
  obtain ⟨y,_,rfl⟩:=h
  rfl
 | mix vs=>exact f0p hf h
theorem St.free_slot {S:St}{k t:Nat}{v:PV}(h:S.free k=true)(hs:S.slot t=some v):v.free k=true:=by
 simp only [St.free,j0] at h
 exact F0a h.1 hs
theorem St.free_blk {S:St}{k j i:Nat}{B:Blk}{x:PV}(h:S.free k=true)(hs:S.blk j=some B)(hx:B.cs.get i=some x):x.free k=true:=by
 simp only [St.free,j0] at h
 exact Cells.free_get (D0g h.2 hs) hx
structure Ann where
 rs:List (Operand×PV):=[]
 rb:List (Nat×Blk):=[]
 fresh:Option Nat:=none
 ws:List (Nat×PV):=[]
 wb:List (Nat×Blk):=[]
 deriving Inhabited
def St.app (S:St)(A:Ann):St:=⟨A.ws++S.sl,A.wb++S.hb⟩
structure Ann.holds (A:Ann) (S:St):Prop where
 rs:∀ p∈A.rs,S.opd p.1=some p.2
 rb:∀ p∈A.rb,S.blk p.1=some p.2
 fresh:∀ k,A.fresh=some k→S.blk k=none∧S.free k=true
def k1r (P:Program)(F:Fr)(ops:Array Oper)(o:Oper)(A:Ann):Prop :=
 ∀ S a w,Sat F S a w→A.holds S→∀ (Q:Exit→Act→World→Prop) (K:Act→World→Prop),(∀ a' w',Sat F (S.app A) a' w'→K a' w') →
  if Region.wanted o (yielded ops a.tmps) then o.wp P a w K Q∨(∀ n,o.wpIn (fen F) n P a w K Q) else K (a.put o.dst undef) w
theorem T1 {α:Type}(l r:List (Nat×α))(t:Nat):(l++r).lookup t=(l.lookup t).or (r.lookup t):=by
 induction l with
 | nil=>simp
 | cons p l ih =>
  obtain ⟨s,u⟩:=p
  simp only [L1,i0]
  split <;> simp [ih]
theorem St.app_slot (S:St)(A:Ann)(t:Nat):(S.app A).slot t=(A.ws.lookup t).or (S.slot t):=T1 _ _ _
theorem St.app_blk (S:St)(A:Ann)(t:Nat):(S.app A).blk t=(A.wb.lookup t).or (S.blk t):=T1 _ _ _
def j4 (S:St):List Ann→Nat→(Nat→Bool)→St
 | [],_,_=>S
 | A :: As,i,E=>j4 (if E i then S.app A else S) As (i+1) E
theorem b0v {t:Nat}{E E':Nat→Bool}:∀ (As:List Ann) (i:Nat) (S S':St),S.slot t=S'.slot t →
  (∀ j A,As[j]? = some A→A.ws.lookup t≠none→E (i+j)=E' (i+j))→(j4 S As i E).slot t=(j4 S' As i E').slot t
 | [],_,_,_,h,_=>h
 | A :: As,i,S,S',h,hw=>by
  simp only [j4]
  refine b0v As (i+1) _ _ ?_ fun j B hj hB=>by
   have:=hw (j+1) B (by simpa using hj) hB
   rwa [show i+1+j=i+(j+1) by omega]
  by_cases hA:A.ws.lookup t=none
  ·have e:(S.app A).slot t=S.slot t:=by rw [St.app_slot,hA]; simp
   have e':(S'.app A).slot t=S'.slot t:=by rw [St.app_slot,hA]; simp
   split <;> split <;> simp_all
  ·have:=hw 0 A rfl hA
   simp only [Nat.add_zero] at this
   rw [this]
   split
   ·rw [St.app_slot,St.app_slot,h]
   ·exact h
theorem b0m {t:Nat}{E E':Nat→Bool}:∀ (As:List Ann) (i:Nat) (S S':St),S.blk t=S'.blk t →
  (∀ j A,As[j]? = some A→A.wb.lookup t≠none→E (i+j)=E' (i+j))→(j4 S As i E).blk t=(j4 S' As i E').blk t
 | [],_,_,_,h,_=>h
 | A :: As,i,S,S',h,hw=>by
  simp only [j4]
  refine b0m As (i+1) _ _ ?_ fun j B hj hB=>by
   have:=hw (j+1) B (by simpa using hj) hB
   rwa [show i+1+j=i+(j+1) by omega]
  by_cases hA:A.wb.lookup t=none
  ·have e:(S.app A).blk t=S.blk t:=by rw [St.app_blk,hA]; simp
   have e':(S'.app A).blk t=S'.blk t:=by rw [St.app_blk,hA]; simp
   split <;> split <;> simp_all
  ·have:=hw 0 A rfl hA
   simp only [Nat.add_zero] at this
   rw [this]
   split
   ·rw [St.app_blk,St.app_blk,h]
   ·exact h
def Ann.free (k:Nat)(A:Ann):Bool:=F3 k A.ws && X2 k A.wb
theorem w0d {k:Nat}{E:Nat→Bool}:∀ (As:List Ann) (i:Nat) (S:St),S.free k=true →
  (∀ j A,As[j]? = some A→E (i+j)=true→A.free k=true)→(j4 S As i E).free k=true
 | [],_,_,h,_=>h
 | A :: As,i,S,h,hw=>by
  simp only [j4]
  refine w0d As (i+1) _ ?_ fun j B hj hB=>hw (j+1) B (by simpa using hj) (by rwa [show i+(j+1)=i+1+j by omega])
  split
  ·rename_i hE
   have hA:=hw 0 A rfl (by simpa using hE)
   have app1:∀ (l r:List (Nat×PV)),F3 k (l++r)=(F3 k l && F3 k r):=by
    intro l r; induction l with
    | nil=>simp [F3]
    | cons p l ih=>simp [F3,ih,Bool.and_assoc]
   have app2:∀ (l r:List (Nat×Blk)),X2 k (l++r)=(X2 k l && X2 k r):=by
    intro l r; induction l with
    | nil=>simp [X2]
    | cons p l ih=>simp [X2,ih,Bool.and_assoc]
   simp only [Ann.free,j0] at hA
   simp only [St.free,j0] at h ⊢
   simp only [St.app,app1,app2,j0]
   exact ⟨⟨hA.1,h.1⟩,hA.2,h.2⟩
  ·exact h
def U7:List (Operand×PV)→List Nat
 | []=>[]
 | (.tmp t,_) :: r=>t :: U7 r
 | _ :: r=>U7 r
def s7 {α:Type}(l:List (Nat×α))(ts:List Nat):Bool:=l.any fun p=>ts.contains p.1
def Ann.rbk (A:Ann):List Nat:=A.fresh.toList++A.rb.map (·.1)
def w7 (A B:Ann):Bool :=
 !s7 A.ws (U7 B.rs) && !s7 B.ws (U7 A.rs) && !s7 A.ws (B.ws.map (·.1)) &&
 !s7 A.wb B.rbk && !s7 B.wb A.rbk && !s7 A.wb (B.wb.map (·.1)) &&
 (A.fresh.all fun k=>B.free k) && (B.fresh.all fun k=>A.free k)
def T8 (ms:List Nat)(o:Oper):Nat :=
 o.after.toList.foldl (fun s e=>if Region.binds .any e then s ||| (2 ^ e.on ||| ms.getD e.on 0) else s) 0
def M0g (n:Nat)(o:Oper):Bool:=o.after.toList.all fun e=>!Region.binds .any e || decide (e.on<n)
def W7:List Oper→List Ann→List Nat→List Ann→Bool
 | [],[],_,_=>true
 | o :: os,B :: As,ms,done =>
  M0g ms.length o && ((List.range done.length).all fun i=>(T8 ms o).testBit i || (done[i]?.all fun A=>w7 A B)) &&
  W7 os As (ms++[T8 ms o]) (done++[B])
 | _,_,_,_=>false
end Go.Proofs.YtjagfionflbjbaaGreat.SH
namespace Go.Proofs.YtjagfionflbjbaaGreat.SH
open Go
def m0r (ops:Array Oper)(E:Nat→Bool):Prop:=∀ i o,ops[i]? = some o→E i=true→∀ e∈o.after,Region.binds .any e=true→E e.on=true
def m1m (o:Oper)(E:Nat→Bool):Prop:=∀ e∈o.after,Region.binds .any e=true→E e.on=true
def M1p (ops:Array Oper)(ms:List Nat):Prop:=∀ i,i<ms.length→∀ E,m0r ops E→∀ o,ops[i]? = some o→m1m o E→∀ x,(ms.getD i 0).testBit x=true→E x=true
theorem H0g (ms:List Nat)(x:Nat):∀ (l:List Edge) (s:Nat),(l.foldl (fun s e=>if Region.binds .any e then s ||| (2 ^ e.on ||| ms.getD e.on 0) else s) s).testBit x=true →
  s.testBit x=true∨∃ e∈l,Region.binds .any e=true∧(e.on=x∨(ms.getD e.on 0).testBit x=true)
 | [],s,h=>.inl h
 | e :: l,s,h=>by
  simp only [List.foldl_cons] at h
  rcases H0g ms x l _ h with h | ⟨e',he,h⟩
  ·by_cases hb:Region.binds .any e=true
   ·rw [if_pos hb] at h
    simp only [Nat.testBit_or,Bool.or_eq_true] at h
    rcases h with h | h | h
    ·exact .inl h
    ·refine .inr ⟨e,by simp,hb,.inl ?_⟩
     rw [Nat.testBit_two_pow] at h
     simpa using h
    ·exact .inr ⟨e,by simp,hb,.inr h⟩
   ·rw [if_neg hb] at h
    exact .inl h
  ·exact .inr ⟨e',by simp [he],h⟩
theorem J0g {ops:Array Oper}{ms:List Nat}{o:Oper}(hg:M1p ops ms)(hsz:∀ e∈o.after,Region.binds .any e=true→e.on<ms.length∧∃ o',ops[e.on]? = some o'){E:Nat→Bool}(hc:m0r ops E)(hd:m1m o E){x:Nat}
  (h:(T8 ms o).testBit x=true):E x=true:=by
 unfold T8 at h
 rcases H0g ms x _ _ h with h | ⟨e,he,hb,h⟩
 ·simp at h
 ·have he':e∈o.after:=by simpa using he
  rcases h with h | h
  ·subst h; exact hd e he' hb
  ·obtain ⟨hlt,o',ho'⟩:=hsz e he' hb
   exact hg e.on hlt E hc o' ho' (fun e2 he2 hb2=>hc e.on o' ho' (hd e he' hb) e2 he2 hb2) x h
def h1b (ops:Array Oper)(As:List Ann):Prop:=∀ j o B,ops[j]? = some o→As[j]? = some B →
 (∀ e∈o.after,Region.binds .any e=true→e.on<j)∧∀ i A,As[i]? = some A→i<j→w7 A B=true∨∀ E,m0r ops E→m1m o E→E i=true
theorem F0n (ops:Array Oper):∀ (os:List Oper) (As:List Ann) (ms:List Nat) (done:List Ann) (k:Nat),W7 os As ms done=true→ms.length=k→done.length=k →
  (∀ j,os[j]? = ops[k+j]?)→(∀ i,i<k→∃ o,ops[i]? = some o)→M1p ops ms →
  os.length=As.length∧∀ j o B,os[j]? = some o→As[j]? = some B→(∀ e∈o.after,Region.binds .any e=true→e.on<k+j) ∧
   ∀ i A,(done++As)[i]? = some A→i<k+j→w7 A B=true∨∀ E,m0r ops E→m1m o E→E i=true
 | [],[],_,_,_,_,_,_,_,_,_=>⟨rfl,fun j o B h=>by simp at h⟩
 | [],_ :: _,_,_,_,h,_,_,_,_,_=>by simp [W7] at h
 | _ :: _,[],_,_,_,h,_,_,_,_,_=>by simp [W7] at h
 | o :: os,B :: As,ms,done,k,h,hm,hd,hos,hex,hg=>by
  simp only [W7,j0] at h
  obtain ⟨⟨hb,hap⟩,hrest⟩:=h
  have ho:ops[k]? = some o:=by have:=hos 0; simpa using this.symm
  have hback:∀ e∈o.after,Region.binds .any e=true→e.on<k:=fun e he hbb=>by
   unfold M0g at hb
   rw [s0] at hb
   have:=hb e (by simpa using he)
   simpa [hbb,hm] using this
  have hsz:∀ e∈o.after,Region.binds .any e=true→e.on<ms.length∧∃ o',ops[e.on]? = some o':=fun e he hbb =>
   ⟨by rw [hm]; exact hback e he hbb,hex _ (hback e he hbb)⟩
  have hg':M1p ops (ms++[T8 ms o]):=by
   intro i hi E hc o' ho' hd' x hx
   by_cases hik:i<ms.length
   ·rw [f0,X0 hik,← f0] at hx
    exact hg i hik E hc o' ho' hd' x hx
   ·have hie:i=k:=by simp at hi; omega
    subst hie
    rw [ho] at ho'
    injection ho' with ho'
    subst ho'
    rw [f0,D0 (by omega),hm] at hx
    simp only [Nat.sub_self,List.getElem?_cons_zero,Option.getD_some] at hx
    exact J0g hg hsz hc hd' hx
  have hex':∀ i,i<k+1→∃ o,ops[i]? = some o:=fun i hi=>by
   by_cases h:i<k
   ·exact hex i h
   ·obtain rfl:i=k:=by omega
    exact ⟨o,ho⟩
  obtain ⟨hl,hr⟩:=F0n ops os As (ms++[T8 ms o]) (done++[B]) (k+1) hrest (by simp [hm]) (by simp [hd])
   (fun j=>by have:=hos (j+1); simp only [List.getElem?_cons_succ] at this; rw [this]; congr 1; omega) hex' hg'
  refine ⟨by simp [hl],fun j o' B' hj hB=>?_⟩
  cases j with
  | zero =>
   obtain rfl:o=o':=by simpa using hj
   obtain rfl:B=B':=by simpa using hB
   refine ⟨by simpa using hback,fun i A hi hlt=>?_⟩
   have hlt':i<done.length:=by omega
   rw [s0] at hap
   have h1:=hap i (by simp [hlt'])
   rw [X0 hlt'] at hi
   simp only [hi,Option.all_some,Bool.or_eq_true] at h1
   rcases h1 with h1 | h1
   ·exact .inr fun E hc hdd=>J0g hg hsz hc hdd h1
   ·exact .inl h1
  | succ j =>
   obtain ⟨h1,h2⟩:=hr j o' B' (by simpa using hj) (by simpa using hB)
   refine ⟨fun e he hbb=>by have:=h1 e he hbb; omega,fun i A hi hlt=>h2 i A ?_ (by omega)⟩
   rwa [List.append_assoc,List.singleton_append]
theorem q1v {ops:Array Oper}{As:List Ann}(h:W7 ops.toList As [] []=true):ops.size=As.length∧h1b ops As:=by
 obtain ⟨h1,h2⟩:=F0n ops ops.toList As [] [] 0 h rfl rfl (fun j=>by simp) (fun i hi=>by omega) (fun i hi=>by simp at hi)
 refine ⟨by simpa using h1,fun j o B ho hB=>?_⟩
 obtain ⟨h3,h4⟩:=h2 j o B (by simpa using ho) hB
 exact ⟨fun e he hb=>by have:=h3 e he hb; omega,fun i A hi hlt=>h4 i A (by simpa using hi) (by omega)⟩
theorem J0s {p q:Nat→Bool}:∀ {l:List Nat},(∀ x,q x=true→p x=true)→(∃ x∈l,p x=true∧q x=false)→l.countP q<l.countP p
 | [],_,h=>by obtain ⟨x,hx,_⟩:=h; simp at hx
 | y :: l,hpq,h=>by
  have hle:∀ l:List Nat,l.countP q≤l.countP p:=fun l=>List.countP_mono_left fun x _ hx=>hpq x hx
  obtain ⟨x,hx,h1,h2⟩:=h
  rw [List.countP_cons,List.countP_cons]
  rcases List.mem_cons.1 hx with rfl | hx
  ·have:=hle l; simp only [h1,h2,if_true]; simp; omega
  ·have ih:=J0s (l:=l) hpq ⟨x,hx,h1,h2⟩
   have:q y=true→p y=true:=hpq y
   by_cases hq:q y=true
   ·simp only [hq,this hq,if_true]; omega
   ·simp only [hq]; split <;> simp_all <;> omega
theorem N0q {A:Ann}{t:Nat}(h:A.ws.lookup t≠none):t∈A.ws.map (·.1):=by
 have:∀ l:List (Nat×PV),l.lookup t≠none→t∈l.map (·.1):=by
  intro l; induction l with
  | nil=>simp
  | cons p l ih =>
   obtain ⟨s,u⟩:=p
   intro h
   rw [i0] at h
   by_cases e:t=s
   ·simp [e]
   ·have:(t == s)=false:=by simpa using e
    rw [this] at h
    simp only [R0,List.mem_cons]
    exact .inr (ih h)
 exact this _ h
theorem N0y {A:Ann}{t:Nat}(h:A.wb.lookup t≠none):t∈A.wb.map (·.1):=by
 have:∀ l:List (Nat×Blk),l.lookup t≠none→t∈l.map (·.1):=by
  intro l; induction l with
  | nil=>simp
  | cons p l ih =>
   obtain ⟨s,u⟩:=p
   intro h
   rw [i0] at h
   by_cases e:t=s
   ·simp [e]
   ·have:(t == s)=false:=by simpa using e
    rw [this] at h
    simp only [R0,List.mem_cons]
    exact .inr (ih h)
 exact this _ h
theorem O7 {α:Type}{l:List (Nat×α)}{ts:List Nat}(h:s7 l ts=false){t:Nat}(h1:t∈l.map (·.1)):t ∉ ts:=by
 intro h2
 unfold s7 at h
 rw [List.any_eq_false] at h
 obtain ⟨p,hp,rfl⟩:=G0.1 h1
 exact h p hp (by simpa using h2)
theorem h0p:∀ {l:List (Operand×PV)}{t:Nat}{v:PV},(Operand.tmp t,v)∈l→t∈U7 l
 | p :: l,t,v,h=>by
  rcases List.mem_cons.1 h with rfl | h
  ·simp [U7]
  ·have ih:=h0p h
   obtain ⟨x,u⟩:=p
   cases x <;> simp only [U7,List.mem_cons] <;> first | exact ih | exact .inr ih
theorem y0b {k:Nat}{E:Nat→Bool}:∀ (As:List Ann) (i:Nat) (S:St),(j4 S As i E).free k=true →
  ∀ j A,As[j]? = some A→E (i+j)=true→A.free k=true:=by
 have app1:∀ (l r:List (Nat×PV)),F3 k (l++r)=(F3 k l && F3 k r):=by
  intro l r; induction l with
  | nil=>simp [F3]
  | cons p l ih=>simp [F3,ih,Bool.and_assoc]
 have app2:∀ (l r:List (Nat×Blk)),X2 k (l++r)=(X2 k l && X2 k r):=by
  intro l r; induction l with
  | nil=>simp [X2]
  | cons p l ih=>simp [X2,ih,Bool.and_assoc]
 have base:∀ (As:List Ann) (i:Nat) (S:St),(j4 S As i E).free k=true→S.free k=true:=by
  intro As
  induction As with
  | nil=>intro i S h; exact h
  | cons A As ih =>
   intro i S h
   simp only [j4] at h
   have:=ih _ _ h
   split at this
   ·simp only [St.free,St.app,app1,app2,j0] at this ⊢
    exact ⟨this.1.2,this.2.2⟩
   ·exact this
 intro As
 induction As with
 | nil=>intro i S _ j A hj; simp at hj
 | cons B As ih =>
  intro i S h j A hj hE
  simp only [j4] at h
  cases j with
  | zero =>
   obtain rfl:B=A:=by simpa using hj
   rw [Nat.add_zero] at hE
   rw [hE,if_pos rfl] at h
   have:=base _ _ _ h
   simp only [St.free,St.app,app1,app2,j0] at this
   simp only [Ann.free,j0]
   exact ⟨this.1.1,this.2.1⟩
  | succ j=>exact ih (i+1) _ h j A (by simpa using hj) (by rwa [show i+1+j=i+(j+1) by omega])
theorem j1z {ops:Array Oper}{As:List Ann}(hsp:h1b ops As){S:St}{i:Nat}{o:Oper}{A:Ann}(ho:ops[i]? = some o)(hA:As[i]? = some A){E:Nat→Bool}
  (hn:∀ j,j<As.length→∃ o,ops[j]? = some o) (hc:m0r ops E) (hd:m1m o E) (hi:E i=false) (h:A.holds (j4 S As 0 (fun j=>decide (j<i)))) (hf:∀ k,A.fresh=some k→S.free k=true) :
  A.holds (j4 S As 0 E):=by
 have hlt:∀ j B,As[j]? = some B→j<As.length:=fun j B hj=>(i1.1 hj).1
 have key:∀ j B,As[j]? = some B→(w7 A B=false∨j≤i)→(w7 B A=false∨i≤j)→E (0+j)=decide (0+j<i):=by
  intro j B hj h1 h2
  rw [F1]
  obtain ⟨oj,hoj⟩:=hn j (hlt j B hj)
  by_cases hji:j<i
  ·have h3 := ((hsp i o A ho hA).2 j B hj hji).resolve_left (by
     rcases h2 with h2 | h2; · simp [h2]
     ·omega) E hc hd
   simp [h3,hji]
  ·by_cases he:j=i
   ·subst he; simp [hi]
   ·have h4 := ((hsp j oj B hoj hj).2 i A hA (by omega)).resolve_left (by
      rcases h1 with h1 | h1; · simp [h1]
      ·omega)
    simp only [hji,decide_false]
    cases hE:E j with
    | false=>rfl
    | true =>
     have:=h4 E hc (hc j oj hoj hE)
     rw [hi] at this
     cases this
 refine ⟨fun p hp=>?_,fun p hp=>?_,fun k hk=>?_⟩
 ·have h0:=h.rs p hp
  obtain ⟨x,v⟩:=p
  cases x with
  | tmp t =>
   simp only [St.opd] at h0 ⊢
   rw [← h0]
   refine b0v As 0 S S rfl fun j B hj hB=>key j B hj (.inl ?_) (.inl ?_)
   ·have:=h0p hp
    unfold w7
    cases hk:s7 B.ws (U7 A.rs) with
    | false=>exact absurd this (O7 hk (N0q hB))
    | true=>simp
   ·have:=h0p hp
    unfold w7
    cases hk:s7 B.ws (U7 A.rs) with
    | false=>exact absurd this (O7 hk (N0q hB))
    | true=>simp
  | const v=>exact h0
  | func f=>exact h0
  | global g=>exact h0
 ·have h0:=h.rb p hp
  rw [← h0]
  have hm:p.1∈A.rbk:=by simp only [Ann.rbk,List.mem_append]; exact .inr (G0.2 ⟨p,hp,rfl⟩)
  refine b0m As 0 S S rfl fun j B hj hB=>key j B hj (.inl ?_) (.inl ?_)
  all_goals
   unfold w7
   cases hk:s7 B.wb A.rbk with
   | false=>exact absurd hm (O7 hk (N0y hB))
   | true=>simp
 ·obtain ⟨h1,h2⟩:=h.fresh k hk
  refine ⟨?_,w0d As 0 S (hf k hk) fun j B hj hE=>?_⟩
  ·rw [← h1]
   have hm:k∈A.rbk:=by simp [Ann.rbk,hk]
   refine b0m As 0 S S rfl fun j B hj hB=>key j B hj (.inl ?_) (.inl ?_)
   all_goals
    unfold w7
    cases hk:s7 B.wb A.rbk with
    | false=>exact absurd hm (O7 hk (N0y hB))
    | true=>simp
  ·rw [F1] at hE
   cases hfr:B.free k with
   | true=>rfl
   | false =>
    have h3:w7 A B=false:=by unfold w7; simp [hk,hfr]
    have h4:w7 B A=false:=by unfold w7; simp [hk,hfr]
    have:=key j B hj (.inl h3) (.inl h4)
    rw [F1] at this
    rw [this] at hE
    have hE':j<i:=by simpa using hE
    have:=y0b As 0 S h2 j B hj (by simpa using hE')
    rw [hfr] at this
    cases this
theorem b1m {ops:Array Oper}{As:List Ann}(hsp:h1b ops As){S:St}{i:Nat}{o:Oper}{A:Ann}(ho:ops[i]? = some o)(hA:As[i]? = some A){E E':Nat→Bool}
  (hn:∀ j,j<As.length→∃ o,ops[j]? = some o) (hc:m0r ops E) (hi:E i=false) (hE':∀ j,E' j=(E j || j == i)) :
  (∀ t,(j4 S As 0 E').slot t=((j4 S As 0 E).app A).slot t)∧(∀ t,(j4 S As 0 E').blk t=((j4 S As 0 E).app A).blk t):=by
 have hlt:∀ j B,As[j]? = some B→j<As.length:=fun j B hj=>(i1.1 hj).1
 have later:∀ j B,As[j]? = some B→i<j→w7 A B=false→E j=false:=by
  intro j B hj hij hap
  obtain ⟨oj,hoj⟩:=hn j (hlt j B hj)
  cases hE:E j with
  | false=>rfl
  | true =>
   have:=((hsp j oj B hoj hj).2 i A hA hij).resolve_left (by simp [hap]) E hc (hc j oj hoj hE)
   rw [hi] at this
   cases this
 have slotL:∀ (t:Nat) (l:List Ann) (n:Nat) (S:St),(∀ j,l[j]? = As[n+j]?)→n≤i→(j4 S l n E').slot t=((j4 S l n E).app A).slot t:=by
  intro t l
  induction l with
  | nil=>intro n S hl hni; have:=hl (i - n); rw [show n+(i - n)=i by omega,hA] at this; simp at this
  | cons B l ih =>
   intro n S hl hni
   simp only [j4]
   by_cases hni':n=i
   ·subst hni'
    have hB:B=A:=by have:=hl 0; simp [hA] at this; exact this
    subst hB
    rw [hE',hi]
    simp only [BEq.rfl,Bool.or_true,if_true,Bool.false_eq_true,if_false]
    rw [St.app_slot]
    by_cases hw:B.ws.lookup t=none
    ·rw [hw,l0]
     refine b0v l (n+1) _ _ (by rw [St.app_slot,hw,l0]) fun j C hj hC=>?_
     rw [hE',show (n+1+j == n)=false by simp; omega,Bool.or_false]
    ·cases hwv:B.ws.lookup t with
     | none=>exact absurd hwv hw
     | some v =>
      have hno:∀ j C,l[j]? = some C→C.ws.lookup t≠none→E' (n+1+j)=(fun _=>false) (n+1+j):=by
       intro j C hj hC
       have hj':As[n+1+j]? = some C:=by have:=hl (j+1); simp only [List.getElem?_cons_succ] at this; rw [show n+1+j=n+(j+1) by omega,← this]; exact hj
       have:=later (n+1+j) C hj' (by omega) (by
        unfold w7
        cases hk:s7 B.ws (C.ws.map (·.1)) with
        | false=>exact absurd (N0q hC) (O7 hk (N0q hw))
        | true=>simp)
       rw [hE',this,show (n+1+j == n)=false by simp; omega]
       rfl
      rw [b0v (E':=fun _=>false) l (n+1) (S.app B) (S.app B) rfl hno]
      have nothing:∀ (l:List Ann) (m:Nat) (S:St),j4 S l m (fun _=>false)=S:=by
       intro l; induction l with
       | nil=>intro m S; rfl
       | cons C l ih=>intro m S; simp [j4,ih]
      rw [nothing,St.app_slot,hwv]
      rfl
   ·rw [show E' n=E n by rw [hE',show (n == i)=false by simpa using hni',Bool.or_false]]
    exact ih (n+1) _ (fun j=>by have:=hl (j+1); simp only [List.getElem?_cons_succ] at this; rw [this]; congr 1; omega) (by omega)
 have blkL:∀ (t:Nat) (l:List Ann) (n:Nat) (S:St),(∀ j,l[j]? = As[n+j]?)→n≤i→(j4 S l n E').blk t=((j4 S l n E).app A).blk t:=by
  intro t l
  induction l with
  | nil=>intro n S hl hni; have:=hl (i - n); rw [show n+(i - n)=i by omega,hA] at this; simp at this
  | cons B l ih =>
   intro n S hl hni
   simp only [j4]
   by_cases hni':n=i
   ·subst hni'
    have hB:B=A:=by have:=hl 0; simp [hA] at this; exact this
    subst hB
    rw [hE',hi]
    simp only [BEq.rfl,Bool.or_true,if_true,Bool.false_eq_true,if_false]
    rw [St.app_blk]
    by_cases hw:B.wb.lookup t=none
    ·rw [hw,l0]
     refine b0m l (n+1) _ _ (by rw [St.app_blk,hw,l0]) fun j C hj hC=>?_
     rw [hE',show (n+1+j == n)=false by simp; omega,Bool.or_false]
    ·cases hwv:B.wb.lookup t with
     | none=>exact absurd hwv hw
     | some v =>
      have hno:∀ j C,l[j]? = some C→C.wb.lookup t≠none→E' (n+1+j)=(fun _=>false) (n+1+j):=by
       intro j C hj hC
       have hj':As[n+1+j]? = some C:=by have:=hl (j+1); simp only [List.getElem?_cons_succ] at this; rw [show n+1+j=n+(j+1) by omega,← this]; exact hj
       have:=later (n+1+j) C hj' (by omega) (by
        unfold w7
        cases hk:s7 B.wb (C.wb.map (·.1)) with
        | false=>exact absurd (N0y hC) (O7 hk (N0y hw))
        | true=>simp)
       rw [hE',this,show (n+1+j == n)=false by simp; omega]
       rfl
      rw [b0m (E':=fun _=>false) l (n+1) (S.app B) (S.app B) rfl hno]
      have nothing:∀ (l:List Ann) (m:Nat) (S:St),j4 S l m (fun _=>false)=S:=by
       intro l; induction l with
       | nil=>intro m S; rfl
       | cons C l ih=>intro m S; simp [j4,ih]
      rw [nothing,St.app_blk,hwv]
      rfl
   ·rw [show E' n=E n by rw [hE',show (n == i)=false by simpa using hni',Bool.or_false]]
    exact ih (n+1) _ (fun j=>by have:=hl (j+1); simp only [List.getElem?_cons_succ] at this; rw [this]; congr 1; omega) (by omega)
 exact ⟨fun t=>slotL t As 0 S (fun j=>by simp) (by omega),fun t=>blkL t As 0 S (fun j=>by simp) (by omega)⟩
theorem M0x {E E':Nat→Bool}(S:St):∀ (As:List Ann) (i:Nat),(∀ j,j<As.length→E (i+j)=E' (i+j))→j4 S As i E=j4 S As i E':=by
 intro As
 induction As generalizing S with
 | nil=>intros; rfl
 | cons A As ih =>
  intro i h
  simp only [j4]
  rw [show E i=E' i by simpa using h 0 (by simp)]
  exact ih _ (i+1) fun j hj=>by have:=h (j+1) (by simp; omega); rwa [show i+1+j=i+(j+1) by omega]
def d0h:List Oper→Bool
 | []=>true
 | o :: os=>(match o.op with | .defer _=>false | _=>true) && d0h os
theorem k0f:∀ {os:List Oper},d0h os=true→∀ o∈os,∀ c,o.op≠.defer c
 | [],_,o,h,_=>by cases h
 | p :: os,hn,o,h,c=>by
  simp only [d0h,j0] at hn
  rcases List.mem_cons.1 h with rfl | h
  ·intro e
   have h1:=hn.1
   rw [e] at h1
   cases h1
  ·exact k0f hn.2 o h c
theorem j1h {F:Fr}{n:Nat}{P:Program}{row:String}{args:Array Value}{w:World}{R:Value→World→Prop}(h:Rows P row args w R):RowsIn (fen F) n P row args w R :=
 fun c cs _=>let ⟨v,w',r,s⟩:=h c cs; ⟨v,w',r,stepsIn_wide.2 s⟩
theorem Q1x {P:Program}{F:Fr}{o:Oper}{a:Act}{w:World}{K:Act→World→Prop}{Q:Exit→Act→World→Prop}(hd:∀ c,o.op≠.defer c)(h:o.wp P a w K Q)(n:Nat):o.wpIn (fen F) n P a w K Q:=by
 refine ⟨fun _ _=>trivial,?_⟩
 rw [Oper.semAt_eq _ _ _ hd]
 unfold Oper.wp at h
 generalize (execOp a.eval o).run P w=r at *
 cases r with
 | ok x w' =>
  cases x <;> simp only [Oper.upon,Oper.uponIn] at h ⊢ <;>
   first
    | exact h
    | exact ⟨fun hh=>absurd hh (by simp [Fence.wide]),callsIn_wide.2 h⟩
    | exact ⟨fun hh=>absurd hh (by simp [Fence.wide]),j1h h⟩
 | halt x w'=>cases x <;> simp only [Oper.upon,Oper.uponIn] at h ⊢ <;> exact h
theorem M0j {P:Program}{F:Fr}{ops:Array Oper}{o:Oper}{i n:Nat}{a:Act}{w:World}{K:Act→World→Prop}{Q:Exit→Act→World→Prop}(ho:ops[i]? = some o)(hd:∀ c,o.op≠.defer c)
  (h:if Region.wanted o (yielded ops a.tmps) then o.wp P a w K Q∨(∀ n,o.wpIn (fen F) n P a w K Q) else K (a.put o.dst undef) w):wpOpIn (fen F) n P ops Q i K a w:=by
 unfold wpOpIn
 rw [ho]
 simp only
 split
 ·rename_i hw
  rw [if_pos hw] at h
  rcases h with h | h
  ·exact Q1x hd h n
  ·exact h n
 ·rename_i hw
  rw [if_neg hw] at h
  exact ⟨fun _ _=>trivial,h⟩
theorem j1g {P:Program}{F:Fr}{ops:Array Oper}{As:List Ann}{S:St}{Q:Exit→Act→World→Prop}(hlen:ops.size=As.length)(hsp:h1b ops As)
  (hok:∀ (i:Nat) (o:Oper) (A:Ann),ops[i]? = some o→As[i]? = some A→k1r P F ops o A)
  (hh:∀ (i:Nat) (A:Ann),As[i]? = some A→A.holds (j4 S As 0 (fun j=>decide (j<i)))) (hfr:∀ (i:Nat) (A:Ann),As[i]? = some A→∀ k,A.fresh=some k→S.free k=true)
  (hQ:∀ a w,Sat F (j4 S As 0 (fun _=>true)) a w→Q .normal a w) (hnd:∀ o∈ops.toList,∀ c,o.op≠.defer c) (n:Nat) :
  ∀ (fuel:Nat) (listed:Array Bool) (a:Act) (w:World),listed.size=ops.size→m0r ops (fun i=>listed.getD i true) →
   (List.range ops.size).countP (fun i=>!listed.getD i true)≤fuel→Sat F (j4 S As 0 (fun i=>listed.getD i true)) a w→wpAnyIn (fen F) n P .any ops Q fuel listed a w:=by
 have hn:∀ j,j<As.length→∃ o,ops[j]? = some o:=fun j hj=>⟨ops[j]'(by omega),by simp [Array.getElem?_eq_getElem (show j<ops.size by omega)]⟩
 have hgd:∀ (listed:Array Bool) (i:Nat),listed.size=ops.size→i<ops.size→listed.getD i false=listed.getD i true:=by
  intro listed i h1 h2
  simp only [Array.getD_eq_getD_getElem?,Array.getElem?_eq_getElem (show i<listed.size by omega),Option.getD_some]
 have stuck:∀ (listed:Array Bool),listed.size=ops.size→Region.ready .any ops listed=[]→∀ i,i<ops.size→listed.getD i true=true:=by
  intro listed hs hr i
  induction i using Nat.strongRecOn with
  | _ i ih =>
   intro hi
   cases hl:listed.getD i true with
   | true=>rfl
   | false =>
    exfalso
    have:i∈Region.ready .any ops listed:=by
     rw [mem_ready]
     refine ⟨hl,ops[i],by simp [hi],fun e he hb=>?_⟩
     obtain ⟨A,hA⟩:∃ A,As[i]? = some A:=⟨As[i]'(by omega),by simp⟩
     have hlt:=(hsp i ops[i] A (by simp [hi]) hA).1 e he hb
     rw [hgd listed _ hs (by omega)]
     exact ih e.on hlt (by omega)
    rw [hr] at this
    cases this
 have fin:∀ (listed:Array Bool) (a:Act) (w:World),listed.size=ops.size→Region.ready .any ops listed=[]→Sat F (j4 S As 0 (fun i=>listed.getD i true)) a w→Q .normal a w:=by
  intro listed a w hs hr h
  refine hQ a w ?_
  rw [M0x (E':=fun i=>listed.getD i true) S As 0 fun j hj=>by
   rw [F1]; exact (stuck listed hs hr j (by omega)).symm]
  exact h
 intro fuel
 induction fuel with
 | zero =>
  intro listed a w hs hc hcnt h
  have hr:Region.ready .any ops listed=[]:=by
   rw [List.eq_nil_iff_forall_not_mem]
   intro i hi
   obtain ⟨h1,o,ho,_⟩:=mem_ready.1 hi
   have hlt:i<ops.size:=(Array.getElem?_eq_some_iff.1 ho).1
   have:0<(List.range ops.size).countP (fun i=>!listed.getD i true):=List.countP_pos_iff.2 ⟨i,by simpa using hlt,by simp [h1]⟩
   omega
  exact ⟨hr,fin listed a w hs hr h⟩
 | succ fuel ih =>
  intro listed a w hs hc hcnt h
  refine ⟨fun hr=>fin listed a w hs hr h,fun i hi=>?_⟩
  obtain ⟨h1,o,ho,hd⟩:=mem_ready.1 hi
  have hlt:i<ops.size:=(Array.getElem?_eq_some_iff.1 ho).1
  obtain ⟨A,hA⟩:∃ A,As[i]? = some A:=⟨As[i]'(by omega),by simp⟩
  have hdd:m1m o (fun i=>listed.getD i true):=fun e he hb=>by
   have:=hd e he hb
   have hlt':=(hsp i o A ho hA).1 e he hb
   rwa [hgd listed _ hs (by omega)] at this
  have hhold:=j1z hsp ho hA hn hc hdd h1 (hh i A hA) (hfr i A hA)
  have hE':∀ j,(listed.setIfInBounds i true).getD j true=(listed.getD j true || j == i):=by
   intro j
   by_cases hji:i=j
   ·subst hji
    simp only [BEq.rfl,Bool.or_true]
    rw [Array.getD_eq_getD_getElem?,Array.getElem?_setIfInBounds_self]
    split <;> rfl
   ·rw [getD_set_ne true hji,show (j == i)=false by simp; omega,Bool.or_false]
  have hput:=b1m hsp (S:=S) ho hA hn hc h1 hE'
  have:=hok i o A ho hA (j4 S As 0 (fun i=>listed.getD i true)) a w h hhold Q (wpAnyIn (fen F) n P .any ops Q fuel (listed.setIfInBounds i true)) fun a' w' h'=>by
   refine ih (listed.setIfInBounds i true) a' w' (by simpa using hs) ?_ ?_ ?_
   ·intro j oj hoj hj e he hb
    simp only [hE'] at hj ⊢
    by_cases hji:j=i
    ·subst hji
     rw [ho] at hoj
     injection hoj with hoj
     subst hoj
     have:=hdd e he hb
     simp only at this
     rw [this]
     rfl
    ·rw [show (j == i)=false by simpa using hji,Bool.or_false] at hj
     have:=hc j oj hoj hj e he hb
     simp only at this
     rw [this]
     rfl
   ·have := J0s (p := fun i => !listed.getD i true) (q := fun j => !(listed.setIfInBounds i true).getD j true) (l := List.range ops.size)
     (fun x hx=>by rw [hE'] at hx; simp only [Bool.not_or,j0] at hx; exact hx.1) ⟨i,by simpa using hlt,by simp [h1],by rw [hE']; simp⟩
    omega
   ·exact Sat.congr h' (fun t=>hput.1 t) (fun t=>hput.2 t)
  exact M0j ho (hnd o (M1 (by rw [Array.getElem?_toList]; exact ho))) this
end Go.Proofs.YtjagfionflbjbaaGreat.SH
namespace Go.Proofs.YtjagfionflbjbaaGreat.SH
open Go
theorem p0w {F:Fr}{β β':Nat→Option Blk}{ρ ρ':Nat→Nat}(h:∀ k,β' k≠none→β k≠none∧ρ' k=ρ k){b:Nat}(hb:okI F β ρ b):okI F β' ρ' b :=
 ⟨hb.1,fun k hk=>by rw [(h k hk).2]; exact hb.2 k (h k hk).1⟩
theorem b5.upd {F:Fr}{ρ ρ':Nat→Nat}{S S':St}{a a':Act}{w w':World}{Kp:Nat→Prop}(h:b5 F ρ S a w)(hfr:B0d F w')(hnt:a'.tmps.size=F.nt)(hdf:a'.defers=a.defers)
  (hc:Carry (okI F S.blk ρ) (okI F S'.blk ρ') (hp w) (hp w')) (hk:b0q Kp S.blk S'.blk ρ ρ' (hp w) (hp w'))
  (hinj:∀ k k',S'.blk k≠none→S'.blk k'≠none→ρ' k=ρ' k'→k=k')
  (hpin:∀ j b n,F.pin j=some (b,n)→S'.blk j≠none→S.blk j≠none∧ρ' j=ρ j∧∀ c T,hp w (ρ j)=some (.cells c T (0,0))→∃ c' T',hp w' (ρ j)=some (.cells c' T' (0,0))∧c'.size=c.size)
  (hs:∀ t v,S'.slot t=some v→(S.slot t=some v∧a'.tmps[t]? = a.tmps[t]?∧∀ k,v.free k=false→Kp k)∨∃ u,a'.tmps[t]? = some u∧K2 S'.blk ρ' (okI F S'.blk ρ') (hp w') v u)
  (hb:∀ k B,S'.blk k=some B→(S.blk k=some B∧ρ' k=ρ k∧hp w' (ρ k)=hp w (ρ k)∧∀ i x,B.cs.get i=some x→∀ j,x.free j=false→Kp j) ∨
   ∃ c,hp w' (ρ' k)=some (.cells c B.T (0,0))∧((F.X (ρ' k)∧F.lo k=false)∨F.w0.heap.size≤ρ' k)∧B.cs.len≤c.size∧∀ i x,B.cs.get i=some x→∃ u,c[i]? = some u∧u.oneCell'=true∧K2 S'.blk ρ' (okI F S'.blk ρ') (hp w') x u) :
  b5 F ρ' S' a' w' where
 slots t v ht:=by
  rcases hs t v ht with ⟨h1,h2,h3⟩ | h
  ·obtain ⟨u,hu,hr⟩:=h.slots t v h1
   exact ⟨u,by rw [h2]; exact hu,K2.mono hc hk v u h3 hr⟩
  ·exact h
 blks k B hB:=by
  rcases hb k B hB with ⟨h1,h2,h3,h4⟩ | h
  ·obtain ⟨c,e1,e2,e3,e4⟩:=h.blks k B h1
   refine ⟨c,by rw [h2,h3]; exact e1,by rw [h2]; exact e2,e3,fun i x hx=>?_⟩
   obtain ⟨u,hu,h1c,hr⟩:=e4 i x hx
   exact ⟨u,hu,h1c,K2.mono hc hk x u (h4 i x hx) hr⟩
  ·exact h
 inj:=hinj
 frame:=hfr
 nt:=hnt
 df:=by
  obtain ⟨Ds,h1,h2,h3⟩:=h.df
  refine ⟨Ds,by rw [hdf,h1],h2,fun D hD=>?_⟩
  obtain ⟨h4,h5⟩:=h3 D hD
  refine ⟨h4,((hc D ⟨.inr h4,fun k hk e=>?_⟩ (by show w.heap[D]?≠none; rw [h5]; simp)).2).trans h5⟩
  obtain ⟨B,hB⟩:=j1.1 hk
  obtain ⟨c,e1,_⟩:=h.blks k B hB
  have:hp w D=some (.deferred (some [])):=h5
  rw [← e,this] at e1; cases e1
 pin j b n hj hS':=by
  obtain ⟨h1,h2,h3⟩:=hpin j b n hj hS'
  obtain ⟨h4,c,T,h5,h6⟩:=h.pin j b n hj h1
  subst h4
  obtain ⟨c',T',h7,h8⟩:=h3 c T h5
  exact ⟨h2,c',T',h7,by omega⟩
theorem Sat.weak {F:Fr}{S S':St}{a:Act}{w:World}(h:Sat F S a w)(hs:∀ t v,S'.slot t=some v→S.slot t=some v)(hb:∀ k B,S'.blk k=some B→S.blk k=some B):Sat F S' a w:=by
 obtain ⟨ρ,h⟩:=h
 have hne:∀ k,S'.blk k≠none→S.blk k≠none∧ρ k=ρ k:=fun k hk=>by
  cases hB:S'.blk k with
  | none=>exact absurd hB hk
  | some B=>exact ⟨by rw [hb k B hB]; simp,rfl⟩
 refine ⟨ρ,h.upd (Kp:=fun _=>True) h.frame h.nt rfl (fun b hb' _=>⟨p0w hne hb',rfl⟩) (fun k _ B' hB'=>⟨B',hb k B' hB',rfl,Nat.le_refl _,fun _=>⟨rfl,fun c T fr hc=>⟨c,T,fr,hc,rfl⟩⟩⟩)
  (fun k k' h1 h2 h3=>h.inj k k' (hne k h1).1 (hne k' h2).1 h3) (fun j _ _ _ hj=>⟨(hne j hj).1,rfl,fun c T hc=>⟨c,T,hc,rfl⟩⟩) (fun t v ht=>.inl ⟨hs t v ht,rfl,fun _ _=>trivial⟩) (fun k B hB=>.inl ⟨hb k B hB,rfl,rfl,fun _ _ _ _ _=>trivial⟩)⟩
def O2 (P:Program)(F:Fr)(o:Oper)(A:Ann):Prop :=
 ∀ S a w,Sat F S a w→A.holds S→∀ (Q:Exit→Act→World→Prop) (K:Act→World→Prop),(∀ a' w',Sat F (S.app A) a' w'→K a' w')→o.wp P a w K Q
theorem C7 {P:Program}{F:Fr}{ops:Array Oper}{o:Oper}{A:Ann}(hg:o.guard=none)(h:O2 P F o A):k1r P F ops o A:=by
 intro S a w hS hA Q K hK
 have:Region.wanted o (yielded ops a.tmps)=true:=by simp [Region.wanted,hg]
 rw [if_pos this]
 exact .inl (h S a w hS hA Q K hK)
theorem b0w {a:Act}{d:Nat}{u:Value}(h:d<a.tmps.size)(t:Nat):(a.put (some d) u).tmps[t]? = if t=d then some u else a.tmps[t]?:=by
 simp only [Act.put,Array.getElem?_setIfInBounds]
 by_cases e:d=t
 ·subst e; simp [h]
 ·rw [if_neg e,if_neg (Ne.symm e)]
theorem Z4 {F:Fr}{ρ:Nat→Nat}{S:St}{a:Act}{w:World}(h:b5 F ρ S a w){x:Operand}{v:PV}(hx:S.opd x=some v):K2 S.blk ρ (okI F S.blk ρ) (hp w) v (a.eval x):=by
 cases x with
 | tmp t =>
  obtain ⟨u,hu,hr⟩:=h.slots t v hx
  simp only [Act.eval,Array.getD_eq_getD_getElem?,hu,Option.getD_some]
  exact hr
 | const c =>
  simp only [St.opd,U0] at hx
  subst hx
  simp [K2,Rel,Act.eval]
 | func f =>
  simp only [St.opd,U0] at hx
  subst hx
  simp only [K2,D3,Act.eval]
  exact ⟨[],[],rfl,rfl,rfl⟩
 | global g=>simp [St.opd] at hx
theorem p0r {F:Fr}{ρ:Nat→Nat}{S:St}{a:Act}{w:World}(h:b5 F ρ S a w){d:Nat}{v:PV}{u:Value}(hlt:d<F.nt)(hv:K2 S.blk ρ (okI F S.blk ρ) (hp w) v u) :
  b5 F ρ ⟨(d,v) :: S.sl,S.hb⟩ (a.put (some d) u) w:=by
 refine h.upd (Kp:=fun _=>True) h.frame (by simp [Act.put,h.nt]) rfl (fun b hb _=>⟨hb,rfl⟩) (fun k _ B hB=>⟨B,hB,rfl,Nat.le_refl _,fun _=>⟨rfl,fun c T fr hc=>⟨c,T,fr,hc,rfl⟩⟩⟩) h.inj (fun j _ _ _ hj=>⟨hj,rfl,fun c T hc=>⟨c,T,hc,rfl⟩⟩) ?_
  (fun k B hB=>.inl ⟨hB,rfl,rfl,fun _ _ _ _ _=>trivial⟩)
 intro t x hx
 rw [b0w (by rw [h.nt]; exact hlt)]
 simp only [St.slot,i0] at hx
 by_cases e:t=d
 ·subst e
  simp only [BEq.rfl,U0] at hx
  subst hx
  exact .inr ⟨u,by simp,hv⟩
 ·rw [show (t == d)=false by simpa using e] at hx
  exact .inl ⟨hx,by rw [if_neg e],fun _ _=>trivial⟩
theorem B4 {P:Program}{F:Fr}{o:Oper}{A:Ann}{d:Nat}{v:PV}(hd:o.dst=some d)(hlt:d<F.nt)(hws:A.ws=[(d,v)])(hwb:A.wb=[])
  (hrun:∀ ρ S a w,b5 F ρ S a w→A.holds S→∃ u,(execOp a.eval o).run P w = .ok (.value u) w∧K2 S.blk ρ (okI F S.blk ρ) (hp w) v u):O2 P F o A:=by
 intro S a w ⟨ρ,hS⟩ hA Q K hK
 obtain ⟨u,hu,hr⟩:=hrun ρ S a w hS hA
 unfold Oper.wp
 rw [hu]
 simp only [Oper.upon]
 refine hK _ _ ⟨ρ,?_⟩
 have:S.app A=⟨(d,v) :: S.sl,S.hb⟩:=by simp [St.app,hws,hwb]
 rw [this,hd]
 exact p0r hS hlt hr
section
variable {P:Program} {F:Fr} {d:Nat} {T:TypeId} {pos:String} {aft:Array Edge} {g:Option (Nat×Bool)}
theorem c_m {x:Operand}{v:PV}(hlt:d<F.nt):O2 P F ⟨some d,.move x,T,pos,aft,g⟩ { rs:=[(x,v)],ws:=[(d,v)] } :=
 B4 rfl hlt rfl rfl fun _ _ a _ h hA=>⟨a.eval x,by simp [execOp],Z4 h (hA.rs (x,v) (by simp))⟩
theorem c_a {x:Operand}{v:PV}(hlt:d<F.nt):O2 P F ⟨some d,.assign x,T,pos,aft,g⟩ { rs:=[(x,v)],ws:=[(d,v)] } :=
 B4 rfl hlt rfl rfl fun _ _ a _ h hA=>⟨a.eval x,by simp [execOp],Z4 h (hA.rs (x,v) (by simp))⟩
theorem M4 {ρ:Nat→Nat}{S:St}{a:Act}{w:World}(h:b5 F ρ S a w){x:Operand}{v:Value}(hx:S.opd x=some (.p (.a v))):a.eval x=v:=by
 have:=Z4 h hx
 simpa [K2,Rel] using this
theorem m4 {c x y:Operand}{v:PV}{b:Bool}(hb:b=true)(hlt:d<F.nt):O2 P F ⟨some d,.pick c x y,T,pos,aft,g⟩ { rs:=[(c,.p (.a (.bool b))),(x,v)],ws:=[(d,v)] } :=
 B4 rfl hlt rfl rfl fun _ _ a _ h hA=>⟨a.eval x,by
  have:=M4 h (v:=.bool b) (hA.rs (c,_) (by simp))
  subst hb
  simp [execOp,this,asBool],Z4 h (hA.rs (x,v) (by simp))⟩
theorem V3 {c x y:Operand}{v:PV}{b:Bool}(hb:b=false)(hlt:d<F.nt):O2 P F ⟨some d,.pick c x y,T,pos,aft,g⟩ { rs:=[(c,.p (.a (.bool b))),(y,v)],ws:=[(d,v)] } :=
 B4 rfl hlt rfl rfl fun _ _ a _ h hA=>⟨a.eval y,by
  have:=M4 h (v:=.bool b) (hA.rs (c,_) (by simp))
  subst hb
  simp [execOp,this,asBool],Z4 h (hA.rs (y,v) (by simp))⟩
theorem b0g {op:Op}{x:Operand}{u r:Value}(hlt:d<F.nt)(hr:∀ (e:Operand→Value) w,e x=u→(execOp e ⟨some d,op,T,pos,aft,g⟩).run P w = .ok (.value r) w) :
  O2 P F ⟨some d,op,T,pos,aft,g⟩ { rs:=[(x,.p (.a u))],ws:=[(d,.p (.a r))] } :=
 B4 rfl hlt rfl rfl fun _ _ a w h hA=>⟨r,hr a.eval w (M4 h (hA.rs (x,_) (by simp))),by simp [K2,Rel]⟩
theorem D4 {op:Op}{x y:Operand}{u v r:Value}(hlt:d<F.nt)(hr:∀ (e:Operand→Value) w,e x=u→e y=v→(execOp e ⟨some d,op,T,pos,aft,g⟩).run P w = .ok (.value r) w) :
  O2 P F ⟨some d,op,T,pos,aft,g⟩ { rs:=[(x,.p (.a u)),(y,.p (.a v))],ws:=[(d,.p (.a r))] } :=
 B4 rfl hlt rfl rfl fun _ _ a w h hA=>⟨r,hr a.eval w (M4 h (hA.rs (x,_) (by simp))) (M4 h (hA.rs (y,_) (by simp))),by simp [K2,Rel]⟩
section
variable {x y:Operand} {xT yT:TypeId} {k:IntKind} {m n r:Int}
theorem K3 (hlt:d<F.nt)(hr:k.wrap (m+n)=r):O2 P F ⟨some d,.binOp .add xT x y yT,T,pos,aft,g⟩ { rs:=[(x,.p (.a (.int k m))),(y,.p (.a (.int k n)))],ws:=[(d,.p (.a (.int k r)))] } :=
 D4 hlt fun e w h1 h2=>by simp [execOp,h1,h2,binOp,eqGuard,Op.intArith,hr]
theorem q6 (hlt:d<F.nt)(hr:k.wrap (m - n)=r):O2 P F ⟨some d,.binOp .sub xT x y yT,T,pos,aft,g⟩ { rs:=[(x,.p (.a (.int k m))),(y,.p (.a (.int k n)))],ws:=[(d,.p (.a (.int k r)))] } :=
 D4 hlt fun e w h1 h2=>by simp [execOp,h1,h2,binOp,eqGuard,Op.intArith,hr]
theorem Q0c (hlt:d<F.nt)(hr:k.wrap (m*n)=r):O2 P F ⟨some d,.binOp .mul xT x y yT,T,pos,aft,g⟩ { rs:=[(x,.p (.a (.int k m))),(y,.p (.a (.int k n)))],ws:=[(d,.p (.a (.int k r)))] } :=
 D4 hlt fun e w h1 h2=>by simp [execOp,h1,h2,binOp,eqGuard,Op.intArith,hr]
theorem c_q (hlt:d<F.nt)(hn:n≠0)(hr:k.wrap (m.tdiv n)=r):O2 P F ⟨some d,.binOp .quo xT x y yT,T,pos,aft,g⟩ { rs:=[(x,.p (.a (.int k m))),(y,.p (.a (.int k n)))],ws:=[(d,.p (.a (.int k r)))] } :=
 D4 hlt fun e w h1 h2=>by simp [execOp,h1,h2,binOp,eqGuard,Op.intDiv,hn,hr]
theorem c_r (hlt:d<F.nt)(hn:n≠0)(hr:m.tmod n=r):O2 P F ⟨some d,.binOp .rem xT x y yT,T,pos,aft,g⟩ { rs:=[(x,.p (.a (.int k m))),(y,.p (.a (.int k n)))],ws:=[(d,.p (.a (.int k r)))] } :=
 D4 hlt fun e w h1 h2=>by simp [execOp,h1,h2,binOp,eqGuard,Op.intDiv,hn,hr]
theorem c_e (hlt:d<F.nt):O2 P F ⟨some d,.binOp .eql xT x y yT,T,pos,aft,g⟩ { rs:=[(x,.p (.a (.int k m))),(y,.p (.a (.int k n)))],ws:=[(d,.p (.a (.bool (decide (m=n)))))] } :=
 D4 hlt fun e w h1 h2=>by simp [execOp,h1,h2,binOp,eqGuard,Op.intCmp,BEq.beq]
theorem c_n (hlt:d<F.nt):O2 P F ⟨some d,.binOp .neq xT x y yT,T,pos,aft,g⟩ { rs:=[(x,.p (.a (.int k m))),(y,.p (.a (.int k n)))],ws:=[(d,.p (.a (.bool (!decide (m=n)))))] } :=
 D4 hlt fun e w h1 h2=>by simp [execOp,h1,h2,binOp,eqGuard,Op.intCmp,bne,BEq.beq]
theorem d4 (hlt:d<F.nt):O2 P F ⟨some d,.binOp .lss xT x y yT,T,pos,aft,g⟩ { rs:=[(x,.p (.a (.int k m))),(y,.p (.a (.int k n)))],ws:=[(d,.p (.a (.bool (decide (m<n)))))] } :=
 D4 hlt fun e w h1 h2=>by simp [execOp,h1,h2,binOp,eqGuard,Op.intCmp]
theorem P1m (hlt:d<F.nt):O2 P F ⟨some d,.binOp .leq xT x y yT,T,pos,aft,g⟩ { rs:=[(x,.p (.a (.int k m))),(y,.p (.a (.int k n)))],ws:=[(d,.p (.a (.bool (decide (m≤n)))))] } :=
 D4 hlt fun e w h1 h2=>by simp [execOp,h1,h2,binOp,eqGuard,Op.intCmp]
theorem X6 (hlt:d<F.nt):O2 P F ⟨some d,.binOp .gtr xT x y yT,T,pos,aft,g⟩ { rs:=[(x,.p (.a (.int k m))),(y,.p (.a (.int k n)))],ws:=[(d,.p (.a (.bool (decide (n<m)))))] } :=
 D4 hlt fun e w h1 h2=>by simp [execOp,h1,h2,binOp,eqGuard,Op.intCmp]
theorem b0p (hlt:d<F.nt):O2 P F ⟨some d,.binOp .geq xT x y yT,T,pos,aft,g⟩ { rs:=[(x,.p (.a (.int k m))),(y,.p (.a (.int k n)))],ws:=[(d,.p (.a (.bool (decide (n≤m)))))] } :=
 D4 hlt fun e w h1 h2=>by simp [execOp,h1,h2,binOp,eqGuard,Op.intCmp]
theorem D1p (hlt:d<F.nt)(hr:k.wrap (BitVec.ofInt k.bits m &&& BitVec.ofInt k.bits n).toNat=r):O2 P F ⟨some d,.binOp .and xT x y yT,T,pos,aft,g⟩ { rs:=[(x,.p (.a (.int k m))),(y,.p (.a (.int k n)))],ws:=[(d,.p (.a (.int k r)))] } :=
 D4 hlt fun e w h1 h2=>by simp only [execOp,h1,h2,binOp,eqGuard,Op.intBits]; simp [← hr]
theorem q0q (hlt:d<F.nt)(hr:k.wrap (BitVec.ofInt k.bits m ||| BitVec.ofInt k.bits n).toNat=r):O2 P F ⟨some d,.binOp .or xT x y yT,T,pos,aft,g⟩ { rs:=[(x,.p (.a (.int k m))),(y,.p (.a (.int k n)))],ws:=[(d,.p (.a (.int k r)))] } :=
 D4 hlt fun e w h1 h2=>by simp only [execOp,h1,h2,binOp,eqGuard,Op.intBits]; simp [← hr]
theorem w0z {j:IntKind}(hlt:d<F.nt)(hn:0≤n)(hr:k.wrap (m*2 ^ (min n.toNat k.bits))=r):O2 P F ⟨some d,.binOp .shl xT x y yT,T,pos,aft,g⟩ { rs:=[(x,.p (.a (.int k m))),(y,.p (.a (.int j n)))],ws:=[(d,.p (.a (.int k r)))] } :=
 D4 hlt fun e w h1 h2=>by
  have:¬ n<0:=by omega
  simp [execOp,h1,h2,binOp,eqGuard,Op.shift,this,hr]
theorem v9 {j:IntKind}(hlt:d<F.nt)(hn:0≤n)(hr:m.fdiv (2 ^ (min n.toNat k.bits))=r):O2 P F ⟨some d,.binOp .shr xT x y yT,T,pos,aft,g⟩ { rs:=[(x,.p (.a (.int k m))),(y,.p (.a (.int j n)))],ws:=[(d,.p (.a (.int k r)))] } :=
 D4 hlt fun e w h1 h2=>by
  have:¬ n<0:=by omega
  simp [execOp,h1,h2,binOp,eqGuard,Op.shift,this,hr]
theorem N1w {b c:Bool}(hu:P.underlying xT=some .bool)(hlt:d<F.nt):O2 P F ⟨some d,.binOp .eql xT x y yT,T,pos,aft,g⟩ { rs:=[(x,.p (.a (.bool b))),(y,.p (.a (.bool c)))],ws:=[(d,.p (.a (.bool (b == c))))] } :=
 D4 hlt fun e w h1 h2=>by simp [execOp,h1,h2,eqGuard,run_eql_bool w xT b c hu]
theorem v0h {b c:Bool}(hu:P.underlying xT=some .bool)(hlt:d<F.nt):O2 P F ⟨some d,.binOp .neq xT x y yT,T,pos,aft,g⟩ { rs:=[(x,.p (.a (.bool b))),(y,.p (.a (.bool c)))],ws:=[(d,.p (.a (.bool (b != c))))] } :=
 D4 hlt fun e w h1 h2=>by simp [execOp,h1,h2,eqGuard,run_neq_bool w xT b c hu,bne]
theorem P3 {b:Bool}(hlt:d<F.nt):O2 P F ⟨some d,.unOp .not xT x,T,pos,aft,g⟩ { rs:=[(x,.p (.a (.bool b)))],ws:=[(d,.p (.a (.bool (!b))))] } :=
 b0g hlt fun e w h1=>by simp [execOp,h1,Op.unary]
theorem j1n (hlt:d<F.nt)(hr:k.wrap (0 - m)=r):O2 P F ⟨some d,.unOp .neg xT x,T,pos,aft,g⟩ { rs:=[(x,.p (.a (.int k m)))],ws:=[(d,.p (.a (.int k r)))] } :=
 b0g hlt fun e w h1=>by simp only [execOp,h1,Op.unary,Op.intArith]; simp [← hr]
theorem y4 {src dst:TypeId}{j:IntKind}{sd:TypeDesc}(hs:P.underlying src=some sd)(hd:P.underlying dst=some (.int j))(hlt:d<F.nt)(hr:j.wrap m=r):O2 P F ⟨some d,.convert src dst x,T,pos,aft,g⟩ { rs:=[(x,.p (.a (.int k m)))],ws:=[(d,.p (.a (.int j r)))] } :=
 b0g hlt fun e w h1=>by simp [execOp,h1,convert,run_underlying hs,run_underlying hd,Conv.intToInt,hr]
end
end
end Go.Proofs.YtjagfionflbjbaaGreat.SH
namespace Go.Proofs.YtjagfionflbjbaaGreat.SH
open Go
inductive k0z:List PV→List J2→Prop
 | nil:k0z [] []
 | cons {x:J2} {vs:List PV} {xs:List J2}:k0z vs xs→k0z (.p x :: vs) (x :: xs)
inductive Cp:List PV→List PV→Prop
 | nil:Cp [] []
 | cons {v:PV} {vs ws:List PV}:Cp vs ws→Cp (v :: vs) (v :: ws)
theorem k0z.eq {vs:List PV}{xs:List J2}(h:k0z vs xs):vs=xs.map .p:=by induction h <;> simp_all
theorem Cp.eq {vs ws:List PV}(h:Cp vs ws):ws=vs:=by induction h <;> simp_all
section
variable {P:Program} {F:Fr} {d:Nat} {T:TypeId} {pos:String} {aft:Array Edge} {g:Option (Nat×Bool)} {t:TypeId}
theorem b9 {ρ:Nat→Nat}{S:St}{a:Act}{w:World}(h:b5 F ρ S a w){x:Operand}{k off tot:Nat}{B:Blk}(hx:S.opd x=some (.at_ k off tot))(hB:S.blk k=some B)(hl:B.cs.len=tot):a.eval x = .pointer (some ⟨ρ k,off,none⟩):=by
 have:=Z4 h hx
 simp only [K2] at this
 exact (this B hB).2 hl
theorem d9 (w:World)(b o:Nat):w.cell? ⟨b,o,none⟩=F6 (hp w) b o:=y0k w b o
theorem M7 {H:Nat→Option Obj}{b o:Nat}{c:Array Value}{T:TypeId}{fr:Nat×Nat}(h:H b=some (.cells c T fr)):F6 H b o=c[o]?:=by simp [F6,h]
theorem Y1 {x:Operand}{k off tot:Nat}{B:Blk}{v:PV}(hag:∀ w,(isAgg t).run P w = .ok false w)(hl:B.cs.len=tot)(hv:B.cs.get off=some v)(hlt:d<F.nt) :
  O2 P F ⟨some d,.load t x,T,pos,aft,g⟩ { rs:=[(x,.at_ k off tot)],rb:=[(k,B)],ws:=[(d,v)] } :=
 B4 rfl hlt rfl rfl fun ρ S a w h hA=>by
  have hB:=hA.rb (k,B) (by simp)
  have he:=b9 h (off:=off) (hA.rs (x,.at_ k off tot) (by simp)) hB hl
  obtain ⟨c,h1,h2,h3,h4⟩:=h.blks k B hB
  obtain ⟨u,hu,_,hr⟩:=h4 off v hv
  refine ⟨u,?_,hr⟩
  have hc:w.cell? ⟨ρ k,off,none⟩=some u:=by rw [d9,M7 h1,hu]
  simp [execOp,Instr.loadAt,he,Instr.sureAddr,loadVar,hag,hc]
theorem f0a {β:Nat→Option Blk}{ρ:Nat→Nat}{ok:Nat→Prop}{H:Nat→Option Obj}:∀ {vs:List PV} {us:List Value},us.length=vs.length→(∀ (i:Nat) (x:PV),vs[i]? = some x→∃ u,us[i]? = some u∧K2 β ρ ok H x u)→D3 β ρ ok H vs us
 | [],us,hl,_=>by simp only [D3]; exact E0 (by simpa using hl)
 | x :: xs,[],hl,_=>by simp at hl
 | x :: xs,v :: vs,hl,h=>by
  simp only [D3]
  refine ⟨v,vs,rfl,?_,f0a (by simpa using hl) fun i y hi=>?_⟩
  ·obtain ⟨u,hu,hr⟩:=h 0 x rfl
   obtain rfl:v=u:=by simpa using hu
   exact hr
  ·simpa using h (i+1) y (by simpa using hi)
theorem q8 {β:Nat→Option Blk}{ρ:Nat→Nat}{ok:Nat→Prop}{H:Nat→Option Obj}:∀ {xs:List J2} {us:List Value},D3 β ρ ok H (xs.map .p) us↔K5 ok H xs us
 | [],us=>by simp [D3,K5]
 | x :: xs,us=>by simp only [R0,D3,K5,K2]; simp only [q8]
theorem F5 {β:Nat→Option Blk}{ρ:Nat→Nat}{ok:Nat→Prop}{H:Nat→Option Obj}:∀ {vs:List PV} {us:List Value},D3 β ρ ok H vs us→us.length=vs.length
 | [],us,h=>by simp only [D3] at h; simp [h]
 | x :: xs,us,h=>by
  simp only [D3] at h
  obtain ⟨v,r,rfl,_,h⟩:=h
  simp [F5 h]
theorem L6 {β:Nat→Option Blk}{ρ:Nat→Nat}{ok:Nat→Prop}{H:Nat→Option Obj}:∀ {vs:List PV} {us:List Value},D3 β ρ ok H vs us→∀ {i:Nat} {x:PV},vs[i]? = some x→∃ u,us[i]? = some u∧K2 β ρ ok H x u
 | [],us,h,i,x,hi=>by simp at hi
 | y :: xs,us,h,i,x,hi=>by
  simp only [D3] at h
  obtain ⟨v,r,rfl,h2,h3⟩:=h
  cases i with
  | zero =>
    obtain rfl : y = x := by simpa using hi
    exact ⟨v,rfl,h2⟩
  | succ i=>simpa using L6 h3 (i:=i) (x:=x) (by simpa using hi)
def Cells.sub:Cells→Nat→Nat→List PV
 | .pure xs,off,n=>((xs.drop off).take n).map .p
 | .mix vs,off,n=>(vs.drop off).take n
theorem Cells.sub_get {c:Cells}{off n i:Nat}{x:PV}(h:(c.sub off n)[i]? = some x):i<n∧c.get (off+i)=some x:=by
 cases c with
 | pure xs =>
  simp only [Cells.sub,List.getElem?_map,List.getElem?_take,List.getElem?_drop,M0] at h
  obtain ⟨y,hy,rfl⟩:=h
  split at hy
  ·exact ⟨by assumption,by simp [Cells.get,hy]⟩
  ·cases hy
 | mix vs =>
  simp only [Cells.sub,List.getElem?_take,List.getElem?_drop] at h
  split at h
  ·exact ⟨by assumption,h⟩
  ·cases h
theorem f0z {ρ:Nat→Nat}{S:St}{a:Act}{w:World}(h:b5 F ρ S a w){k off n:Nat}{B:Blk}{vs:List PV}(hB:S.blk k=some B)(hvs:B.cs.sub off n=vs)(hn:vs.length=n) :
  ∃ us:List Value,(loadCells ⟨ρ k,off,none⟩ n).run P w = .ok us.toArray w∧D3 S.blk ρ (okI F S.blk ρ) (hp w) vs us∧∀ c∈us,c.oneCell'=true:=by
 obtain ⟨c,h1,h2,h3,h4⟩:=h.blks k B hB
 have hg:∀ i x,vs[i]? = some x→∃ u,c[off+i]? = some u∧u.oneCell'=true∧K2 S.blk ρ (okI F S.blk ρ) (hp w) x u:=fun i x hi=>by
  rw [← hvs] at hi
  exact h4 _ x (Cells.sub_get hi).2
 have hin:∀ j,j<n→∃ u,c[off+j]? = some u∧u.oneCell'=true:=fun j hj=>by
  obtain ⟨u,hu,h1c,_⟩:=hg j (vs[j]'(by omega)) (by simp)
  exact ⟨u,hu,h1c⟩
 refine ⟨(List.range n).map fun j=>(c[off+j]?).getD undef,?_,f0a (by simp [hn]) fun i x hi=>?_,?_⟩
 ·rw [run_loadCells w ⟨ρ k,off,none⟩ n (fun j=>(c[off+j]?).getD undef) fun j hj=>?_]
  have:(⟨ρ k,off,none⟩:Addr).add j=⟨ρ k,off+j,none⟩:=by unfold Addr.add; split <;> simp_all
  rw [this,d9,M7 h1]
  obtain ⟨u,hu,_⟩:=hin j hj
  simp [hu]
 ·obtain ⟨u,hu,_,hr⟩:=hg i x hi
  have hlt:i<n:=by rw [← hn]; exact (i1.1 hi).1
  exact ⟨u,by simp [hlt,hu],hr⟩
 ·intro u hu
  obtain ⟨j,hj,rfl⟩:=G0.1 hu
  obtain ⟨u,hu,h1c⟩:=hin j (by simpa using hj)
  simpa [hu] using h1c
theorem l6 {x:Operand}{k off n tot:Nat}{B:Blk}{xs:List J2}(hag:∀ w,(isAgg t).run P w = .ok true w)(hsz:∀ w,(sizeOf t).run P w = .ok n w)(hl:B.cs.len=tot)(hv:k0z (B.cs.sub off n) xs)(hn:xs.length=n)(hlt:d<F.nt) :
  O2 P F ⟨some d,.load t x,T,pos,aft,g⟩ { rs:=[(x,.at_ k off tot)],rb:=[(k,B)],ws:=[(d,.p (.agg xs))] } :=
 B4 rfl hlt rfl rfl fun ρ S a w h hA=>by
  have hB:=hA.rb (k,B) (by simp)
  have he:=b9 h (off:=off) (hA.rs (x,.at_ k off tot) (by simp)) hB hl
  obtain ⟨us,h1,h2,h1c⟩:=f0z (P:=P) h hB hv.eq (by simp [hn])
  refine ⟨.agg us.toArray,?_,?_⟩
  ·simp [execOp,Instr.loadAt,he,Instr.sureAddr,loadVar,hag,hsz,h1]
  ·simp only [K2,Rel]
   exact ⟨us,rfl,q8.1 h2,h1c⟩
theorem Q1m {x:Operand}{k off n tot:Nat}{B:Blk}{vs:List PV}(hag:∀ w,(isAgg t).run P w = .ok true w)(hsz:∀ w,(sizeOf t).run P w = .ok n w)(hl:B.cs.len=tot)(hv:Cp (B.cs.sub off n) vs)(hn:vs.length=n)(hlt:d<F.nt) :
  O2 P F ⟨some d,.load t x,T,pos,aft,g⟩ { rs:=[(x,.at_ k off tot)],rb:=[(k,B)],ws:=[(d,.agg vs)] } :=
 B4 rfl hlt rfl rfl fun ρ S a w h hA=>by
  have hB:=hA.rb (k,B) (by simp)
  have he:=b9 h (off:=off) (hA.rs (x,.at_ k off tot) (by simp)) hB hl
  obtain ⟨us,h1,h2,h1c⟩:=f0z (P:=P) h hB hv.eq.symm hn
  refine ⟨.agg us.toArray,?_,?_⟩
  ·simp [execOp,Instr.loadAt,he,Instr.sureAddr,loadVar,hag,hsz,h1]
  ·simp only [K2]
   exact ⟨us,rfl,h2,h1c⟩
theorem v4 {x:Operand}{xs:List J2}{o:Nat}{y:J2}(hag:∀ w,(isAgg t).run P w = .ok false w)(hv:xs[o]? = some y)(hlt:d<F.nt) :
  O2 P F ⟨some d,.load t x,T,pos,aft,g⟩ { rs:=[(x,.im xs o)],ws:=[(d,.p y)] } :=
 B4 rfl hlt rfl rfl fun ρ S a w h hA=>by
  have:=Z4 h (hA.rs (x,.im xs o) (by simp))
  simp only [K2] at this
  obtain ⟨b,p,he,_,_,hr⟩:=this
  obtain ⟨u,hu,_,hru⟩:=hr.get hv
  refine ⟨u,?_,by simpa [K2] using hru⟩
  have hc:w.cell? ⟨b,p+o,none⟩=some u:=by rw [d9,hu]
  simp [execOp,Instr.loadAt,he,Instr.sureAddr,loadVar,hag,hc]
theorem F7 {x:Operand}{xs ys:List J2}{o n:Nat}(hag:∀ w,(isAgg t).run P w = .ok true w)(hsz:∀ w,(sizeOf t).run P w = .ok n w)(hv:(xs.drop o).take n=ys)(hn:ys.length=n)(hlt:d<F.nt) :
  O2 P F ⟨some d,.load t x,T,pos,aft,g⟩ { rs:=[(x,.im xs o)],ws:=[(d,.p (.agg ys))] } :=
 B4 rfl hlt rfl rfl fun ρ S a w h hA=>by
  have:=Z4 h (hA.rs (x,.im xs o) (by simp))
  simp only [K2] at this
  obtain ⟨b,p,he,_,_,hr⟩:=this
  have hg:∀ i y,ys[i]? = some y→∃ u,F6 (hp w) b (p+o+i)=some u∧u.oneCell'=true∧Rel (okI F S.blk ρ) (hp w) y u:=fun i y hi=>by
   rw [← hv,List.getElem?_take] at hi
   split at hi
   ·rw [List.getElem?_drop] at hi
    have:=hr.get hi
    rwa [show p+(o+i)=p+o+i by omega] at this
   ·cases hi
  have h1:(loadCells ⟨b,p+o,none⟩ n).run P w = .ok ((List.range n).map fun j=>(F6 (hp w) b (p+o+j)).getD undef).toArray w:=by
   refine run_loadCells w ⟨b,p+o,none⟩ n _ fun j hj=>?_
   have:(⟨b,p+o,none⟩:Addr).add j=⟨b,p+o+j,none⟩:=by unfold Addr.add; split <;> simp_all
   rw [this,d9]
   obtain ⟨u,hu,_⟩:=hg j (ys[j]'(by omega)) (by simp)
   simp [hu]
  refine ⟨_,by simp [execOp,Instr.loadAt,he,Instr.sureAddr,loadVar,hag,hsz,h1]; rfl,?_⟩
  simp only [K2,Rel]
  refine ⟨_,rfl,K5.of (by simp [hn]) fun i y hi=>?_,?_⟩
  ·obtain ⟨u,hu,_,hru⟩:=hg i y hi
   have hlt:i<n:=by rw [← hn]; exact (i1.1 hi).1
   exact ⟨u,by simp [hlt,hu],hru⟩
  ·intro u hu
   obtain ⟨j,hj,rfl⟩:=G0.1 hu
   obtain ⟨u,hu,h1c,_⟩:=hg j (ys[j]'(by simp at hj; omega)) (by simp)
   simpa [hu] using h1c
theorem Z1 {x:Operand}{k off tot f:Nat}{B:Blk}{fs:Array Field}{fd:Field}{m:Nat}(hu:P.underlying t=some (.struct fs))(hf:fs[f]? = some fd)(hsz:∀ w,(sizeOf fd.type).run P w = .ok m w)(hm:m≠0)(hl:B.cs.len=tot)(hlt:d<F.nt) :
  O2 P F ⟨some d,.fieldAddr t x f,T,pos,aft,g⟩ { rs:=[(x,.at_ k off tot)],rb:=[(k,B)],ws:=[(d,.at_ k (off+fd.offset) tot)] } :=
 B4 rfl hlt rfl rfl fun ρ S a w h hA=>by
  have hB:=hA.rb (k,B) (by simp)
  have he:=b9 h (off:=off) (hA.rs (x,.at_ k off tot) (by simp)) hB hl
  refine ⟨.pointer (some ⟨ρ k,off+fd.offset,none⟩),?_,?_⟩
  ·have:(⟨ρ k,off,none⟩:Addr).add fd.offset=⟨ρ k,off+fd.offset,none⟩:=by unfold Addr.add; split <;> simp_all
   simp [execOp,Instr.fieldAt,run_underlying hu,hf,he,Instr.sureAddr,fieldPlace,hsz,hm,this]
  ·simp only [K2]
   intro B' hB'
   rw [hB] at hB'
   injection hB' with hB'
   subst hB'
   exact ⟨Nat.le_of_eq hl.symm,fun _=>by simp⟩
theorem G0n {x:Operand}{xs:List J2}{o f:Nat}{fs:Array Field}{fd:Field}{m:Nat}(hu:P.underlying t=some (.struct fs))(hf:fs[f]? = some fd)(hsz:∀ w,(sizeOf fd.type).run P w = .ok m w)(hm:m≠0)(hlt:d<F.nt) :
  O2 P F ⟨some d,.fieldAddr t x f,T,pos,aft,g⟩ { rs:=[(x,.im xs o)],ws:=[(d,.im xs (o+fd.offset))] } :=
 B4 rfl hlt rfl rfl fun ρ S a w h hA=>by
  have:=Z4 h (hA.rs (x,.im xs o) (by simp))
  simp only [K2] at this
  obtain ⟨b,p,he,h1,h2,hr⟩:=this
  refine ⟨.pointer (some ⟨b,p+(o+fd.offset),none⟩),?_,?_⟩
  ·have:(⟨b,p+o,none⟩:Addr).add fd.offset=⟨b,p+(o+fd.offset),none⟩:=by unfold Addr.add; split <;> simp_all; omega
   simp [execOp,Instr.fieldAt,run_underlying hu,hf,he,Instr.sureAddr,fieldPlace,hsz,hm,this]
  ·simp only [K2]
   exact ⟨b,p,rfl,h1,h2,hr⟩
theorem y0c {x y:Operand}{n:Nat}{xs:List J2}{e:TypeId}{sz:Nat}{k:IntKind}{i:Int}(hu:P.underlying t=some (.slice e))(hsz:∀ w,(sizeOf e).run P w = .ok sz w)(h0:0≤i)(h1:i<n)(hx:xs≠[])(hlt:d<F.nt) :
  O2 P F ⟨some d,.indexAddr t x y,T,pos,aft,g⟩ { rs:=[(x,.p (.sl n xs)),(y,.p (.a (.int k i)))],ws:=[(d,.im xs (i.toNat*sz))] } :=
 B4 rfl hlt rfl rfl fun ρ S a w h hA=>by
  have hy:=M4 h (v:=.int k i) (hA.rs (y,_) (by simp))
  have:=Z4 h (v:=.p (.sl n xs)) (hA.rs (x,_) (by simp))
  simp only [K2,Rel] at this
  obtain ⟨ad,cap,he,hc,hr⟩:=this
  obtain ⟨b,o,rfl,hok,hra⟩:=hr.at hx
  refine ⟨.pointer (some ⟨b,o+i.toNat*sz,none⟩),?_,?_⟩
  ·have:(⟨b,o,none⟩:Addr).add (i.toNat*sz)=⟨b,o+i.toNat*sz,none⟩:=by unfold Addr.add; split <;> simp_all
   simp [execOp,Instr.indexAt,hy,he,asIntOf,run_underlying hu,h0,h1,hsz,this]
  ·simp only [K2]
   refine ⟨b,o,rfl,hok,?_,hra⟩
   cases xs with
   | nil=>exact absurd rfl hx
   | cons z zs=>simp only [Y4] at hra; obtain ⟨⟨v,hv,_,_⟩,_⟩:=hra; exact h0q hv
theorem F2 {x y:Operand}{n:Nat}{xs:List J2}{e:TypeId}{sz:Nat}{k:IntKind}{i:Int}(hu:P.underlying t=some (.slice e))(hsz:∀ w,(sizeOf e).run P w = .ok sz w)(h0:0≤i)(h1:i<n)(hx:xs.length=n*sz)(hpos:0<sz)(hlt:d<F.nt) :
  O2 P F ⟨some d,.indexAddr t x y,T,pos,aft,g⟩ { rs:=[(x,.p (.sl n xs)),(y,.p (.a (.int k i)))],ws:=[(d,.im xs (i.toNat*sz))] } :=
 y0c hu hsz h0 h1 (fun e=>by
  subst e
  have h2:0<n:=by omega
  have:=Nat.mul_pos h2 hpos
  simp at hx
  omega) hlt
theorem o9 {ρ:Nat→Nat}{S:St}{a:Act}{w:World}(h:b5 F ρ S a w){x:Operand}{k off n tot:Nat}{B:Blk}(hx:S.opd x=some (.ref k off n tot))(hB:S.blk k=some B)(hl:B.cs.len=tot) :
  ∃ cap c,a.eval x = .slice (some ⟨ρ k,off,none⟩) n cap∧n≤cap∧hp w (ρ k)=some (.cells c B.T (0,0))∧off+cap*B.sz≤c.size:=by
 have:=Z4 h hx
 simp only [K2] at this
 obtain ⟨cap,c,T,fr,h1,h2,h3,h4⟩:=(this.2 B hB).2 hl
 obtain ⟨c',e1,_⟩:=h.blks k B hB
 rw [e1] at h3
 injection h3 with h3
 injection h3 with h5 h6 h7
 subst h5
 exact ⟨cap,_,h1,h2,e1,h4⟩
theorem U9 {x y:Operand}{k off n tot:Nat}{B:Blk}{e:TypeId}{sz:Nat}{kd:IntKind}{i:Int}(hu:P.underlying t=some (.slice e))(hsz:∀ w,(sizeOf e).run P w = .ok sz w)(hl:B.cs.len=tot)(h0:0≤i)(h1:i<n)(hlt:d<F.nt) :
  O2 P F ⟨some d,.indexAddr t x y,T,pos,aft,g⟩ { rs:=[(x,.ref k off n tot),(y,.p (.a (.int kd i)))],rb:=[(k,B)],ws:=[(d,.at_ k (off+i.toNat*sz) tot)] } :=
 B4 rfl hlt rfl rfl fun ρ S a w h hA=>by
  have hy:=M4 h (v:=.int kd i) (hA.rs (y,_) (by simp))
  have hB:=hA.rb (k,B) (by simp)
  obtain ⟨cap,c,he,hc,_,_⟩:=o9 h (hA.rs (x,.ref k off n tot) (by simp)) hB hl
  refine ⟨.pointer (some ⟨ρ k,off+i.toNat*sz,none⟩),?_,?_⟩
  ·have:(⟨ρ k,off,none⟩:Addr).add (i.toNat*sz)=⟨ρ k,off+i.toNat*sz,none⟩:=by unfold Addr.add; split <;> simp_all
   simp [execOp,Instr.indexAt,hy,he,asIntOf,run_underlying hu,h0,h1,hsz,this]
  ·simp only [K2]
   intro B' hB'
   rw [hB] at hB'
   injection hB' with hB'
   subst hB'
   exact ⟨Nat.le_of_eq hl.symm,fun _=>by simp⟩
theorem B9 {x y:Operand}{k off tot:Nat}{B:Blk}{e:TypeId}{sz n:Nat}{kd:IntKind}{i:Int}(hu:P.underlying t=some (.array n e))(hsz:∀ w,(sizeOf e).run P w = .ok sz w)(hl:B.cs.len=tot)(h0:0≤i)(h1:i<n)(hlt:d<F.nt) :
  O2 P F ⟨some d,.indexAddr t x y,T,pos,aft,g⟩ { rs:=[(x,.at_ k off tot),(y,.p (.a (.int kd i)))],rb:=[(k,B)],ws:=[(d,.at_ k (off+i.toNat*sz) tot)] } :=
 B4 rfl hlt rfl rfl fun ρ S a w h hA=>by
  have hy:=M4 h (v:=.int kd i) (hA.rs (y,_) (by simp))
  have hB:=hA.rb (k,B) (by simp)
  have he:=b9 h (hA.rs (x,.at_ k off tot) (by simp)) hB hl
  refine ⟨.pointer (some ⟨ρ k,off+i.toNat*sz,none⟩),?_,?_⟩
  ·have:(⟨ρ k,off,none⟩:Addr).add (i.toNat*sz)=⟨ρ k,off+i.toNat*sz,none⟩:=by unfold Addr.add; split <;> simp_all
   simp [execOp,Instr.indexAt,hy,he,asIntOf,run_underlying hu,Instr.sureAddr,h0,h1,hsz,this]
  ·simp only [K2]
   intro B' hB'
   rw [hB] at hB'
   injection hB' with hB'
   subst hB'
   exact ⟨Nat.le_of_eq hl.symm,fun _=>by simp⟩
theorem i4 {x:Operand}{i:Nat}{xs:List J2}{y:J2}(hy:xs[i]? = some y)(hlt:d<F.nt) :
  O2 P F ⟨some d,.extract x i,T,pos,aft,g⟩ { rs:=[(x,.p (.tup xs))],ws:=[(d,.p y)] } :=
 B4 rfl hlt rfl rfl fun ρ S a w h hA=>by
  have:=Z4 h (v:=.p (.tup xs)) (hA.rs (x,_) (by simp))
  simp only [K2,Rel] at this
  obtain ⟨cs,he,hr⟩:=this
  obtain ⟨u,hu,hru⟩:=hr.get hy
  exact ⟨u,by simp [execOp,Instr.extract,he,hu],by simpa [K2] using hru⟩
theorem R2 {x:Operand}{n:Nat}{xs:List J2}{e:TypeId}(hu:P.underlying t=some (.slice e))(hlt:d<F.nt) :
  O2 P F ⟨some d,.call ⟨.builtin .len,#[x],#[t]⟩,T,pos,aft,g⟩ { rs:=[(x,.p (.sl n xs))],ws:=[(d,.p (.a (.int .i64 n)))] } :=
 B4 rfl hlt rfl rfl fun ρ S a w h hA=>by
  have:=Z4 h (v:=.p (.sl n xs)) (hA.rs (x,_) (by simp))
  simp only [K2,Rel] at this
  obtain ⟨ad,cap,he,hc,hr⟩:=this
  exact ⟨.int .i64 n,by simp [execOp,resolve,invoke,builtin,Builtin.len_,he,run_underlying hu,goInt],by simp [K2,Rel]⟩
theorem p0d {x:Operand}{k off n tot:Nat}{B:Blk}{e:TypeId}(hu:P.underlying t=some (.slice e))(hl:B.cs.len=tot)(hlt:d<F.nt) :
  O2 P F ⟨some d,.call ⟨.builtin .len,#[x],#[t]⟩,T,pos,aft,g⟩ { rs:=[(x,.ref k off n tot)],rb:=[(k,B)],ws:=[(d,.p (.a (.int .i64 n)))] } :=
 B4 rfl hlt rfl rfl fun ρ S a w h hA=>by
  obtain ⟨cap,c,he,hc,_,_⟩:=o9 h (hA.rs (x,.ref k off n tot) (by simp)) (hA.rb (k,B) (by simp)) hl
  exact ⟨.int .i64 n,by simp [execOp,resolve,invoke,builtin,Builtin.len_,he,run_underlying hu,goInt],by simp [K2,Rel]⟩
theorem q0v {x:Operand}{e:TypeId}{c:Nat}(hu:P.underlying t=some (.slice e))(hlt:d<F.nt) :
  O2 P F ⟨some d,.call ⟨.builtin .len,#[x],#[t]⟩,T,pos,aft,g⟩ { rs:=[(x,.p (.a (.slice none 0 c)))],ws:=[(d,.p (.a (.int .i64 0)))] } :=
 b0g hlt fun e w h1=>by simp [execOp,resolve,invoke,builtin,Builtin.len_,h1,run_underlying hu,goInt]
end
end Go.Proofs.YtjagfionflbjbaaGreat.SH
namespace Go.Proofs.YtjagfionflbjbaaGreat.SH
open Go
theorem World.size_lt {w:World}{b:Nat}{o:Obj}(h:hp w b=some o):b<w.heap.size:=by
 unfold hp at h
 exact (Array.getElem?_eq_some_iff.1 h).1
theorem V6 {w w':World}{o:Obj}(h:w'.heap=w.heap.push o)(b:Nat):hp w' b=if b=w.heap.size then some o else hp w b:=by
 unfold hp
 rw [h,Array.getElem?_push]
theorem n0b {F:Fr}{w w':World}{o:Obj}(hf:B0d F w)(h:w'.heap=w.heap.push o)(h1:w'.os=w.os)(h2:w'.tape=w.tape)(h3:w'.output=w.output):B0d F w' :=
 ⟨h1.trans hf.os,h2.trans hf.tape,h3.trans hf.output,by rw [h]; simp; have:=hf.size; omega,fun b hb hx=>by
  rw [h,Array.getElem?_push,if_neg (by have:=hf.size; omega)]; exact hf.block b hb hx⟩
theorem h0j {F:Fr}{ρ:Nat→Nat}{S:St}{a:Act}{w w':World}(h:b5 F ρ S a w){k d:Nat}{B:Blk}{c:Array Value}{v:PV}{u:Value}(hk:S.blk k=none)(hf:S.free k=true)(hpk:F.pin k=none)(hlt:d<F.nt)
  (hh:w'.heap=w.heap.push (.cells c B.T (0,0))) (ho:w'.os=w.os) (ht:w'.tape=w.tape) (hp':w'.output=w.output) (hlen:B.cs.len≤c.size)
  (hcells:∀ i x,B.cs.get i=some x→x.free k=true∧∃ u,c[i]? = some u∧u.oneCell'=true∧K2 S.blk ρ (okI F S.blk ρ) (hp w) x u)
  (hv:∀ β' ρ' ok',β' k=some B→ρ' k=w.heap.size→K2 β' ρ' ok' (hp w') v u) :
  ∃ ρ',b5 F ρ' ⟨(d,v) :: S.sl,(k,B) :: S.hb⟩ (a.put (some d) u) w':=by
 let ρ':Nat→Nat:=fun j=>if j=k then w.heap.size else ρ j
 let S':St:=⟨(d,v) :: S.sl,(k,B) :: S.hb⟩
 have hbk:∀ j,S'.blk j=if j=k then some B else S.blk j:=fun j=>by
  simp only [S',St.blk,i0]
  by_cases e:j=k
  ·simp [e]
  ·rw [show (j == k)=false by simpa using e]; simp [e]
 have hlt':∀ j,S.blk j≠none→ρ j<w.heap.size:=fun j hj=>by
  cases hB:S.blk j with
  | none=>exact absurd hB hj
  | some B'=>obtain ⟨c',e1,_⟩:=h.blks j B' hB; exact World.size_lt e1
 have hc:Carry (okI F S.blk ρ) (okI F S'.blk ρ') (hp w) (hp w'):=fun b hb hne=>by
  have hbs:b<w.heap.size:=by
   cases e:hp w b with
   | none=>exact absurd e hne
   | some o=>exact World.size_lt e
  refine ⟨⟨hb.1,fun j hj=>?_⟩,by rw [V6 hh,if_neg (by omega)]⟩
  simp only [ρ']
  split
  ·omega
  ·rename_i e
   rw [hbk,if_neg e] at hj
   exact hb.2 j hj
 have hkp:b0q (fun j=>j≠k) S.blk S'.blk ρ ρ' (hp w) (hp w'):=fun j hj B' hB'=>by
  rw [hbk,if_neg hj] at hB'
  refine ⟨B',hB',rfl,Nat.le_refl _,fun _=>⟨if_neg hj,fun c T fr hc'=>⟨c,T,fr,?_,rfl⟩⟩⟩
  have:=World.size_lt hc'
  rw [V6 hh,if_neg (by omega)]; exact hc'
 refine ⟨ρ',h.upd (Kp:=fun j=>j≠k) (n0b h.frame hh ho ht hp') (by simp [Act.put,h.nt]) rfl hc hkp ?_ ?_ ?_ ?_⟩
 rotate_left
 ·intro j b n hj hS
  have hjk:j≠k:=fun e=>by subst e; rw [hpk] at hj; cases hj
  rw [hbk,if_neg hjk] at hS
  refine ⟨hS,if_neg hjk,fun c T hc'=>⟨c,T,?_,rfl⟩⟩
  have:=World.size_lt hc'
  rw [V6 hh,if_neg (by omega)]; exact hc'
 rotate_right
 ·intro j j' hj hj' he
  simp only [ρ'] at he
  rw [hbk] at hj hj'
  split at he <;> split at he
  ·omega
  ·rename_i e1 e2
   rw [if_neg e2] at hj'
   have:=hlt' j' hj'; omega
  ·rename_i e1 e2
   rw [if_neg e1] at hj
   have:=hlt' j hj; omega
  ·rename_i e1 e2
   rw [if_neg e1] at hj
   rw [if_neg e2] at hj'
   exact h.inj j j' hj hj' he
 ·intro t x hx
  rw [b0w (by rw [h.nt]; exact hlt)]
  simp only [St.slot,i0] at hx
  by_cases e:t=d
  ·subst e
   simp only [BEq.rfl,U0] at hx
   subst hx
   exact .inr ⟨u,by simp,hv _ _ _ (by rw [hbk,if_pos rfl]) (if_pos rfl)⟩
  ·rw [show (t == d)=false by simpa using e] at hx
   refine .inl ⟨hx,by rw [if_neg e],fun j hj e'=>?_⟩
   subst e'
   rw [St.free_slot hf hx] at hj
   cases hj
 ·intro j B' hB'
  rw [hbk] at hB'
  by_cases e:j=k
  ·rw [if_pos e] at hB'
   injection hB' with hB'
   subst hB' e
   refine .inr ⟨c,by rw [V6 hh,if_pos (if_pos rfl)],.inr (by simp only [ρ',if_pos]; exact h.frame.size),hlen,fun i x hx=>?_⟩
   obtain ⟨hfx,u',hu',h1,hr⟩:=hcells i x hx
   exact ⟨u',hu',h1,K2.mono hc hkp x u' (fun j hj e=>by subst e; rw [hfx] at hj; cases hj) hr⟩
  ·rw [if_neg e] at hB'
   obtain ⟨c',e1,_⟩:=h.blks j B' hB'
   have:=World.size_lt e1
   refine .inl ⟨hB',if_neg e,by rw [V6 hh,if_neg (by omega)],fun i x hx j' hj' e'=>?_⟩
   subst e'
   rw [St.free_blk hf hB' hx] at hj'
   cases hj'
theorem d1j {F:Fr}{ρ:Nat→Nat}{S:St}{a:Act}{w w':World}(h:b5 F ρ S a w){k d:Nat}{B B':Blk}{c:Array Value}{v:PV}{u:Value}(hk:S.blk k=some B)(hpk:F.pin k=none)(hlt:d<F.nt)
  (hh:w'.heap=w.heap.push (.cells c B'.T (0,0))) (ho:w'.os=w.os) (ht:w'.tape=w.tape) (hp':w'.output=w.output) (hlen:B'.cs.len≤c.size) (hgr:B.cs.len<B'.cs.len) (hsz:B'.sz=B.sz)
  (hcells:∀ i x,B'.cs.get i=some x→∃ u,c[i]? = some u∧u.oneCell'=true∧K2 S.blk ρ (okI F S.blk ρ) (hp w) x u)
  (hv:∀ β' ρ' ok',β' k=some B'→ρ' k=w.heap.size→K2 β' ρ' ok' (hp w') v u) :
  ∃ ρ',b5 F ρ' ⟨(d,v) :: S.sl,(k,B') :: S.hb⟩ (a.put (some d) u) w':=by
 let ρ':Nat→Nat:=fun j=>if j=k then w.heap.size else ρ j
 let S':St:=⟨(d,v) :: S.sl,(k,B') :: S.hb⟩
 have hbk:∀ j,S'.blk j=if j=k then some B' else S.blk j:=fun j=>by
  simp only [S',St.blk,i0]
  by_cases e:j=k
  ·simp [e]
  ·rw [show (j == k)=false by simpa using e]; simp [e]
 have hlt':∀ j,S.blk j≠none→ρ j<w.heap.size:=fun j hj=>by
  cases hB:S.blk j with
  | none=>exact absurd hB hj
  | some B'=>obtain ⟨c',e1,_⟩:=h.blks j B' hB; exact World.size_lt e1
 have hc:Carry (okI F S.blk ρ) (okI F S'.blk ρ') (hp w) (hp w'):=fun b hb hne=>by
  have hbs:b<w.heap.size:=by
   cases e:hp w b with
   | none=>exact absurd e hne
   | some o=>exact World.size_lt e
  refine ⟨⟨hb.1,fun j hj=>?_⟩,by rw [V6 hh,if_neg (by omega)]⟩
  simp only [ρ']
  split
  ·omega
  ·rename_i e
   rw [hbk,if_neg e] at hj
   exact hb.2 j hj
 have hkp:b0q (fun _=>True) S.blk S'.blk ρ ρ' (hp w) (hp w'):=fun j _ C hC=>by
  by_cases hj:j=k
  ·subst hj
   rw [hbk,if_pos rfl] at hC
   injection hC with hC
   subst hC
   exact ⟨B,hk,hsz,by omega,fun e=>by omega⟩
  ·rw [hbk,if_neg hj] at hC
   refine ⟨C,hC,rfl,Nat.le_refl _,fun _=>⟨if_neg hj,fun c T fr hc'=>⟨c,T,fr,?_,rfl⟩⟩⟩
   have:=World.size_lt hc'
   rw [V6 hh,if_neg (by omega)]; exact hc'
 refine ⟨ρ',h.upd (Kp:=fun _=>True) (n0b h.frame hh ho ht hp') (by simp [Act.put,h.nt]) rfl hc hkp ?_ ?_ ?_ ?_⟩
 rotate_left
 ·intro j b n hj hS
  have hjk:j≠k:=fun e=>by subst e; rw [hpk] at hj; cases hj
  rw [hbk,if_neg hjk] at hS
  refine ⟨hS,if_neg hjk,fun c T hc'=>⟨c,T,?_,rfl⟩⟩
  have:=World.size_lt hc'
  rw [V6 hh,if_neg (by omega)]; exact hc'
 rotate_right
 ·intro j j' hj hj' he
  simp only [ρ'] at he
  rw [hbk] at hj hj'
  split at he <;> split at he
  ·omega
  ·rename_i e1 e2
   rw [if_neg e2] at hj'
   have:=hlt' j' hj'; omega
  ·rename_i e1 e2
   rw [if_neg e1] at hj
   have:=hlt' j hj; omega
  ·rename_i e1 e2
   rw [if_neg e1] at hj
   rw [if_neg e2] at hj'
   exact h.inj j j' hj hj' he
 ·intro t x hx
  rw [b0w (by rw [h.nt]; exact hlt)]
  simp only [St.slot,i0] at hx
  by_cases e:t=d
  ·subst e
   simp only [BEq.rfl,U0] at hx
   subst hx
   exact .inr ⟨u,by simp,hv _ _ _ (by rw [hbk,if_pos rfl]) (if_pos rfl)⟩
  ·rw [show (t == d)=false by simpa using e] at hx
   exact .inl ⟨hx,by rw [if_neg e],fun _ _=>trivial⟩
 ·intro j C hC
  rw [hbk] at hC
  by_cases e:j=k
  ·rw [if_pos e] at hC
   injection hC with hC
   subst hC e
   refine .inr ⟨c,by rw [V6 hh,if_pos (if_pos rfl)],.inr (by simp only [ρ',if_pos]; exact h.frame.size),hlen,fun i x hx=>?_⟩
   obtain ⟨u',hu',h1,hr⟩:=hcells i x hx
   exact ⟨u',hu',h1,K2.mono hc hkp x u' (fun _ _=>trivial) hr⟩
  ·rw [if_neg e] at hC
   obtain ⟨c',e1,_⟩:=h.blks j C hC
   have:=World.size_lt e1
   exact .inl ⟨hC,if_neg e,by rw [V6 hh,if_neg (by omega)],fun _ _ _ _ _=>trivial⟩
theorem G0g {F:Fr}{ρ:Nat→Nat}{S:St}{a a':Act}{w w':World}(h:b5 F ρ S a w){k:Nat}{B B':Blk}{c c':Array Value}{ws:List (Nat×PV)}(hk:S.blk k=some B)
  (hc0:hp w (ρ k)=some (.cells c B.T (0,0))) (hT:B'.T=B.T) (hsz:B'.sz=B.sz) (hle:B.cs.len≤B'.cs.len) (hcs:c'.size=c.size) (hlen:B'.cs.len≤c.size)
  (hh:∀ b,hp w' b=if b=ρ k then some (.cells c' B.T (0,0)) else hp w b) (hs':w'.heap.size=w.heap.size) (ho:w'.os=w.os) (ht:w'.tape=w.tape) (hp':w'.output=w.output)
  (hcells:∀ i x,B'.cs.get i=some x→∃ u,c'[i]? = some u∧u.oneCell'=true∧K2 S.blk ρ (okI F S.blk ρ) (hp w) x u)
  (hnt:a'.tmps.size=F.nt) (hdf:a'.defers=a.defers)
  (hws:∀ t v,(ws++S.sl).lookup t=some v→(S.slot t=some v∧a'.tmps[t]? = a.tmps[t]?)∨∃ u,a'.tmps[t]? = some u∧∀ β' ok',β' k=some B'→K2 β' ρ ok' (hp w') v u) :
  b5 F ρ ⟨ws++S.sl,(k,B') :: S.hb⟩ a' w':=by
 let S':St:=⟨ws++S.sl,(k,B') :: S.hb⟩
 have hbk:∀ j,S'.blk j=if j=k then some B' else S.blk j:=fun j=>by
  simp only [S',St.blk,i0]
  by_cases e:j=k
  ·simp [e]
  ·rw [show (j == k)=false by simpa using e]; simp [e]
 have hne:∀ j,S'.blk j≠none↔S.blk j≠none:=fun j=>by
  rw [hbk]
  by_cases e:j=k
  ·subst e; simp [hk]
  ·rw [if_neg e]
 have hc:Carry (okI F S.blk ρ) (okI F S'.blk ρ) (hp w) (hp w'):=fun b hb _ =>
  ⟨p0w (fun j hj=>⟨(hne j).1 hj,rfl⟩) hb,by rw [hh,if_neg (hb.2 k (by simp [hk]))]⟩
 have hkp:b0q (fun _=>True) S.blk S'.blk ρ ρ (hp w) (hp w'):=fun j _ C hC=>by
  by_cases hj:j=k
  ·subst hj
   rw [hbk,if_pos rfl] at hC
   injection hC with hC
   subst hC
   refine ⟨B,hk,hsz,hle,fun _=>⟨rfl,fun d T fr hd=>⟨c',B.T,(0,0),by rw [hh,if_pos rfl],?_⟩⟩⟩
   rw [hc0] at hd
   injection hd with hd
   injection hd with hd
   subst hd
   exact hcs
  ·rw [hbk,if_neg hj] at hC
   refine ⟨C,hC,rfl,Nat.le_refl _,fun _=>⟨rfl,fun d T fr hd=>⟨d,T,fr,?_,rfl⟩⟩⟩
   rw [hh,if_neg fun e=>hj (h.inj j k (by simp [hC]) (by simp [hk]) e)]
   exact hd
 refine h.upd (Kp:=fun _=>True) ⟨ho.trans h.frame.os,ht.trans h.frame.tape,hp'.trans h.frame.output,by rw [hs']; exact h.frame.size,fun b hb hx=>?_⟩ hnt hdf hc hkp
  (fun j j' hj hj' he=>h.inj j j' ((hne j).1 hj) ((hne j').1 hj') he) (fun j b n hj hS=>⟨(hne j).1 hS,rfl,fun d T hd=>?_⟩) (fun t v htv=>?_) (fun j C hC=>?_)
 ·obtain ⟨_,_,e2,_⟩:=h.blks k B hk
  have:b≠ρ k:=fun e=>by
   subst e
   rcases e2 with e2 | e2
   ·exact hx e2.1
   ·omega
  have:=hh b
  rw [if_neg ‹b≠ρ k›] at this
  unfold hp at this
  rw [this]
  exact h.frame.block b hb hx
 ·rw [hh]
  by_cases e:ρ j=ρ k
  ·rw [if_pos e]
   rw [e,hc0] at hd
   injection hd with hd
   injection hd with hd
   subst hd
   exact ⟨c',B.T,rfl,hcs⟩
  ·rw [if_neg e]; exact ⟨d,T,hd,rfl⟩
 ·rcases hws t v htv with ⟨h1,h2⟩ | ⟨u,h1,h2⟩
  ·exact .inl ⟨h1,h2,fun _ _=>trivial⟩
  ·exact .inr ⟨u,h1,h2 _ _ (by rw [hbk,if_pos rfl])⟩
 ·rw [hbk] at hC
  by_cases e:j=k
  ·rw [if_pos e] at hC
   injection hC with hC
   subst hC e
   obtain ⟨_,_,e2,_⟩:=h.blks j B hk
   refine .inr ⟨c',by rw [hh,if_pos rfl,hT],e2,by omega,fun i x hx=>?_⟩
   obtain ⟨u',hu',h1,hr⟩:=hcells i x hx
   exact ⟨u',hu',h1,K2.mono hc hkp x u' (fun _ _=>trivial) hr⟩
  ·rw [if_neg e] at hC
   exact .inl ⟨hC,rfl,by rw [hh,if_neg fun e'=>e (h.inj j k (by simp [hC]) (by simp [hk]) e')],fun _ _ _ _ _=>trivial⟩
end Go.Proofs.YtjagfionflbjbaaGreat.SH
namespace Go.Proofs.YtjagfionflbjbaaGreat.SH
open Go
inductive q0m {α:Type}:List α→Nat→List α→List α→Prop
 | skip {x:α} {xs:List α} {off:Nat} {new ys:List α}:q0m xs off new ys→q0m (x :: xs) (off+1) new (x :: ys)
 | here {xs:List α}:q0m xs 0 [] xs
 | put {x n:α} {xs new ys:List α}:q0m xs 0 new ys→q0m (x :: xs) 0 (n :: new) (n :: ys)
theorem q0m.spec {α:Type}{xs new ys:List α}{off:Nat}(h:q0m xs off new ys):off+new.length≤xs.length∧ys.length=xs.length∧∀ i,ys[i]? = if off≤i∧i<off+new.length then new[i - off]? else xs[i]?:=by
 induction h with
 | @skip x xs off new ys _ ih =>
  obtain ⟨h1,h2,h3⟩:=ih
  refine ⟨by simp; omega,by simp [h2],fun i=>?_⟩
  cases i with
  | zero=>simp
  | succ i =>
   simp only [List.getElem?_cons_succ,h3]
   rw [show i+1 - (off+1)=i - off by omega]
   by_cases hc:off≤i∧i<off+new.length
   ·rw [if_pos hc,if_pos (by omega)]
   ·rw [if_neg hc,if_neg (by omega)]
 | @here xs=>refine ⟨by simp,rfl,fun i=>?_⟩; rw [if_neg (by simp)]
 | @put x n xs new ys _ ih =>
  obtain ⟨h1,h2,h3⟩:=ih
  refine ⟨by simp at h1 ⊢; omega,by simp [h2],fun i=>?_⟩
  cases i with
  | zero=>simp
  | succ i=>simp only [List.getElem?_cons_succ,h3]; simp
inductive P6:PV→List PV→Prop
 | pagg {xs:List J2} {vs:List PV}:k0z vs xs→P6 (.p (.agg xs)) vs
 | agg {vs:List PV}:P6 (.agg vs) vs
 | atom {v:Value} (h:v.oneCell'=true):P6 (.p (.a v)) [.p (.a v)]
 | sl {n:Nat} {xs:List J2}:P6 (.p (.sl n xs)) [.p (.sl n xs)]
 | ifc {t:TypeId} {x:J2}:P6 (.p (.ifc t x)) [.p (.ifc t x)]
 | clo {f:Fn} {x y:List PV}:P6 (.clo f x y) [.clo f x y]
 | ref {k o n t:Nat}:P6 (.ref k o n t) [.ref k o n t]
theorem D3.cells {β:Nat→Option Blk}{ρ:Nat→Nat}{ok:Nat→Prop}{H:Nat→Option Obj}{x:PV}{vs:List PV}(h:P6 x vs){u:Value}(hr:K2 β ρ ok H x u) :
  D3 β ρ ok H vs u.cells.toList∧∀ c∈u.cells.toList,c.oneCell'=true:=by
 cases h with
 | pagg h =>
  simp only [K2,Rel] at hr
  obtain ⟨cs,rfl,h1,h2⟩:=hr
  simp only [Value.cells]
  exact ⟨by rw [h.eq]; exact q8.2 h1,h2⟩
 | agg =>
  simp only [K2] at hr
  obtain ⟨cs,rfl,h1,h2⟩:=hr
  exact ⟨h1,h2⟩
 | @atom v h =>
  have:u=v:=by simpa [K2,Rel] using hr
  subst this
  have:u.cells = #[u]:=by cases u <;> first | rfl | cases h
  rw [this]
  exact ⟨by simp [D3,K2,Rel],by simpa using h⟩
 | sl =>
  have hr':=hr
  simp only [K2,Rel] at hr
  obtain ⟨ad,cap,rfl,_⟩:=hr
  exact ⟨by simp only [Value.cells,D3]; exact ⟨_,_,rfl,hr',rfl⟩,by simp [Value.cells,Value.oneCell']⟩
 | ref =>
  have hr':=hr
  simp only [K2] at hr
  obtain ⟨⟨ad,m,c,rfl⟩,_⟩:=hr
  exact ⟨by simp only [Value.cells,D3]; exact ⟨_,_,rfl,hr',rfl⟩,by simp [Value.cells,Value.oneCell']⟩
 | ifc =>
  have hr':=hr
  simp only [K2,Rel] at hr
  obtain ⟨y,rfl,_⟩:=hr
  exact ⟨by simp only [Value.cells,D3]; exact ⟨_,_,rfl,hr',rfl⟩,by simp [Value.cells,Value.oneCell']⟩
 | clo =>
  have hr':=hr
  simp only [K2] at hr
  obtain ⟨fs,cs,rfl,_⟩:=hr
  exact ⟨by simp only [Value.cells,D3]; exact ⟨_,_,rfl,hr',rfl⟩,by simp [Value.cells,Value.oneCell']⟩
inductive Zs:List Value→List PV→Prop
 | nil:Zs [] []
 | cons {v:Value} {vs:List Value} {ps:List PV} (h:v.oneCell'=true):Zs vs ps→Zs (v :: vs) (.p (.a v) :: ps)
theorem Zs.rel {β:Nat→Option Blk}{ρ:Nat→Nat}{ok:Nat→Prop}{H:Nat→Option Obj}{vs:List Value}{ps:List PV}(h:Zs vs ps):D3 β ρ ok H ps vs∧(∀ c∈vs,c.oneCell'=true)∧∀ k,PV.freeL k ps=true:=by
 induction h with
 | nil=>exact ⟨rfl,by simp,fun k=>rfl⟩
 | cons h _ ih =>
  refine ⟨by simp only [D3]; exact ⟨_,_,rfl,by simp [K2,Rel],ih.1⟩,?_,fun k=>by simp [PV.freeL,PV.free,ih.2.2 k]⟩
  intro c hc
  rcases List.mem_cons.1 hc with rfl | hc
  ·exact h
  ·exact ih.2.1 c hc
theorem World.alloc_heap (w:World)(o:Obj):(w.alloc o).heap=w.heap.push o:=rfl
section
variable {P:Program} {F:Fr} {d:Nat} {T:TypeId} {pos:String} {aft:Array Edge} {g:Option (Nat×Bool)} {t:TypeId}
theorem j0m {o:Oper}{x:Ann}{k n:Nat}{vs:List PV}(hd:o.dst=some d)(hpk:F.pin k=none)(hlt:d<F.nt)(hn:vs.length=n)(hfr:x.fresh=some k)(hws:x.ws=[(d,.at_ k 0 n)])(hwb:x.wb=[(k,⟨t,n,.mix vs⟩)])
  (hrun:∀ ρ S a w,b5 F ρ S a w→x.holds S→∃ us:List Value,(execOp a.eval o).run P w = .ok (.value (.pointer (some ⟨w.heap.size,0,none⟩))) (w.alloc (.cells us.toArray t)) ∧
   D3 S.blk ρ (okI F S.blk ρ) (hp w) vs us∧(∀ c∈us,c.oneCell'=true)∧PV.freeL k vs=true):O2 P F o x:=by
 intro S a w ⟨ρ,hS⟩ hA Q K hK
 obtain ⟨us,h1,h2,h3,h4⟩:=hrun ρ S a w hS hA
 obtain ⟨hk,hf⟩:=hA.fresh k hfr
 unfold Oper.wp
 rw [h1]
 simp only [Oper.upon,hd]
 have hlen:=F5 h2
 have:=h0j (d:=d) (v:=.at_ k 0 n) (u:=.pointer (some ⟨w.heap.size,0,none⟩)) (B:=⟨t,n,.mix vs⟩) (c:=us.toArray) hS hk hf hpk hlt (World.alloc_heap w _) rfl rfl rfl (by simp [Cells.len,hlen])
  (fun i x hx=>by
   obtain ⟨u,hu,hr⟩:=L6 h2 hx
   exact ⟨f0p h4 hx,u,by simpa using hu,h3 u (M1 hu),hr⟩)
  (fun β' ρ' ok' hb hr=>by
   simp only [K2]
   intro B hB
   rw [hb] at hB
   injection hB with hB
   subst hB
   exact ⟨by simp [Cells.len,hn],fun _=>by rw [hr]⟩)
 refine hK _ _ ?_
 have e:S.app x=⟨(d,.at_ k 0 n) :: S.sl,(k,⟨t,n,.mix vs⟩) :: S.hb⟩:=by simp [St.app,hws,hwb]
 rw [e]
 exact this
theorem T3 {k n:Nat}{z:Value}{vs:List PV}(hz:∀ w,(zeroValue t).run P w = .ok z w)(hvs:Zs z.cells.toList vs)(hn:vs.length=n)(hpk:F.pin k=none)(hlt:d<F.nt) :
  O2 P F ⟨some d,.alloc t,T,pos,aft,g⟩ { fresh:=some k,ws:=[(d,.at_ k 0 n)],wb:=[(k,⟨t,n,.mix vs⟩)] } :=
 j0m rfl hpk hlt hn rfl rfl rfl fun ρ S a w h hA=>by
  obtain ⟨h1,h2,h3⟩:=hvs.rel (β:=S.blk) (ρ:=ρ) (ok:=okI F S.blk ρ) (H:=hp w)
  exact ⟨z.cells.toList,by simp [execOp,Instr.alloc,hz,newVar,newRow],h1,h2,h3 k⟩
theorem R3 {k n:Nat}{x:Operand}{v:PV}{vs:List PV}(hvs:P6 v vs)(hn:vs.length=n)(hf:PV.freeL k vs=true)(hpk:F.pin k=none)(hlt:d<F.nt) :
  O2 P F ⟨some d,.box t x,T,pos,aft,g⟩ { rs:=[(x,v)],fresh:=some k,ws:=[(d,.at_ k 0 n)],wb:=[(k,⟨t,n,.mix vs⟩)] } :=
 j0m rfl hpk hlt hn rfl rfl rfl fun ρ S a w h hA=>by
  obtain ⟨h1,h2⟩:=D3.cells hvs (Z4 h (hA.rs (x,v) (by simp)))
  exact ⟨(a.eval x).cells.toList,by simp [execOp,Instr.box,newVar,newRow],h1,h2,hf⟩
theorem f0f {w:World}{b:Nat}{c c':Array Value}{T:TypeId}(h:hp w b=some (.cells c T (0,0)))(j:Nat):hp (w.setRow b c') j=if j=b then some (.cells c' T (0,0)) else hp w j:=by
 unfold hp at h ⊢
 unfold World.setRow
 simp only [Array.getElem?_modify]
 by_cases e:j=b
 ·subst e; simp [h]
 ·rw [if_neg (Ne.symm e),if_neg e]
theorem j0v (w:World)(b:Nat)(c:Array Value):(w.setRow b c).heap.size=w.heap.size:=by simp [World.setRow]
theorem g8 (c:Array Value)(off:Nat)(us:List Value)(h:off+us.length≤c.size) :
  (c.toList.take off++us++c.toList.drop (off+us.length)).toArray.size=c.size∧∀ i,(c.toList.take off++us++c.toList.drop (off+us.length)).toArray[i]? = if off≤i∧i<off+us.length then us[i - off]? else c[i]?:=by
 refine ⟨by simp; omega,fun i=>?_⟩
 simp only [List.getElem?_toArray]
 by_cases h1:i<off
 ·rw [List.append_assoc,X0 (by simp; omega),List.getElem?_take,if_pos h1,if_neg (by omega)]
  simp
 ·by_cases h2:i<off+us.length
  ·rw [X0 (by simp; omega),D0 (by simp; omega),if_pos ⟨by omega,h2⟩]
   congr 1
   simp; omega
  ·rw [D0 (by simp; omega),List.getElem?_drop,if_neg (by omega)]
   simp
   congr 1
   omega
theorem n0a {x y:Operand}{k off tot n:Nat}{B B':Blk}{v:PV}{us:List PV}{rb:List (Nat×Blk)}(hsz:∀ w,(sizeOf t).run P w = .ok n w)(hl:B.cs.len=tot)(hT:B'.T=B.T)(hsz':B'.sz=B.sz)(hus:P6 v us)(hn:us.length=n)(hle:off+n≤B.cs.len)(hlen:B'.cs.len=B.cs.len)
  (hget:∀ i z,B'.cs.get i=some z→if off≤i∧i<off+n then us[i - off]? = some z else B.cs.get i=some z) :
  O2 P F ⟨none,.store t x y,T,pos,aft,g⟩ { rs:=[(x,.at_ k off tot),(y,v)],rb:=(k,B) :: rb,wb:=[(k,B')] }:=by
 intro S a w ⟨ρ,h⟩ hA Q K hK
 have hB:=hA.rb (k,B) (by simp)
 have he:=b9 h (off:=off) (hA.rs (x,.at_ k off tot) (by simp)) hB hl
 obtain ⟨h1,h2⟩:=D3.cells hus (Z4 h (hA.rs (y,v) (by simp)))
 obtain ⟨c,e1,e2,e3,e4⟩:=h.blks k B hB
 have hul:(a.eval y).cells.toList.length=n:=by rw [F5 h1,hn]
 have hrun:(execOp a.eval ⟨none,.store t x y,T,pos,aft,g⟩).run P w = .ok .skip (w.setRow (ρ k) (c.toList.take off++(a.eval y).cells.toList++c.toList.drop (off+(a.eval y).cells.toList.length)).toArray):=by
  have hst:=run_storeCells_at P (ρ k) off B.T (a.eval y).cells.toList 0 c w e1 (by omega) h2
  simp only [Nat.add_zero] at hst
  have:(a.eval y).cells.size=n:=by simpa using hul
  simp only [execOp,Instr.storeAt,he,Instr.sureAddr,storeVar,Sem.run_bind,Sem.run_pure,Result.andThen_ok,hsz,this,ne_eq,not_true,if_false,hst]
 unfold Oper.wp
 rw [hrun]
 simp only [Oper.upon,Act.put]
 obtain ⟨s1,s2⟩:=g8 c off (a.eval y).cells.toList (by omega)
 refine hK _ _ ⟨ρ,?_⟩
 refine G0g (ws:=[]) (a':=a) h hB e1 hT hsz' (Nat.le_of_eq hlen.symm) s1 (by rw [hlen]; exact e3) (f0f e1) (j0v _ _ _) rfl rfl rfl (fun i z hz=>?_) h.nt rfl (fun t v ht=>.inl ⟨ht,rfl⟩)
 have:=hget i z hz
 rw [s2,hul]
 split at this
 ·rename_i hin
  obtain ⟨u,hu,hr⟩:=L6 h1 this
  exact ⟨u,by rw [if_pos hin]; exact hu,h2 u (M1 hu),hr⟩
 ·rename_i hin
  obtain ⟨u,hu,h1c,hr⟩:=e4 i z this
  exact ⟨u,by rw [if_neg hin]; exact hu,h1c,hr⟩
theorem U2 {x y:Operand}{k off tot n sz:Nat}{bT:TypeId}{v:PV}{us vs vs':List PV}(hsz:∀ w,(sizeOf t).run P w = .ok n w)(hl:vs.length=tot)(hus:P6 v us)(hn:us.length=n)(hu:q0m vs off us vs') :
  O2 P F ⟨none,.store t x y,T,pos,aft,g⟩ { rs:=[(x,.at_ k off tot),(y,v)],rb:=[(k,⟨bT,sz,.mix vs⟩)],wb:=[(k,⟨bT,sz,.mix vs'⟩)] }:=by
 obtain ⟨h1,h2,h3⟩:=hu.spec
 refine n0a (B:=⟨bT,sz,.mix vs⟩) (B':=⟨bT,sz,.mix vs'⟩) hsz hl rfl rfl hus hn (by simp only [Cells.len]; omega) (by simp [Cells.len,h2]) fun i z hz=>?_
 simp only [Cells.get,h3,hn] at hz ⊢
 split at hz <;> rename_i hc
 ·rw [if_pos hc]; exact hz
 ·rw [if_neg hc]; exact hz
theorem b0n {x y:Operand}{k off tot sz:Nat}{bT:TypeId}{v:J2}{xs:List J2}(hsz:∀ w,(sizeOf t).run P w = .ok 1 w)(hl:xs.length=tot)(hus:P6 (.p v) [.p v])(hlt:off<tot) :
  O2 P F ⟨none,.store t x y,T,pos,aft,g⟩ { rs:=[(x,.at_ k off tot),(y,.p v)],rb:=[(k,⟨bT,sz,.pure xs⟩)],wb:=[(k,⟨bT,sz,.pure (xs.set off v)⟩)] }:=by
 refine n0a (B:=⟨bT,sz,.pure xs⟩) (B':=⟨bT,sz,.pure (xs.set off v)⟩) hsz hl rfl rfl hus rfl (by simp only [Cells.len]; omega) (by simp [Cells.len]) fun i z hz=>?_
 simp only [Cells.get,List.getElem?_set] at hz ⊢
 by_cases e:off=i
 ·subst e
  rw [if_pos rfl,if_pos (by omega)] at hz
  rw [if_pos (by omega)]
  simpa using hz
 ·rw [if_neg e] at hz
  rw [if_neg (by omega)]
  exact hz
theorem F0f {x y:Operand}{k off tot sz n:Nat}{bT:TypeId}{ys xs:List J2}(hsz:∀ w,(sizeOf t).run P w = .ok n w)(hl:xs.length=tot)(hn:ys.length=n)(hlt:off+n≤tot) :
  O2 P F ⟨none,.store t x y,T,pos,aft,g⟩ { rs:=[(x,.at_ k off tot),(y,.p (.agg ys))],rb:=[(k,⟨bT,sz,.pure xs⟩)],wb:=[(k,⟨bT,sz,.pure (xs.take off++ys++xs.drop (off+n))⟩)] }:=by
 have hall:∀ ys:List J2,k0z (ys.map .p) ys:=by
  intro ys; induction ys with
  | nil=>exact .nil
  | cons y ys ih=>exact .cons ih
 refine n0a (B:=⟨bT,sz,.pure xs⟩) (B':=⟨bT,sz,.pure (xs.take off++ys++xs.drop (off+n))⟩) hsz hl rfl rfl (.pagg (hall ys)) (by simp [hn]) (by simp only [Cells.len]; omega) (by simp [Cells.len]; omega) fun i z hz=>?_
 simp only [Cells.get,M0] at hz ⊢
 obtain ⟨y,hy,rfl⟩:=hz
 by_cases h1:i<off
 ·rw [if_neg (by omega)]
  rw [List.append_assoc,X0 (by simp; omega),List.getElem?_take,if_pos h1] at hy
  exact ⟨y,hy,rfl⟩
 ·by_cases h2:i<off+n
  ·rw [if_pos ⟨by omega,h2⟩]
   rw [X0 (by simp; omega),D0 (by simp; omega)] at hy
   rw [List.getElem?_map,show i - off=i - (xs.take off).length by simp; omega,hy]
   rfl
  ·rw [if_neg (by omega)]
   rw [D0 (by simp; omega),List.getElem?_drop] at hy
   refine ⟨y,?_,rfl⟩
   rw [← hy]
   congr 1
   simp; omega
end
end Go.Proofs.YtjagfionflbjbaaGreat.SH
namespace Go.Proofs.YtjagfionflbjbaaGreat.SH
open Go Go.RowKit
def v8 (S:St):List (Operand×PV)→Prop
 | []=>True
 | (x,v) :: r=>S.opd x=some v∧v8 S r
def J6 (S:St):List (Nat×Blk)→Prop
 | []=>True
 | (k,B) :: r=>S.blk k=some B∧J6 S r
def g0n (S:St):Option Nat→Prop
 | none=>True
 | some k=>S.blk k=none∧S.free k=true
theorem v8.all {S:St}:∀ {l:List (Operand×PV)},v8 S l→∀ p∈l,S.opd p.1=some p.2
 | [],_,p,hp=>by cases hp
 | (x,v) :: r,h,p,hp=>by
  rcases List.mem_cons.1 hp with rfl | hp
  ·exact h.1
  ·exact v8.all h.2 p hp
theorem J6.all {S:St}:∀ {l:List (Nat×Blk)},J6 S l→∀ p∈l,S.blk p.1=some p.2
 | [],_,p,hp=>by cases hp
 | (x,v) :: r,h,p,hp=>by
  rcases List.mem_cons.1 hp with rfl | hp
  ·exact h.1
  ·exact J6.all h.2 p hp
theorem H7 {S:St}{A:Ann}(h1:v8 S A.rs)(h2:J6 S A.rb)(h3:g0n S A.fresh):A.holds S :=
 ⟨h1.all,h2.all,fun k hk=>by rw [hk] at h3; exact h3⟩
inductive Seq (P:Program) (F:Fr) (ops:Array Oper):St→List Oper→List Ann→St→Prop
 | nil {S:St}:Seq P F ops S [] [] S
 | cons {S S':St} {o:Oper} {os:List Oper} {A:Ann} {As:List Ann}:k1r P F ops o A→A.holds S→Seq P F ops (S.app A) os As S'→Seq P F ops S (o :: os) (A :: As) S'
def y7 (P:Program)(F:Fr)(ops:Array Oper)(S:St)(os:List Oper)(K:List Ann→St→Prop):Prop:=∃ As S',Seq P F ops S os As S'∧K As S'
theorem O1 {P:Program}{F:Fr}{ops:Array Oper}{S:St}{K:List Ann→St→Prop}(h:K [] S):y7 P F ops S [] K:=⟨[],S,.nil,h⟩
section
variable {K:List Ann→St→Prop}
variable {P:Program} {F:Fr} {ops:Array Oper} {sl:List (Nat×PV)} {hb:List (Nat×Blk)} {op:Op} {T:TypeId} {pos:String} {aft:Array Edge} {os:List Oper} {dst:Option Nat}
 {rs:List (Operand×PV)} {rb:List (Nat×Blk)} {fr:Option Nat}
theorem sw {d:Nat}{v:PV}(hc:O2 P F ⟨dst,op,T,pos,aft,none⟩ ⟨rs,rb,none,[(d,v)],[]⟩)(h1:v8 ⟨sl,hb⟩ rs)(h2:J6 ⟨sl,hb⟩ rb)(hn:y7 P F ops ⟨(d,v) :: sl,hb⟩ os fun As S'=>K (⟨rs,rb,none,[(d,v)],[]⟩ :: As) S') :
  y7 P F ops ⟨sl,hb⟩ (⟨dst,op,T,pos,aft,none⟩ :: os) K :=
 let ⟨As,S',h,hK⟩:=hn
 ⟨_,S',.cons (C7 rfl hc) (H7 h1 h2 trivial) h,hK⟩
theorem sb {k:Nat}{B:Blk}(hc:O2 P F ⟨dst,op,T,pos,aft,none⟩ ⟨rs,rb,none,[],[(k,B)]⟩)(h1:v8 ⟨sl,hb⟩ rs)(h2:J6 ⟨sl,hb⟩ rb)(hn:y7 P F ops ⟨sl,(k,B) :: hb⟩ os fun As S'=>K (⟨rs,rb,none,[],[(k,B)]⟩ :: As) S') :
  y7 P F ops ⟨sl,hb⟩ (⟨dst,op,T,pos,aft,none⟩ :: os) K :=
 let ⟨As,S',h,hK⟩:=hn
 ⟨_,S',.cons (C7 rfl hc) (H7 h1 h2 trivial) h,hK⟩
theorem swb {d k:Nat}{v:PV}{B:Blk}(hc:O2 P F ⟨dst,op,T,pos,aft,none⟩ ⟨rs,rb,fr,[(d,v)],[(k,B)]⟩)(h1:v8 ⟨sl,hb⟩ rs)(h2:J6 ⟨sl,hb⟩ rb)(h3:g0n ⟨sl,hb⟩ fr)(hn:y7 P F ops ⟨(d,v) :: sl,(k,B) :: hb⟩ os fun As S'=>K (⟨rs,rb,fr,[(d,v)],[(k,B)]⟩ :: As) S') :
  y7 P F ops ⟨sl,hb⟩ (⟨dst,op,T,pos,aft,none⟩ :: os) K :=
 let ⟨As,S',h,hK⟩:=hn
 ⟨_,S',.cons (C7 rfl hc) (H7 h1 h2 h3) h,hK⟩
theorem y1g {o:Oper}{A:Ann}{j g:Nat}{want b:Bool}(hg:o.guard=some (j,want))(hj:((ops[j]?).bind (·.dst))=some g)(hb:b=want)(hA:(Operand.tmp g,PV.p (.a (.bool b)))∈A.rs)(h:O2 P F o A):k1r P F ops o A:=by
 intro S a w hS hh Q K hK
 have hr:=hh.rs _ hA
 obtain ⟨ρ,hS'⟩:=hS
 obtain ⟨u,hu,hru⟩:=hS'.slots g _ hr
 have:u = .bool b:=by simpa [K2,Rel] using hru
 subst this
 have:Region.wanted o (yielded ops a.tmps)=true:=by simp [Region.wanted,hg,yielded,hj,hu,hb]
 rw [if_pos this]
 exact .inl (h S a w ⟨ρ,hS'⟩ hh Q K hK)
theorem k1s {o:Oper}{p:Operand×PV}{ws:List (Nat×PV)}{wb:List (Nat×Blk)}(h:O2 P F o ⟨rs,rb,fr,ws,wb⟩):O2 P F o ⟨p :: rs,rb,fr,ws,wb⟩ :=
 fun S a w hS hh Q K hK=>h S a w hS ⟨fun q hq=>hh.rs q (List.mem_cons_of_mem _ hq),hh.rb,hh.fresh⟩ Q K hK
theorem swg {d j g:Nat}{want b:Bool}{v:PV}(hj:((ops[j]?).bind (·.dst))=some g)(hbw:b=want)(hc:O2 P F ⟨dst,op,T,pos,aft,some (j,want)⟩ ⟨rs,rb,none,[(d,v)],[]⟩)(hgs:St.opd ⟨sl,hb⟩ (.tmp g)=some (.p (.a (.bool b))))(h1:v8 ⟨sl,hb⟩ rs)(h2:J6 ⟨sl,hb⟩ rb)(hn:y7 P F ops ⟨(d,v) :: sl,hb⟩ os fun As S'=>K (⟨(.tmp g,.p (.a (.bool b))) :: rs,rb,none,[(d,v)],[]⟩ :: As) S') :
  y7 P F ops ⟨sl,hb⟩ (⟨dst,op,T,pos,aft,some (j,want)⟩ :: os) K :=
 let ⟨As,S',h,hK⟩:=hn
 ⟨_,S',.cons (y1g (g:=g) (b:=b) rfl hj hbw (by simp) (k1s hc)) (H7 ⟨hgs,h1⟩ h2 trivial) h,hK⟩
theorem swn {d j g:Nat}{want b:Bool}(hj:((ops[j]?).bind (·.dst))=some g)(hbw:b = !want)(hlt:d<F.nt)(hgs:St.opd ⟨sl,hb⟩ (.tmp g)=some (.p (.a (.bool b))))(hn:y7 P F ops ⟨(d,.p (.a undef)) :: sl,hb⟩ os fun As S'=>K (⟨[(.tmp g,.p (.a (.bool b)))],[],none,[(d,.p (.a undef))],[]⟩ :: As) S') :
  y7 P F ops ⟨sl,hb⟩ (⟨some d,op,T,pos,aft,some (j,want)⟩ :: os) K:=by
 obtain ⟨As,S',h,hK⟩:=hn
 refine ⟨_,S',?_,hK⟩
 refine .cons (fun S a w hS hh Q K hK=>?_) (H7 ⟨hgs,trivial⟩ trivial trivial) h
 have hr:=hh.rs (Operand.tmp g,PV.p (.a (.bool b))) (by simp)
 obtain ⟨ρ,hS'⟩:=hS
 obtain ⟨u,hu,hru⟩:=hS'.slots g _ hr
 have:u = .bool b:=by simpa [K2,Rel] using hru
 subst this
 have:Region.wanted ⟨some d,op,T,pos,aft,some (j,want)⟩ (yielded ops a.tmps)=false:=by cases want <;> simp [Region.wanted,yielded,hj,hu,hbw]
 rw [this]
 exact hK _ _ ⟨ρ,p0r hS' hlt (by simp [K2,Rel])⟩
end
structure l4 (P:Program) (F:Fr) (c:Code) (S:St) (Q:Exit→St→Prop):Prop where
 run:∀ n a w,Sat F S a w→c.wpIn (fen F) n P (fun e a' w'=>(∃ S',Q e S'∧Sat F S' a' w')∨(e = .ret∧F.esc a' w')) a w
def G0s (K:St→Prop)(Q:Exit→St→Prop):Exit→St→Prop
 | .normal,S=>K S
 | e,S=>Q e S
def Q1c (id:Nat)(Q:Exit→St→Prop):Exit→St→Prop
 | .exit j,S=>if j=id then Q .normal S else Q (.exit j) S
 | e,S=>Q e S
def St.le (S' S:St):Prop:=(∀ t v,S'.slot t=some v→S.slot t=some v)∧(∀ k B,S'.blk k=some B→S.blk k=some B)
theorem G1a {P:Program}{F:Fr}{ops:Array Oper}{Q:Exit→Act→World→Prop}{S':St}(hnd:∀ o∈ops.toList,∀ c,o.op≠.defer c)(m:Nat)(hQ:∀ a w,Sat F S' a w→Q .normal a w):∀ {os:List Oper} {As:List Ann} {S:St} {n:Nat},Seq P F ops S os As S' →
  (∀ j,os[j]? = ops[n+j]?)→∀ a w,Sat F S a w→wpOpsIn (fen F) m P ops Q ((List.range os.length).map (n + ·)) a w:=by
 intro os As S n h
 induction h generalizing n with
 | nil=>intro _ a w hS; exact hQ a w hS
 | @cons S S' o os A As hop hA _ ih =>
  intro hj a w hS
  have h0:ops[n]? = some o:=by have:=hj 0; simpa using this.symm
  rw [D1,List.range_succ_eq_map,R0,List.map_map,Nat.add_zero,wpOpsIn_cons]
  refine M0j h0 (hnd o (M1 (by rw [Array.getElem?_toList]; exact h0))) (hop S a w hS hA Q _ fun a' w' h'=>?_)
  have:=ih hQ (n:=n+1) (fun j=>by have:=hj (j+1); simp only [List.getElem?_cons_succ] at this; rw [this]; congr 1; omega) a' w' h'
  have e:(fun x=>n+1+x)=((fun x=>n+x) ∘ Nat.succ):=by funext x; simp; omega
  rwa [e] at this
theorem D1m {P:Program}{F:Fr}{ops:Array Oper}:∀ {os:List Oper} {As:List Ann} {S S':St},Seq P F ops S os As S' →
  os.length=As.length∧(∀ (i:Nat) (o:Oper) (A:Ann),os[i]? = some o→As[i]? = some A→k1r P F ops o A)∧j4 S As 0 (fun _=>true)=S' ∧
  (∀ (i:Nat) (A:Ann),As[i]? = some A→A.holds (j4 S As 0 (fun j=>decide (j<i)))):=by
 intro os As S S' h
 induction h with
 | nil=>exact ⟨rfl,fun i o A h=>by simp at h,rfl,fun i A h=>by simp at h⟩
 | @cons S S' o os A As hop hA _ ih =>
  obtain ⟨h1,h2,h3,h4⟩:=ih
  have shift:∀ (E E':Nat→Bool) (l:List Ann) (n m:Nat) (S:St),(∀ j,E (n+j)=E' (m+j))→j4 S l n E=j4 S l m E':=by
   intro E E' l
   induction l with
   | nil=>intros; rfl
   | cons B l ih =>
    intro n m S he
    simp only [j4]
    rw [show E n=E' m by simpa using he 0]
    exact ih (n+1) (m+1) _ fun j=>by have:=he (j+1); rwa [show n+1+j=n+(j+1) by omega,show m+1+j=m+(j+1) by omega]
  refine ⟨by simp [h1],fun i o' A' ho hA'=>?_,?_,fun i A' hA'=>?_⟩
  ·cases i with
   | zero =>
    obtain rfl:o=o':=by simpa using ho
    obtain rfl:A=A':=by simpa using hA'
    exact hop
   | succ i=>exact h2 i o' A' (by simpa using ho) (by simpa using hA')
  ·simp only [j4,if_true]
   rw [← h3]
   exact shift _ _ _ _ _ _ fun _=>rfl
  ·cases i with
   | zero =>
    obtain rfl:A=A':=by simpa using hA'
    have:∀ (l:List Ann) (n:Nat) (S:St),j4 S l n (fun j=>decide (j<0))=S:=by
     intro l; induction l with
     | nil=>intros; rfl
     | cons B l ih=>intro n S; simp only [j4,Nat.not_lt_zero,decide_false]; exact ih _ _
    rw [this]
    exact hA
   | succ i =>
    have:=h4 i A' (by simpa using hA')
    simp only [j4,Nat.zero_lt_succ,decide_true,if_true]
    rwa [shift (fun j=>decide (j<i+1)) (fun j=>decide (j<i)) As 1 0 (S.app A) (fun j=>by simp [Nat.add_comm])]
def b6 (S:St):List Ann→Bool
 | []=>true
 | A :: As=>(A.fresh.all fun k=>S.free k) && b6 S As
theorem n0j {S:St}:∀ {As:List Ann},b6 S As=true→∀ (i:Nat) (A:Ann),As[i]? = some A→∀ k,A.fresh=some k→S.free k=true
 | [],_,i,A,h,_,_=>by simp at h
 | B :: As,hf,i,A,h,k,hk=>by
  simp only [b6,j0] at hf
  cases i with
  | zero =>
   obtain rfl:B=A:=by simpa using h
   have:=hf.1
   rw [hk] at this
   simpa using this
  | succ i=>exact n0j hf.2 i A (by simpa using h) k hk
section
variable {P:Program} {F:Fr} {S:St} {Q:Exit→St→Prop}
theorem l4.weak {c:Code}{S':St}(h:l4 P F c S' Q)(hle:S'.le S):l4 P F c S Q:=⟨fun n a w hS=>h.run n a w (hS.weak hle.1 hle.2)⟩
theorem R1 {x y:Code}(h:l4 P F x S (G0s (fun S'=>l4 P F y S' Q) Q)):l4 P F (.seq x y) S Q:=⟨fun n a w hS=>wpIn_seq (wpIn_mono (h.run n a w hS) fun e a' w' hq=>by
 rcases hq with ⟨S',h1,h2⟩ | ⟨rfl,h⟩
 ·cases e <;> first | exact l4.run h1 n a' w' h2 | exact .inl ⟨S',h1,h2⟩
 ·exact .inr ⟨rfl,h⟩)⟩
theorem U1 (h:Q .normal S):l4 P F .skip S Q:=⟨fun n a w hS=>wpIn_skip (.inl ⟨S,h,hS⟩)⟩
theorem V1 (h:Q .ret S):l4 P F .ret S Q:=⟨fun n a w hS=>wpIn_ret (.inl ⟨S,h,hS⟩)⟩
theorem L2 {id:Nat}(h:Q (.exit id) S):l4 P F (.exit id) S Q:=⟨fun n a w hS=>wpIn_exit (.inl ⟨S,h,hS⟩)⟩
theorem X1 {id:Nat}{c:Code}(h:l4 P F c S (Q1c id Q)):l4 P F (.block id c) S Q:=⟨fun n a w hS=>wpIn_block (wpIn_mono (h.run n a w hS) fun e a' w' hq=>by
 rcases hq with ⟨S',h1,h2⟩ | ⟨rfl,h⟩
 ·cases e with
  | exit j =>
   simp only [Exit.inBlock]
   simp only [Q1c] at h1
   split <;> rename_i hj
   ·rw [if_pos hj] at h1; exact .inl ⟨S',h1,h2⟩
   ·rw [if_neg hj] at h1; exact .inl ⟨S',h1,h2⟩
  | _=>exact .inl ⟨S',h1,h2⟩
 ·exact .inr ⟨rfl,h⟩)⟩
theorem i6 {c:Operand}{x y:Code}{b:Bool}(hc:S.opd c=some (.p (.a (.bool b))))(hb:b=true)(h:l4 P F x S Q):l4 P F (.cond c x y) S Q:=⟨fun n a w hS=>by
 obtain ⟨ρ,hR⟩:=hS
 exact wpIn_cond_true (by rw [M4 hR hc,hb]) (h.run n a w ⟨ρ,hR⟩)⟩
theorem W3 {c:Operand}{x y:Code}{b:Bool}(hc:S.opd c=some (.p (.a (.bool b))))(hb:b=false)(h:l4 P F y S Q):l4 P F (.cond c x y) S Q:=⟨fun n a w hS=>by
 obtain ⟨ρ,hR⟩:=hS
 exact wpIn_cond_false (by rw [M4 hR hc,hb]) (h.run n a w ⟨ρ,hR⟩)⟩
theorem D2 {c:Operand}{x y:Code}{b:Bool}(hc:S.opd c=some (.p (.a (.bool b))))(ht:b=true→l4 P F x S Q)(hf:b=false→l4 P F y S Q):l4 P F (.cond c x y) S Q:=by
 cases hb:b with
 | true=>exact i6 hc hb (ht hb)
 | false=>exact W3 hc hb (hf hb)
theorem q0b {id:Nat}{l:List Oper}{As:List Ann}{S':St}(h:Seq P F l.toArray S l As S')(hQ:Q .normal S')(hnd:d0h l=true:=by rfl):l4 P F (.region id l.toArray false) S Q:=⟨fun m a w hS=>by
 refine wpIn_region ?_
 have:=G1a (by simpa using k0f hnd) m (Q:=fun e a' w'=>(∃ S',Q e S'∧Sat F S' a' w')∨(e = .ret∧F.esc a' w')) (fun a w hS=>.inl ⟨S',hQ,hS⟩) h (n:=0) (fun j=>by simp) a w hS
 simpa using this⟩
theorem Sat.drew {F:Fr}{S:St}{a:Act}{w:World}(h:Sat F S a w):Sat F S a { w with drawn:=w.drawn+1 }:=by
 obtain ⟨ρ,h⟩:=h
 exact ⟨ρ,h.slots,h.blks,h.inj,⟨h.frame.os,h.frame.tape,h.frame.output,h.frame.size,h.frame.block⟩,h.nt,h.df,h.pin⟩
theorem P0p {id:Nat}{l:List Oper}{As:List Ann}{S':St}(hm:P.follows .mixedOrders=true)(h:Seq P F l.toArray S l As S')(hord:(W7 l As [] [] && b6 S As)=true)(hQ:Q .normal S')(hnd:d0h l=true:=by rfl):l4 P F (.region id l.toArray true) S Q:=⟨fun m a w hS=>by
 refine wpIn_region_any hm ?_
 obtain ⟨h1,h2,h3,h4⟩:=D1m h
 rw [j0] at hord
 obtain ⟨h5,h6⟩:=q1v (ops:=l.toArray) (As:=As) (by simpa using hord.1)
 refine j1g (S:=S) h5 h6 (fun i o A ho hA=>h2 i o A (by simpa using ho) hA) h4 (n0j hord.2) (fun a w hS=>.inl ⟨S',hQ,by rw [← h3]; exact hS⟩) (by simpa using k0f hnd) m _ _ _ _ (by simp) ?_ ?_ ?_
 ·intro i o ho hi
  have hlt:i<l.length:=by have:=(Array.getElem?_eq_some_iff.1 ho).1; simpa using this
  simp [Array.getD_eq_getD_getElem?,hlt] at hi
 ·exact Nat.le_trans List.countP_le_length (by simp)
 ·have : j4 S As 0 (fun i => (Array.replicate l.toArray.size false).getD i true) = S := by
   have none_:∀ (l:List Ann) (n:Nat) (E:Nat→Bool),(∀ j,j<l.length→E (n+j)=false)→∀ S,j4 S l n E=S:=by
    intro l
    induction l with
    | nil=>intros; rfl
    | cons B l ih =>
     intro n E he S
     simp only [j4]
     rw [show E n=false by simpa using he 0 (by simp)]
     exact ih (n+1) E (fun j hj=>by have:=he (j+1) (by simp; omega); rwa [show n+1+j=n+(j+1) by omega]) S
   refine none_ As 0 _ (fun j hj=>?_) S
   have:j<l.length:=by simp at h5; omega
   simp [Array.getD_eq_getD_getElem?,this]
  rw [this]
  exact hS.drew⟩
theorem G0m {F:Fence}{n0:Nat}{c:Code}{α:Type}{Q:Exit→Act→World→Prop}(I:α→Act→World→Prop)(μ:α→Nat)
  (round:∀ x a w,I x a w→c.wpIn F n0 P (Exit.then (fun a' w'=>∃ y,μ y<μ x∧I y a' w') Q) a w) (x:α) (a:Act) (w:World) (h₀:I x a w):(Code.loop c).wpIn F n0 P Q a w:=by
 intro b k cs hro hb hr
 have key : ∀ n x a w, μ x = n → I x a w →
   ∃ e a' w',Q e a' w'∧ArrivesIn (Machine.fenced P F) P (lone (b.atR a (.code c :: .inLoop c :: k)) cs w) b k cs e a' w':=by
  intro n
  induction n using Nat.strongRecOn with
  | _ n ih =>
   intro x a w hn hI
   obtain ⟨e,a₁,w₁,hq,harr⟩:=round x a w hI b (.inLoop c :: k) cs hro hb hr
   cases e with
   | normal =>
    obtain ⟨y,hlt,hI₁⟩:=hq
    obtain ⟨e₂,a₂,w₂,hq₂,harr₂⟩:=ih (μ y) (hn ▸ hlt) y a₁ w₁ rfl hI₁
    exact ⟨e₂,a₂,w₂,hq₂,.of_steps (StepsIn.trans harr (.one (fenced_calm hb hr rfl) stepR_inLoop)) harr₂⟩
   | exit id=>exact ⟨_,a₁,w₁,hq,.pass (x:=.inLoop c) rfl (fun _ _=>.inl (by simp)) harr⟩
   | goto l=>exact ⟨_,a₁,w₁,hq,.pass (x:=.inLoop c) rfl (fun _ _=>.inl (by simp)) harr⟩
   | ret=>exact ⟨_,a₁,w₁,hq,.pass (x:=.inLoop c) rfl (fun _ _=>.inl (by simp)) harr⟩
   | panic ch=>exact ⟨_,a₁,w₁,hq,.pass (x:=.inLoop c) rfl (fun _ _=>.inl (by simp)) harr⟩
   | outgrown=>exact ⟨_,a₁,w₁,hq,.pass (x:=.inLoop c) rfl (fun _ _=>.inl (by simp)) harr⟩
 obtain ⟨e,a',w',hq,harr⟩:=key _ x a w rfl h₀
 exact ⟨e,a',w',hq,.of_steps (.one (fenced_calm hb hr rfl) stepR_loop) harr⟩
theorem P0k {c:Code}{α:Type}(I:α→St)(ok:α→Prop)(μ:α→Nat)(x:α)(h0:ok x)(hle:(I x).le S)
  (round:∀ x,ok x→l4 P F c (I x) (G0s (fun S'=>∃ y,ok y∧μ y<μ x∧(I y).le S') Q)):l4 P F (.loop c) S Q:=by
 refine l4.weak ⟨fun n a w hS=>?_⟩ hle
 refine G0m (fun x a w=>ok x∧Sat F (I x) a w) μ (fun x a w hI=>?_) x a w ⟨h0,hS⟩
 refine wpIn_mono ((round x hI.1).run n a w hI.2) fun e a' w' hq=>?_
 rcases hq with ⟨S',h1,h2⟩ | ⟨rfl,h⟩
 ·cases e with
  | normal =>
   obtain ⟨y,hy,hlt,hle⟩:=h1
   exact ⟨y,hlt,hy,h2.weak hle.1 hle.2⟩
  | _=>exact .inl ⟨S',h1,h2⟩
 ·exact .inr ⟨rfl,h⟩
end
theorem b5.agree {F:Fr}{ρ:Nat→Nat}{S:St}{a a':Act}{w w':World}(h:b5 F ρ S a w)(hf:B0d F w')(hA:m0d (hp w) (hp w'))(ht:a'.tmps=a.tmps)(hm:g0z F a'.defers w'):b5 F ρ S a' w':=by
 refine ⟨fun t v hs=>?_,fun k B hB=>?_,h.inj,hf,by rw [ht]; exact h.nt,hm,fun j b n hj hS=>?_⟩
 ·obtain ⟨u,hu,hr⟩:=h.slots t v hs
  exact ⟨u,by rw [ht]; exact hu,K2.agree hA v u hr⟩
 ·obtain ⟨c,h1,h2,h3,h4⟩:=h.blks k B hB
  refine ⟨c,hA.cells _ _ _ _ h1,h2,h3,fun i x hx=>?_⟩
  obtain ⟨u,hu,ho,hr⟩:=h4 i x hx
  exact ⟨u,hu,ho,K2.agree hA x u hr⟩
 ·obtain ⟨h1,c,T,h2,h3⟩:=h.pin j b n hj hS
  exact ⟨h1,c,T,hA.cells _ _ _ _ h2,h3⟩
theorem f1c {w:World}{D:Nat}{o:Obj}(h:w.heap[D]? = some o)(hc:∀ c T fr,o≠.cells c T fr)(o':Obj):m0d (hp w) (hp (w.putObj D o')):=by
 refine ⟨fun b c T fr hb=>?_,fun b hb=>?_⟩
 ·have:b≠D:=fun e=>by subst e; have:w.heap[b]? = some (.cells c T fr):=hb; rw [h] at this; injection this with this; exact hc _ _ _ this
  exact (World.putObj_heap_other this).trans hb
 ·by_cases e:b=D
  ·subst e; show (w.putObj b o').heap[b]?≠none; rw [World.putObj_heap_same (World.size_lt h)]; simp
  ·show (w.putObj D o').heap[b]?≠none; rw [World.putObj_heap_other e]; exact hb
theorem D0z {P:Program}{F:Fr}{fn:Func}{R:Ending→World→Prop}{ρ:Nat→Nat}{S:St}{tmps:Array Value}(hF:F.df=[])(hfin:∀ w',b5 F ρ S ⟨tmps,[]⟩ w'→∃ v,(results fn tmps).run P w' = .ok v w'∧R (.returned v) w') :
  ∀ (Ds:List Nat) (w:World),b5 F ρ S ⟨tmps,Ds.map (fun D=>({ target:=.collected D,args:=#[] }:Deferred))⟩ w→Ds.Nodup→(∀ D∈Ds,F.w0.heap.size≤D∧w.heap[D]? = some (.deferred (some []))) →
   LeavesInM Fence.wide 0 P fn tmps R (Ds.map (fun D=>({ target:=.collected D,args:=#[] }:Deferred))) .returning w
 | [],w,h,_,_=>hfin w h
 | D :: Ds,w,h,hn,hD=>by
  obtain ⟨h1,h2⟩:=hD D (by simp)
  have hn':=List.nodup_cons.1 hn
  have hDs:∀ D'∈Ds,F.w0.heap.size≤D'∧(w.putObj D (.deferred none)).heap[D']? = some (.deferred (some [])):=fun D' hD'=>by
   obtain ⟨h3,h4⟩:=hD D' (by simp [hD'])
   exact ⟨h3,(World.putObj_heap_other (fun e:D'=D=>hn'.1 (e ▸ hD'))).trans h4⟩
  refine ⟨by simp,.inl ⟨D,_,rfl,run_takeDeferred h2,?_⟩⟩
  refine D0z hF hfin Ds _ ?_ hn'.2 hDs
  have hfr:=h.frame
  exact h.agree ⟨hfr.os,hfr.tape,hfr.output,by simpa using hfr.size,fun b hb hx=>(World.putObj_heap_other (by omega)).trans (hfr.block b hb hx)⟩ (f1c h2 (by intros; simp) _) rfl ⟨Ds,by simp [hF],hn'.2,hDs⟩
theorem W0r {P:Program}{F:Fr}{fn:Func}{R:Ending→World→Prop}{ρ:Nat→Nat}{S:St}{a:Act}{w:World}(h:b5 F ρ S a w)(hF:F.df=[])(hfin:∀ w',b5 F ρ S ⟨a.tmps,[]⟩ w'→∃ v,(results fn a.tmps).run P w' = .ok v w'∧R (.returned v) w') :
  LeavesInM Fence.wide 0 P fn a.tmps R a.defers .returning w:=by
 obtain ⟨Ds,h1,h2,h3⟩:=h.df
 have h1:a.defers=Ds.map (fun D=>({ target:=.collected D,args:=#[] }:Deferred)):=by rw [h1,hF,List.append_nil]
 rw [h1]
 exact D0z hF hfin Ds w (by rw [← h1]; exact h) h2 h3
theorem Y8 {P:Program}{F:Fr}{f:FuncId}{fn:Func}{c:Code}{vals:List Value}{w:World}{S:St}{Q:Exit→St→Prop}{R:Ending→World→Prop}(hf:P.funcs[f]? = some fn)(hb:fn.body=some c)(hro:F.ro=none)(hdf:F.df=[])(hesc:∀ a w,¬ F.esc a w)
  (hS:Sat F S { tmps:=vals.toArray++Array.replicate (fn.ntmps - vals.toArray.size) undef,defers:=[] } w) (hx:l4 P F c S Q) (hQ:∀ e S',Q e S'→(e = .normal∨e = .ret)∧∀ ρ tmps w',b5 F ρ S' ⟨tmps,[]⟩ w'→∃ v,(results fn tmps).run P w' = .ok v w'∧R (.returned v) w'):Calls P f vals.toArray w R:=by
 have h0:=hx.run 0 _ w hS
 rw [show fen F=Fence.wide by simp [fen,hro,Fence.wide]] at h0
 refine callsIn_wide.1 (callsIn_of_wp_marks (n:=0) hf hb trivial (wpIn_mono h0 fun e a' w' hq=>?_))
 rcases hq with ⟨S',hq,⟨ρ,hS'⟩⟩ | ⟨_,h⟩
 ·obtain ⟨he,hr⟩:=hQ e S' hq
  have:=W0r (fn:=fn) (P:=P) (R:=R) hS' hdf (fun w2 h2=>hr ρ a'.tmps w2 h2)
  rcases he with rfl | rfl <;> exact this
 ·exact absurd h (hesc _ _)
structure Env where
 P:Program
 G:World→Prop
 ng:Nat
 stab:∀ w w':World,G w→(∀ b,b<ng→w'.heap[b]? = w.heap[b]?)→G w'
def Y2 (E:Env)(f:FuncId)(args:List J2)(r:J2):Prop :=
 ∀ (ok:Nat→Prop) (w:World) (vals:List Value),E.G w→K5 ok (hp w) args vals →
  Calls E.P f vals.toArray w fun e w'=>∃ v,e = .returned v∧Rel (fun b=>ok b∨w.heap.size≤b) (hp w') r v∧Below w.heap.size w w'
inductive w0x (P:Program) (S:St):ResultVar→J2→Prop
 | tmp {t:Nat} {x:J2}:S.slot t=some (.p x)→w0x P S (.tmp t) x
 | agg {t k n sz:Nat} {T bT:TypeId} {vs:List PV} {xs:List J2}:S.slot t=some (.at_ k 0 n)→S.blk k=some ⟨bT,sz,.mix vs⟩→vs.length=n→(∀ w,(isAgg T).run P w = .ok true w)→(∀ w,(sizeOf T).run P w = .ok n w)→k0z vs xs→w0x P S (.cell t T) (.agg xs)
 | one {t k sz:Nat} {T bT:TypeId} {x:J2}:S.slot t=some (.at_ k 0 1)→S.blk k=some ⟨bT,sz,.mix [.p x]⟩→(∀ w,(isAgg T).run P w = .ok false w)→w0x P S (.cell t T) x
inductive U4 (P:Program) (S:St):List ResultVar→List J2→Prop
 | nil:U4 P S [] []
 | cons {r:ResultVar} {x:J2} {rs:List ResultVar} {xs:List J2}:w0x P S r x→U4 P S rs xs→U4 P S (r :: rs) (x :: xs)
def w0k:List J2→J2
 | [x]=>x
 | xs=>.tup xs
def d8 (tmps:Array Value):ResultVar→Sem Value
 | .tmp t=>pure (tmps.getD t undef)
 | .cell a t=>do loadVar t (← asAddr (tmps.getD a undef))
theorem w0x.run {P:Program}{F:Fr}{ρ:Nat→Nat}{S:St}{a:Act}{w:World}(h:b5 F ρ S a w){r:ResultVar}{x:J2}(hr:w0x P S r x) :
  ∃ v,(d8 a.tmps r).run P w = .ok v w∧Rel (okI F S.blk ρ) (hp w) x v:=by
 cases hr with
 | tmp hs =>
  obtain ⟨u,hu,hr⟩:=h.slots _ _ hs
  exact ⟨u,by simp [d8,Array.getD_eq_getD_getElem?,hu],by simpa [K2] using hr⟩
 | @agg t k n sz T bT vs xs hs hB hn hag hsz hv =>
  have he:=b9 (off:=0) h (x:=.tmp t) (by simpa [St.opd] using hs) hB (by simpa [Cells.len] using hn)
  simp only [Act.eval] at he
  obtain ⟨us,h1,h2,h3⟩:=f0z (P:=P) (off:=0) (n:=n) (vs:=vs) h hB (by simp [Cells.sub,← hn]) hn
  refine ⟨.agg us.toArray,?_,?_⟩
  ·simp [d8,he,asAddr,loadVar,hag,hsz,h1]
  ·simp only [Rel]
   exact ⟨us,rfl,q8.1 (by rw [← hv.eq]; exact h2),h3⟩
 | @one t k sz T bT x hs hB hag =>
  have he:=b9 (off:=0) h (x:=.tmp t) (by simpa [St.opd] using hs) hB (by simp [Cells.len])
  simp only [Act.eval] at he
  obtain ⟨c,h1,h2,h3,h4⟩:=h.blks k _ hB
  obtain ⟨u,hu,_,hr⟩:=h4 0 (.p x) rfl
  have hc:w.cell? ⟨ρ k,0,none⟩=some u:=by rw [d9,M7 h1,hu]
  exact ⟨u,by simp [d8,he,asAddr,loadVar,hag,hc],by simpa [K2] using hr⟩
theorem U4.run {P:Program}{F:Fr}{ρ:Nat→Nat}{S:St}{a:Act}{w:World}(h:b5 F ρ S a w){rs:List ResultVar}{xs:List J2}(hr:U4 P S rs xs) :
  ∃ us:List Value,(rs.mapM (d8 a.tmps)).run P w = .ok us w∧K5 (okI F S.blk ρ) (hp w) xs us:=by
 induction hr with
 | nil=>exact ⟨[],by simp,rfl⟩
 | cons h1 _ ih =>
  obtain ⟨v,hv,hr⟩:=h1.run h
  obtain ⟨us,hu,hrs⟩:=ih
  exact ⟨v :: us,by simp [List.mapM_cons,hv,hu],by simp only [K5]; exact ⟨v,us,rfl,hr,hrs⟩⟩
theorem h0r {P:Program}{F:Fr}{ρ:Nat→Nat}{S:St}{a:Act}{w:World}(h:b5 F ρ S a w){fn:Func}{rs:List ResultVar}{xs:List J2}(hf:fn.results=rs.toArray)(hr:U4 P S rs xs) :
  ∃ v,(results fn a.tmps).run P w = .ok v w∧Rel (okI F S.blk ρ) (hp w) (w0k xs) v:=by
 obtain ⟨us,hu,hrs⟩:=hr.run h
 have e:results fn a.tmps=(do let vs ← rs.toArray.mapM (d8 a.tmps); pure (if h:vs.size=1 then vs[0] else .tuple vs)):=by
  unfold results
  rw [hf]
  rfl
 have hm:(rs.toArray.mapM (d8 a.tmps)).run P w = .ok us.toArray w:=by
  rw [List.mapM_toArray]
  simp [hu]
 rw [e]
 simp only [Sem.run_bind,hm,Result.andThen_ok,Sem.run_pure]
 refine ⟨_,rfl,?_⟩
 have hl:=hrs.length
 match xs,us,hrs,hl with
 | [x],[u],hrs,_ =>
  simp only [K5] at hrs
  obtain ⟨v,r,h1,h2,_⟩:=hrs
  injection h1 with h1
  subst h1
  simpa [w0k] using h2
 | [],[],hrs,_=>simp only [List.size_toArray,w0k,Rel]; exact ⟨[],by simp,hrs⟩
 | x :: y :: xs,u :: v :: us,hrs,_=>simp only [List.size_toArray,w0k,Rel]; exact ⟨u :: v :: us,by simp,hrs⟩
def f9:Nat→List J2→List (Nat×PV)
 | _,[]=>[]
 | i,x :: xs=>(i,.p x) :: f9 (i+1) xs
theorem g0p:∀ {xs:List J2}{i t:Nat}{v:PV},(f9 i xs).lookup t=some v→∃ j x,t=i+j∧xs[j]? = some x∧v = .p x
 | [],i,t,v,h=>by simp [f9] at h
 | x :: xs,i,t,v,h=>by
  simp only [f9,i0] at h
  split at h
  ·rename_i e
   injection h with h
   exact ⟨0,x,by simpa using e,rfl,h.symm⟩
  ·obtain ⟨j,y,h1,h2,h3⟩:=g0p h
   exact ⟨j+1,y,by omega,by simpa using h2,h3⟩
theorem j2 {E:Env}{f:FuncId}{fn:Func}{c:Code}{args xs:List J2}{rs:List ResultVar}{n:Nat}(hf:E.P.funcs[f]? = some fn)(hb:fn.body=some c)(hn:fn.ntmps=n)(hr:fn.results=rs.toArray)(hle:args.length≤n)
  (h:∀ F:Fr,E.G F.w0→(∀ b,¬ F.X b)→F.nt=n→F.df=[]→(∀ k,Nat.blt k 1000=true→F.pin k=none)→l4 E.P F c ⟨f9 0 args,[]⟩ (fun e S=>(e = .normal∨e = .ret)∧U4 E.P S rs xs)):Y2 E f args (w0k xs):=by
 intro ok w vals hG hrel
 have hvl:=hrel.length
 let F:Fr:=⟨w,ok,fun _=>False,n,[],fun _=>none,none,fun _ _=>False,fun k=>Nat.blt k 1000⟩
 have hS:Sat F ⟨f9 0 args,[]⟩ { tmps:=vals.toArray++Array.replicate (fn.ntmps - vals.toArray.size) undef,defers:=[] } w:=by
  refine ⟨fun _=>0,⟨fun t v ht=>?_,fun k B hB=>by simp [St.blk] at hB,fun k k' hk=>by simp [St.blk] at hk,⟨rfl,rfl,rfl,Nat.le_refl _,fun _ _ _=>rfl⟩,?_,g0z.nil rfl,fun j b n hj=>by cases hj⟩⟩
  ·obtain ⟨j,x,rfl,hx,rfl⟩:=g0p ht
   obtain ⟨u,hu,hru⟩:=hrel.get hx
   refine ⟨u,?_,?_⟩
   ·rw [F1,Array.getElem?_append_left (by have:=(i1.1 hu).1; simpa using this)]
    simpa using hu
   ·simp only [K2]
    exact Rel.mono (fun b hb _=>⟨⟨.inl hb,fun k hk=>by simp [St.blk] at hk⟩,rfl⟩) _ _ hru
  ·simp [F,hn]; omega
 refine Y8 hf hb rfl rfl (fun _ _ h=>h) hS (h F hG (fun _ h=>h) rfl rfl (fun _ _=>rfl)) fun e S' hq=>⟨hq.1,fun ρ tmps w' hS'=>?_⟩
 obtain ⟨v,hv,hrv⟩:=h0r hS' hr hq.2
 exact ⟨v,hv,v,rfl,Rel.mono (fun b hb _=>⟨hb.1,rfl⟩) _ _ hrv,⟨hS'.frame.os,hS'.frame.tape,hS'.frame.output,hS'.frame.size,fun k hk=>hS'.frame.block k hk (fun h=>h)⟩⟩
theorem c_c {E:Env}{F:Fr}(hG:E.G F.w0)(hX:∀ b,F.X b→E.ng≤b){d:Nat}{f:FuncId}{os:List Operand}{xs:List J2}{r:J2}{ts:Array TypeId}{T:TypeId}{pos:String}{aft:Array Edge}{g:Option (Nat×Bool)}
  (hcall:∀ args w,(callFunc f args).run E.P w = .ok (.enter f args) w) (hlen:os.length=xs.length) (hng:E.ng≤F.w0.heap.size) (hs:Y2 E f xs r) (hlt:d<F.nt) :
  O2 E.P F ⟨some d,.call ⟨.value (.func f),os.toArray,ts⟩,T,pos,aft,g⟩ ⟨os.zip (xs.map .p),[],none,[(d,.p r)],[]⟩:=by
 intro S a w ⟨ρ,h⟩ hA Q K hK
 have hrun:(execOp a.eval ⟨some d,.call ⟨.value (.func f),os.toArray,ts⟩,T,pos,aft,g⟩).run E.P w = .ok (.enter f (os.map a.eval).toArray) w:=by
  simp [execOp,resolve,Act.eval,Deferred.ofValue,invoke,hcall]
 unfold Oper.wp
 rw [hrun]
 simp only [Oper.upon]
 have hrel:K5 (okI F S.blk ρ) (hp w) xs (os.map a.eval):=K5.of (by simp [hlen]) fun i x hx=>by
  have hlt:i<os.length:=by rw [hlen]; exact (i1.1 hx).1
  have hm:(os[i],PV.p x)∈os.zip (xs.map .p):=by
   rw [List.mem_iff_getElem?]
   exact ⟨i,by rw [List.getElem?_zip_eq_some]; simp [hx,hlt]⟩
  have:=Z4 h (hA.rs _ hm)
  exact ⟨a.eval os[i],by simp [hlt],by simpa [K2] using this⟩
 have hGw:E.G w:=E.stab F.w0 w hG fun b hb=>h.frame.block b (by omega) (fun hx=>by have:=hX b hx; omega)
 refine Calls.mono (hs (okI F S.blk ρ) w _ hGw hrel) fun e w' ⟨v,he,hrv,hbl⟩=>?_
 subst he
 refine hK _ _ ⟨ρ,?_⟩
 have hne:∀ k,S.blk k≠none→ρ k<w.heap.size:=fun k hk=>by
  cases hB:S.blk k with
  | none=>exact absurd hB hk
  | some B=>obtain ⟨c,e1,_⟩:=h.blks k B hB; exact World.size_lt e1
 have hhp:∀ b,b<w.heap.size→hp w' b=hp w b:=fun b hb=>hbl.block b hb
 have hsame:b5 F ρ S a w':=by
  refine h.upd (Kp:=fun _=>True) ⟨hbl.os.trans h.frame.os,hbl.tape.trans h.frame.tape,hbl.output.trans h.frame.output,Nat.le_trans h.frame.size hbl.size,fun b hb hx=>(hbl.block b (Nat.lt_of_lt_of_le hb h.frame.size)).trans (h.frame.block b hb hx)⟩ h.nt rfl
   (fun b hb hne'=>⟨hb,?_⟩) (fun k _ B hB=>⟨B,hB,rfl,Nat.le_refl _,fun _=>⟨rfl,fun c T fr hc=>⟨c,T,fr,?_,rfl⟩⟩⟩) h.inj (fun j _ _ _ hj=>⟨hj,rfl,fun c T hc=>⟨c,T,by rw [hhp _ (World.size_lt hc)]; exact hc,rfl⟩⟩) (fun t v ht=>.inl ⟨ht,rfl,fun _ _=>trivial⟩)
   (fun k B hB=>.inl ⟨hB,rfl,hhp _ (hne k (by simp [hB])),fun _ _ _ _ _=>trivial⟩)
  ·cases e:hp w b with
   | none=>exact absurd e hne'
   | some o=>rw [hhp b (World.size_lt e),e]
  ·rw [hhp _ (World.size_lt hc)]; exact hc
 have e:S.app ⟨os.zip (xs.map .p),[],none,[(d,.p r)],[]⟩=⟨(d,.p r) :: S.sl,S.hb⟩:=rfl
 rw [e]
 refine p0r hsame hlt ?_
 simp only [K2]
 refine Rel.mono (fun b hb hne'=>⟨?_,rfl⟩) _ _ hrv
 rcases hb with hb | hb
 ·exact hb
 ·exact ⟨.inr (Nat.le_trans h.frame.size hb),fun k hk=>by have:=hne k hk; omega⟩
end Go.Proofs.YtjagfionflbjbaaGreat.SH
namespace Go.Proofs.YtjagfionflbjbaaGreat.SH
open Go Go.RowKit
theorem J0k (off:Nat):∀ (l:List Value) (k:Nat) (cells:Array Value),off+k+l.length≤cells.size →
  ((l.zipIdx k).foldl (fun cs (c,j)=>cs.setIfInBounds (off+j) c) cells).size=cells.size ∧
  ∀ i,((l.zipIdx k).foldl (fun cs (c,j)=>cs.setIfInBounds (off+j) c) cells)[i]? = if off+k≤i∧i<off+k+l.length then l[i - (off+k)]? else cells[i]?
 | [],k,cells,_=>⟨rfl,fun i=>by rw [if_neg (by simp)]; rfl⟩
 | v :: l,k,cells,h=>by
  simp only [D1] at h
  simp only [List.zipIdx_cons,List.foldl_cons]
  obtain ⟨h1,h2⟩:=J0k off l (k+1) (cells.setIfInBounds (off+k) v) (by simp; omega)
  refine ⟨by rw [h1]; simp,fun i=>?_⟩
  rw [h2]
  by_cases e:i=off+k
  ·subst e
   rw [if_neg (by omega),if_pos (by simp),Nat.sub_self,Array.getElem?_setIfInBounds_self]
   simp; omega
  ·rw [Array.getElem?_setIfInBounds_ne (by omega)]
   by_cases hc:off+(k+1)≤i∧i<off+(k+1)+l.length
   ·rw [if_pos hc,if_pos (by simp; omega),show i - (off+k)=(i - (off+(k+1)))+1 by omega,List.getElem?_cons_succ]
   ·rw [if_neg hc,if_neg (by simp; omega)]
inductive h0c (place:Nat→Option (Nat×Nat)):List PV→List (Nat×PV)→List PV→Prop
 | nil {vs:List PV}:h0c place vs [] vs
 | cons {i off size:Nat} {x:PV} {us vs vs' out:List PV} {r:List (Nat×PV)}:place i=some (off,size)→P6 x us→us.length=size→q0m vs off us vs'→h0c place vs' r out→h0c place vs ((i,x) :: r) out
theorem G0d {β:Nat→Option Blk}{ρ:Nat→Nat}{ok:Nat→Prop}{H:Nat→Option Obj}{place:Nat→Option (Nat×Nat)}{vs out:List PV}{parts:List (Nat×PV)}(h:h0c place vs parts out) :
  ∀ (c:Array Value) (us:List (Nat×Value)),D3 β ρ ok H vs c.toList→(∀ v∈c.toList,v.oneCell'=true)→us.length=parts.length→(∀ (i:Nat) (p:Nat×PV),parts[i]? = some p→∃ u,us[i]? = some (p.1,u)∧K2 β ρ ok H p.2 u) →
   ∃ c',Instr.fill place c us=some c'∧D3 β ρ ok H out c'.toList∧(∀ v∈c'.toList,v.oneCell'=true):=by
 induction h with
 | nil =>
  intro c us h1 h2 hl _
  obtain rfl:us=[]:=E0 (by simpa using hl)
  exact ⟨c,rfl,h1,h2⟩
 | @cons i off size x us0 vs vs' out r hp hc hn hu _ ih =>
  intro c us h1 h2 hl hr
  cases us with
  | nil=>simp at hl
  | cons q us =>
   obtain ⟨u,hu0,hru⟩:=hr 0 (i,x) rfl
   simp only [List.getElem?_cons_zero,U0] at hu0
   subst hu0
   obtain ⟨k1,k2⟩:=D3.cells hc hru
   obtain ⟨m1,m2,m3⟩:=hu.spec
   have hcl:u.cells.toList.length=size:=by rw [F5 k1,hn]
   have hvl:=F5 h1
   have hus:u.cells.size=size:=by simpa using hcl
   obtain ⟨f1,f2⟩:=J0k off u.cells.toList 0 c (by simp at hvl; omega)
   have hfold:u.cells.zipIdx.foldl (fun cs (c,j)=>cs.setIfInBounds (off+j) c) c=(u.cells.toList.zipIdx 0).foldl (fun cs (c,j)=>cs.setIfInBounds (off+j) c) c:=by
    rw [← Array.foldl_toList]
    simp
   have hle:¬ (u.cells.size≠size∨off+u.cells.size > c.size):=by simp at hvl; omega
   obtain ⟨c',e1,e2,e3⟩:=ih (u.cells.zipIdx.foldl (fun cs (c,j)=>cs.setIfInBounds (off+j) c) c) us (by
    rw [hfold]
    refine f0a (by simp only [Array.length_toList,f1]; simp at hvl; omega) fun j y hj=>?_
    rw [m3] at hj
    rw [Array.getElem?_toList,f2]
    simp only [Nat.add_zero,hcl]
    rw [hn] at hj
    split at hj
    ·rename_i hin
     rw [if_pos hin]
     exact L6 k1 hj
    ·rename_i hin
     rw [if_neg hin]
     simpa using L6 h1 hj) (by
    intro v hv
    rw [hfold] at hv
    obtain ⟨j,hj⟩:=List.mem_iff_getElem?.1 hv
    rw [Array.getElem?_toList,f2] at hj
    simp only [Nat.add_zero] at hj
    split at hj
    ·exact k2 v (M1 hj)
    ·exact h2 v (by simpa using Array.mem_of_getElem? hj)) (by simpa using hl) (fun j p hj=>by simpa using hr (j+1) p (by simpa using hj))
   refine ⟨c',?_,e2,e3⟩
   simp only [Instr.fill,hp]
   rw [if_neg (by simpa using hle)]
   exact e1
section
variable {P:Program} {F:Fr} {d:Nat} {T:TypeId} {pos:String} {aft:Array Edge} {g:Option (Nat×Bool)} {t:TypeId}
theorem q0j {ρ:Nat→Nat}{S:St}{a:Act}{w:World}(h:b5 F ρ S a w){ps:List (Nat×Operand)}{vs:List PV}(hl:ps.length=vs.length)(hr:∀ p∈(ps.map (·.2)).zip vs,S.opd p.1=some p.2) :
  ((ps.map fun p=>(p.1,a.eval p.2))).length=((ps.map (·.1)).zip vs).length∧∀ (i:Nat) (p:Nat×PV),((ps.map (·.1)).zip vs)[i]? = some p→∃ u,(ps.map fun p=>(p.1,a.eval p.2))[i]? = some (p.1,u)∧K2 S.blk ρ (okI F S.blk ρ) (hp w) p.2 u:=by
 refine ⟨by simp [hl],fun i p hp=>?_⟩
 rw [List.getElem?_zip_eq_some] at hp
 obtain ⟨h1,h2⟩:=hp
 simp only [List.getElem?_map,M0] at h1 ⊢
 obtain ⟨q,hq,hq1⟩:=h1
 have hm:(q.2,p.2)∈(ps.map (·.2)).zip vs:=by
  rw [List.mem_iff_getElem?]
  exact ⟨i,by rw [List.getElem?_zip_eq_some]; exact ⟨by simp [hq],h2⟩⟩
 exact ⟨a.eval q.2,⟨q,hq,by rw [hq1]⟩,Z4 h (hr _ hm)⟩
theorem K0g {ρ:Nat→Nat}{S:St}{a:Act}{w:World}(h:b5 F ρ S a w){ps:List (Nat×Operand)}{vs zs out:List PV}{fs:Array Field}{z:Value}{places:Array (Nat×Nat)}(hu:P.underlying t=some (.struct fs))
  (hz:∀ w,(zeroValue t).run P w = .ok z w) (hzs:Zs z.cells.toList zs) (hpl:∀ w,(fs.mapM fun f=>do pure (f.offset,← sizeOf f.type):Sem _).run P w = .ok places w)
  (hl:ps.length=vs.length) (hr:∀ p∈(ps.map (·.2)).zip vs,S.opd p.1=some p.2) (hf:h0c (places[·]?) zs ((ps.map (·.1)).zip vs) out) :
  ∃ us:List Value,(Instr.build t (ps.toArray.map fun (i,x)=>(i,a.eval x))).run P w = .ok (.agg us.toArray) w∧D3 S.blk ρ (okI F S.blk ρ) (hp w) out us∧∀ v∈us,v.oneCell'=true:=by
 obtain ⟨p1,p2⟩:=q0j h hl hr
 obtain ⟨z1,z2,_⟩:=hzs.rel (β:=S.blk) (ρ:=ρ) (ok:=okI F S.blk ρ) (H:=hp w)
 obtain ⟨c',e1,e2,e3⟩:=G0d hf z.cells _ z1 z2 p1 p2
 refine ⟨c'.toList,?_,e2,e3⟩
 have:(ps.toArray.map fun (i,x)=>(i,a.eval x)).toList=ps.map fun p=>(p.1,a.eval p.2):=by simp
 have hpl':=hpl w
 simp only [bind_pure_comp] at hpl'
 simp [Instr.build,hz,run_underlying hu,hpl',e1]
theorem E6 {ps:List (Nat×Operand)}{vs zs out:List PV}{xs:List J2}{fs:Array Field}{z:Value}{places:Array (Nat×Nat)}(hu:P.underlying t=some (.struct fs))(hz:∀ w,(zeroValue t).run P w = .ok z w)(hzs:Zs z.cells.toList zs)
  (hpl:∀ w,(fs.mapM fun f=>do pure (f.offset,← sizeOf f.type):Sem _).run P w = .ok places w) (hl:ps.length=vs.length) (hf:h0c (places[·]?) zs ((ps.map (·.1)).zip vs) out) (hx:k0z out xs) (hlt:d<F.nt) :
  O2 P F ⟨some d,.build t ps.toArray,T,pos,aft,g⟩ ⟨(ps.map (·.2)).zip vs,[],none,[(d,.p (.agg xs))],[]⟩ :=
 B4 rfl hlt rfl rfl fun ρ S a w h hA=>by
  obtain ⟨us,h1,h2,h3⟩:=K0g h hu hz hzs hpl hl hA.rs hf
  refine ⟨.agg us.toArray,by simp only [execOp,Sem.run_bind,h1,Result.andThen_ok,Sem.run_pure],?_⟩
  simp only [K2,Rel]
  exact ⟨us,rfl,q8.1 (by rw [← hx.eq]; exact h2),h3⟩
theorem b0r {ps:List (Nat×Operand)}{vs zs out:List PV}{fs:Array Field}{z:Value}{places:Array (Nat×Nat)}(hu:P.underlying t=some (.struct fs))(hz:∀ w,(zeroValue t).run P w = .ok z w)(hzs:Zs z.cells.toList zs)
  (hpl:∀ w,(fs.mapM fun f=>do pure (f.offset,← sizeOf f.type):Sem _).run P w = .ok places w) (hl:ps.length=vs.length) (hf:h0c (places[·]?) zs ((ps.map (·.1)).zip vs) out) (hlt:d<F.nt) :
  O2 P F ⟨some d,.build t ps.toArray,T,pos,aft,g⟩ ⟨(ps.map (·.2)).zip vs,[],none,[(d,.agg out)],[]⟩ :=
 B4 rfl hlt rfl rfl fun ρ S a w h hA=>by
  obtain ⟨us,h1,h2,h3⟩:=K0g h hu hz hzs hpl hl hA.rs hf
  refine ⟨.agg us.toArray,by simp only [execOp,Sem.run_bind,h1,Result.andThen_ok,Sem.run_pure],?_⟩
  simp only [K2]
  exact ⟨us,rfl,h2,h3⟩
theorem G0z {ps:List (Nat×Operand)}{vs zs out:List PV}{xs:List J2}{n m:Nat}{e:TypeId}{z:Value}(hu:P.underlying t=some (.array n e))(hz:∀ w,(zeroValue t).run P w = .ok z w)(hzs:Zs z.cells.toList zs)
  (hsz:∀ w,(sizeOf e).run P w = .ok m w) (hl:ps.length=vs.length) (hf:h0c (fun i=>some (i*m,m)) zs ((ps.map (·.1)).zip vs) out) (hx:k0z out xs) (hlt:d<F.nt) :
  O2 P F ⟨some d,.build t ps.toArray,T,pos,aft,g⟩ ⟨(ps.map (·.2)).zip vs,[],none,[(d,.p (.agg xs))],[]⟩ :=
 B4 rfl hlt rfl rfl fun ρ S a w h hA=>by
  obtain ⟨p1,p2⟩:=q0j h hl hA.rs
  obtain ⟨z1,z2,_⟩:=hzs.rel (β:=S.blk) (ρ:=ρ) (ok:=okI F S.blk ρ) (H:=hp w)
  obtain ⟨c',e1,e2,e3⟩:=G0d hf z.cells _ z1 z2 p1 p2
  refine ⟨.agg c'.toList.toArray,by simp [execOp,Instr.build,hz,run_underlying hu,hsz,e1],?_⟩
  simp only [K2,Rel]
  exact ⟨c'.toList,rfl,q8.1 (by rw [← hx.eq]; exact e2),e3⟩
theorem k0n {e:TypeId}{i:TypeInfo}(h:∀ w,(typeInfo e).run P w = .ok i w):P.info? e=some i:=by
 have:=h default
 unfold typeInfo at this
 cases hi:P.info? e with
 | none=>simp [hi,stuck] at this
 | some j=>simp [hi] at this; simp [this]
theorem b0x {β':Nat→Option Blk}{ρ':Nat→Nat}{ok':Nat→Prop}{H:Nat→Option Obj}{k off n tot b cap:Nat}{B:Blk}{c:Array Value}{T:TypeId}{fr:Nat×Nat}(hb:β' k=some B)(hr:ρ' k=b)(hl:B.cs.len=tot)(hc:n≤cap)(hH:H b=some (.cells c T fr))(hs:off+cap*B.sz≤c.size) :
  K2 β' ρ' ok' H (.ref k off n tot) (.slice (some ⟨b,off,none⟩) n cap):=by
 simp only [K2]
 refine ⟨⟨_,_,_,rfl⟩,?_⟩
 intro B' hB'
 rw [hb] at hB'
 injection hB' with hB'
 subst hB' hr
 exact ⟨by omega,fun _=>⟨cap,c,T,fr,rfl,hc,hH,hs⟩⟩
def V8 (n:Nat)(zc:List J2):List J2:=(List.replicate n zc).flatten
theorem g9 (n:Nat)(zc:List J2):(V8 n zc).length=n*zc.length:=by simp [V8]
theorem V0s {zc:List J2}(hz:0<zc.length):∀ {n i:Nat},i<n*zc.length→(V8 n zc)[i]? = zc[i % zc.length]?
 | 0,i,h=>by simp at h
 | n+1,i,h=>by
  simp only [V8,List.replicate_succ,List.flatten_cons]
  by_cases hi:i<zc.length
  ·rw [X0 hi,Nat.mod_eq_of_lt hi]
  ·rw [D0 (by omega)]
   have:=V0s hz (n:=n) (i:=i - zc.length) (by rw [Nat.add_mul,Nat.one_mul] at h; omega)
   rw [V8] at this
   rw [this,Nat.mod_eq_sub_mod (a:=i) (by omega)]
theorem q1n (n:Nat)(z:J2):V8 n [z]=List.replicate n z:=by
 induction n with
 | zero=>rfl
 | succ n ih=>rw [V8,List.replicate_succ,List.flatten_cons,List.replicate_succ,← ih]; rfl
theorem M6 {x y:Operand}{k n m sz:Nat}{e:TypeId}{ie:TypeInfo}{z:Value}{kl kc:IntKind}{l c:Int}{zc:List J2}(hu:P.underlying t=some (.slice e))(hi:∀ w,(typeInfo e).run P w = .ok ie w)(hz:ie.zero=some z)(hsz:ie.size=sz)(hpos:0<sz)
  (hzc:z.cells.toList.map J2.a=zc) (hone:z.cells.toList.all (·.oneCell')=true) (hzl:z.cells.size=sz) (hl:l=(n:Int)) (hc:c=(m:Int)) (hnm:n≤m) (hby:ie.bytes*m≤281474976710656) (hm:m≤9223372036854775807) (hpk:F.pin k=none) (hlt:d<F.nt) :
  O2 P F ⟨some d,.makeSlice t x y,T,pos,aft,g⟩ { rs:=[(x,.p (.a (.int kl l))),(y,.p (.a (.int kc c)))],fresh:=some k,ws:=[(d,.ref k 0 n (n*sz))],wb:=[(k,⟨e,sz,.pure (V8 n zc)⟩)] }:=by
 intro S a w ⟨ρ,h⟩ hA Q K hK
 obtain ⟨hk,hf⟩:=hA.fresh k rfl
 have hx:=M4 h (v:=.int kl l) (hA.rs (x,_) (by simp))
 have hy:=M4 h (v:=.int kc c) (hA.rs (y,_) (by simp))
 have hrun:=run_make (P:=P) w t e ie z hu (k0n hi) hz kl kc l c (by omega) (by omega) (by rw [hc,← Int.natCast_mul]; exact Int.ofNat_le.2 hby) (by omega)
 have hw:(execOp a.eval ⟨some d,.makeSlice t x y,T,pos,aft,g⟩).run P w = .ok (.value (.slice (some ⟨w.heap.size,0,none⟩) n m)) (w.alloc (.cells (madeCells z.cells (m*sz)) e)):=by
  simp only [execOp,hx,hy,Sem.run_bind,hrun,Result.andThen_ok,Sem.run_pure,hsz]
  rw [hl,hc,Int.toNat_natCast,Int.toNat_natCast]
 unfold Oper.wp
 rw [hw]
 simp only [Oper.upon]
 have hzcl:zc.length=sz:=by rw [← hzc]; simpa using hzl
 have hlen:(V8 n zc).length=n*sz:=by rw [g9,hzcl]
 refine hK _ _ (h0j (B:=⟨e,sz,.pure (V8 n zc)⟩) h hk hf hpk hlt (World.alloc_heap w _) rfl rfl rfl (by rw [size_madeCells]; simp only [Cells.len,hlen]; exact V0 _ hnm) (fun i v hv=>?_) (fun β' ρ' ok' hb hr=>?_))
 ·simp only [Cells.get,M0] at hv
  obtain ⟨p,hp,rfl⟩:=hv
  have hin:i<n*sz:=by rw [← hlen]; exact (i1.1 hp).1
  have hin':i<m*sz:=Nat.lt_of_lt_of_le hin (V0 _ hnm)
  rw [V0s (by omega) (by rw [hzcl]; exact hin),hzcl,← hzc,List.getElem?_map,M0] at hp
  obtain ⟨u,hu,rfl⟩:=hp
  refine ⟨rfl,u,?_,?_,by simp [K2,Rel]⟩
  ·have hmod:i % sz<z.cells.size:=by rw [hzl]; exact Nat.mod_lt _ hpos
   simp only [madeCells,Array.getElem?_map,hzl]
   rw [Array.getElem?_eq_getElem (by simpa using hin')]
   simp only [Array.getElem_range,Option.map_some,U0]
   rw [getElem!_pos z.cells (i % sz) hmod]
   rw [Array.getElem?_toList,Array.getElem?_eq_getElem hmod] at hu
   simpa using hu
  ·rw [s0] at hone
   exact hone u (M1 hu)
 ·exact b0x hb hr (by simp only [Cells.len,hlen]) hnm (by rw [V6 (World.alloc_heap w _),if_pos rfl]) (by rw [size_madeCells]; simp)
theorem v0b {x y:Operand}{k n m:Nat}{e:TypeId}{ie:TypeInfo}{z:Value}{kl kc:IntKind}{l c:Int}(hu:P.underlying t=some (.slice e))(hi:∀ w,(typeInfo e).run P w = .ok ie w)(hz:ie.zero=some z)(hsz:ie.size=1)
  (hone:z.cells.toList.all (·.oneCell')=true) (hzl:z.cells = #[z]) (hl:l=(n:Int)) (hc:c=(m:Int)) (hnm:n≤m) (hby:ie.bytes*m≤281474976710656) (hm:m≤9223372036854775807) (hpk:F.pin k=none) (hlt:d<F.nt) :
  O2 P F ⟨some d,.makeSlice t x y,T,pos,aft,g⟩ { rs:=[(x,.p (.a (.int kl l))),(y,.p (.a (.int kc c)))],fresh:=some k,ws:=[(d,.ref k 0 n n)],wb:=[(k,⟨e,1,.pure (List.replicate n (.a z))⟩)] }:=by
 have:=M6 (P:=P) (F:=F) (d:=d) (T:=T) (pos:=pos) (aft:=aft) (g:=g) (t:=t) (x:=x) (y:=y) (k:=k) (kl:=kl) (kc:=kc) hu hi hz hsz (by omega) (zc:=[.a z]) (by rw [hzl]; rfl) hone (by rw [hzl]; rfl) hl hc hnm hby hm hpk hlt
 rwa [q1n,Nat.mul_one] at this
end
end Go.Proofs.YtjagfionflbjbaaGreat.SH
namespace Go.Proofs.YtjagfionflbjbaaGreat.SH
open Go Go.RowKit
section
variable {P:Program} {F:Fr} {d:Nat} {T:TypeId} {pos:String} {aft:Array Edge} {g:Option (Nat×Bool)} {t:TypeId}
theorem Y0j {o:Oper}{A:Ann}{v:PV}(hd:o.dst=some d)(hlt:d<F.nt)(hws:A.ws=[(d,v)])(hwb:A.wb=[])(hv:∀ k,v.free k=true)
  (hrun:∀ ρ S a w,b5 F ρ S a w→A.holds S→∃ c T fr u,(execOp a.eval o).run P w = .ok (.value u) (w.alloc (.cells c T fr))∧∀ ok H β,(∀ b,okI F S.blk ρ b→ok b)→ok w.heap.size→(∀ b,b<w.heap.size→H b=hp w b)→H w.heap.size=some (.cells c T fr)→K2 β ρ ok H v u):O2 P F o A:=by
 intro S a w ⟨ρ,h⟩ hA Q K hK
 obtain ⟨c,T,fr,u,hu,hr⟩:=hrun ρ S a w h hA
 unfold Oper.wp
 rw [hu]
 simp only [Oper.upon,hd]
 refine hK _ _ ⟨ρ,?_⟩
 have hpp:=V6 (w:=w) (w':=w.alloc (.cells c T fr)) (World.alloc_heap w _)
 have hne:∀ k,S.blk k≠none→ρ k<w.heap.size:=fun k hk=>by
  cases hB:S.blk k with
  | none=>exact absurd hB hk
  | some B=>obtain ⟨c,e1,_⟩:=h.blks k B hB; exact World.size_lt e1
 have hhp:∀ b,b<w.heap.size→hp (w.alloc (.cells c T fr)) b=hp w b:=fun b hb=>by rw [hpp,if_neg (by omega)]
 have hsame:b5 F ρ S a (w.alloc (.cells c T fr)):=by
  refine h.upd (Kp:=fun _=>True) (n0b h.frame (World.alloc_heap w _) rfl rfl rfl) h.nt rfl
   (fun b hb hne'=>⟨hb,?_⟩) (fun k _ B hB=>⟨B,hB,rfl,Nat.le_refl _,fun _=>⟨rfl,fun c T fr hc=>⟨c,T,fr,?_,rfl⟩⟩⟩) h.inj (fun j _ _ _ hj=>⟨hj,rfl,fun c T hc=>⟨c,T,by rw [hhp _ (World.size_lt hc)]; exact hc,rfl⟩⟩) (fun t v ht=>.inl ⟨ht,rfl,fun _ _=>trivial⟩)
   (fun k B hB=>.inl ⟨hB,rfl,hhp _ (hne k (by simp [hB])),fun _ _ _ _ _=>trivial⟩)
  ·cases e:hp w b with
   | none=>exact absurd e hne'
   | some o=>rw [hhp b (World.size_lt e),e]
  ·rw [hhp _ (World.size_lt hc)]; exact hc
 have e:S.app A=⟨(d,v) :: S.sl,S.hb⟩:=by simp [St.app,hws,hwb]
 rw [e]
 refine p0r hsame hlt (hr _ _ _ (fun b hb=>hb) ⟨.inr h.frame.size,fun k hk=>by have:=hne k hk; omega⟩ hhp (by rw [hpp,if_pos rfl]))
theorem B1y {ρ:Nat→Nat}{S:St}{a:Act}{w:World}(h:b5 F ρ S a w){ps:List (Nat×Operand)}{vs zs out:List PV}{e:TypeId}{ie:TypeInfo}{z:Value}{n sz:Nat}(hu:P.underlying t=some (.slice e))(hi:∀ w,(typeInfo e).run P w = .ok ie w)(hz:ie.zero=some z)
  (hsz:ie.size=sz) (hpos:0<n*sz) (hsm:n*sz≤16777216) (hzl:z.cells.size=sz) (hzs:Zs (madeCells z.cells (n*sz)).toList zs) (hl:ps.length=vs.length) (hr:∀ p∈(ps.map (·.2)).zip vs,S.opd p.1=some p.2) (hf:h0c (fun i=>some (i*sz,sz)) zs ((ps.map (·.1)).zip vs) out) :
  ∃ us:List Value,(Instr.buildSlice t n (ps.toArray.map fun (i,x)=>(i,a.eval x))).run P w = .ok (.slice (some ⟨w.heap.size,0,none⟩) n n) (w.alloc (.cells us.toArray e))∧us.length=n*sz∧D3 S.blk ρ (okI F S.blk ρ) (hp w) out us∧∀ v∈us,v.oneCell'=true:=by
 obtain ⟨p1,p2⟩:=q0j h hl hr
 obtain ⟨z1,z2,_⟩:=hzs.rel (β:=S.blk) (ρ:=ρ) (ok:=okI F S.blk ρ) (H:=hp w)
 obtain ⟨c',e1,e2,e3⟩:=G0d hf (madeCells z.cells (n*sz)) _ z1 z2 p1 p2
 have hlen:∀ {vs out:List PV} {l:List (Nat×PV)},h0c (fun i=>some (i*sz,sz)) vs l out→out.length=vs.length:=by
  intro vs out l hf
  induction hf with
  | nil=>rfl
  | cons _ _ _ hu _ ih=>rw [ih,hu.spec.2.1]
 refine ⟨c'.toList,?_,?_,e2,e3⟩
 ·have hps:(ps.toArray.map fun (i,x)=>(i,a.eval x)).toList=ps.map fun p=>(p.1,a.eval p.2):=by simp
  exact run_buildSlice w t e n _ c' ie z hu (k0n hi) hz (by rw [hsz]; omega) (by rw [hsz]; omega) (by rw [hsz,hps]; exact e1)
 ·rw [F5 e2,hlen hf,← F5 z1]
  simp [size_madeCells]
theorem F4 {ps:List (Nat×Operand)}{vs zs out:List PV}{xs:List J2}{e:TypeId}{ie:TypeInfo}{z:Value}{n sz:Nat}(hu:P.underlying t=some (.slice e))(hi:∀ w,(typeInfo e).run P w = .ok ie w)(hz:ie.zero=some z)
  (hsz:ie.size=sz) (hpos:0<n*sz) (hsm:n*sz≤16777216) (hzl:z.cells.size=sz) (hzs:Zs (madeCells z.cells (n*sz)).toList zs) (hl:ps.length=vs.length) (hf:h0c (fun i=>some (i*sz,sz)) zs ((ps.map (·.1)).zip vs) out) (hx:k0z out xs) (hlt:d<F.nt) :
  O2 P F ⟨some d,.buildSlice t n ps.toArray,T,pos,aft,g⟩ ⟨(ps.map (·.2)).zip vs,[],none,[(d,.p (.sl n xs))],[]⟩ :=
 Y0j rfl hlt rfl rfl (fun k=>rfl) fun ρ S a w h hA=>by
  obtain ⟨us,h1,h2,h3,h4⟩:=B1y h hu hi hz hsz hpos hsm hzl hzs hl hA.rs hf
  refine ⟨us.toArray,e,(0,0),.slice (some ⟨w.heap.size,0,none⟩) n n,by simp only [execOp,Sem.run_bind,h1,Result.andThen_ok,Sem.run_pure],fun ok H β hok hok' hH hnew=>?_⟩
  simp only [K2,Rel]
  refine ⟨_,n,rfl,Nat.le_refl _,I7.of hok' (Y4.of fun i x hx'=>?_)⟩
  rw [hx.eq] at h3
  obtain ⟨u,hu',hru⟩:=(q8.1 h3).get hx'
  refine ⟨u,by rw [M7 hnew]; simpa using hu',h4 u (M1 hu'),Rel.mono (fun b hb hne=>⟨hok b hb,?_⟩) x u hru⟩
  cases e:hp w b with
  | none=>exact absurd e hne
  | some o=>rw [hH b (World.size_lt e),e]
theorem N1j {ps:List (Nat×Operand)}{vs zs out:List PV}{e:TypeId}{ie:TypeInfo}{z:Value}{k n m sz:Nat}(hu:P.underlying t=some (.slice e))(hi:∀ w,(typeInfo e).run P w = .ok ie w)(hz:ie.zero=some z)
  (hsz:ie.size=sz) (hpos:0<n*sz) (hsm:n*sz≤16777216) (hzl:z.cells.size=sz) (hzs:Zs (madeCells z.cells (n*sz)).toList zs) (hl:ps.length=vs.length) (hf:h0c (fun i=>some (i*sz,sz)) zs ((ps.map (·.1)).zip vs) out) (hm:out.length=m) (hfr:PV.freeL k out=true) (hpk:F.pin k=none) (hlt:d<F.nt) :
  O2 P F ⟨some d,.buildSlice t n ps.toArray,T,pos,aft,g⟩ ⟨(ps.map (·.2)).zip vs,[],some k,[(d,.ref k 0 n m)],[(k,⟨e,sz,.mix out⟩)]⟩:=by
 intro S a w ⟨ρ,h⟩ hA Q K hK
 obtain ⟨hk,hfk⟩:=hA.fresh k rfl
 obtain ⟨us,h1,h2,h3,h4⟩:=B1y h hu hi hz hsz hpos hsm hzl hzs hl hA.rs hf
 unfold Oper.wp
 simp only [execOp,Sem.run_bind,h1,Result.andThen_ok,Sem.run_pure,Oper.upon]
 have hul:=F5 h3
 refine hK _ _ (h0j (B:=⟨e,sz,.mix out⟩) h hk hfk hpk hlt (World.alloc_heap w _) rfl rfl rfl (by simp [Cells.len,hul]) (fun i x hx=>?_) (fun β' ρ' ok' hb hr=>?_))
 ·obtain ⟨u,hu',hru⟩:=L6 h3 hx
  exact ⟨f0p hfr hx,u,by simpa using hu',h4 u (M1 hu'),hru⟩
 ·exact b0x hb hr hm (Nat.le_refl _) (by rw [V6 (World.alloc_heap w _),if_pos rfl]) (by simp only [List.size_toArray,h2]; omega)
theorem w0m {x:Operand}{lo hi:Option Operand}{n l h:Nat}{xs ys:List J2}{e:TypeId}{sz:Nat}{kl kh:IntKind}{rs:List (Operand×PV)}(hu:P.underlying t=some (.slice e))(hsz:∀ w,(sizeOf e).run P w = .ok sz w)
  (hlo:(lo=none∧l=0)∨∃ o,lo=some o∧(o,PV.p (.a (.int kl (l:Int))))∈rs) (hhi:(hi=none∧h=n)∨∃ o,hi=some o∧(o,PV.p (.a (.int kh (h:Int))))∈rs) (h1:l≤h) (h2:h≤n) (hy:(xs.drop (l*sz)).take ((h - l)*sz)=ys) (hlt:d<F.nt) :
  O2 P F ⟨some d,.slice t x lo hi none,T,pos,aft,g⟩ { rs:=(x,.p (.sl n xs)) :: rs,ws:=[(d,.p (.sl (h - l) ys))] } :=
 B4 rfl hlt rfl rfl fun ρ S a w hS hA=>by
  have hx:=Z4 hS (v:=.p (.sl n xs)) (hA.rs (x,_) (by simp))
  simp only [K2,Rel] at hx
  obtain ⟨ad,cap,he,hc,hr⟩:=hx
  have hb:(Instr.sliceBounds true n cap (lo.map a.eval) (hi.map a.eval) none).run P w = .ok (l,h,cap) w:=by
   have hhe:∀ o,(o,PV.p (.a (.int kh (h:Int))))∈rs→a.eval o = .int kh h:=fun o ho=>M4 hS (hA.rs _ (List.mem_cons_of_mem _ ho))
   have hle:∀ o,(o,PV.p (.a (.int kl (l:Int))))∈rs→a.eval o = .int kl l:=fun o ho=>M4 hS (hA.rs _ (List.mem_cons_of_mem _ ho))
   have b1:(h:Int)≤cap:=by omega
   have b2:(l:Int)≤h:=by omega
   rcases hlo with ⟨rfl,rfl⟩ | ⟨o,rfl,ho⟩ <;> rcases hhi with ⟨rfl,rfl⟩ | ⟨o',rfl,ho'⟩ <;>
    simp_all [Instr.sliceBounds,Instr.sliceBound,asIntOf]
  refine ⟨.slice (if cap=l then ad else ad.map (·.add (l*sz))) (h - l) (cap - l),?_,?_⟩
  ·simp [execOp,Instr.sliceAt,Instr.slice,run_underlying hu,he,hb,hsz]
  ·simp only [K2,Rel]
   refine ⟨_,_,rfl,by omega,?_⟩
   by_cases hyn:ys=[]
   ·subst hyn; simp [I7]
   ·have hxn:xs≠[]:=fun e=>by subst e; simp at hy; exact hyn (by first | exact hy | exact hy.symm)
    obtain ⟨b,o,rfl,hok,hra⟩:=hr.at hxn
    have hlh:l<h:=by
     by_cases e:l=h
     ·subst e; simp at hy; exact absurd (by first | exact hy | exact hy.symm) hyn
     ·omega
    rw [if_neg (by omega)]
    have e:(⟨b,o,none⟩:Addr).add (l*sz)=⟨b,o+l*sz,none⟩:=by unfold Addr.add; split <;> simp_all
    simp only [Option.map_some,e]
    rw [← hy]
    exact I7.of hok ((hra.drop _).take _)
theorem W0k {x:Operand}{lo hi:Option Operand}{k off n tot l h:Nat}{B:Blk}{e:TypeId}{sz:Nat}{kl kh:IntKind}{rs:List (Operand×PV)}(hu:P.underlying t=some (.slice e))(hsz:∀ w,(sizeOf e).run P w = .ok sz w)(hBs:B.sz=sz)(hl:B.cs.len=tot)
  (hlo:(lo=none∧l=0)∨∃ o,lo=some o∧(o,PV.p (.a (.int kl (l:Int))))∈rs) (hhi:(hi=none∧h=n)∨∃ o,hi=some o∧(o,PV.p (.a (.int kh (h:Int))))∈rs) (h1:l≤h) (h2:h≤n) (h3:l=0∨l<n) (hlt:d<F.nt) :
  O2 P F ⟨some d,.slice t x lo hi none,T,pos,aft,g⟩ { rs:=(x,.ref k off n tot) :: rs,rb:=[(k,B)],ws:=[(d,.ref k (off+l*sz) (h - l) tot)] } :=
 B4 rfl hlt rfl rfl fun ρ S a w hS hA=>by
  have hB:S.blk k=some B:=hA.rb (k,B) (by simp)
  obtain ⟨cap,c,he,hc,hH,hcap⟩:=o9 hS (hA.rs (x,.ref k off n tot) (by simp)) hB hl
  have hb:(Instr.sliceBounds true n cap (lo.map a.eval) (hi.map a.eval) none).run P w = .ok (l,h,cap) w:=by
   have hhe:∀ o,(o,PV.p (.a (.int kh (h:Int))))∈rs→a.eval o = .int kh h:=fun o ho=>M4 hS (hA.rs _ (List.mem_cons_of_mem _ ho))
   have hle:∀ o,(o,PV.p (.a (.int kl (l:Int))))∈rs→a.eval o = .int kl l:=fun o ho=>M4 hS (hA.rs _ (List.mem_cons_of_mem _ ho))
   have b1:(h:Int)≤cap:=by omega
   have b2:(l:Int)≤h:=by omega
   rcases hlo with ⟨rfl,rfl⟩ | ⟨o,rfl,ho⟩ <;> rcases hhi with ⟨rfl,rfl⟩ | ⟨o',rfl,ho'⟩ <;>
    simp_all [Instr.sliceBounds,Instr.sliceBound,asIntOf]
  have ea:(⟨ρ k,off,none⟩:Addr).add (l*sz)=⟨ρ k,off+l*sz,none⟩:=by unfold Addr.add; split <;> simp_all
  refine ⟨.slice (some ⟨ρ k,off+l*sz,none⟩) (h - l) (cap - l),?_,?_⟩
  ·have : (if cap = l then (⟨ρ k, off, none⟩ : Addr) else (⟨ρ k, off, none⟩ : Addr).add (l * sz)) = ⟨ρ k, off + l * sz, none⟩ := by
    by_cases hcl:cap=l
    ·have h0:l=0:=by omega
     rw [if_pos hcl,h0]; simp
    ·rw [if_neg hcl,ea]
   have h':(if cap=l then some (⟨ρ k,off,none⟩:Addr) else (some (⟨ρ k,off,none⟩:Addr)).map (·.add (l*sz)))=some ⟨ρ k,off+l*sz,none⟩:=by
    rw [← this]; split <;> rfl
   simp [execOp,Instr.sliceAt,Instr.slice,run_underlying hu,he,hb,hsz]
   simpa using h'
  ·refine b0x hB rfl hl (by omega) hH ?_
   have:(cap - l)*B.sz+l*sz≤cap*B.sz:=by
    rw [hBs,← Nat.add_mul]
    exact V0 _ (by omega)
   omega
theorem D1x {x y:Operand}{s:ByteArray}{k:IntKind}{i:Int}{b:UInt8}(hu:P.underlying t=some .string)(h0:0≤i)(hb:s[i.toNat]? = some b)(hlt:d<F.nt) :
  O2 P F ⟨some d,.index t x y,T,pos,aft,g⟩ { rs:=[(x,.p (.a (.string s))),(y,.p (.a (.int k i)))],ws:=[(d,.p (.a (.int .u8 b.toNat)))] } :=
 D4 hlt fun e w h1 h2=>by simp [execOp,Instr.index,h1,h2,asIntOf,run_underlying hu,h0,hb]
theorem j0d {f:Fn}{fst cap:List Operand}{vs us:List PV}(hl1:fst.length=vs.length)(hl2:cap.length=us.length)(hlt:d<F.nt) :
  O2 P F ⟨some d,.makeFunc f fst.toArray cap.toArray,T,pos,aft,g⟩ { rs:=fst.zip vs++cap.zip us,ws:=[(d,.clo f vs us)] } :=
 B4 rfl hlt rfl rfl fun ρ S a w hS hA=>by
  have rl:∀ (os:List Operand) (vs:List PV),os.length=vs.length→(∀ p∈os.zip vs,S.opd p.1=some p.2)→D3 S.blk ρ (okI F S.blk ρ) (hp w) vs (os.map a.eval):=fun os vs hl hr =>
   f0a (by simp [hl]) fun i x hx=>by
    have hlt:i<os.length:=by rw [hl]; exact (i1.1 hx).1
    have hm:(os[i],x)∈os.zip vs:=by
     rw [List.mem_iff_getElem?]
     exact ⟨i,by rw [List.getElem?_zip_eq_some]; simp [hx,hlt]⟩
    exact ⟨a.eval os[i],by simp [hlt],Z4 hS (hr _ hm)⟩
  refine ⟨.func f (fst.map a.eval).toArray (cap.map a.eval).toArray,by simp [execOp,Instr.makeFunc],?_⟩
  simp only [K2]
  exact ⟨_,_,rfl,rl _ _ hl1 fun p hp=>hA.rs p (by simp [hp]),rl _ _ hl2 fun p hp=>hA.rs p (by simp [hp])⟩
end
end Go.Proofs.YtjagfionflbjbaaGreat.SH
namespace Go.Proofs.YtjagfionflbjbaaGreat.SH
open Go Go.RowKit
def e7 (S:St):List (Nat×PV)→Prop
 | []=>True
 | (t,v) :: r=>S.slot t=some v∧e7 S r
def T5 (S:St):List (Nat×Blk)→Prop
 | []=>True
 | (k,B) :: r=>S.blk k=some B∧T5 S r
theorem e7.all {S:St}:∀ {l:List (Nat×PV)},e7 S l→∀ t v,l.lookup t=some v→S.slot t=some v
 | [],_,t,v,h=>by simp at h
 | (s,u) :: r,hs,t,v,h=>by
  rw [i0] at h
  split at h
  ·rename_i e
   have:t=s:=by simpa using e
   subst this
   injection h with h
   subst h
   exact hs.1
  ·exact e7.all hs.2 t v h
theorem T5.all {S:St}:∀ {l:List (Nat×Blk)},T5 S l→∀ t v,l.lookup t=some v→S.blk t=some v
 | [],_,t,v,h=>by simp at h
 | (s,u) :: r,hs,t,v,h=>by
  rw [i0] at h
  split at h
  ·rename_i e
   have:t=s:=by simpa using e
   subst this
   injection h with h
   subst h
   exact hs.1
  ·exact T5.all hs.2 t v h
theorem E3 {S:St}{sl:List (Nat×PV)}{hb:List (Nat×Blk)}(h1:e7 S sl)(h2:T5 S hb):St.le ⟨sl,hb⟩ S:=⟨h1.all,h2.all⟩
@[reducible] def vi (n:Int):PV:=.p (.a (.int .i64 n))
@[reducible] def vu (n:Int):PV:=.p (.a (.int .u32 n))
@[reducible] def vw (n:Int):PV:=.p (.a (.int .u64 n))
@[reducible] def vb (b:Bool):PV:=.p (.a (.bool b))
theorem oi {S:St}{t:Nat}{k:IntKind}{a b:Int}(h:a=b)(hs:S.slot t=some (.p (.a (.int k a)))):S.slot t=some (.p (.a (.int k b))):=h ▸ hs
theorem ov {S:St}{t:Nat}{a b:PV}(hs:S.slot t=some a)(h:a=b):S.slot t=some b:=h ▸ hs
theorem obl {S:St}{t:Nat}{a b:Blk}(hs:S.blk t=some a)(h:a=b):S.blk t=some b:=h ▸ hs
section
variable {P:Program} {F:Fr} {Q:Exit→St→Prop} {S:St}
theorem exr {id:Nat}{l:List Oper}{y:Code}(h:y7 P F l.toArray S l fun _ S1=>∃ sl hb,e7 S1 sl∧T5 S1 hb∧l4 P F y ⟨sl,hb⟩ Q)(hnd:d0h l=true:=by rfl):l4 P F (.seq (.region id l.toArray false) y) S Q :=
 let ⟨_,_,h,_,_,h1,h2,hn⟩:=h
 R1 (q0b h (hn.weak (E3 h1 h2)) hnd)
theorem exd {id:Nat}{l:List Oper}{y:Code}(hm:P.follows .mixedOrders=true)(h:y7 P F l.toArray S l fun As S1=>(W7 l As [] [] && b6 S As)=true∧∃ sl hb,e7 S1 sl∧T5 S1 hb∧l4 P F y ⟨sl,hb⟩ Q)(hnd:d0h l=true:=by rfl):l4 P F (.seq (.region id l.toArray true) y) S Q :=
 let ⟨_,_,h,ho,_,_,h1,h2,hn⟩:=h
 R1 (P0p hm h ho (hn.weak (E3 h1 h2)) hnd)
theorem y3 {id:Nat}{l:List Oper}(h:y7 P F l.toArray S l fun _ S1=>Q .normal S1)(hnd:d0h l=true:=by rfl):l4 P F (.region id l.toArray false) S Q :=
 let ⟨_,_,h,hn⟩:=h
 q0b h hn hnd
theorem m0v {id:Nat}{l:List Oper}(hm:P.follows .mixedOrders=true)(h:y7 P F l.toArray S l fun As S1=>(W7 l As [] [] && b6 S As)=true∧Q .normal S1)(hnd:d0h l=true:=by rfl):l4 P F (.region id l.toArray true) S Q :=
 let ⟨_,_,h,ho,hn⟩:=h
 P0p hm h ho hn hnd
theorem exw {c:Code}{sl:List (Nat×PV)}{hb:List (Nat×Blk)}(h1:e7 S sl)(h2:T5 S hb)(hn:l4 P F c ⟨sl,hb⟩ Q):l4 P F c S Q:=hn.weak (E3 h1 h2)
theorem exl {c:Code}{α:Type}(ws:α→List (Nat×PV))(wb:α→List (Nat×Blk))(ok:α→Prop)(μ:α→Nat)(x:α){sl:List (Nat×PV)}{hb:List (Nat×Blk)}(h0:ok x)(h1:e7 S (ws x++sl))(h2:T5 S (wb x++hb))
  (round:∀ x,ok x→l4 P F c ⟨ws x++sl,wb x++hb⟩ (G0s (fun S'=>∃ y,ok y∧μ y<μ x∧St.le ⟨ws y++sl,wb y++hb⟩ S') Q)):l4 P F (.loop c) S Q :=
 P0k (fun x=>⟨ws x++sl,wb x++hb⟩) ok μ x h0 (E3 h1 h2) round
end
theorem U4.cast {P:Program}{S:St}{rs:List ResultVar}{xs ys:List J2}(h:U4 P S rs xs)(e:xs=ys):U4 P S rs ys:=e ▸ h
theorem Q0 {P:Program}{S:St}{ys:List J2}{a:ResultVar}{x:J2}(h:w0x P S a x)(e:[x]=ys):(Exit.ret=.normal∨Exit.ret=.ret)∧U4 P S [a] ys:=⟨.inr rfl,U4.cast (.cons h .nil) e⟩
theorem Y0 {P:Program}{S:St}{ys:List J2}{a b:ResultVar}{x y:J2}(h:w0x P S a x)(g:w0x P S b y)(e:[x,y]=ys):(Exit.ret=.normal∨Exit.ret=.ret)∧U4 P S [a,b] ys:=⟨.inr rfl,U4.cast (.cons h (.cons g .nil)) e⟩
theorem P1 {P:Program}{S:St}{ys:List J2}{a b c:ResultVar}{x y z:J2}(h:w0x P S a x)(g:w0x P S b y)(k:w0x P S c z)(e:[x,y,z]=ys):(Exit.ret=.normal∨Exit.ret=.ret)∧U4 P S [a,b,c] ys:=⟨.inr rfl,U4.cast (.cons h (.cons g (.cons k .nil))) e⟩
theorem ltn {F:Fr}{n:Nat}(h:F.nt=n):∀ d,Nat.blt d n=true→d<F.nt:=fun d hd=>by rw [h]; simpa [Nat.blt_eq] using hd
theorem w64 {n:Int}(h0 : -9223372036854775808≤n)(h1:n<9223372036854775808):IntKind.i64.wrap n=n:=by rw [IntKind.wrap_i64]; omega
theorem j8 {n:Int}:IntKind.u32.wrap n=n % 4294967296:=by simp [IntKind.wrap,IntKind.bits,IntKind.signed]
theorem D0h {n:Int}:IntKind.u64.wrap n=n % 18446744073709551616:=by simp [IntKind.wrap,IntKind.bits,IntKind.signed]
theorem wu8 {n:Int}:IntKind.u8.wrap n=n % 256:=by simp [IntKind.wrap,IntKind.bits,IntKind.signed]
theorem w0w {n:Int}(h0:0≤n)(h1:n<4294967296):IntKind.u32.wrap n=n:=by rw [j8]; omega
theorem J4 {n:Int}(h0:0≤n)(h1:n<18446744073709551616):IntKind.u64.wrap n=n:=by rw [D0h]; omega
theorem fu8 {n:Int}(h0:0≤n)(h1:n<256):IntKind.u8.wrap n=n:=by rw [wu8]; omega
end Go.Proofs.YtjagfionflbjbaaGreat.SH
namespace Go.Proofs.YtjagfionflbjbaaGreat.SH
open Go Go.RowKit
theorem n0k {T:TypeId}:∀ (vs:List Value) (w:World) (b o:Nat) (c:Array Value),hp w b=some (.cells c T (0,0))→o+vs.length≤c.size →
  w.setCells b o vs=w.setRow b (c.toList.take o++vs++c.toList.drop (o+vs.length)).toArray
 | [],w,b,o,c,h,_=>by
  simp only [World.setCells,List.append_nil,List.length_nil,Nat.add_zero,List.take_append_drop,Array.toArray_toList]
  exact (setRow_self w b c T (0,0) h).symm
 | v :: vs,w,b,o,c,h,hl=>by
  simp only [D1] at hl
  simp only [World.setCells]
  have h1:=setCell_eq_setRow w b o c T (0,0) v h
  rw [h1]
  have h2:hp (w.setRow b (c.setIfInBounds o v)) b=some (.cells (c.setIfInBounds o v) T (0,0)):=by rw [f0f h,if_pos rfl]
  rw [n0k vs _ b (o+1) _ h2 (by simp; omega),setRow_setRow]
  congr 1
  obtain ⟨a1,a2⟩:=g8 (c.setIfInBounds o v) (o+1) vs (by simp; omega)
  obtain ⟨b1,b2⟩:=g8 c o (v :: vs) (by simp; omega)
  apply Array.ext_getElem?
  intro i
  rw [a2,b2]
  simp only [D1]
  by_cases h1:i=o
  ·subst h1
   rw [if_neg (by omega),if_pos (by omega),Nat.sub_self,Array.getElem?_setIfInBounds_self]
   simp; omega
  ·rw [Array.getElem?_setIfInBounds_ne (by omega)]
   by_cases h2:o+1≤i∧i<o+1+vs.length
   ·rw [if_pos h2,if_pos (by omega),show i - o=(i - (o+1))+1 by omega,List.getElem?_cons_succ]
   ·rw [if_neg h2,if_neg (by omega)]
inductive M0c:Cells→List PV→Cells→Prop
 | pure {xs ys:List J2} {us:List PV}:k0z us ys→M0c (.pure xs) us (.pure (xs++ys))
 | data {xs ys:List J2}:M0c (.pure xs) (ys.map .p) (.pure (xs++ys))
 | mix {vs us:List PV}:M0c (.mix vs) us (.mix (vs++us))
theorem M0c.spec {c c':Cells}{us:List PV}(h:M0c c us c'):c'.len=c.len+us.length∧∀ i,c'.get i=if i<c.len then c.get i else us[i - c.len]?:=by
 cases h with
 | @pure xs ys us h =>
  have e:=h.eq
  subst e
  refine ⟨by simp [Cells.len],fun i=>?_⟩
  by_cases hi:i<(Cells.pure xs).len
  ·rw [if_pos hi]; simp only [Cells.get]; rw [X0 hi]
  ·rw [if_neg hi]; simp only [Cells.get,Cells.len] at hi ⊢; rw [D0 (by omega),List.getElem?_map]
 | @data xs ys =>
  refine ⟨by simp [Cells.len],fun i=>?_⟩
  by_cases hi:i<(Cells.pure xs).len
  ·rw [if_pos hi]; simp only [Cells.get]; rw [X0 hi]
  ·rw [if_neg hi]; simp only [Cells.get,Cells.len] at hi ⊢; rw [D0 (by omega),List.getElem?_map]
 | @mix vs us =>
  refine ⟨by simp [Cells.len],fun i=>?_⟩
  by_cases hi:i<(Cells.mix vs).len
  ·rw [if_pos hi]; simp only [Cells.get]; rw [X0 hi]
  ·rw [if_neg hi]; simp only [Cells.get,Cells.len] at hi ⊢; rw [D0 (by omega)]
section
variable {P:Program} {F:Fr} {d:Nat} {T:TypeId} {pos:String} {aft:Array Edge} {g:Option (Nat×Bool)} {t tx:TypeId}
def f1q (P:Program)(F:Fr)(tx:TypeId)(sz:Nat)(y:Operand)(m:Nat)(us:List PV)(rs:List (Operand×PV))(rb:List (Nat×Blk)):Prop :=
 ∀ ρ S a w,b5 F ρ S a w→(∀ p∈rs,S.opd p.1=some p.2)→(∀ p∈rb,S.blk p.1=some p.2)→∃ news,Src P sz tx (a.eval y) m news w∧D3 S.blk ρ (okI F S.blk ρ) (hp w) us news
theorem Q1s {e sz m:Nat}{y:Operand}{xs:List J2}(hu:P.underlying tx=some (.slice e))(hl:xs.length=m*sz):f1q P F tx sz y m (xs.map .p) [(y,.p (.sl m xs))] []:=by
 intro ρ S a w h hr _
 have hy:=Z4 h (v:=.p (.sl m xs)) (hr (y,_) (by simp))
 simp only [K2,Rel] at hy
 obtain ⟨ad,cap,he,hc,hs⟩:=hy
 rw [he]
 by_cases hx:xs=[]
 ·subst hx
  cases ad with
  | none =>
   by_cases hm:m=0
   ·subst hm; exact ⟨[],Src.ofNil w hu cap,by simp [D3]⟩
   ·have : sz = 0 := by
     rcases Nat.mul_eq_zero.1 (by simpa using hl.symm) with h | h
     ·exact absurd h hm
     ·exact h
    subst this
    exact ⟨[],⟨.inl ⟨e,hu⟩,fun _=>rfl,by simp [Builtin.firstCells],by simp [Builtin.firstCells],by simp,fun _ h=>by cases h⟩,by simp [D3]⟩
  | some ad=>exact ⟨[],Src.ofSlice w hu ad m cap [] (by simpa using hl) (fun j u hj=>by simp at hj) (fun _ h=>by cases h),by simp [D3]⟩
 ·obtain ⟨b,o,rfl,hok,hra⟩:=hs.at hx
  have hg:∀ i,i<xs.length→∃ u,F6 (hp w) b (o+i)=some u∧u.oneCell'=true:=fun i hi=>by
   obtain ⟨u,h1,h2,_⟩:=hra.get (i:=i) (x:=xs[i]) (by simp [hi])
   exact ⟨u,h1,h2⟩
  refine ⟨(List.range xs.length).map fun j=>(F6 (hp w) b (o+j)).getD undef,Src.ofSlice w hu _ m cap _ (by simpa using hl) (fun j u hj=>?_) (fun u hu'=>?_),q8.2 (K5.of (by simp) fun i x hi=>?_)⟩
  ·simp only [List.getElem?_map,M0] at hj
   obtain ⟨q,hq,rfl⟩:=hj
   have hj':j<xs.length:=by have:=(i1.1 hq).1; simpa using this
   have:q=j:=by rw [List.getElem?_range hj'] at hq; injection hq with hq; exact hq.symm
   subst this
   have ea:(⟨b,o,none⟩:Addr).add q=⟨b,o+q,none⟩:=by unfold Addr.add; split <;> simp_all
   obtain ⟨u,h1,_⟩:=hg q hj'
   rw [ea,d9,h1]; rfl
  ·obtain ⟨q,hq,rfl⟩:=G0.1 hu'
   obtain ⟨u,h1,h2⟩:=hg q (by simpa using hq)
   simpa [h1] using h2
  ·obtain ⟨u,h1,_,h3⟩:=hra.get hi
   have hlt:i<xs.length:=(i1.1 hi).1
   exact ⟨u,by simp [hlt,h1],h3⟩
theorem K1b {e sz m k o t2:Nat}{y:Operand}{B:Blk}{us:List PV}(hu:P.underlying tx=some (.slice e))(hl:B.cs.len=t2)(hus:B.cs.sub o (m*sz)=us)(hn:us.length=m*sz):f1q P F tx sz y m us [(y,.ref k o m t2)] [(k,B)]:=by
 intro ρ S a w h hr hb
 have hB:S.blk k=some B:=hb (k,B) (by simp)
 obtain ⟨cap,c,he,hc,hH,_⟩:=o9 h (off:=o) (n:=m) (hr (y,.ref k o m t2) (by simp)) hB hl
 obtain ⟨c',e1,e2,e3,e4⟩:=h.blks k B hB
 rw [hH] at e1
 injection e1 with e1
 injection e1 with e1
 subst e1
 rw [he]
 have hg:∀ i x,us[i]? = some x→∃ u,c[o+i]? = some u∧u.oneCell'=true∧K2 S.blk ρ (okI F S.blk ρ) (hp w) x u:=fun i x hi=>by
  rw [← hus] at hi
  exact e4 _ x (Cells.sub_get hi).2
 refine ⟨(List.range (m*sz)).map fun j=>(c[o+j]?).getD undef,Src.ofSlice w hu _ m cap _ (by simp) (fun j u hj=>?_) (fun u hu'=>?_),f0a (by simp [hn]) fun i x hi=>?_⟩
 ·simp only [List.getElem?_map,M0] at hj
  obtain ⟨q,hq,rfl⟩:=hj
  have hj':j<m*sz:=by have:=(i1.1 hq).1; simpa using this
  have:q=j:=by rw [List.getElem?_range hj'] at hq; injection hq with hq; exact hq.symm
  subst this
  have ea:(⟨ρ k,o,none⟩:Addr).add q=⟨ρ k,o+q,none⟩:=by unfold Addr.add; split <;> simp_all
  obtain ⟨u,h1,_⟩:=hg q (us[q]'(by omega)) (by simp)
  rw [ea,d9,M7 hH,h1]; rfl
 ·obtain ⟨q,hq,rfl⟩:=G0.1 hu'
  have hq':q<m*sz:=by simpa using hq
  obtain ⟨u,h1,h2,_⟩:=hg q (us[q]'(by omega)) (by simp)
  simpa [h1] using h2
 ·obtain ⟨u,h1,_,h3⟩:=hg i x hi
  have hlt:i<m*sz:=by rw [← hn]; exact (i1.1 hi).1
  exact ⟨u,by simp [hlt,h1],h3⟩
theorem Q0f {ρ:Nat→Nat}{S:St}{a:Act}{w:World}(h:b5 F ρ S a w){k:Nat}{B:Blk}{cs':Cells}{us:List PV}{news:List Value}{c:Array Value}(hB:S.blk k=some B)(hc:hp w (ρ k)=some (.cells c B.T (0,0)))(ha:M0c B.cs us cs')(hn:D3 S.blk ρ (okI F S.blk ρ) (hp w) us news)(h1:∀ u∈news,u.oneCell'=true)
  {c':Array Value} (hg1:∀ i,i<B.cs.len→c'[i]? = c[i]?) (hg2:∀ i,i<news.length→c'[B.cs.len+i]? = news[i]?):∀ i x,cs'.get i=some x→∃ u,c'[i]? = some u∧u.oneCell'=true∧K2 S.blk ρ (okI F S.blk ρ) (hp w) x u:=by
 intro i x hx
 obtain ⟨c0,e1,e2,e3,e4⟩:=h.blks k B hB
 rw [hc] at e1
 injection e1 with e1
 injection e1 with e1
 subst e1
 rw [ha.spec.2] at hx
 split at hx
 ·rename_i hi
  obtain ⟨u,hu,h2,h3⟩:=e4 i x hx
  exact ⟨u,by rw [hg1 i hi]; exact hu,h2,h3⟩
 ·rename_i hi
  obtain ⟨u,hu,h3⟩:=L6 hn hx
  have hlt:=(i1.1 hu).1
  have:=hg2 (i - B.cs.len) hlt
  rw [show B.cs.len+(i - B.cs.len)=i by omega] at this
  exact ⟨u,by rw [this]; exact hu,h1 u (M1 hu),h3⟩
theorem y0z {x y:Operand}{k n m tot tot' sz:Nat}{e:TypeId}{ie:TypeInfo}{z:Value}{cs cs':Cells}{us:List PV}{rs:List (Operand×PV)}{rb:List (Nat×Blk)}(hu:P.underlying t=some (.slice e))(hi:∀ w,(typeInfo e).run P w = .ok ie w)(hz:ie.zero=some z)(hsz:ie.size=sz)
  (hzl:z.cells.size=sz) (hpos:0<sz) (hl:cs.len=tot) (hn:n*sz=tot) (hs:f1q P F tx sz y m us rs rb) (hul:us.length=m*sz) (ha:M0c cs us cs') (ht':tot+m*sz=tot') (hby:2*(n+m)*ie.bytes≤281474976710656) (h63:n+m≤9223372036854775807) (hpk:F.pin k=none) (hlt:d<F.nt) :
  O2 P F ⟨some d,.call ⟨.builtin .append,#[x,y],#[t,tx]⟩,T,pos,aft,g⟩ ⟨(x,.ref k 0 n tot) :: rs,(k,⟨e,sz,cs⟩) :: rb,none,[(d,.ref k 0 (n+m) tot')],[(k,⟨e,sz,cs'⟩)]⟩:=by
 intro S a w ⟨ρ,h⟩ hA Q K hK
 have hB:S.blk k=some ⟨e,sz,cs⟩:=hA.rb (k,_) (by simp)
 obtain ⟨cap,c,he,hc,hH,hcap⟩:=o9 h (off:=0) (n:=n) (hA.rs (x,.ref k 0 n tot) (by simp)) hB hl
 obtain ⟨news,hsrc,hrel⟩:=hs ρ S a w h (fun p hp=>hA.rs p (by simp [hp])) (fun p hp=>hA.rb p (by simp [hp]))
 have hnl:news.length=m*sz:=hsrc.newsLen
 obtain ⟨al,ag⟩:=ha.spec
 simp only [F1] at hcap
 have hexec:∀ u w',(Builtin.append_ #[t,tx] T #[.slice (some ⟨ρ k,0,none⟩) n cap,a.eval y]).run P w = .ok u w'→(execOp a.eval ⟨some d,.call ⟨.builtin .append,#[x,y],#[t,tx]⟩,T,pos,aft,g⟩).run P w = .ok (.value u) w':=by
  intro u w' hr
  simp [execOp,resolve,invoke,builtin,he,hr]
 by_cases hroom:n+m≤cap
 ·have hfit:(n+m)*sz≤c.size:=Nat.le_trans (V0 _ hroom) hcap
  rw [Nat.add_mul] at hfit
  have hrun:=run_append_room_src (P:=P) w t tx T e ie hu (k0n hi) (ρ k) 0 n cap (a.eval y) m news (by rw [hsz]; exact hsrc) hroom
   (fun j hj=>by
    rw [d9,M7 hH,hsz,F1]
    rw [Array.getElem?_eq_getElem (by omega)]; rfl)
   (fun j hj=>by
    unfold World.frozen?
    have:w.heap[ρ k]? = some (.cells c e (0,0)):=hH
    simp [this])
  rw [n0k news w (ρ k) _ c hH (by rw [hsz]; omega),hsz,F1] at hrun
  unfold Oper.wp
  rw [hexec _ _ hrun]
  simp only [Oper.upon]
  obtain ⟨s1,s2⟩:=g8 c (n*sz) news (by omega)
  refine hK _ _ ⟨ρ,?_⟩
  refine G0g (ws:=[(d,.ref k 0 (n+m) tot')]) (B:=⟨e,sz,cs⟩) (B':=⟨e,sz,cs'⟩) h hB hH rfl rfl (by simp only; omega) s1 (by simp only; omega) (f0f hH) (j0v _ _ _) rfl rfl rfl
   (Q0f (B:=⟨e,sz,cs⟩) h hB hH ha hrel hsrc.one (fun i hi'=>by simp only at hi'; rw [s2,if_neg (by omega)]) (fun i hi'=>by simp only; rw [s2,if_pos (by omega)]; congr 1; omega)) (by simp [Act.put,h.nt]) rfl (fun s v hv=>?_)
  rw [b0w (by rw [h.nt]; exact hlt)]
  simp only [L1,List.nil_append,i0] at hv
  by_cases ed:s=d
  ·subst ed
   simp only [BEq.rfl,U0] at hv
   subst hv
   exact .inr ⟨_,by simp,fun β' ok' hb=>b0x hb rfl (by simp only; omega) hroom (by rw [f0f hH,if_pos rfl]) (by rw [s1]; simpa using hcap)⟩
  ·rw [show (s == d)=false by simpa using ed] at hv
   exact .inl ⟨hv,by rw [if_neg ed]⟩
 ·have hcs:n*sz≤c.size:=Nat.le_trans (V0 _ hc) hcap
  have hold:(Builtin.firstCells ie.size n (.slice (some ⟨ρ k,0,none⟩) n cap)).run P w.drew = .ok (c.toList.take (n*sz)).toArray w.drew:=by
   rw [hsz]
   refine run_firstCells_some w.drew sz n _ n cap (c.toList.take (n*sz)) (by simp; omega) fun j u hj=>?_
   rw [List.getElem?_take] at hj
   split at hj
   ·have ea:(⟨ρ k,0,none⟩:Addr).add j=⟨ρ k,j,none⟩:=by unfold Addr.add; split <;> simp_all
    rw [ea]
    have:w.drew.cell? ⟨ρ k,j,none⟩=w.cell? ⟨ρ k,j,none⟩:=rfl
    rw [this,d9,M7 hH]
    simpa using hj
   ·cases hj
  have hnext:=nextslicecap_le (need:=n+m) (old:=cap) (by omega)
  have hrun:=run_append_grow_src (P:=P) w t tx T e ie z hu (k0n hi) hz (some ⟨ρ k,0,none⟩) n cap (c.toList.take (n*sz)) hold (a.eval y) m news (by rw [hsz]; exact hsrc) (by omega) (by omega)
   (Nat.le_trans (V0 _ hnext) hby)
  unfold Oper.wp
  rw [hexec _ _ hrun]
  simp only [Oper.upon]
  have hcapge:n+m≤grownCap w (n+m) cap e:=by unfold grownCap Question.cut; exact Nat.le_add_right _ _
  have hmp:0<m*sz:=Nat.mul_pos (by omega) hpos
  refine hK _ _ ?_
  refine d1j (B:=⟨e,sz,cs⟩) (B':=⟨e,sz,cs'⟩) (c:=((c.toList.take (n*sz)++news).toArray++Builtin.zeroCells z.cells (grownCap w (n+m) cap e - (n+m)))) h hB hpk hlt rfl rfl rfl rfl ?_ (by simp only; omega) rfl
   (Q0f (B:=⟨e,sz,cs⟩) h hB hH ha hrel hsrc.one (fun i hi'=>?_) (fun i hi'=>?_)) (fun β' ρ' ok' hb hr=>?_)
  ·simp only [Array.size_append,List.size_toArray,K1,J0,Array.length_toList]; omega
  ·simp only at hi'
   rw [Array.getElem?_append_left (by simp; omega),List.getElem?_toArray,X0 (by simp; omega),List.getElem?_take,if_pos (by omega)]
   simp
  ·simp only
   rw [Array.getElem?_append_left (by simp; omega),List.getElem?_toArray,D0 (by simp; omega)]
   congr 1
   simp; omega
  ·refine b0x hb hr (by simp only; omega) hcapge (by rw [V6 (w:=w.drew) (World.alloc_heap w.drew _)]; exact if_pos rfl) ?_
   simp only [Array.size_append,List.size_toArray,K1,J0,Array.length_toList,size_zeroCells,hzl,hnl]
   have e1:(n+m+(grownCap w (n+m) cap e - (n+m)))*sz=grownCap w (n+m) cap e*sz:=by congr 1; omega
   rw [Nat.add_mul,Nat.add_mul] at e1
   rw [G1 hcs]
   omega
theorem K0x {x y:Operand}{k m tot' sz:Nat}{e:TypeId}{ie:TypeInfo}{z:Value}{cs':Cells}{us:List PV}{rs:List (Operand×PV)}{rb:List (Nat×Blk)}(hu:P.underlying t=some (.slice e))(hi:∀ w,(typeInfo e).run P w = .ok ie w)(hz:ie.zero=some z)(hsz:ie.size=sz)
  (hzl:z.cells.size=sz) (hm:0<m) (hs:f1q P F tx sz y m us rs rb) (hul:us.length=m*sz) (ha:M0c (.pure []) us cs'∨cs' = .mix us) (hfr:PV.freeL k us=true) (ht':m*sz=tot') (hby:2*m*ie.bytes≤281474976710656) (h63:m≤9223372036854775807) (hpk:F.pin k=none) (hlt:d<F.nt) :
  O2 P F ⟨some d,.call ⟨.builtin .append,#[x,y],#[t,tx]⟩,T,pos,aft,g⟩ ⟨(x,.p (.a (.slice none 0 0))) :: rs,rb,some k,[(d,.ref k 0 m tot')],[(k,⟨e,sz,cs'⟩)]⟩:=by
 intro S a w ⟨ρ,h⟩ hA Q K hK
 obtain ⟨hk,hf⟩:=hA.fresh k rfl
 have he:=M4 h (v:=.slice none 0 0) (hA.rs (x,_) (by simp))
 obtain ⟨news,hsrc,hrel⟩:=hs ρ S a w h (fun p hp=>hA.rs p (by simp [hp])) (fun p hp=>hA.rb p (by simp [hp]))
 have hnl:news.length=m*sz:=hsrc.newsLen
 have hspec:cs'.len=us.length∧∀ i,cs'.get i=us[i]?:=by
  rcases ha with ha | rfl
  ·obtain ⟨a1,a2⟩:=ha.spec
   refine ⟨by simpa [Cells.len] using a1,fun i=>?_⟩
   rw [a2,if_neg (by simp [Cells.len])]
   simp [Cells.len]
  ·exact ⟨rfl,fun i=>rfl⟩
 have hnext:=nextslicecap_le (need:=0+m) (old:=0) (by omega)
 have hrun:=run_append_grow_src (P:=P) w t tx T e ie z hu (k0n hi) hz none 0 0 [] (run_firstCells_none _ _ _ _ _) (a.eval y) m news (by rw [hsz]; exact hsrc) (by omega) (by omega)
  (Nat.le_trans (V0 _ hnext) (by rw [F1]; exact hby))
 simp only [F1,List.nil_append] at hrun
 have hexec:(execOp a.eval ⟨some d,.call ⟨.builtin .append,#[x,y],#[t,tx]⟩,T,pos,aft,g⟩).run P w = .ok (.value (.slice (some ⟨w.heap.size,0,none⟩) m (grownCap w m 0 e))) (w.drew.alloc (.cells (news.toArray++Builtin.zeroCells z.cells (grownCap w m 0 e - m)) e)):=by
  simp [execOp,resolve,invoke,builtin,he,hrun]
 unfold Oper.wp
 rw [hexec]
 simp only [Oper.upon]
 have hcapge:m≤grownCap w m 0 e:=by unfold grownCap Question.cut; exact Nat.le_add_right _ _
 refine hK _ _ ?_
 refine h0j (B:=⟨e,sz,cs'⟩) (c:=(news.toArray++Builtin.zeroCells z.cells (grownCap w m 0 e - m))) (w':=w.drew.alloc (.cells (news.toArray++Builtin.zeroCells z.cells (grownCap w m 0 e - m)) e)) h hk hf hpk hlt rfl rfl rfl rfl ?_ (fun i v hv=>?_) (fun β' ρ' ok' hb hr=>?_)
 ·simp only [hspec.1,Array.size_append,List.size_toArray]; omega
 ·rw [hspec.2] at hv
  obtain ⟨u,hu',hru⟩:=L6 hrel hv
  have hlt':=(i1.1 hu').1
  exact ⟨f0p hfr hv,u,by rw [Array.getElem?_append_left (by simpa using hlt')]; simpa using hu',hsrc.one u (M1 hu'),hru⟩
 ·refine b0x hb hr (by simp only [hspec.1]; omega) hcapge (by rw [V6 (w:=w.drew) (World.alloc_heap w.drew _)]; exact if_pos rfl) ?_
  simp only [Array.size_append,List.size_toArray,size_zeroCells,hzl,hnl]
  have e1:(m+(grownCap w m 0 e - m))*sz=grownCap w m 0 e*sz:=by congr 1; omega
  rw [Nat.add_mul] at e1
  omega
theorem O9 {k sz:Nat}{e:TypeId}{ie:TypeInfo}(hu:P.underlying t=some (.slice e))(hi:∀ w,(typeInfo e).run P w = .ok ie w)(hpk:F.pin k=none)(hlt:d<F.nt) :
  O2 P F ⟨some d,.buildSlice t 0 #[],T,pos,aft,g⟩ ⟨[],[],some k,[(d,.ref k 0 0 0)],[(k,⟨e,sz,.pure []⟩)]⟩:=by
 intro S a w ⟨ρ,h⟩ hA Q K hK
 obtain ⟨hk,hf⟩:=hA.fresh k rfl
 unfold Oper.wp
 have hexec:(execOp a.eval ⟨some d,.buildSlice t 0 #[],T,pos,aft,g⟩).run P w = .ok (.value (.slice (some ⟨w.heap.size,0,none⟩) 0 0)) (w.alloc (.cells #[] e)):=by
  simp [execOp,Instr.buildSlice,run_underlying hu,sizeOf,hi,Instr.fill,newRow,Array.range_zero']
 rw [hexec]
 simp only [Oper.upon]
 refine hK _ _ (h0j (B:=⟨e,sz,.pure []⟩) h hk hf hpk hlt (World.alloc_heap w _) rfl rfl rfl (by simp [Cells.len]) (fun i x hx=>by simp [Cells.get] at hx) (fun β' ρ' ok' hb hr=>?_))
 exact b0x hb hr rfl (Nat.le_refl _) (by rw [V6 (World.alloc_heap w _),if_pos rfl]) (by simp)
theorem N1x {x y:Operand}{k n m:Nat}{e tb:TypeId}{ie:TypeInfo}{xs ys:List J2}(hu:P.underlying t=some (.slice e))(hi:∀ w,(typeInfo e).run P w = .ok ie w)(hl:xs.length=n)(hsz:ie.size=1)(hm:ys.length=m)(hlt:d<F.nt) :
  O2 P F ⟨some d,.call ⟨.builtin .copy,#[x,y],#[t,tb]⟩,T,pos,aft,g⟩ ⟨[(x,.ref k 0 n n),(y,.p (.sl m ys))],[(k,⟨e,1,.pure xs⟩)],none,[(d,.p (.a (.int .i64 (min m n:Nat))))],[(k,⟨e,1,.pure (ys.take n++xs.drop m)⟩)]⟩:=by
 intro S a w ⟨ρ,h⟩ hA Q K hK
 have hB:S.blk k=some ⟨e,1,.pure xs⟩:=hA.rb (k,_) (by simp)
 obtain ⟨cap,c,he,hc,hH,hcap⟩:=o9 h (off:=0) (n:=n) (hA.rs (x,.ref k 0 n n) (by simp)) hB hl
 have hy:=Z4 h (v:=.p (.sl m ys)) (hA.rs (y,_) (by simp))
 simp only [K2,Rel] at hy
 obtain ⟨ad,cap2,he2,hc2,hs⟩:=hy
 have hncs:n≤c.size:=by simp at hcap; omega
 obtain ⟨c0,e1,e2,e3,e4⟩:=h.blks k _ hB
 rw [hH] at e1
 injection e1 with e1
 injection e1 with e1
 subst e1
 have hnews : ∃ news : List Value, news.length = min m n ∧ (execOp a.eval ⟨some d, .call ⟨.builtin .copy, #[x, y], #[t, tb]⟩, T, pos, aft, g⟩).run P w = .ok (.value (.int .i64 (min m n : Nat))) (w.setRow (ρ k) (c.toList.take 0 ++ news ++ c.toList.drop (0 + news.length)).toArray) ∧
   K5 (okI F S.blk ρ) (hp w) (ys.take n) news∧∀ u∈news,u.oneCell'=true:=by
  by_cases hx:ys=[]
  ·subst hx
   have:m=0:=by simpa using hm.symm
   subst this
   refine ⟨[],by simp,?_,by simp [K5],fun _ h=>by cases h⟩
   have hrow:w.setRow (ρ k) (c.toList.take 0++[]++c.toList.drop (0+([]:List Value).length)).toArray=w:=by simpa using setRow_self w (ρ k) c e (0,0) hH
   rw [hrow]
   have hl0:(Builtin.lenOf (.slice ad 0 cap2)).run P w = .ok 0 w:=rfl
   cases ad with
   | none=>simp [execOp,resolve,invoke,builtin,Builtin.copy_,he,he2,run_underlying hu,hl0,sizeOf,hi,Builtin.firstCells,storeCells,goInt]
   | some ad=>simp [execOp,resolve,invoke,builtin,Builtin.copy_,he,he2,run_underlying hu,hl0,sizeOf,hi,Builtin.firstCells,loadCells,loadCellsFrom,storeCells,goInt]
  ·obtain ⟨b,o,rfl,hok,hra⟩:=hs.at hx
   have hg:∀ i,i<ys.length→∃ u,F6 (hp w) b (o+i)=some u∧u.oneCell'=true:=fun i hi=>by
    obtain ⟨u,h1,h2,_⟩:=hra.get (i:=i) (x:=ys[i]) (by simp [hi])
    exact ⟨u,h1,h2⟩
   let news:=(List.range (min m n)).map fun j=>(F6 (hp w) b (o+j)).getD undef
   have hnl:news.length=min m n:=by simp [news]
   have hone:∀ u∈news,u.oneCell'=true:=fun u hu'=>by
    obtain ⟨q,hq,rfl⟩:=G0.1 hu'
    have hq':q<min m n:=by simpa using hq
    obtain ⟨u,h1,h2⟩:=hg q (by omega)
    simpa [h1] using h2
   refine ⟨news,hnl,?_,K5.of (by rw [hnl]; simp; omega) fun i x hi=>?_,hone⟩
   ·have hrun := run_copy_row (P := P) w t tb T e (ρ k) 0 n cap ⟨b, o, none⟩ m cap2 c e news hu (by rw [k0n hi]; simp [hsz]) hH hnl (fun j u hj => by
     simp only [news,List.getElem?_map,M0] at hj
     obtain ⟨q,hq,rfl⟩:=hj
     have hj':j<min m n:=by have:=(i1.1 hq).1; simpa using this
     have:q=j:=by rw [List.getElem?_range hj'] at hq; injection hq with hq; exact hq.symm
     subst this
     have ea:(⟨b,o,none⟩:Addr).add q=⟨b,o+q,none⟩:=by unfold Addr.add; split <;> simp_all
     obtain ⟨u,h1,_⟩:=hg q (by omega)
     rw [ea,d9,h1]; rfl) (by rw [hnl]; omega) hone
    rw [hnl] at hrun ⊢
    simp [execOp,resolve,invoke,builtin,he,he2,hrun,goInt]
   ·rw [List.getElem?_take] at hi
    split at hi
    ·rename_i hin
     obtain ⟨u,h1,_,h3⟩:=hra.get hi
     have hlt:i<ys.length:=(i1.1 hi).1
     exact ⟨u,by simp [news,show i<min m n by omega,h1],h3⟩
    ·cases hi
 obtain ⟨news,hnl,hrun,hrel,hone⟩:=hnews
 unfold Oper.wp
 rw [hrun]
 simp only [Oper.upon]
 obtain ⟨s1,s2⟩:=g8 c 0 news (by omega)
 have hlen:(ys.take n++xs.drop m).length=n:=by simp; omega
 refine hK _ _ ⟨ρ,?_⟩
 refine G0g (ws:=[(d,.p (.a (.int .i64 (min m n:Nat))))]) (B:=⟨e,1,.pure xs⟩) (B':=⟨e,1,.pure (ys.take n++xs.drop m)⟩) h hB hH rfl rfl (by simp only [Cells.len]; omega) s1 (by simp only [Cells.len]; omega) (f0f hH) (j0v _ _ _) rfl rfl rfl
  (fun i z hz=>?_) (by simp [Act.put,h.nt]) rfl (fun s v hv=>?_)
 ·simp only [Cells.get,M0] at hz
  obtain ⟨p,hp',rfl⟩:=hz
  have htl:(ys.take n).length=min m n:=by rw [J0]; omega
  rw [s2]
  simp only [Nat.zero_le,true_and,F1,Nat.sub_zero]
  by_cases hin:i<news.length
  ·rw [if_pos hin]
   rw [X0 (by rw [htl]; omega)] at hp'
   obtain ⟨u,hu',hru⟩:=hrel.get hp'
   exact ⟨u,hu',hone u (M1 hu'),by simpa [K2] using hru⟩
  ·rw [if_neg hin]
   have hxl:i<xs.length:=by
    have h0:=(i1.1 hp').1
    omega
   rw [D0 (by rw [htl]; omega),List.getElem?_drop] at hp'
   have hi2:m+(i - (ys.take n).length)=i:=by rw [htl]; omega
   rw [hi2] at hp'
   exact e4 i (.p p) (by simp [Cells.get,hp'])
 ·rw [b0w (by rw [h.nt]; exact hlt)]
  simp only [L1,List.nil_append,i0] at hv
  by_cases ed:s=d
  ·subst ed
   simp only [BEq.rfl,U0] at hv
   subst hv
   exact .inr ⟨.int .i64 (min m n:Nat),by simp,fun β' ok' hb=>by simp [K2,Rel]⟩
  ·rw [show (s == d)=false by simpa using ed] at hv
   exact .inl ⟨hv,by rw [if_neg ed]⟩
end
end Go.Proofs.YtjagfionflbjbaaGreat.SH
namespace Go.Proofs.YtjagfionflbjbaaGreat.SH
open Go Go.RowKit
mutual
def PV.ren (κ:Nat→Nat):PV→PV
 | .p x=>.p x
 | .at_ k o t=>.at_ (κ k) o t
 | .im xs o=>.im xs o
 | .ref k o n t=>.ref (κ k) o n t
 | .agg xs=>.agg (PV.renL κ xs)
 | .tup xs=>.tup (PV.renL κ xs)
 | .clo f a b=>.clo f (PV.renL κ a) (PV.renL κ b)
 | .ifc t x=>.ifc t (x.ren κ)
 | .dead=>.dead
def PV.renL (κ:Nat→Nat):List PV→List PV
 | []=>[]
 | x :: xs=>x.ren κ :: PV.renL κ xs
end
def PV.isP:PV→Bool
 | .p _=>true
 | _=>false
def Cells.data:Cells→Bool
 | .pure _=>true
 | .mix vs=>vs.all PV.isP
theorem Cells.data_get {c:Cells}(h:c.data=true){i:Nat}{x:PV}(hx:c.get i=some x):∃ y,x = .p y:=by
 cases c with
 | pure xs =>
  simp only [Cells.get,M0] at hx
  obtain ⟨y,_,rfl⟩:=hx
  exact ⟨y,rfl⟩
 | mix vs =>
  simp only [Cells.data,s0] at h
  have:=h x (M1 hx)
  cases x <;> first | exact ⟨_,rfl⟩ | cases this
mutual
theorem f1z {β β0:Nat→Option Blk}{ρ:Nat→Nat}{ok:Nat→Prop}{Hp:Nat→Option Obj}{κ:Nat→Nat}(hH:∀ j B,β0 j=some B→β (κ j)=some B):∀ (x:PV) (v:Value),K2 β ρ ok Hp (x.ren κ) v→K2 β0 (fun j=>ρ (κ j)) ok Hp x v
 | .p x,v,h=>by simpa only [PV.ren,K2] using h
 | .at_ k o t,v,h=>by
  simp only [PV.ren,K2] at h ⊢
  exact fun B hB=>h B (hH k B hB)
 | .im xs o,v,h=>by simpa only [PV.ren,K2] using h
 | .ref k o n t,v,h=>by
  simp only [PV.ren,K2] at h ⊢
  exact ⟨h.1,fun B hB=>h.2 B (hH k B hB)⟩
 | .agg xs,v,h=>by
  simp only [PV.ren,K2] at h ⊢
  obtain ⟨cs,h1,h2,h3⟩:=h
  exact ⟨cs,h1,b0c hH xs cs h2,h3⟩
 | .tup xs,v,h=>by
  simp only [PV.ren,K2] at h ⊢
  obtain ⟨cs,h1,h2⟩:=h
  exact ⟨cs,h1,b0c hH xs cs h2⟩
 | .clo f a b,v,h=>by
  simp only [PV.ren,K2] at h ⊢
  obtain ⟨fs,cs,h1,h2,h3⟩:=h
  exact ⟨fs,cs,h1,b0c hH a fs h2,b0c hH b cs h3⟩
 | .ifc t x,v,h=>by
  simp only [PV.ren,K2] at h ⊢
  obtain ⟨y,h1,h2⟩:=h
  exact ⟨y,h1,f1z hH x y h2⟩
 | .dead,_,_=>by simp [K2]
theorem b0c {β β0:Nat→Option Blk}{ρ:Nat→Nat}{ok:Nat→Prop}{Hp:Nat→Option Obj}{κ:Nat→Nat}(hH:∀ j B,β0 j=some B→β (κ j)=some B):∀ (xs:List PV) (vs:List Value),D3 β ρ ok Hp (PV.renL κ xs) vs→D3 β0 (fun j=>ρ (κ j)) ok Hp xs vs
 | [],v,h=>by simpa only [PV.renL,D3] using h
 | x :: xs,vs,h=>by
  simp only [PV.renL,D3] at h ⊢
  obtain ⟨v,r,h1,h2,h3⟩:=h
  exact ⟨v,r,h1,f1z hH x v h2,b0c hH xs r h3⟩
end
def lk (H:List (Nat×Blk)):Nat→Option Blk:=fun k=>H.lookup k
def j0h (β:Nat→Option Blk)(ρ:Nat→Nat)(ok:Nat→Prop)(Hp:Nat→Option Obj)(j:Nat)(B:Blk):Prop :=
 ∃ c,Hp (ρ j)=some (.cells c B.T (0,0))∧B.cs.len≤c.size∧∀ i x,B.cs.get i=some x→∃ u,c[i]? = some u∧u.oneCell'=true∧K2 β ρ ok Hp x u
def w0g (E:Env)(f:FuncId)(args:List PV)(H H':List (Nat×Blk))(r:J2):Prop :=
 ∀ (ok:Nat→Prop) (ρ:Nat→Nat) (w:World) (vals:List Value),E.G w →
  (∀ j B,H.lookup j=some B→j0h (lk H) ρ ok (hp w) j B∧E.ng≤ρ j∧¬ ok (ρ j)) →
  (∀ j j',H.lookup j≠none→H.lookup j'≠none→ρ j=ρ j'→j=j')→D3 (lk H) ρ ok (hp w) args vals →
  Calls E.P f vals.toArray w fun e w'=>∃ v,e = .returned v∧Rel (fun b=>(ok b∨w.heap.size≤b)∧∀ j,H'.lookup j≠none→b≠ρ j) (hp w') r v ∧
   (∀ j B',H'.lookup j=some B'→j0h (lk H') ρ (fun b=>(ok b∨w.heap.size≤b)∧∀ j,H'.lookup j≠none→b≠ρ j) (hp w') j B' ∧
    ∀ c T,hp w (ρ j)=some (.cells c T (0,0))→∃ c' T',hp w' (ρ j)=some (.cells c' T' (0,0))∧c'.size=c.size) ∧
   w'.os=w.os∧w'.tape=w.tape∧w'.output=w.output∧w.heap.size≤w'.heap.size∧∀ b,b<w.heap.size→(∀ j,H.lookup j≠none→b≠ρ j)→w'.heap[b]? = w.heap[b]?
def i3:Nat→List PV→List (Nat×PV)
 | _,[]=>[]
 | i,x :: xs=>(i,x) :: i3 (i+1) xs
theorem e8:∀ {xs:List PV}{i t:Nat}{v:PV},(i3 i xs).lookup t=some v→∃ j,t=i+j∧xs[j]? = some v
 | [],i,t,v,h=>by simp [i3] at h
 | x :: xs,i,t,v,h=>by
  simp only [i3,i0] at h
  split at h
  ·rename_i e
   injection h with h
   exact ⟨0,by simpa using e,by simp [h]⟩
  ·obtain ⟨j,h1,h2⟩:=e8 h
   exact ⟨j+1,by omega,by simpa using h2⟩
theorem d0a {H:List (Nat×Blk)}(h:H.all (fun p=>decide (1000≤p.1))=true){k:Nat}(hk:Nat.blt k 1000=true):H.lookup k=none:=by
 induction H with
 | nil=>rfl
 | cons p H ih =>
  obtain ⟨j,B⟩:=p
  simp only [List.all_cons,j0,decide_eq_true_eq] at h
  rw [i0]
  have:(k == j)=false:=by simp [Nat.blt_eq] at hk; simp; omega
  rw [this]
  exact ih h.2
theorem f0n {E:Env}{f:FuncId}{fn:Func}{c:Code}{args:List PV}{H H':List (Nat×Blk)}{xs:List J2}{rs:List ResultVar}{n:Nat}(hf:E.P.funcs[f]? = some fn)(hb:fn.body=some c)(hn:fn.ntmps=n)(hr:fn.results=rs.toArray)(hle:args.length≤n)
  (hk:H.all (fun p=>decide (1000≤p.1))=true) (hk':∀ j B',H'.lookup j=some B'→∃ B,H.lookup j=some B)
  (h:∀ F:Fr,E.G F.w0→(∀ b,F.X b→E.ng≤b)→F.nt=n→F.df=[]→(∀ k,Nat.blt k 1000=true→F.pin k=none)→(∀ b,F.X b→∃ j n,F.pin j=some (b,n)∧H.lookup j≠none)→l4 E.P F c ⟨i3 0 args,H⟩ (fun e S=>(e = .normal∨e = .ret)∧U4 E.P S rs xs∧T5 S H')):w0g E f args H H' (w0k xs):=by
 intro ok ρ w vals hG hH hinj hrel
 have hvl:=F5 hrel
 let F:Fr:=⟨w,ok,fun b=>∃ j,H.lookup j≠none∧b=ρ j,n,[],fun j=>if H.lookup j≠none then match hp w (ρ j) with | some (.cells c _ _)=>some (ρ j,c.size) | _=>none else none,none,fun _ _=>False,fun k=>Nat.blt k 1000⟩
 have hblk:∀ j,H.lookup j≠none→∃ B,H.lookup j=some B:=fun j hj=>by cases e:H.lookup j with
  | none=>exact absurd e hj
  | some B=>exact ⟨B,rfl⟩
 have hpin:∀ j B c,H.lookup j=some B→hp w (ρ j)=some (.cells c B.T (0,0))→F.pin j=some (ρ j,c.size):=fun j B c hj hc=>by
  simp only [F]
  rw [if_pos (by simp [hj]),hc]
 have hcarry:Carry ok (okI F (lk H) ρ) (hp w) (hp w):=fun b hb _=>⟨⟨.inl hb,fun k hk e=>by obtain ⟨B,hB⟩:=hblk k hk; exact (hH k B hB).2.2 (e ▸ hb)⟩,rfl⟩
 have hkeep:b0q (fun _=>True) (lk H) (lk H) ρ ρ (hp w) (hp w):=fun k _ B hB=>⟨B,hB,rfl,Nat.le_refl _,fun _=>⟨rfl,fun c T fr hc=>⟨c,T,fr,hc,rfl⟩⟩⟩
 have hS:b5 F ρ ⟨i3 0 args,H⟩ { tmps:=vals.toArray++Array.replicate (fn.ntmps - vals.toArray.size) undef,defers:=[] } w:=by
  refine ⟨fun t v ht=>?_,fun k B hB=>?_,hinj,⟨rfl,rfl,rfl,Nat.le_refl _,fun _ _ _=>rfl⟩,?_,g0z.nil rfl,fun j b m hj hS=>?_⟩
  ·obtain ⟨j,rfl,hx⟩:=e8 ht
   obtain ⟨u,hu,hru⟩:=L6 hrel hx
   refine ⟨u,?_,K2.mono hcarry hkeep v u (fun _ _=>trivial) hru⟩
   rw [F1,Array.getElem?_append_left (by have:=(i1.1 hu).1; simpa using this)]
   simpa using hu
  ·obtain ⟨⟨c,h1,h2,h3⟩,h4,h5⟩:=hH k B hB
   refine ⟨c,h1,.inl ⟨⟨k,by simp only [St.blk] at hB; simp [hB],rfl⟩,by cases e:Nat.blt k 1000 with | false=>exact e | true=>exact absurd hB (by simp [St.blk,d0a hk e])⟩,h2,fun i x hx=>?_⟩
   obtain ⟨u,hu,ho,hru⟩:=h3 i x hx
   exact ⟨u,hu,ho,K2.mono hcarry hkeep x u (fun _ _=>trivial) hru⟩
  ·simp [F,hn]; omega
  ·obtain ⟨B,hB⟩:=hblk j hS
   obtain ⟨⟨c,h1,_⟩,_⟩:=hH j B hB
   rw [hpin j B c hB h1] at hj
   injection hj with hj
   injection hj with hj1 hj2
   subst hj1 hj2
   exact ⟨rfl,c,B.T,h1,rfl⟩
 refine Y8 hf hb rfl rfl (fun _ _ h=>h) ⟨ρ,hS⟩ (h F hG (fun b ⟨j,hj,e⟩=>by obtain ⟨B,hB⟩:=hblk j hj; subst e; exact (hH j B hB).2.1) rfl rfl (fun k hk2=>by simp only [F]; rw [if_neg (by simp [d0a hk hk2])]) (fun b ⟨j,hj,e⟩=>by obtain ⟨B,hB⟩:=hblk j hj; obtain ⟨⟨c,h1,_⟩,_⟩:=hH j B hB; subst e; exact ⟨j,_,hpin j B c hB h1,hj⟩)) fun e S' hq=>⟨hq.1,fun ρ' tmps w' hS'=>?_⟩
 obtain ⟨-,hres,hHB⟩:=hq
 obtain ⟨v,hv,hrv⟩:=h0r hS' hr hres
 have hpin':∀ j B',H'.lookup j=some B'→ρ' j=ρ j∧S'.blk j=some B'∧∀ c T,hp w (ρ j)=some (.cells c T (0,0))→∃ c' T',hp w' (ρ j)=some (.cells c' T' (0,0))∧c'.size=c.size:=fun j B' hj=>by
  have hsb:=hHB.all j B' hj
  obtain ⟨B,hB⟩:=hk' j B' hj
  obtain ⟨⟨c,h1,_⟩,_⟩:=hH j B hB
  obtain ⟨e1,c',T',e2,e3⟩:=hS'.pin j _ _ (hpin j B c hB h1) (by simp [hsb])
  refine ⟨e1,hsb,fun c2 T2 hc2=>⟨c',T',e2,?_⟩⟩
  rw [h1] at hc2
  injection hc2 with hc2
  injection hc2 with hc2
  rw [e3,hc2]
 have hcar:Carry (okI F S'.blk ρ') (fun b=>(ok b∨w.heap.size≤b)∧∀ j,H'.lookup j≠none→b≠ρ j) (hp w') (hp w'):=fun b hb _=>⟨⟨hb.1,fun j hj e=>by
  cases hj':H'.lookup j with
  | none=>exact hj hj'
  | some B' =>
   obtain ⟨e1,e2,_⟩:=hpin' j B' hj'
   exact hb.2 j (by simp [e2]) (by rw [e1]; exact e)⟩,rfl⟩
 have hfin : ∃ v0, Ending.returned v = .returned v0 ∧ Rel (fun b => (ok b ∨ w.heap.size ≤ b) ∧ ∀ j, H'.lookup j ≠ none → b ≠ ρ j) (hp w') (w0k xs) v0 ∧
   (∀ j B',H'.lookup j=some B'→j0h (lk H') ρ (fun b=>(ok b∨w.heap.size≤b)∧∀ j,H'.lookup j≠none→b≠ρ j) (hp w') j B' ∧
    ∀ c T,hp w (ρ j)=some (.cells c T (0,0))→∃ c' T',hp w' (ρ j)=some (.cells c' T' (0,0))∧c'.size=c.size) ∧
   w'.os=w.os∧w'.tape=w.tape∧w'.output=w.output∧w.heap.size≤w'.heap.size∧∀ b,b<w.heap.size→(∀ j,H.lookup j≠none→b≠ρ j)→w'.heap[b]? = w.heap[b]?:=by
  refine ⟨v,rfl,Rel.mono hcar _ _ hrv,fun j B' hj=>?_,hS'.frame.os,hS'.frame.tape,hS'.frame.output,hS'.frame.size,fun b hb hx=>hS'.frame.block b hb (fun ⟨j,hj,e⟩=>hx j hj e)⟩
  obtain ⟨e1,e2,e3⟩:=hpin' j B' hj
  obtain ⟨c',f1,_,f3,f4⟩:=hS'.blks j B' e2
  refine ⟨⟨c',by rw [← e1]; exact f1,f3,fun i x hx=>?_⟩,e3⟩
  obtain ⟨u,hu,ho,hru⟩:=f4 i x hx
  refine ⟨u,hu,ho,K2.mono (K:=fun _=>True) hcar (fun k _ B hB=>?_) x u (fun _ _=>trivial) hru⟩
  obtain ⟨g1,g2,_⟩:=hpin' k B hB
  exact ⟨B,g2,rfl,Nat.le_refl _,fun _=>⟨g1.symm,fun c T fr hc=>⟨c,T,fr,hc,rfl⟩⟩⟩
 exact ⟨v,hv,hfin⟩
def Y9:List Nat→Bool
 | []=>true
 | x :: xs=>!xs.contains x && Y9 xs
theorem g0q {κ:Nat→Nat}:∀ {H:List (Nat×Blk)},Y9 (H.map fun p=>κ p.1)=true→∀ j j',H.lookup j≠none→H.lookup j'≠none→κ j=κ j'→j=j'
 | [],_,j,j',h,_,_=>by simp at h
 | (k,B) :: H,hn,j,j',h,h',e=>by
  simp only [R0,Y9,j0,Bool.not_eq_true'] at hn
  obtain ⟨h1,h2⟩:=hn
  have hmem:∀ i,H.lookup i≠none→κ i∈H.map fun p=>κ p.1:=fun i hi=>by
   have:∀ l:List (Nat×Blk),l.lookup i≠none→κ i∈l.map fun p=>κ p.1:=by
    intro l
    induction l with
    | nil=>simp
    | cons p l ih =>
     obtain ⟨s,u⟩:=p
     intro h
     rw [i0] at h
     by_cases e:i=s
     ·simp [e]
     ·rw [show (i == s)=false by simpa using e] at h
      simp only [R0,List.mem_cons]
      exact .inr (ih h)
   exact this H hi
  rw [i0] at h h'
  by_cases e1:j=k <;> by_cases e2:j'=k
  ·rw [e1,e2]
  ·rw [show (j' == k)=false by simpa using e2] at h'
   exact absurd (hmem j' h') (by rw [← e,e1]; simpa using h1)
  ·rw [show (j == k)=false by simpa using e1] at h
   exact absurd (hmem j h) (by rw [e,e2]; simpa using h1)
  ·rw [show (j == k)=false by simpa using e1] at h
   rw [show (j' == k)=false by simpa using e2] at h'
   exact g0q h2 j j' h h' e
theorem T9 {κ:Nat→Nat}:∀ {H:List (Nat×Blk)} {j:Nat} {B:Blk},(H.map fun p=>(κ p.1,p.2)).lookup j=some B→∃ i,κ i=j∧(i,B)∈H
 | [],j,B,h=>by simp at h
 | (k,C) :: H,j,B,h=>by
  simp only [R0,i0] at h
  split at h
  ·rename_i e
   injection h with h
   subst h
   exact ⟨k,by simpa using (beq_iff_eq.1 e).symm,by simp⟩
  ·obtain ⟨i,h1,h2⟩:=T9 h
   exact ⟨i,h1,by simp [h2]⟩
theorem d0s:∀ {H:List (Nat×Blk)},Y9 (H.map (·.1))=true→∀ {j:Nat} {B:Blk},(j,B)∈H→H.lookup j=some B
 | [],_,j,B,h=>by cases h
 | (k,C) :: H,hn,j,B,h=>by
  simp only [R0,Y9,j0,Bool.not_eq_true'] at hn
  rw [i0]
  rcases List.mem_cons.1 h with h0 | h0
  ·injection h0 with h1 h2; subst h1 h2; simp
  ·have : j ≠ k := fun e => by
    subst e
    have h3:j∈H.map (·.1):=G0.2 ⟨(j,B),h0,rfl⟩
    have h4:=hn.1
    simp only [List.contains_eq_mem,decide_eq_false_iff_not] at h4
    exact h4 h3
   rw [show (j == k)=false by simpa using this]
   exact d0s hn.2 h0
theorem d0z (κ:Nat→Nat):∀ xs:List PV,PV.renL κ xs=xs.map (PV.ren κ)
 | []=>rfl
 | x :: xs=>by simp [PV.renL,d0z κ xs]
theorem m1j {E:Env}{F:Fr}(hG:E.G F.w0)(hX:∀ b,F.X b→E.ng≤b){d:Nat}{f:FuncId}{o:Oper}{rs:List (Operand×PV)}{xs:List PV}{H H':List (Nat×Blk)}{r:J2}(ks:List Nat)(hng:E.ng≤F.w0.heap.size)(hs:w0g E f xs H H' r)(hd:o.dst=some d)
  (hargs:∀ ρ S a w,b5 F ρ S a w→(∀ p∈rs,S.opd p.1=some p.2)→∃ vals:List Value,(execOp a.eval o).run E.P w = .ok (.enter f vals.toArray) w∧D3 S.blk ρ (okI F S.blk ρ) (hp w) (xs.map (PV.ren fun j=>ks.getD (j - 1000) 0)) vals)
  (hn:Y9 (H.map fun p=>ks.getD (p.1 - 1000) 0)=true) (hn2:Y9 (H'.map (·.1))=true) (hn3:Y9 (H.map (·.1))=true) (hk:H'.map (·.1)=H.map (·.1)) (hsame:∀ j B B',H.lookup j=some B→H'.lookup j=some B'→B'.T=B.T∧B'.sz=B.sz∧B'.cs.len=B.cs.len) (hdata0:H.all (fun p=>p.2.cs.data)=true) (hdata:H'.all (fun p=>p.2.cs.data)=true) (hlt:d<F.nt) :
  O2 E.P F o ⟨rs,H.map (fun p=>(ks.getD (p.1 - 1000) 0,p.2)),none,[(d,.p r)],H'.map (fun p=>(ks.getD (p.1 - 1000) 0,p.2))⟩:=by
 intro S a w ⟨ρ,h⟩ hA Q K hK
 let κ:Nat→Nat:=fun j=>ks.getD (j - 1000) 0
 obtain ⟨vals,hrun,hvals⟩:=hargs ρ S a w h hA.rs
 unfold Oper.wp
 rw [hrun]
 simp only [Oper.upon]
 have hne:∀ k,S.blk k≠none→ρ k<w.heap.size:=fun k hk=>by
  cases hB:S.blk k with
  | none=>exact absurd hB hk
  | some B=>obtain ⟨c,e1,_⟩:=h.blks k B hB; exact World.size_lt e1
 have hmemH:∀ j B,H.lookup j=some B→(j,B)∈H:=fun j B hj=>by
  have:∀ l:List (Nat×Blk),l.lookup j=some B→(j,B)∈l:=by
   intro l
   induction l with
   | nil=>simp
   | cons p l ih =>
    obtain ⟨s,u⟩:=p
    intro h
    rw [i0] at h
    split at h
    ·rename_i e; injection h with h; subst h; simp [beq_iff_eq.1 e]
    ·simp [ih h]
  exact this H hj
 have hSH:∀ j B,H.lookup j=some B→S.blk (κ j)=some B:=fun j B hj=>hA.rb (κ j,B) (G0.2 ⟨(j,B),hmemH j B hj,rfl⟩)
 have hrel:D3 (lk H) (fun j=>ρ (κ j)) (okI F S.blk ρ) (hp w) xs vals:=b0c (κ:=κ) hSH xs _ (by rw [d0z]; exact hvals)
 have hGw:E.G w:=E.stab F.w0 w hG fun b hb=>h.frame.block b (by omega) (fun hx=>by have:=hX b hx; omega)
 have hpre:∀ j B,H.lookup j=some B→j0h (lk H) (fun j=>ρ (κ j)) (okI F S.blk ρ) (hp w) j B∧E.ng≤ρ (κ j)∧¬ okI F S.blk ρ (ρ (κ j)):=fun j B hj=>by
  have hB:=hSH j B hj
  obtain ⟨c,e1,e2,e3,e4⟩:=h.blks (κ j) B hB
  refine ⟨⟨c,e1,e3,fun i x hx=>?_⟩,?_,fun hok=>hok.2 (κ j) (by simp [hB]) rfl⟩
  ·rw [s0] at hdata0
   obtain ⟨y,rfl⟩:=Cells.data_get (hdata0 _ (hmemH j B hj)) hx
   obtain ⟨u,hu,ho,hru⟩:=e4 i _ hx
   exact ⟨u,hu,ho,by simpa only [K2] using hru⟩
  ·rcases e2 with e2 | e2
   ·exact hX _ e2.1
   ·omega
 refine Calls.mono (hs (okI F S.blk ρ) (fun j=>ρ (κ j)) w _ hGw hpre (fun j j' hj hj' e=>?_) hrel) fun e w' ⟨vr,he,hrv,hHB,ho,ht,hou,hsz,hfr⟩=>?_
 ·have : ∀ i, H.lookup i ≠ none → S.blk (κ i) ≠ none := fun i hi => by
   cases hB:H.lookup i with
   | none=>exact absurd hB hi
   | some B=>rw [hSH i B hB]; simp
  exact g0q (κ:=κ) hn j j' hj hj' (h.inj _ _ (this j hj) (this j' hj') e)
 subst he
 let S':St:=⟨(d,.p r) :: S.sl,H'.map (fun p=>(κ p.1,p.2))++S.hb⟩
 have happ:S.app ⟨rs,H.map (fun p=>(ks.getD (p.1 - 1000) 0,p.2)),none,[(d,.p r)],H'.map (fun p=>(ks.getD (p.1 - 1000) 0,p.2))⟩=S':=rfl
 have hmemH':∀ j B,(j,B)∈H'→H'.lookup j=some B:=fun j B hj=>d0s hn2 hj
 have hkeys:∀ j,H'.lookup j≠none↔H.lookup j≠none:=fun j=>by
  have:∀ l:List (Nat×Blk),l.lookup j≠none↔j∈l.map (·.1):=by
   intro l
   induction l with
   | nil=>simp
   | cons p l ih =>
    obtain ⟨s,u⟩:=p
    rw [i0]
    by_cases e:j=s
    ·simp [e]
    ·rw [show (j == s)=false by simpa using e]
     simp only [R0,List.mem_cons,e,false_or]
     exact ih
  rw [this,this,hk]
 have hsome:∀ {l:List (Nat×Blk)} {j},l.lookup j≠none→∃ B,l.lookup j=some B:=fun {l j} hj=>by
  cases e:l.lookup j with
  | none=>exact absurd e hj
  | some B=>exact ⟨B,rfl⟩
 have hS'blk:∀ k B,S'.blk k=some B→(∃ j,κ j=k∧H'.lookup j=some B)∨(S.blk k=some B∧∀ j,H'.lookup j≠none→κ j≠k):=fun k B hB=>by
  simp only [S',St.blk,T1] at hB
  cases hl:(H'.map fun p=>(κ p.1,p.2)).lookup k with
  | some C =>
   rw [hl,K0] at hB
   injection hB with hB
   subst hB
   obtain ⟨j,h1,h2⟩:=T9 hl
   exact .inl ⟨j,h1,hmemH' j _ h2⟩
  | none =>
   rw [hl,l0] at hB
   refine .inr ⟨hB,fun j hj e=>?_⟩
   obtain ⟨C,hC⟩:=hsome hj
   have hmem:(j,C)∈H':=by
    have:∀ l:List (Nat×Blk),l.lookup j=some C→(j,C)∈l:=by
     intro l
     induction l with
     | nil=>simp
     | cons p l ih =>
      obtain ⟨s,u⟩:=p
      intro h
      rw [i0] at h
      split at h
      ·rename_i e; injection h with h; subst h; simp [beq_iff_eq.1 e]
      ·simp [ih h]
    exact this H' hC
   have:(H'.map fun p=>(κ p.1,p.2)).lookup k≠none:=by
    have gen:∀ l:List (Nat×Blk),(j,C)∈l→(l.map fun p=>(κ p.1,p.2)).lookup k≠none:=by
     intro l
     induction l with
     | nil=>simp
     | cons p l ih =>
      intro hm
      simp only [R0,i0]
      split
      ·simp
      ·rename_i e'
       rcases List.mem_cons.1 hm with hm | hm
       ·subst hm; simp [e] at e'
       ·exact ih hm
    exact gen H' hmem
   exact this hl
 have hown:∀ k,S'.blk k≠none→S.blk k≠none:=fun k hk'=>by
  obtain ⟨B,hB⟩:∃ B,S'.blk k=some B:=by cases e:S'.blk k with
   | none=>exact absurd e hk'
   | some B=>exact ⟨B,rfl⟩
  rcases hS'blk k B hB with ⟨j,rfl,hj⟩ | ⟨hB',_⟩
  ·obtain ⟨C,hC⟩:=hsome ((hkeys j).1 (by simp [hj]))
   rw [hSH j C hC]; simp
  ·simp [hB']
 have hsizes:∀ j,H'.lookup j≠none→∀ c T,hp w (ρ (κ j))=some (.cells c T (0,0))→∃ c' T',hp w' (ρ (κ j))=some (.cells c' T' (0,0))∧c'.size=c.size:=fun j hj=>by
  obtain ⟨B',hB'⟩:=hsome hj
  exact (hHB j B' hB').2
 have hother:∀ k B,S.blk k=some B→(∀ j,H'.lookup j≠none→κ j≠k)→hp w' (ρ k)=hp w (ρ k):=fun k B hB hno=>by
  refine hfr (ρ k) (hne k (by simp [hB])) fun j hj e=>?_
  obtain ⟨C,hC⟩:=hsome hj
  exact hno j ((hkeys j).2 hj) (h.inj _ _ (by rw [hSH j C hC]; simp) (by simp [hB]) e.symm)
 have hcar:Carry (okI F S.blk ρ) (okI F S'.blk ρ) (hp w) (hp w'):=fun b hb hne'=>by
  refine ⟨⟨hb.1,fun k hk'=>hb.2 k (hown k hk')⟩,?_⟩
  have hbs:b<w.heap.size:=by
   cases e:hp w b with
   | none=>exact absurd e hne'
   | some o=>exact World.size_lt e
  exact hfr b hbs fun j hj e=>by
   obtain ⟨C,hC⟩:=hsome hj
   exact hb.2 (κ j) (by rw [hSH j C hC]; simp) e
 have hcar2:Carry (fun b=>(okI F S.blk ρ b∨w.heap.size≤b)∧∀ j,H'.lookup j≠none→b≠ρ (κ j)) (okI F S'.blk ρ) (hp w') (hp w'):=fun b hb _=>by
  refine ⟨?_,rfl⟩
  rcases hb.1 with hb1 | hb1
  ·exact ⟨hb1.1,fun k hk'=>hb1.2 k (hown k hk')⟩
  ·exact ⟨.inr (Nat.le_trans h.frame.size hb1),fun k hk'=>by have:=hne k (hown k hk'); omega⟩
 show K (a.put o.dst vr) w'
 refine hK _ _ ?_
 rw [happ]
 refine ⟨ρ,h.upd (S':=S') (Kp:=fun _=>True) ⟨ho.trans h.frame.os,ht.trans h.frame.tape,hou.trans h.frame.output,Nat.le_trans h.frame.size hsz,fun b hb hx=>?_⟩ (by simp [hd,Act.put,h.nt]) (by simp [hd,Act.put]) hcar (fun k _ B' hB'=>?_)
  (fun k k' h1 h2 e=>h.inj k k' (hown k h1) (hown k' h2) e) (fun j b n hj hS=>⟨hown j hS,rfl,fun c T hc=>?_⟩) (fun t v ht=>?_) (fun k B' hB'=>?_)⟩
 ·rw [hfr b (Nat.lt_of_lt_of_le hb h.frame.size) fun j hj e=>?_]
  ·exact h.frame.block b hb hx
  ·obtain ⟨C,hC⟩:=hsome hj
   obtain ⟨_,_,e2,_⟩:=h.blks (κ j) C (hSH j C hC)
   subst e
   rcases e2 with e2 | e2
   ·exact hx e2.1
   ·omega
 ·rcases hS'blk k B' hB' with ⟨j,rfl,hj⟩ | ⟨hB,hno⟩
  ·obtain ⟨C,hC⟩:=hsome ((hkeys j).1 (by simp [hj]))
   obtain ⟨t1,t2,t3⟩:=hsame j C B' hC hj
   refine ⟨C,hSH j C hC,t2,by omega,fun _=>⟨rfl,fun c T fr hc=>?_⟩⟩
   obtain ⟨c0,e1,_⟩:=h.blks (κ j) C (hSH j C hC)
   have hc':=hc
   rw [e1] at hc'
   injection hc' with hc'
   injection hc' with h1 h2 h3
   subst h1
   obtain ⟨c',T',g1,g2⟩:=hsizes j (by simp [hj]) _ _ e1
   exact ⟨c',T',(0,0),g1,g2⟩
  ·exact ⟨B',hB,rfl,Nat.le_refl _,fun _=>⟨rfl,fun c T fr hc=>⟨c,T,fr,by rw [hother k B' hB hno]; exact hc,rfl⟩⟩⟩
 ·obtain ⟨B', hB'⟩ : ∃ B, S'.blk j = some B := by cases e : S'.blk j with
   | none=>exact absurd e hS
   | some B=>exact ⟨B,rfl⟩
  rcases hS'blk j B' hB' with ⟨i,rfl,hi⟩ | ⟨hB,hno⟩
  ·exact hsizes i (by simp [hi]) c T hc
  ·exact ⟨c,T,by rw [hother j B' hB hno]; exact hc,rfl⟩
 ·rw [hd,b0w (by rw [h.nt]; exact hlt)]
  simp only [S',St.slot,i0] at ht
  by_cases ed:t=d
  ·subst ed
   simp only [BEq.rfl,U0] at ht
   subst ht
   exact .inr ⟨vr,by simp,by simp only [K2]; exact Rel.mono hcar2 _ _ hrv⟩
  ·rw [show (t == d)=false by simpa using ed] at ht
   exact .inl ⟨ht,by rw [if_neg ed],fun _ _=>trivial⟩
 ·rcases hS'blk k B' hB' with ⟨j,rfl,hj⟩ | ⟨hB,hno⟩
  ·obtain ⟨⟨c,f1,f2,f3⟩,_⟩:=hHB j B' hj
   obtain ⟨C,hC⟩:=hsome ((hkeys j).1 (by simp [hj]))
   obtain ⟨_,_,e2,_⟩:=h.blks (κ j) C (hSH j C hC)
   refine .inr ⟨c,f1,e2,f2,fun i x hx=>?_⟩
   obtain ⟨u,hu,ho',hru⟩:=f3 i x hx
   rw [s0] at hdata
   have hmem:(j,B')∈H':=by
    have:∀ l:List (Nat×Blk),l.lookup j=some B'→(j,B')∈l:=by
     intro l
     induction l with
     | nil=>simp
     | cons p l ih =>
      obtain ⟨s,u⟩:=p
      intro h
      rw [i0] at h
      split at h
      ·rename_i e; injection h with h; subst h; simp [beq_iff_eq.1 e]
      ·simp [ih h]
    exact this H' hj
   obtain ⟨y,rfl⟩:=Cells.data_get (hdata _ hmem) hx
   exact ⟨u,hu,ho',by simp only [K2] at hru ⊢; exact Rel.mono hcar2 _ _ hru⟩
  ·exact .inl ⟨hB,rfl,hother k B' hB hno,fun _ _ _ _ _=>trivial⟩
theorem V0f {F:Fr}{ρ:Nat→Nat}{S:St}{a:Act}{w:World}(h:b5 F ρ S a w){os:List Operand}{xs:List PV}(hlen:os.length=xs.length)(hr:∀ p∈os.zip xs,S.opd p.1=some p.2):D3 S.blk ρ (okI F S.blk ρ) (hp w) xs (os.map a.eval) :=
 f0a (by simp [hlen]) fun i x hx=>by
  have hlt':i<os.length:=by rw [hlen]; exact (i1.1 hx).1
  have hm:(os[i],x)∈os.zip xs:=by
   rw [List.mem_iff_getElem?]
   exact ⟨i,by rw [List.getElem?_zip_eq_some]; exact ⟨by simp [hlt'],hx⟩⟩
  exact ⟨a.eval os[i],by simp [hlt'],Z4 h (hr _ hm)⟩
theorem g0w {β:Nat→Option Blk}{ρ:Nat→Nat}{ok:Nat→Prop}{H:Nat→Option Obj}:∀ {xs ys:List PV} {us vs:List Value},D3 β ρ ok H xs us→D3 β ρ ok H ys vs→D3 β ρ ok H (xs++ys) (us++vs)
 | [],_,us,vs,h,h2=>by simp only [D3] at h; subst h; exact h2
 | x :: xs,ys,us,vs,h,h2=>by
  simp only [D3,L1] at h ⊢
  obtain ⟨v,r,rfl,h3,h4⟩:=h
  exact ⟨v,r++vs,rfl,h3,g0w h4 h2⟩
theorem C4 {E:Env}{F:Fr}{d:Nat}{f:FuncId}{os:List Operand}{xs ys:List PV}{ts:Array TypeId}{T:TypeId}{pos:String}{aft:Array Edge}{g:Option (Nat×Bool)}(hcall:∀ args w,(callFunc f args).run E.P w = .ok (.enter f args) w)(hlen:os.length=ys.length)(he:ys=xs) :
  ∀ ρ S a w,b5 F ρ S a w→(∀ p∈os.zip ys,S.opd p.1=some p.2)→∃ vals:List Value,(execOp a.eval ⟨some d,.call ⟨.value (.func f),os.toArray,ts⟩,T,pos,aft,g⟩).run E.P w = .ok (.enter f vals.toArray) w∧D3 S.blk ρ (okI F S.blk ρ) (hp w) xs vals:=by
 intro ρ S a w h hr
 subst he
 exact ⟨os.map a.eval,by simp [execOp,resolve,Act.eval,Deferred.ofValue,invoke,hcall],V0f h hlen hr⟩
theorem l7 {E:Env}{F:Fr}{d:Nat}{f:FuncId}{c:Operand}{os:List Operand}{xs ys fst cap:List PV}{ts:Array TypeId}{T:TypeId}{pos:String}{aft:Array Edge}{g:Option (Nat×Bool)}(hcall:∀ args w,(callFunc f args).run E.P w = .ok (.enter f args) w)(hlen:os.length=ys.length)(he:fst++ys++cap=xs) :
  ∀ ρ S a w,b5 F ρ S a w→(∀ p∈(c,PV.clo (.func f) fst cap) :: os.zip ys,S.opd p.1=some p.2)→∃ vals:List Value,(execOp a.eval ⟨some d,.call ⟨.value c,os.toArray,ts⟩,T,pos,aft,g⟩).run E.P w = .ok (.enter f vals.toArray) w∧D3 S.blk ρ (okI F S.blk ρ) (hp w) xs vals:=by
 intro ρ S a w h hr
 subst he
 have hc:=Z4 h (hr (c,PV.clo (.func f) fst cap) (by simp))
 simp only [K2] at hc
 obtain ⟨fs,cs,h1,h2,h3⟩:=hc
 have hv:=V0f h hlen fun p hp=>hr p (by simp [hp])
 exact ⟨fs++os.map a.eval++cs,by simp [execOp,resolve,h1,Deferred.ofValue,invoke,hcall],g0w (g0w h2 hv) h3⟩
end Go.Proofs.YtjagfionflbjbaaGreat.SH
namespace Go.Proofs.YtjagfionflbjbaaGreat.SH
open Go Go.RowKit
mutual
inductive Pc:J2→J2→Prop
 | same {x:J2}:Pc x x
 | nil {c:Nat}:Pc (.a (.slice none 0 c)) (.sl 0 [])
 | agg {xs ys:List J2}:PcL xs ys→Pc (.agg xs) (.agg ys)
 | tup {xs ys:List J2}:PcL xs ys→Pc (.tup xs) (.tup ys)
 | sl {n:Nat} {xs ys:List J2}:PcL xs ys→Pc (.sl n xs) (.sl n ys)
inductive PcL:List J2→List J2→Prop
 | nil:PcL [] []
 | cons {x y:J2} {xs ys:List J2}:Pc x y→PcL xs ys→PcL (x :: xs) (y :: ys)
end
mutual
theorem Pc.rel {ok:Nat→Prop}{H:Nat→Option Obj}:∀ {x y:J2},Pc x y→∀ {v:Value},Rel ok H x v→Rel ok H y v
 | _,_,.same,_,h=>h
 | _,_,.nil,v,h=>by
  simp only [Rel] at h ⊢
  exact ⟨none,_,h,Nat.zero_le _,by simp [I7]⟩
 | _,_,.agg hl,v,h=>by
  simp only [Rel] at h ⊢
  obtain ⟨cs,h1,h2,h3⟩:=h
  exact ⟨cs,h1,hl.relL h2,h3⟩
 | _,_,.tup hl,v,h=>by
  simp only [Rel] at h ⊢
  obtain ⟨cs,h1,h2⟩:=h
  exact ⟨cs,h1,hl.relL h2⟩
 | _,_,.sl hl,v,h=>by
  simp only [Rel] at h ⊢
  obtain ⟨ad,cap,h1,h2,h3⟩:=h
  exact ⟨ad,cap,h1,h2,hl.relS h3⟩
theorem PcL.relL {ok:Nat→Prop}{H:Nat→Option Obj}:∀ {xs ys:List J2},PcL xs ys→∀ {vs:List Value},K5 ok H xs vs→K5 ok H ys vs
 | _,_,.nil,_,h=>h
 | _,_,.cons hx hl,vs,h=>by
  simp only [K5] at h ⊢
  obtain ⟨v,r,h1,h2,h3⟩:=h
  exact ⟨v,r,h1,hx.rel h2,hl.relL h3⟩
theorem PcL.relAt {ok:Nat→Prop}{H:Nat→Option Obj}:∀ {xs ys:List J2},PcL xs ys→∀ {b o:Nat},Y4 ok H xs b o→Y4 ok H ys b o
 | _,_,.nil,_,_,h=>h
 | _,_,.cons hx hl,b,o,h=>by
  simp only [Y4] at h ⊢
  obtain ⟨⟨v,h1,h2,h3⟩,h4⟩:=h
  exact ⟨⟨v,h1,h2,hx.rel h3⟩,hl.relAt h4⟩
theorem PcL.relS {ok:Nat→Prop}{H:Nat→Option Obj}:∀ {xs ys:List J2},PcL xs ys→∀ {ad:Option Addr},I7 ok H xs ad→I7 ok H ys ad
 | _,_,.nil,_,h=>h
 | _,_,.cons hx hl,ad,h=>by
  simp only [I7] at h ⊢
  obtain ⟨b,o,h1,h2,⟨v,h3,h4,h5⟩,h6⟩:=h
  exact ⟨b,o,h1,h2,⟨v,h3,h4,hx.rel h5⟩,hl.relAt h6⟩
end
mutual
inductive Cv (β:Nat→Option Blk) (z:List Nat):PV→PV→Prop
 | same {x:PV}:Cv β z x x
 | p {x y:J2}:Pc x y→Cv β z (.p x) (.p y)
 | agg {xs:List PV} {ys:List J2}:CvP β z xs ys→Cv β z (.agg xs) (.p (.agg ys))
 | tup {xs:List PV} {ys:List J2}:CvP β z xs ys→Cv β z (.tup xs) (.p (.tup ys))
 | ifc {t:TypeId} {x:PV} {y:J2}:Cv β z x (.p y)→Cv β z (.ifc t x) (.p (.ifc t y))
 | ref {k n tot sz:Nat} {T:TypeId} {xs:List J2}:z.contains k=true→β k=some ⟨T,sz,.pure xs⟩→xs.length=tot→n*sz=tot→Cv β z (.ref k 0 n tot) (.p (.sl n xs))
 | refo {k off n tot sz:Nat} {T:TypeId} {xs ys:List J2}:z.contains k=true→β k=some ⟨T,sz,.pure xs⟩→xs.length=tot→(xs.drop off).take (n*sz)=ys→Cv β z (.ref k off n tot) (.p (.sl n ys))
 | refm {k n tot sz:Nat} {T:TypeId} {xs:List PV} {ys:List J2}:z.contains k=true→β k=some ⟨T,sz,.mix xs⟩→xs.length=tot→n*sz=tot→CvP β z xs ys→Cv β z (.ref k 0 n tot) (.p (.sl n ys))
inductive CvP (β:Nat→Option Blk) (z:List Nat):List PV→List J2→Prop
 | nil:CvP β z [] []
 | cons {x:PV} {y:J2} {xs:List PV} {ys:List J2}:Cv β z x (.p y)→CvP β z xs ys→CvP β z (x :: xs) (y :: ys)
end
inductive CvL (β:Nat→Option Blk) (z:List Nat):List PV→List PV→Prop
 | nil:CvL β z [] []
 | cons {x y:PV} {xs ys:List PV}:Cv β z x y→CvL β z xs ys→CvL β z (x :: xs) (y :: ys)
inductive CvB (β:Nat→Option Blk) (z:List Nat):Blk→Blk→Prop
 | same {B:Blk}:CvB β z B B
 | mix {T:TypeId} {sz:Nat} {xs ys:List PV}:CvL β z xs ys→CvB β z ⟨T,sz,.mix xs⟩ ⟨T,sz,.mix ys⟩
 | pure {T:TypeId} {sz:Nat} {xs:List PV} {ys:List J2}:CvP β z xs ys→CvB β z ⟨T,sz,.mix xs⟩ ⟨T,sz,.pure ys⟩
 | cells {T:TypeId} {sz:Nat} {xs ys:List J2}:PcL xs ys→CvB β z ⟨T,sz,.pure xs⟩ ⟨T,sz,.pure ys⟩
 | eq {T:TypeId} {sz:Nat} {xs ys:List J2}:xs=ys→CvB β z ⟨T,sz,.pure xs⟩ ⟨T,sz,.pure ys⟩
theorem CvP.get {β:Nat→Option Blk}{z:List Nat}:∀ {xs:List PV} {ys:List J2},CvP β z xs ys→xs.length=ys.length∧∀ {i:Nat} {y:J2},ys[i]? = some y→∃ x,xs[i]? = some x∧Cv β z x (.p y)
 | _,_,.nil=>⟨rfl,fun h=>by simp at h⟩
 | _,_,.cons hx hl=>⟨by simp [hl.get.1],fun {i y} h=>by
  cases i with
  | zero =>
    obtain rfl : _ = y := by simpa using h
    exact ⟨_,rfl,hx⟩
  | succ i=>simpa using hl.get.2 (i:=i) (y:=y) (by simpa using h)⟩
theorem CvL.get {β:Nat→Option Blk}{z:List Nat}{xs ys:List PV}(h:CvL β z xs ys):xs.length=ys.length∧∀ {i:Nat} {y:PV},ys[i]? = some y→∃ x,xs[i]? = some x∧Cv β z x y:=by
 induction h with
 | nil=>exact ⟨rfl,fun h=>by simp at h⟩
 | cons hx _ ih => exact ⟨by simp [ih.1], fun {i y} h => by
   cases i with
   | zero =>
     obtain rfl : _ = y := by simpa using h
     exact ⟨_,rfl,hx⟩
   | succ i=>simpa using ih.2 (i:=i) (y:=y) (by simpa using h)⟩
theorem PcL.get:∀ {xs ys:List J2},PcL xs ys→xs.length=ys.length∧∀ {i:Nat} {y:J2},ys[i]? = some y→∃ x,xs[i]? = some x∧Pc x y
 | _,_,.nil=>⟨rfl,fun h=>by simp at h⟩
 | _,_,.cons hx hl=>⟨by simp [hl.get.1],fun {i y} h=>by
  cases i with
  | zero =>
    obtain rfl : _ = y := by simpa using h
    exact ⟨_,rfl,hx⟩
  | succ i=>simpa using hl.get.2 (i:=i) (y:=y) (by simpa using h)⟩
theorem CvB.spec {β:Nat→Option Blk}{z:List Nat}{B B':Blk}(h:CvB β z B B'):B'.T=B.T∧B'.sz=B.sz∧B'.cs.len=B.cs.len∧∀ i y,B'.cs.get i=some y→∃ x,B.cs.get i=some x∧Cv β z x y:=by
 cases h with
 | same=>exact ⟨rfl,rfl,rfl,fun i y h=>⟨y,h,.same⟩⟩
 | mix h=>exact ⟨rfl,rfl,h.get.1.symm,fun i y hy=>h.get.2 hy⟩
 | pure h => exact ⟨rfl, rfl, h.get.1.symm, fun i y hy => by
   simp only [Cells.get,M0] at hy
   obtain ⟨u,hu,rfl⟩:=hy
   exact h.get.2 hu⟩
 | cells h => exact ⟨rfl, rfl, h.get.1.symm, fun i y hy => by
   simp only [Cells.get,M0] at hy ⊢
   obtain ⟨u,hu,rfl⟩:=hy
   obtain ⟨x,h1,h2⟩:=h.get.2 hu
   exact ⟨_,⟨x,h1,rfl⟩,.p h2⟩⟩
 | eq h=>subst h; exact ⟨rfl,rfl,rfl,fun i y h=>⟨y,h,.same⟩⟩
section
variable {F:Fr} {ρ:Nat→Nat} {S:St} {a:Act} {w:World} {z:List Nat} {β':Nat→Option Blk} {ok':Nat→Prop}
theorem M0h (h:b5 F ρ S a w)(hz:∀ k,z.contains k=true→S.blk k≠none→ok' (ρ k)){k off n tot:Nat}{B:Blk}{v:Value}{ys:List J2}(hk:z.contains k=true)(hB:S.blk k=some B)(hl:B.cs.len=tot)
  (hv:K2 S.blk ρ (okI F S.blk ρ) (hp w) (.ref k off n tot) v) (hg:∀ c,hp w (ρ k)=some (.cells c B.T (0,0))→∀ i y,ys[i]? = some y→∃ u,c[off+i]? = some u∧u.oneCell'=true∧Rel ok' (hp w) y u):Rel ok' (hp w) (.sl n ys) v:=by
 simp only [K2] at hv
 obtain ⟨_,h2⟩:=hv.2 B hB
 obtain ⟨cap,c,T,fr,h3,h4,h5,h6⟩:=h2 hl
 obtain ⟨c',e1,_⟩:=h.blks k B hB
 simp only [Rel]
 refine ⟨_,cap,h3,h4,I7.of (hz k hk (by simp [hB])) (Y4.of fun i y hy=>?_)⟩
 obtain ⟨u,hu,h1,hr⟩:=hg c' e1 i y hy
 exact ⟨u,by rw [M7 e1]; exact hu,h1,hr⟩
mutual
theorem Cv.rel (h:b5 F ρ S a w)(hz:∀ k,z.contains k=true→S.blk k≠none→ok' (ρ k))(hc:Carry (okI F S.blk ρ) ok' (hp w) (hp w))(hkp:b0q (fun _=>True) S.blk β' ρ ρ (hp w) (hp w)) :
  ∀ {x y:PV},Cv S.blk z x y→∀ {v:Value},K2 S.blk ρ (okI F S.blk ρ) (hp w) x v→K2 β' ρ ok' (hp w) y v
 | _,_,.same,v,hv=>K2.mono hc hkp _ v (fun _ _=>trivial) hv
 | _,_,.p hp',v,hv=>by
  simp only [K2] at hv ⊢
  exact Rel.mono hc _ _ (hp'.rel hv)
 | _,_,.agg hl,v,hv=>by
  simp only [K2,Rel] at hv ⊢
  obtain ⟨cs,h1,h2,h3⟩:=hv
  exact ⟨cs,h1,hl.relL h hz hc hkp h2,h3⟩
 | _,_,.tup hl,v,hv=>by
  simp only [K2,Rel] at hv ⊢
  obtain ⟨cs,h1,h2⟩:=hv
  exact ⟨cs,h1,hl.relL h hz hc hkp h2⟩
 | _,_,.ifc hx,v,hv=>by
  simp only [K2,Rel] at hv ⊢
  obtain ⟨y,h1,h2⟩:=hv
  have:=hx.rel h hz hc hkp h2
  simp only [K2] at this
  exact ⟨y,h1,this⟩
 | _,_,.ref (k:=k) (xs:=xs) hk hB hl hn,v,hv=>by
  simp only [K2] at hv ⊢
  refine M0h (a:=a) h hz hk hB (by simpa [Cells.len] using hl) (by simpa only [K2] using hv) fun c hcc i y hy=>?_
  obtain ⟨c',e1,_,e3,e4⟩:=h.blks k _ hB
  rw [hcc] at e1; injection e1 with e1; injection e1 with e1; subst e1
  obtain ⟨u,hu,h1,hr⟩:=e4 i (.p y) (by simp [Cells.get,hy])
  simp only [K2] at hr
  exact ⟨u,by simpa using hu,h1,Rel.mono hc _ _ hr⟩
 | _,_,.refo (k:=k) (off:=off) (xs:=xs) hk hB hl hn,v,hv=>by
  simp only [K2] at hv ⊢
  refine M0h (a:=a) h hz hk hB (by simpa [Cells.len] using hl) (by simpa only [K2] using hv) fun c hcc i y hy=>?_
  obtain ⟨c',e1,_,e3,e4⟩:=h.blks k _ hB
  rw [hcc] at e1; injection e1 with e1; injection e1 with e1; subst e1
  rw [← hn,List.getElem?_take] at hy
  split at hy
  ·rw [List.getElem?_drop] at hy
   obtain ⟨u,hu,h1,hr⟩:=e4 (off+i) (.p y) (by simp [Cells.get,hy])
   simp only [K2] at hr
   exact ⟨u,by simpa using hu,h1,Rel.mono hc _ _ hr⟩
  ·cases hy
 | _,_,.refm (k:=k) (xs:=xs) hk hB hl hn hcs,v,hv=>by
  simp only [K2] at hv ⊢
  refine M0h (a:=a) h hz hk hB (by simpa [Cells.len] using hl) (by simpa only [K2] using hv) fun c hcc i y hy=>?_
  obtain ⟨c',e1,_,e3,e4⟩:=h.blks k _ hB
  rw [hcc] at e1; injection e1 with e1; injection e1 with e1; subst e1
  obtain ⟨u,hu,h1,hr⟩:=hcs.relG h hz hc hkp c (j:=0) (fun i x hx=>by rw [F1]; exact e4 i x (by simpa [Cells.get] using hx)) i y hy
  exact ⟨u,by simpa using hu,h1,hr⟩
theorem CvP.relL (h:b5 F ρ S a w)(hz:∀ k,z.contains k=true→S.blk k≠none→ok' (ρ k))(hc:Carry (okI F S.blk ρ) ok' (hp w) (hp w))(hkp:b0q (fun _=>True) S.blk β' ρ ρ (hp w) (hp w)) :
  ∀ {xs:List PV} {ys:List J2},CvP S.blk z xs ys→∀ {vs:List Value},D3 S.blk ρ (okI F S.blk ρ) (hp w) xs vs→K5 ok' (hp w) ys vs
 | _,_,.nil,vs,hv=>by simpa only [D3,K5] using hv
 | _,_,.cons hx hl,vs,hv=>by
  simp only [D3,K5] at hv ⊢
  obtain ⟨v,r,h1,h2,h3⟩:=hv
  have:=hx.rel h hz hc hkp h2
  simp only [K2] at this
  exact ⟨v,r,h1,this,hl.relL h hz hc hkp h3⟩
theorem CvP.relG (h:b5 F ρ S a w)(hz:∀ k,z.contains k=true→S.blk k≠none→ok' (ρ k))(hc:Carry (okI F S.blk ρ) ok' (hp w) (hp w))(hkp:b0q (fun _=>True) S.blk β' ρ ρ (hp w) (hp w)) :
  ∀ {xs:List PV} {ys:List J2},CvP S.blk z xs ys→∀ (c:Array Value) {j:Nat},(∀ i x,xs[i]? = some x→∃ u,c[j+i]? = some u∧u.oneCell'=true∧K2 S.blk ρ (okI F S.blk ρ) (hp w) x u) →
   ∀ i y,ys[i]? = some y→∃ u,c[j+i]? = some u∧u.oneCell'=true∧Rel ok' (hp w) y u
 | _,_,.nil,c,j,hv,i,y,hy=>by simp at hy
 | _,_,.cons hx hl,c,j,hv,i,y,hy=>by
  cases i with
  | zero =>
   obtain rfl:_=y:=by simpa using hy
   obtain ⟨u,hu,h1,hr⟩:=hv 0 _ rfl
   have:=hx.rel h hz hc hkp hr
   simp only [K2] at this
   exact ⟨u,hu,h1,this⟩
  | succ i =>
   have:=hl.relG h hz hc hkp c (j:=j+1) (fun i x hx=>by
    have:=hv (i+1) x (by simpa using hx)
    rwa [show j+1+i=j+(i+1) by omega]) i y (by simpa using hy)
   rwa [show j+(i+1)=j+1+i by omega]
end
end
def K0q (S:St)(z:List Nat):List (Nat×PV)→Prop
 | []=>True
 | (t,v) :: r=>(∃ u,S.slot t=some u∧Cv S.blk z u v)∧K0q S z r
def h0w (S:St)(z:List Nat):List (Nat×Blk)→Prop
 | []=>True
 | (k,B) :: r=>(z.contains k=false∧∃ C,S.blk k=some C∧CvB S.blk z C B)∧h0w S z r
theorem K0q.all {S:St}{z:List Nat}:∀ {l:List (Nat×PV)},K0q S z l→∀ t v,l.lookup t=some v→∃ u,S.slot t=some u∧Cv S.blk z u v
 | [],_,t,v,h=>by simp at h
 | (s,u) :: r,hs,t,v,h=>by
  rw [i0] at h
  split at h
  ·rename_i e
   have:t=s:=by simpa using e
   subst this
   injection h with h
   subst h
   exact hs.1
  ·exact K0q.all hs.2 t v h
theorem h0w.all {S:St}{z:List Nat}:∀ {l:List (Nat×Blk)},h0w S z l→∀ k B,l.lookup k=some B→z.contains k=false∧∃ C,S.blk k=some C∧CvB S.blk z C B
 | [],_,t,v,h=>by simp at h
 | (s,u) :: r,hs,t,v,h=>by
  rw [i0] at h
  split at h
  ·rename_i e
   have:t=s:=by simpa using e
   subst this
   injection h with h
   subst h
   exact hs.1
  ·exact h0w.all hs.2 t v h
def Own (F:Fr)(S:St)(z:List Nat):Prop:=(∀ k,z.contains k=true→F.lo k=true)∨∀ b,F.X b→F.okA b∨∃ j n,F.pin j=some (b,n)∧S.blk j≠none∧z.contains j=false
theorem M3 {F:Fr}{S:St}{z:List Nat}(h:∀ b,¬ F.X b):Own F S z:=.inr fun b hb=>absurd hb (h b)
theorem g0c {F:Fr}{S:St}{z:List Nat}(h:z.all F.lo=true):Own F S z:=.inl fun k hk=>by rw [s0] at h; exact h k (by simpa using hk)
theorem G4 {P:Program}{F:Fr}{c:Code}{S:St}{Q:Exit→St→Prop}(z:List Nat){sl:List (Nat×PV)}{hb:List (Nat×Blk)}(hX:Own F S z)(h1:K0q S z sl)(h2:h0w S z hb)(hn:l4 P F c ⟨sl,hb⟩ Q):l4 P F c S Q:=by
 refine ⟨fun n a w hS=>hn.run n a w ?_⟩
 obtain ⟨ρ,h⟩:=hS
 have hb':∀ k B,St.blk ⟨sl,hb⟩ k=some B→z.contains k=false∧∃ C,S.blk k=some C∧CvB S.blk z C B:=fun k B hk=>h2.all k B hk
 have hne:∀ k,St.blk ⟨sl,hb⟩ k≠none→S.blk k≠none∧ρ k=ρ k∧z.contains k=false:=fun k hk=>by
  cases hB:St.blk ⟨sl,hb⟩ k with
  | none=>exact absurd hB hk
  | some B =>
   obtain ⟨h3,C,h4,_⟩:=hb' k B hB
   exact ⟨by simp [h4],rfl,h3⟩
 have hcar:Carry (okI F S.blk ρ) (okI F (St.blk ⟨sl,hb⟩) ρ) (hp w) (hp w):=fun b hb _=>⟨p0w (fun k hk=>⟨(hne k hk).1,rfl⟩) hb,rfl⟩
 have hkp:b0q (fun _=>True) S.blk (St.blk ⟨sl,hb⟩) ρ ρ (hp w) (hp w):=fun k _ B' hB'=>by
  obtain ⟨_,C,h4,h5⟩:=hb' k B' hB'
  obtain ⟨_,e2,e3,_⟩:=h5.spec
  exact ⟨C,h4,e2,by omega,fun _=>⟨rfl,fun c T fr hc=>⟨c,T,fr,hc,rfl⟩⟩⟩
 have hz:∀ k,z.contains k=true→S.blk k≠none→okI F (St.blk ⟨sl,hb⟩) ρ (ρ k):=fun k hk hB=>by
  refine ⟨?_,fun j hj e=>?_⟩
  ·obtain ⟨B, hB'⟩ : ∃ B, S.blk k = some B := by cases e : S.blk k with
    | none=>exact absurd e hB
    | some B=>exact ⟨B,rfl⟩
   obtain ⟨_,_,e2,_⟩:=h.blks k B hB'
   rcases e2 with ⟨e2,elo⟩ | e2
   ·rcases hX with hX | hX
    ·rw [hX k hk] at elo; cases elo
    rcases hX _ e2 with h0 | ⟨j,n,h3,h4,h5⟩
    ·exact .inl h0
    ·have e:=h.inj k j hB h4 (h.pin j _ _ h3 h4).1.symm
     rw [← e,hk] at h5
     cases h5
   ·exact .inr e2
  ·obtain ⟨h3,_,h4⟩:=hne j hj
   have e:=h.inj k j hB h3 e
   rw [← e,hk] at h4
   cases h4
 refine ⟨ρ,⟨fun t v ht=>?_,fun k B hB=>?_,fun k k' h3 h4 e=>h.inj k k' (hne k h3).1 (hne k' h4).1 e,h.frame,h.nt,h.df,fun j b n hj hs=>h.pin j b n hj (hne j hs).1⟩⟩
 ·obtain ⟨u,hu,hc⟩:=h1.all t v ht
  obtain ⟨x,hx,hr⟩:=h.slots t u hu
  exact ⟨x,hx,hc.rel h hz hcar hkp hr⟩
 ·obtain ⟨_,C,h4,h5⟩:=hb' k B hB
  obtain ⟨e1,_,e3,e4⟩:=h5.spec
  obtain ⟨c,g1,g2,g3,g4⟩:=h.blks k C h4
  refine ⟨c,by rw [e1]; exact g1,g2,by omega,fun i x hx=>?_⟩
  obtain ⟨y,hy,hc⟩:=e4 i x hx
  obtain ⟨u,hu,ho,hr⟩:=g4 i y hy
  exact ⟨u,hu,ho,hc.rel h hz hcar hkp hr⟩
end Go.Proofs.YtjagfionflbjbaaGreat.SH
namespace Go.Proofs.YtjagfionflbjbaaGreat.SH
open Go Go.RowKit
section
variable {P:Program} {F:Fr} {d:Nat} {T:TypeId} {pos:String} {aft:Array Edge} {g:Option (Nat×Bool)} {t tx:TypeId}
theorem ixJ {x y:Operand}{n j:Nat}{xs:List J2}{e:TypeId}{k:IntKind}{i:Int}(hu:P.underlying t=some (.slice e))(hsz:∀ w,(sizeOf e).run P w = .ok 1 w)(hi:i=(j:Int))(h1:j<n)(hx:xs.length=n)(hlt:d<F.nt) :
  O2 P F ⟨some d,.indexAddr t x y,T,pos,aft,g⟩ { rs:=[(x,.p (.sl n xs)),(y,.p (.a (.int k i)))],ws:=[(d,.im xs j)] }:=by
 subst hi
 have:=F2 (P:=P) (F:=F) (d:=d) (T:=T) (pos:=pos) (aft:=aft) (g:=g) (t:=t) (x:=x) (y:=y) (k:=k) (n:=n) (xs:=xs) hu hsz (i:=j) (by omega) (by omega) (by simpa using hx) (by decide) hlt
 simpa using this
theorem ixR {x y:Operand}{k off n tot j:Nat}{B:Blk}{e:TypeId}{kd:IntKind}{i:Int}(hu:P.underlying t=some (.slice e))(hsz:∀ w,(sizeOf e).run P w = .ok 1 w)(hl:B.cs.len=tot)(hi:i=(j:Int))(h1:j<n)(hlt:d<F.nt) :
  O2 P F ⟨some d,.indexAddr t x y,T,pos,aft,g⟩ { rs:=[(x,.ref k off n tot),(y,.p (.a (.int kd i)))],rb:=[(k,B)],ws:=[(d,.at_ k (off+j) tot)] }:=by
 subst hi
 have:=U9 (P:=P) (F:=F) (d:=d) (T:=T) (pos:=pos) (aft:=aft) (g:=g) (t:=t) (x:=x) (y:=y) (kd:=kd) (off:=off) (k:=k) (n:=n) hu hsz hl (i:=j) (by omega) (by omega) hlt
 simpa using this
theorem C6 {x y:Operand}{k n tot j:Nat}{B:Blk}{e:TypeId}{kd:IntKind}{i:Int}(hu:P.underlying t=some (.slice e))(hsz:∀ w,(sizeOf e).run P w = .ok 1 w)(hl:B.cs.len=tot)(hi:i=(j:Int))(h1:j<n)(hlt:d<F.nt) :
  O2 P F ⟨some d,.indexAddr t x y,T,pos,aft,g⟩ { rs:=[(x,.ref k 0 n tot),(y,.p (.a (.int kd i)))],rb:=[(k,B)],ws:=[(d,.at_ k j tot)] }:=by
 have:=ixR (P:=P) (F:=F) (d:=d) (T:=T) (pos:=pos) (aft:=aft) (g:=g) (t:=t) (x:=x) (y:=y) (kd:=kd) (off:=0) (k:=k) (n:=n) hu hsz hl hi h1 hlt
 simpa using this
theorem M1y {x hi:Operand}{n h:Nat}{i:Int}{xs ys:List J2}{e:TypeId}{sz:Nat}{kh:IntKind}(hu:P.underlying t=some (.slice e))(hsz:∀ w,(sizeOf e).run P w = .ok sz w)(hi':i=(h:Int))(h2:h≤n)(hy:xs.take (h*sz)=ys)(hlt:d<F.nt) :
  O2 P F ⟨some d,.slice t x none (some hi) none,T,pos,aft,g⟩ { rs:=[(x,.p (.sl n xs)),(hi,.p (.a (.int kh i)))],ws:=[(d,.p (.sl h ys))] }:=by
 subst hi'
 exact w0m (kl:=.i64) (l:=0) (rs:=[(hi,.p (.a (.int kh h)))]) hu hsz (.inl ⟨rfl,rfl⟩) (.inr ⟨_,rfl,by simp; rfl⟩) (Nat.zero_le _) h2 (by simpa using hy) hlt
theorem w1c {x lo:Operand}{n l m:Nat}{i:Int}{xs ys:List J2}{e:TypeId}{sz:Nat}{kl:IntKind}(hu:P.underlying t=some (.slice e))(hsz:∀ w,(sizeOf e).run P w = .ok sz w)(hi':i=(l:Int))(h2:l≤n)(hm:n - l=m)(hx:xs.length=n*sz)(hy:xs.drop (l*sz)=ys)(hlt:d<F.nt) :
  O2 P F ⟨some d,.slice t x (some lo) none none,T,pos,aft,g⟩ { rs:=[(x,.p (.sl n xs)),(lo,.p (.a (.int kl i)))],ws:=[(d,.p (.sl m ys))] }:=by
 subst hi' hm
 refine w0m (kh:=.i64) (h:=n) (rs:=[(lo,.p (.a (.int kl l)))]) hu hsz (.inr ⟨_,rfl,by simp; rfl⟩) (.inl ⟨rfl,rfl⟩) h2 (Nat.le_refl _) ?_ hlt
 rw [C0,hy]
 rw [List.length_drop,hx,Nat.sub_mul]
 omega
theorem b1q {x hi:Operand}{k off n tot h:Nat}{i:Int}{B:Blk}{e:TypeId}{sz:Nat}{kh:IntKind}(hu:P.underlying t=some (.slice e))(hsz:∀ w,(sizeOf e).run P w = .ok sz w)(hBs:B.sz=sz)(hl:B.cs.len=tot)(hi':i=(h:Int))(h2:h≤n)(hlt:d<F.nt) :
  O2 P F ⟨some d,.slice t x none (some hi) none,T,pos,aft,g⟩ { rs:=[(x,.ref k off n tot),(hi,.p (.a (.int kh i)))],rb:=[(k,B)],ws:=[(d,.ref k off h tot)] }:=by
 subst hi'
 have:=W0k (P:=P) (F:=F) (d:=d) (T:=T) (pos:=pos) (aft:=aft) (g:=g) (t:=t) (x:=x) (k:=k) (off:=off) (n:=n) (kl:=.i64) (l:=0) (h:=h) (hi:=some hi) (lo:=none) (rs:=[(hi,.p (.a (.int kh h)))]) hu hsz hBs hl (.inl ⟨rfl,rfl⟩) (.inr ⟨_,rfl,by simp; rfl⟩) (Nat.zero_le _) h2 (.inl rfl) hlt
 simpa using this
theorem apP {x y:Operand}{k n m tot sz q r:Nat}{e:TypeId}{ie:TypeInfo}{z:Value}{xs ys zs:List J2}(hu:P.underlying t=some (.slice e))(hux:P.underlying tx=some (.slice e))(hi:∀ w,(typeInfo e).run P w = .ok ie w)(hz:ie.zero=some z)(hsz:ie.size=sz)
  (hzl:z.cells.size=sz) (hpos:0<sz) (hl:xs.length=tot) (hn:n*sz=tot) (hul:ys.length=m*sz) (he:xs++ys=zs) (hq:n+m=q) (hr:tot+m*sz=r) (hby:2*q*ie.bytes≤281474976710656) (h63:q≤9223372036854775807) (hpk:F.pin k=none) (hlt:d<F.nt) :
  O2 P F ⟨some d,.call ⟨.builtin .append,#[x,y],#[t,tx]⟩,T,pos,aft,g⟩ ⟨[(x,.ref k 0 n tot),(y,.p (.sl m ys))],[(k,⟨e,sz,.pure xs⟩)],none,[(d,.ref k 0 q r)],[(k,⟨e,sz,.pure zs⟩)]⟩:=by
 subst he hq hr
 exact y0z hu hi hz hsz hzl hpos hl hn (Q1s hux hul) (by simpa using hul) .data rfl hby h63 hpk hlt
theorem apN {x y:Operand}{k m sz r:Nat}{e:TypeId}{ie:TypeInfo}{z:Value}{ys:List J2}(hu:P.underlying t=some (.slice e))(hux:P.underlying tx=some (.slice e))(hi:∀ w,(typeInfo e).run P w = .ok ie w)(hz:ie.zero=some z)(hsz:ie.size=sz)
  (hzl:z.cells.size=sz) (hm:0<m) (hul:ys.length=m*sz) (hr:m*sz=r) (hby:2*m*ie.bytes≤281474976710656) (h63:m≤9223372036854775807) (hpk:F.pin k=none) (hlt:d<F.nt) :
  O2 P F ⟨some d,.call ⟨.builtin .append,#[x,y],#[t,tx]⟩,T,pos,aft,g⟩ ⟨[(x,.p (.a (.slice none 0 0))),(y,.p (.sl m ys))],[],some k,[(d,.ref k 0 m r)],[(k,⟨e,sz,.pure ys⟩)]⟩:=by
 subst hr
 have hfr:∀ l:List J2,PV.freeL k (l.map .p)=true:=by
  intro l
  induction l with
  | nil=>rfl
  | cons x l ih=>simp [PV.freeL,PV.free,ih]
 exact K0x hu hi hz hsz hzl hm (Q1s hux hul) (by simpa using hul) (.inl (by simpa using M0c.data (xs:=[]) (ys:=ys))) (hfr ys) rfl hby h63 hpk hlt
theorem H1n {x:Operand}{k off n tot sz:Nat}{bT:TypeId}{xs ys:List J2}(hag:∀ w,(isAgg t).run P w = .ok true w)(hsz:∀ w,(sizeOf t).run P w = .ok n w)(hl:xs.length=tot)(hv:(xs.drop off).take n=ys)(hn:ys.length=n)(hlt:d<F.nt) :
  O2 P F ⟨some d,.load t x,T,pos,aft,g⟩ { rs:=[(x,.at_ k off tot)],rb:=[(k,⟨bT,sz,.pure xs⟩)],ws:=[(d,.p (.agg ys))] }:=by
 refine l6 hag hsz hl ?_ hn hlt
 simp only [Cells.sub,hv]
 clear hv hn
 induction ys with
 | nil=>exact .nil
 | cons y ys ih=>exact .cons ih
theorem M1q {x y:Operand}{k:IntKind}{m n:Int}{ts:Array TypeId}(hlt:d<F.nt):O2 P F ⟨some d,.call ⟨.builtin .max,#[x,y],ts⟩,T,pos,aft,g⟩ { rs:=[(x,.p (.a (.int k m))),(y,.p (.a (.int k n)))],ws:=[(d,.p (.a (.int k (if m<n then n else m))))] } :=
 D4 hlt fun e w h1 h2=>by
  simp [execOp,resolve,invoke,builtin,Builtin.max_,Builtin.max2,h1,h2]
end
theorem B1b {F:Fr}{S:St}{z:List Nat}{H:List (Nat×Blk)}(h:∀ b,F.X b→∃ j n,F.pin j=some (b,n)∧H.lookup j≠none)(hH:H.all (fun p=>(S.blk p.1).isSome && !z.contains p.1)=true):Own F S z:=.inr fun b hb=>by
 obtain ⟨j,n,h1,h2⟩:=h b hb
 have:∀ l:List (Nat×Blk),l.all (fun p=>(S.blk p.1).isSome && !z.contains p.1)=true→l.lookup j≠none→(S.blk j).isSome=true∧z.contains j=false:=by
  intro l
  induction l with
  | nil=>intro _ h; simp at h
  | cons p l ih =>
   obtain ⟨s,u⟩:=p
   intro ha h
   simp only [List.all_cons,j0,Bool.not_eq_true'] at ha
   rw [i0] at h
   by_cases e:j=s
   ·subst e; exact ha.1
   ·rw [show (j == s)=false by simpa using e] at h
    exact ih (by simpa using ha.2) h
 obtain ⟨h3,h4⟩:=this H hH h2
 exact .inr ⟨j,n,h1,by intro e; simp [e] at h3,h4⟩
end Go.Proofs.YtjagfionflbjbaaGreat.SH
namespace Go.Proofs.YtjagfionflbjbaaGreat.SH
open Go Go.RowKit
theorem Y7 {P:Program}{F:Fr}{o:Oper}{rs:List (Operand×PV)}{rb wb:List (Nat×Blk)}{fr:Option Nat}{d:Nat}{x y:J2}(h:O2 P F o ⟨rs,rb,fr,[(d,.p x)],wb⟩)(hp:Pc x y):O2 P F o ⟨rs,rb,fr,[(d,.p y)],wb⟩:=by
 intro S a w hS hA Q K hK
 refine h S a w hS ⟨hA.rs,hA.rb,hA.fresh⟩ Q K fun a' w' ⟨ρ,h'⟩=>hK a' w' ⟨ρ,?_⟩
 refine ⟨fun t v ht=>?_,h'.blks,h'.inj,h'.frame,h'.nt,h'.df,h'.pin⟩
 simp only [St.app,St.slot,L1,List.nil_append,i0] at ht
 by_cases e:t=d
 ·subst e
  simp only [BEq.rfl,U0] at ht
  subst ht
  obtain ⟨u,hu,hr⟩:=h'.slots t (.p x) (by simp [St.app,St.slot])
  refine ⟨u,hu,?_⟩
  simp only [K2] at hr ⊢
  exact hp.rel hr
 ·rw [show (t == d)=false by simpa using e] at ht
  exact h'.slots t v (by simp only [St.app,St.slot,L1,List.nil_append,i0]; rw [show (t == d)=false by simpa using e]; exact ht)
inductive h0b:List (Nat×Blk)→List (Nat×Blk)→Prop
 | nil:h0b [] []
 | cons {j:Nat} {T:TypeId} {sz:Nat} {cs cs':Cells} {H H':List (Nat×Blk)}:cs'.len=cs.len→h0b H H'→h0b ((j,⟨T,sz,cs⟩) :: H) ((j,⟨T,sz,cs'⟩) :: H')
theorem h0b.to {H H':List (Nat×Blk)}(h:h0b H H'):∀ j B B',H.lookup j=some B→H'.lookup j=some B'→B'.T=B.T∧B'.sz=B.sz∧B'.cs.len=B.cs.len:=by
 induction h with
 | nil=>intro j B B' h; simp at h
 | @cons i T sz cs cs' H H' hl _ ih =>
  intro j B B' h h'
  rw [i0] at h h'
  by_cases e:j=i
  ·subst e
   simp only [BEq.rfl,U0] at h h'
   subst h h'
   exact ⟨rfl,rfl,hl⟩
  ·rw [show (j == i)=false by simpa using e] at h h'
   exact ih j B B' h h'
theorem m0s {H H':List (Nat×Blk)}(h:(H'.map (·.1)).all (fun k=>(H.lookup k).isSome)=true):∀ j B',H'.lookup j=some B'→∃ B,H.lookup j=some B:=fun j B' hj=>by
 have:∀ l:List (Nat×Blk),(l.map (·.1)).all (fun k=>(H.lookup k).isSome)=true→l.lookup j=some B'→(H.lookup j).isSome=true:=by
  intro l
  induction l with
  | nil=>intro _ h; simp at h
  | cons p l ih =>
   obtain ⟨s,u⟩:=p
   intro ha h
   simp only [R0,List.all_cons,j0] at ha
   rw [i0] at h
   by_cases e:j=s
   ·subst e; exact ha.1
   ·rw [show (j == s)=false by simpa using e] at h
    exact ih ha.2 h
 exact Option.isSome_iff_exists.1 (this H' h hj)
section
variable {P:Program} {F:Fr} {ops:Array Oper} {sl:List (Nat×PV)} {hb:List (Nat×Blk)} {dst:Option Nat} {op:Op} {T:TypeId} {pos:String} {aft:Array Edge} {os:List Oper} {rs:List (Operand×PV)} {rb:List (Nat×Blk)} {K:List Ann→St→Prop}
theorem swB {d:Nat}{v:PV}{wb:List (Nat×Blk)}(hc:O2 P F ⟨dst,op,T,pos,aft,none⟩ ⟨rs,rb,none,[(d,v)],wb⟩)(h1:v8 ⟨sl,hb⟩ rs)(h2:J6 ⟨sl,hb⟩ rb)(hn:y7 P F ops ⟨(d,v) :: sl,wb++hb⟩ os fun As S'=>K (⟨rs,rb,none,[(d,v)],wb⟩ :: As) S') :
  y7 P F ops ⟨sl,hb⟩ (⟨dst,op,T,pos,aft,none⟩ :: os) K :=
 let ⟨As,S',h,hK⟩:=hn
 ⟨_,S',.cons (C7 rfl hc) (H7 h1 h2 trivial) h,hK⟩
end
theorem exm {P:Program}{F:Fr}{Q:Exit→St→Prop}{S:St}{id:Nat}{l:List Oper}{y:Code}{sl sl0:List (Nat×PV)}{hb hb0:List (Nat×Blk)}(_:e7 S sl0)(_:T5 S hb0)(h:y7 P F l.toArray S l fun _ S1=>e7 S1 (sl++sl0)∧T5 S1 (hb++hb0))(hn:l4 P F y ⟨sl++sl0,hb++hb0⟩ Q)(hnd:d0h l=true:=by rfl):l4 P F (.seq (.region id l.toArray false) y) S Q :=
 let ⟨_,_,h,h1,h2⟩:=h
 R1 (q0b h (hn.weak (E3 h1 h2)) hnd)
theorem P1f {P:Program}{F:Fr}{Q:Exit→St→Prop}{S:St}{id:Nat}{l:List Oper}{y:Code}{sl sl0:List (Nat×PV)}{hb hb0:List (Nat×Blk)}(hm:P.follows .mixedOrders=true)(_:e7 S sl0)(_:T5 S hb0)(h:y7 P F l.toArray S l fun As S1=>(W7 l As [] [] && b6 S As)=true∧e7 S1 (sl++sl0)∧T5 S1 (hb++hb0))(hn:l4 P F y ⟨sl++sl0,hb++hb0⟩ Q)(hnd:d0h l=true:=by rfl):l4 P F (.seq (.region id l.toArray true) y) S Q :=
 let ⟨_,_,h,ho,h1,h2⟩:=h
 R1 (P0p hm h ho (hn.weak (E3 h1 h2)) hnd)
theorem ob {S:St}{t:Nat}{a b:Bool}(hs:S.slot t=some (.p (.a (.bool a))))(h:a=b):S.slot t=some (.p (.a (.bool b))):=h ▸ hs
inductive y2 (P:Program):List Field→List (Nat×Nat)→Prop
 | nil:y2 P [] []
 | cons {f:Field} {n:Nat} {fs:List Field} {ps:List (Nat×Nat)}:(∀ w,(sizeOf f.type).run P w = .ok n w)→y2 P fs ps→y2 P (f :: fs) ((f.offset,n) :: ps)
theorem y2.to {P:Program}{fs:List Field}{ps:List (Nat×Nat)}(h:y2 P fs ps):∀ w,(fs.toArray.mapM fun f=>do pure (f.offset,← sizeOf f.type):Sem _).run P w = .ok ps.toArray w:=by
 intro w
 rw [List.mapM_toArray]
 have:(fs.mapM fun f=>do pure (f.offset,← sizeOf f.type):Sem _).run P w = .ok ps w:=by
  induction h with
  | nil=>simp
  | cons h1 _ ih =>
   simp only [bind_pure_comp] at ih
   simp [List.mapM_cons,h1,ih]
 simp only [bind_pure_comp] at this
 simp [this]
theorem g0m {xs:List J2}{i:Nat}{y:J2}(h:xs[i]? = some y):(Cells.pure xs).get i=some (.p y):=by simp [Cells.get,h]
theorem len_pure {xs ys:List J2}(h:ys.length=xs.length):(Cells.pure ys).len=(Cells.pure xs).len:=h
end Go.Proofs.YtjagfionflbjbaaGreat.SH
namespace Go.Proofs.YtjagfionflbjbaaGreat.SH
open Go
theorem d0r {m n c:Int}{b:Nat}(h:(2:Int) ^ (min n.toNat b)=c)(hc:0≤c):m.fdiv (2 ^ (min n.toNat b))=m / c:=by
 rw [h,Int.fdiv_eq_ediv_of_nonneg _ hc]
theorem H0a {k:IntKind}{m n c r:Int}{b:Nat}(h:(2:Int) ^ (min n.toNat b)=c)(hr:k.wrap (m*c)=r):k.wrap (m*2 ^ (min n.toNat b))=r:=by rw [h,hr]
theorem n8 {w:Nat}{a:Int}(h0:0≤a)(h1:a<2 ^ w):(BitVec.ofInt w a).toNat=a.toNat:=by
 rw [BitVec.toNat_ofInt,Int.emod_eq_of_lt h0 (by simpa using h1)]
theorem B1s {k:Nat}{a b:Int}(ha:0≤a)(hak:a<2 ^ k)(hb:0≤b):((a.toNat ||| (b*2 ^ k).toNat:Nat):Int)=a+b*2 ^ k:=by
 obtain ⟨x,rfl⟩:=Int.eq_ofNat_of_zero_le ha
 obtain ⟨y,rfl⟩:=Int.eq_ofNat_of_zero_le hb
 have hx:x<2 ^ k:=by exact_mod_cast hak
 have e:(((y:Int)*2 ^ k).toNat)=2 ^ k*y:=by
  have:((y:Int)*2 ^ k)=((2 ^ k*y:Nat):Int):=by push_cast; rw [Int.mul_comm]
  rw [this,Int.toNat_natCast]
 rw [e,Int.toNat_natCast,Nat.or_comm,← Nat.two_pow_add_eq_or_of_lt hx]
 push_cast
 rw [Int.mul_comm]; omega
theorem G1p {a b c:Int}(k:Nat)(hc:c=b*2 ^ k)(ha:0≤a)(hak:a<2 ^ k)(hb:0≤b)(hk:k≤64)(hs:b*2 ^ k<18446744073709551616)(hs2:a+b*2 ^ k<18446744073709551616):IntKind.u64.wrap ((BitVec.ofInt IntKind.u64.bits a ||| BitVec.ofInt IntKind.u64.bits c).toNat:Nat)=a+b*2 ^ k:=by
 subst hc
 have hp:(0:Int)<2 ^ k:=Int.pow_pos (by decide)
 have hb':0≤b*2 ^ k:=Int.mul_nonneg hb (E1 hp)
 rw [BitVec.toNat_or,n8 ha (by show a<2 ^ 64; omega),n8 hb' (by show _<2 ^ 64; omega),B1s ha hak hb]
 rw [D0h]; omega
theorem F0j {a b c:Int}(k:Nat)(hc:c=b*2 ^ k)(ha:0≤a)(hak:a<2 ^ k)(hb:0≤b)(hk:k≤64)(hs:b*2 ^ k<18446744073709551616)(hs2:a+b*2 ^ k<18446744073709551616):IntKind.u64.wrap ((BitVec.ofInt IntKind.u64.bits c ||| BitVec.ofInt IntKind.u64.bits a).toNat:Nat)=a+b*2 ^ k:=by
 have:=G1p k hc ha hak hb hk hs hs2
 rw [BitVec.or_comm] at this; exact this
theorem P1r {a b c:Int}(k:Nat)(hc:c=b*2 ^ k)(ha:0≤a)(hak:a<2 ^ k)(hb:0≤b)(hk:k≤32)(hs:b*2 ^ k<4294967296)(hs2:a+b*2 ^ k<4294967296):IntKind.u32.wrap ((BitVec.ofInt IntKind.u32.bits a ||| BitVec.ofInt IntKind.u32.bits c).toNat:Nat)=a+b*2 ^ k:=by
 subst hc
 have hp:(0:Int)<2 ^ k:=Int.pow_pos (by decide)
 have hb':0≤b*2 ^ k:=Int.mul_nonneg hb (E1 hp)
 rw [BitVec.toNat_or,n8 ha (by show a<2 ^ 32; omega),n8 hb' (by show _<2 ^ 32; omega),B1s ha hak hb]
 rw [j8]; omega
theorem H1w {a:Int}(h0:0≤a)(h1:a<18446744073709551616):IntKind.u64.wrap ((BitVec.ofInt IntKind.u64.bits a &&& BitVec.ofInt IntKind.u64.bits 4294967295).toNat:Nat)=a % 4294967296:=by
 obtain ⟨x,rfl⟩:=Int.eq_ofNat_of_zero_le h0
 rw [BitVec.toNat_and,n8 h0 (by show _<2 ^ 64; omega),n8 (by decide) (by decide)]
 have:x &&& 4294967295=x % 4294967296:=Nat.and_two_pow_sub_one_eq_mod x 32
 rw [Int.toNat_natCast,show (4294967295:Int).toNat=4294967295 from rfl,this,D0h]
 omega
theorem f1v {s:ByteArray}{f:Nat→UInt8}{n:Nat}{i:Int}(h:∀ j,j<n→s[j]? = some (f j))(h0:0≤i)(h1:i<n):s[i.toNat]? = some (f i.toNat):=h _ (by omega)
end Go.Proofs.YtjagfionflbjbaaGreat.SH
namespace Go.Proofs.YtjagfionflbjbaaGreat.SH
open Go Go.RowKit
def q1z:Nat→List PV→List PV
 | 0,_=>[]
 | n+1,zs=>zs++q1z n zs
theorem Zs.append {vs us:List Value}{xs ys:List PV}(h:Zs vs xs)(h2:Zs us ys):Zs (vs++us) (xs++ys):=by
 induction h with
 | nil=>exact h2
 | cons hv _ ih=>exact .cons hv ih
theorem j0s (c:Array Value):∀ n:Nat,(madeCells c (n*c.size)).toList=(List.replicate n c.toList).flatten
 | 0=>by simp [madeCells]
 | n+1=>by
  have ih:=j0s c n
  simp only [madeCells,Array.toList_map,Array.toList_range] at ih ⊢
  rw [show (n+1)*c.size=c.size+n*c.size by rw [Nat.add_mul]; omega,List.range_add,List.map_append,List.map_map,List.replicate_succ,List.flatten_cons,← ih]
  congr 1
  ·apply List.ext_getElem
   ·simp
   ·intro i h1 h2
    simp only [O0,List.length_range] at h1
    simp [Nat.mod_eq_of_lt h1,h1]
  ·apply List.map_congr_left
   intro i _
   simp
theorem M2 {z:Value}{zs:List PV}{n sz:Nat}(h:Zs z.cells.toList zs)(hs:z.cells.size=sz):Zs (madeCells z.cells (n*sz)).toList (q1z n zs):=by
 subst hs
 rw [j0s]
 induction n with
 | zero=>exact .nil
 | succ n ih=>rw [List.replicate_succ,List.flatten_cons]; exact h.append ih
end Go.Proofs.YtjagfionflbjbaaGreat.SH
namespace Go.Proofs.YtjagfionflbjbaaGreat.SH
open Go
def q0y:List Oper→List Ann→List Nat→List Ann→Bool
 | [],[],_,_=>true
 | o :: os,B :: As,ms,done =>
  M0g ms.length o && ((List.range ms.length).all fun i=>(T8 ms o).testBit i || (done[i]?.all fun A=>w7 A B)) &&
  q0y os As (ms++[T8 ms o]) (done++[B])
 | _,_,_,_=>false
theorem p0z:∀ (os:List Oper)(As:List Ann)(ms:List Nat)(done:List Ann),ms.length=done.length→q0y os As ms done=W7 os As ms done
 | [],[],_,_,_=>rfl
 | o :: os,B :: As,ms,done,h=>by
  simp only [q0y,W7,h]
  rw [p0z os As _ _ (by simp [h])]
 | [],_ :: _,_,_,_=>rfl
 | _ :: _,[],_,_,_=>rfl
theorem aok {os:List Oper}{As:List Ann}{S:St}(h:q0y os As [] []=true)(h2:b6 S As=true):(W7 os As [] [] && b6 S As)=true:=by
 rw [← p0z os As [] [] rfl,h,h2]; rfl
end Go.Proofs.YtjagfionflbjbaaGreat.SH
namespace Go.Proofs.YtjagfionflbjbaaGreat.SH
open Go
theorem D1h {P:Program}{F:Fr}{Q:Exit→St→Prop}{S:St}{c:Code}{α:Type}(ws:α→List (Nat×PV))(wb:α→List (Nat×Blk))(ok:α→Prop)(μ:α→Nat)(N:Nat){sl:List (Nat×PV)}{hb:List (Nat×Blk)}(_:e7 S sl)(_:T5 S hb)
  (first:l4 P F c S (G0s (fun S'=>∃ y,ok y∧μ y<N∧St.le ⟨ws y++sl,wb y++hb⟩ S') Q))
  (round:∀ x,ok x→l4 P F c ⟨ws x++sl,wb x++hb⟩ (G0s (fun S'=>∃ y,ok y∧μ y<μ x∧St.le ⟨ws y++sl,wb y++hb⟩ S') Q)):l4 P F (.loop c) S Q:=by
 refine P0k (α:=Option α) (fun x=>match x with | none=>S | some x=>⟨ws x++sl,wb x++hb⟩) (fun x=>match x with | none=>True | some x=>ok x) (fun x=>match x with | none=>N | some x=>μ x) none trivial ⟨fun _ _ h=>h,fun _ _ h=>h⟩ fun x hx=>?_
 cases x with
 | none =>
  refine ⟨fun n a w hS=>wpIn_mono (first.run n a w hS) fun e a' w' hq=>hq.elim (fun ⟨S',h1,h2⟩=>.inl ⟨S',?_,h2⟩) .inr⟩
  cases e with
  | normal=>obtain ⟨y,h3,h4,h5⟩:=h1; exact ⟨some y,h3,h4,h5⟩
  | _=>exact h1
 | some x =>
  refine ⟨fun n a w hS=>wpIn_mono ((round x hx).run n a w hS) fun e a' w' hq=>hq.elim (fun ⟨S',h1,h2⟩=>.inl ⟨S',?_,h2⟩) .inr⟩
  cases e with
  | normal=>obtain ⟨y,h3,h4,h5⟩:=h1; exact ⟨some y,h3,h4,h5⟩
  | _=>exact h1
end Go.Proofs.YtjagfionflbjbaaGreat.SH
namespace Go.Proofs.YtjagfionflbjbaaGreat.SH
open Go
theorem f0y {P:Program}{F:Fr}{Q:Exit→St→Prop}{S:St}{x y:Code}{sl sl0:List (Nat×PV)}{hb hb0:List (Nat×Blk)}(_:e7 S sl0)(_:T5 S hb0)(h:l4 P F x S (G0s (fun S1=>e7 S1 (sl++sl0)∧T5 S1 (hb++hb0)) Q))(hn:l4 P F y ⟨sl++sl0,hb++hb0⟩ Q):l4 P F x S (G0s (fun S'=>l4 P F y S' Q) Q):=by
 refine ⟨fun n a w hS=>wpIn_mono (h.run n a w hS) fun e a' w' hq=>hq.elim (fun ⟨S',h1,h4⟩=>.inl ⟨S',?_,h4⟩) .inr⟩
 cases e with
 | normal=>exact hn.weak (E3 h1.1 h1.2)
 | _=>exact h1
end Go.Proofs.YtjagfionflbjbaaGreat.SH
namespace Go.Proofs.YtjagfionflbjbaaGreat.SH
open Go
section
variable {P:Program} {F:Fr} {d:Nat} {T xT yT:TypeId} {pos:String} {aft:Array Edge} {g:Option (Nat×Bool)} {x y:Operand} {k:IntKind} {m n r:Int}
theorem c_x (hlt:d<F.nt)(hr:k.wrap (BitVec.ofInt k.bits m ^^^ BitVec.ofInt k.bits n).toNat=r):O2 P F ⟨some d,.binOp .xor xT x y yT,T,pos,aft,g⟩ { rs:=[(x,.p (.a (.int k m))),(y,.p (.a (.int k n)))],ws:=[(d,.p (.a (.int k r)))] } :=
 D4 hlt fun e w h1 h2=>by subst hr; simp [execOp,h1,h2,binOp,Op.intBits,eqGuard]
theorem H0p (hk:k.signed=false)(hlt:d<F.nt)(hr:k.wrap (BitVec.ofInt k.bits k.max ^^^ BitVec.ofInt k.bits m).toNat=r):O2 P F ⟨some d,.unOp .xor xT x,T,pos,aft,g⟩ { rs:=[(x,.p (.a (.int k m)))],ws:=[(d,.p (.a (.int k r)))] } :=
 b0g hlt fun e w h1=>by subst hr; simp [execOp,h1,Op.unary,Op.intBits,hk]
theorem D0w {f:FuncId}{z:Operand}{b:Int}{ts:Array TypeId}{q s:Int}(hf:∀ (u v c:Nat) (w:World),c≤1→(callFunc f #[.int .u64 u,.int .u64 v,.int .u64 c]).run P w = .ok (.value (.tuple #[.int .u64 (((u+18446744073709551616 - v - c) % 18446744073709551616:Nat):Int),.int .u64 ((if u<v+c then 1 else 0:Nat):Int)])) w)
  (hm:0≤m∧m<18446744073709551616) (hn:0≤n∧n<18446744073709551616) (hc:0≤b∧b≤1) (hq:(m - n - b) % 18446744073709551616=q) (hs:(if m<n+b then 1 else 0)=s) (hlt:d<F.nt) :
  O2 P F ⟨some d,.call ⟨.value (.func f),#[x,y,z],ts⟩,T,pos,aft,g⟩ { rs:=[(x,.p (.a (.int .u64 m))),(y,.p (.a (.int .u64 n))),(z,.p (.a (.int .u64 b)))],ws:=[(d,.p (.tup [.a (.int .u64 q),.a (.int .u64 s)]))] } :=
 B4 rfl hlt rfl rfl fun ρ S a w h hA=>by
  have h1:=M4 h (v:=.int .u64 m) (hA.rs (x,_) (by simp))
  have h2:=M4 h (v:=.int .u64 n) (hA.rs (y,_) (by simp))
  have h3:=M4 h (v:=.int .u64 b) (hA.rs (z,_) (by simp))
  obtain ⟨u,rfl⟩:=Int.eq_ofNat_of_zero_le hm.1
  obtain ⟨v,rfl⟩:=Int.eq_ofNat_of_zero_le hn.1
  obtain ⟨c,rfl⟩:=Int.eq_ofNat_of_zero_le hc.1
  refine ⟨.tuple #[.int .u64 q,.int .u64 s],?_,?_⟩
  ·have:=hf u v c w (by omega)
   simp only [Int.ofNat_eq_natCast] at h1 h2 h3
   have e1:(((u+18446744073709551616 - v - c) % 18446744073709551616:Nat):Int)=q:=by omega
   have e2:((if u<v+c then 1 else 0:Nat):Int)=s:=by subst hs; split <;> split <;> omega
   rw [e1,e2] at this
   have hef:a.eval (.func f) = .func (.func f) #[] #[]:=rfl
   simp [execOp,resolve,hef,Deferred.ofValue,invoke,h1,h2,h3,this]
  ·simp only [K2,Rel,K5]
   exact ⟨_,rfl,_,_,rfl,rfl,_,_,rfl,rfl,rfl⟩
end
theorem f1g (B:BitVec 32):BitVec.ofInt IntKind.u32.bits (B.toNat:Int)=B:=by
 show BitVec.ofInt 32 (B.toNat:Int)=B
 rw [BitVec.ofInt_natCast,BitVec.ofNat_toNat,BitVec.setWidth_eq]
theorem G1m (B:BitVec 32):IntKind.u32.wrap (B.toNat:Int)=B.toNat:=by rw [j8]; have:=B.isLt; omega
theorem w1b (A B:BitVec 32):IntKind.u32.wrap ((BitVec.ofInt IntKind.u32.bits (A.toNat:Int) &&& BitVec.ofInt IntKind.u32.bits (B.toNat:Int)).toNat:Nat)=((A &&& B).toNat:Int):=by
 rw [f1g,f1g]; exact G1m (A &&& B)
theorem P1y (A B:BitVec 32):IntKind.u32.wrap ((BitVec.ofInt IntKind.u32.bits (A.toNat:Int) ||| BitVec.ofInt IntKind.u32.bits (B.toNat:Int)).toNat:Nat)=((A ||| B).toNat:Int):=by
 rw [f1g,f1g]; exact G1m (A ||| B)
theorem J1x (A B:BitVec 32):IntKind.u32.wrap ((BitVec.ofInt IntKind.u32.bits (A.toNat:Int) ^^^ BitVec.ofInt IntKind.u32.bits (B.toNat:Int)).toNat:Nat)=((A ^^^ B).toNat:Int):=by
 rw [f1g,f1g]; exact G1m (A ^^^ B)
theorem v1s (A:BitVec 32):IntKind.u32.wrap ((BitVec.ofInt IntKind.u32.bits IntKind.u32.max ^^^ BitVec.ofInt IntKind.u32.bits (A.toNat:Int)).toNat:Nat)=((~~~A).toNat:Int):=by
 rw [f1g]
 show IntKind.u32.wrap ((BitVec.allOnes 32 ^^^ A).toNat:Int)=_
 rw [BitVec.allOnes_xor]
 exact G1m _
theorem D1z (B:BitVec 32):(B.toNat:Int) / 2147483648=if B.msb then 1 else 0:=by
 have h:=B.isLt
 rw [BitVec.msb_eq_decide]
 simp only [decide_eq_true_eq]
 split <;> omega
theorem y1m (X Y:BitVec 32)(b:Int)(hb:0≤b∧b≤1)(D:BitVec 32)(hD:(D.toNat:Int)=((X.toNat:Int) - Y.toNat - b) % 4294967296) :
  (((~~~X &&& Y) ||| (~~~(X ^^^ Y) &&& D)).toNat:Int) / 2147483648=if (X.toNat:Int)<Y.toNat+b then 1 else 0:=by
 rw [D1z]
 simp only [BitVec.msb_or,BitVec.msb_and,BitVec.msb_not,BitVec.msb_xor]
 have hx:=X.isLt
 have hy:=Y.isLt
 have hd:=D.isLt
 simp only [BitVec.msb_eq_decide]
 by_cases h1:2 ^ (32 - 1)≤X.toNat <;> by_cases h2:2 ^ (32 - 1)≤Y.toNat <;> by_cases h3:2 ^ (32 - 1)≤D.toNat <;> simp [h1,h2,h3] <;> omega
end Go.Proofs.YtjagfionflbjbaaGreat.SH
namespace Go.Proofs.YtjagfionflbjbaaGreat.SH
open Go
theorem k1b {P : Program} {f : FuncId} {fn : Func} {e : Array Value → Sem Value} (hf : P.funcs[f]? = some fn) (hname : (fn.name == "runtime.NumGoroutine") = false) (hb : fn.body.isNone = true) (hnx : Extern.findNext fn = none) (he : Extern.find fn = some e)
  (h0:∀ (u v:Nat) (w:World),(e #[.int .u64 u,.int .u64 v,.int .u64 (0:Nat)]).run P w = .ok (.tuple #[.int .u64 (((u+18446744073709551616 - v - 0) % 18446744073709551616:Nat):Int),.int .u64 ((if u<v+0 then 1 else 0:Nat):Int)]) w)
  (h1:∀ (u v:Nat) (w:World),(e #[.int .u64 u,.int .u64 v,.int .u64 (1:Nat)]).run P w = .ok (.tuple #[.int .u64 (((u+18446744073709551616 - v - 1) % 18446744073709551616:Nat):Int),.int .u64 ((if u<v+1 then 1 else 0:Nat):Int)]) w) :
  ∀ (u v c:Nat) (w:World),c≤1→(callFunc f #[.int .u64 u,.int .u64 v,.int .u64 c]).run P w = .ok (.value (.tuple #[.int .u64 (((u+18446744073709551616 - v - c) % 18446744073709551616:Nat):Int),.int .u64 ((if u<v+c then 1 else 0:Nat):Int)])) w:=by
 intro u v c w hc
 have:=run_callFunc_extern hf hname hb hnx he #[.int .u64 u,.int .u64 v,.int .u64 c] w
 rcases (show c=0∨c=1 by omega) with rfl | rfl
 ·rw [this,h0]; rfl
 ·rw [this,h1]; rfl
end Go.Proofs.YtjagfionflbjbaaGreat.SH
namespace Go.Proofs.YtjagfionflbjbaaGreat.SH
@[simp] theorem Cells.len_pure (xs:List J2):(Cells.pure xs).len=xs.length:=rfl
@[simp] theorem Cells.len_mix (xs:List PV):(Cells.mix xs).len=xs.length:=rfl
end Go.Proofs.YtjagfionflbjbaaGreat.SH
namespace Go.Proofs.YtjagfionflbjbaaGreat.SH
open Go
structure Sk where
 rs:List Nat
 rb:List Nat
 ws:List Nat
 wb:List Nat
def m1s (A:Ann):Sk:=⟨U7 A.rs,A.rb.map (·.1),A.ws.map (·.1),A.wb.map (·.1)⟩
def hit (xs ys:List Nat):Bool:=xs.any fun x=>ys.contains x
def B0r (A B:Sk):Bool:=!hit A.ws B.rs && !hit B.ws A.rs && !hit A.ws B.ws && !hit A.wb B.rb && !hit B.wb A.rb && !hit A.wb B.wb
def b8:List Oper→List Sk→List Nat→List Sk→Bool
 | [],[],_,_=>true
 | o :: os,B :: As,ms,done =>
  M0g ms.length o && ((List.range ms.length).all fun i=>(T8 ms o).testBit i || (done[i]?.all fun A=>B0r A B)) &&
  b8 os As (ms++[T8 ms o]) (done++[B])
 | _,_,_,_=>false
theorem d0w {α:Type}(l:List (Nat×α))(ts:List Nat):s7 l ts=hit (l.map (·.1)) ts:=by simp [s7,hit,List.any_map,Function.comp_def]
theorem n1h {A B:Ann}(hA:A.fresh=none)(hB:B.fresh=none):w7 A B=B0r (m1s A) (m1s B):=by
 simp [w7,B0r,m1s,d0w,Ann.rbk,hA,hB]
theorem J0w:∀ (os:List Oper)(As:List Ann)(ms:List Nat)(done:List Ann),(∀ A∈As,A.fresh=none)→(∀ A∈done,A.fresh=none)→b8 os (As.map m1s) ms (done.map m1s)=q0y os As ms done
 | [],[],_,_,_,_=>rfl
 | o :: os,B :: As,ms,done,h1,h2=>by
  simp only [R0,b8,q0y]
  have ih:=J0w os As (ms++[T8 ms o]) (done++[B]) (fun A hA=>h1 A (by simp [hA])) (fun A hA=>by
   rcases List.mem_append.1 hA with hA | hA
   ·exact h2 A hA
   ·simp at hA; subst hA; exact h1 A (by simp))
  rw [List.map_append,R0,List.map_nil] at ih
  rw [ih]
  congr 2
  apply congrArg (List.all (List.range ms.length))
  funext i
  congr 1
  rw [List.getElem?_map]
  cases e:done[i]? with
  | none=>rfl
  | some A=>simp only [Option.map_some,Option.all_some]; exact (n1h (h2 A (M1 e)) (h1 B (by simp))).symm
 | [],_ :: _,_,_,_,_=>rfl
 | _ :: _,[],_,_,_,_=>rfl
def y0m:List Ann→Bool
 | []=>true
 | A :: As=>A.fresh.isNone && y0m As
theorem w0q:∀ {As:List Ann},y0m As=true→∀ A∈As,A.fresh=none
 | [],_,A,hA=>by cases hA
 | B :: As,h,A,hA=>by
  simp only [y0m,j0,Option.isNone_iff_eq_none] at h
  rcases List.mem_cons.1 hA with rfl | hA
  ·exact h.1
  ·exact w0q h.2 A hA
theorem m0g {S:St}:∀ {As:List Ann},(∀ A∈As,A.fresh=none)→b6 S As=true
 | [],_=>rfl
 | A :: As,h=>by
  simp only [b6,h A (by simp),Option.all_none,Bool.true_and]
  exact m0g fun B hB=>h B (by simp [hB])
theorem B5 {os:List Oper}{As:List Ann}{S:St}(sks:List Sk)(hf:y0m As=true)(h1:As.map m1s=sks)(h2:b8 os sks [] []=true):(W7 os As [] [] && b6 S As)=true:=by
 have hn:=w0q hf
 subst h1
 have:=J0w os As [] [] hn (by simp)
 rw [List.map_nil] at this
 rw [← p0z os As [] [] rfl,← this,h2,m0g hn]; rfl
end Go.Proofs.YtjagfionflbjbaaGreat.SH
namespace Go.Proofs.YtjagfionflbjbaaGreat.SH
open Go
theorem Q0r {m n:Int}(h:0≤m)(h1:0≤n)(hb:m / n<18446744073709551616:=by omega):IntKind.u64.wrap (m.tdiv n)=m / n:=by
 rw [Int.tdiv_eq_ediv_of_nonneg h,D0h,Int.emod_eq_of_lt (Int.ediv_nonneg h h1) hb]
theorem V0r {m n:Int}(h:0≤m)(_h1:0≤n):m.tmod n=m % n:=Int.tmod_eq_emod_of_nonneg h
theorem P1j {n:Int}(h0:0≤n)(h1:n<18446744073709551616):IntKind.u64.wrap n=n:=by rw [D0h]; omega
end Go.Proofs.YtjagfionflbjbaaGreat.SH
namespace Go.Proofs.YtjagfionflbjbaaGreat.SH
open Go Go.RowKit
def w0j (E:Env)(f:FuncId)(args:List J2)(T:TypeId)(sz n:Nat)(xs:List J2):Prop :=
 ∀ (ok:Nat→Prop) (w:World) (vals:List Value),E.G w→K5 ok (hp w) args vals →
  Calls E.P f vals.toArray w fun e w'=>∃ (b cap:Nat) (c:Array Value),e = .returned (.slice (some ⟨b,0,none⟩) n cap)∧n≤cap∧w.heap.size≤b∧hp w' b=some (.cells c T (0,0))∧cap*sz≤c.size∧xs.length=n*sz ∧
   (∀ (i:Nat) (x:J2),xs[i]? = some x→∃ u:Value,c[i]? = some u∧u.oneCell'=true∧Rel (fun a=>(ok a∨w.heap.size≤a)∧a≠b) (hp w') x u)∧Below w.heap.size w w'
theorem p0b {E:Env}{f:FuncId}{fn:Func}{c:Code}{args xs:List J2}{t k tot n sz m:Nat}{T:TypeId}(hf:E.P.funcs[f]? = some fn)(hb:fn.body=some c)(hn:fn.ntmps=m)(hr:fn.results = #[.tmp t])(hle:args.length≤m)
  (h:∀ F:Fr,E.G F.w0→(∀ b,¬ F.X b)→F.nt=m→F.df=[]→(∀ k,Nat.blt k 1000=true→F.pin k=none)→l4 E.P F c ⟨f9 0 args,[]⟩ (fun e S=>(e = .normal∨e = .ret)∧S.slot t=some (.ref k 0 n tot)∧∃ ys,S.blk k=some ⟨T,sz,.pure ys⟩∧ys.length=tot∧ys.take (n*sz)=xs∧xs.length=n*sz)):w0j E f args T sz n xs:=by
 intro ok w vals hG hrel
 have hvl:=hrel.length
 let F:Fr:=⟨w,ok,fun _=>False,m,[],fun _=>none,none,fun _ _=>False,fun k=>Nat.blt k 1000⟩
 have hS:Sat F ⟨f9 0 args,[]⟩ { tmps:=vals.toArray++Array.replicate (fn.ntmps - vals.toArray.size) undef,defers:=[] } w:=by
  refine ⟨fun _=>0,⟨fun t v ht=>?_,fun k B hB=>by simp [St.blk] at hB,fun k k' hk=>by simp [St.blk] at hk,⟨rfl,rfl,rfl,Nat.le_refl _,fun _ _ _=>rfl⟩,?_,g0z.nil rfl,fun j b n hj=>by cases hj⟩⟩
  ·obtain ⟨j,x,rfl,hx,rfl⟩:=g0p ht
   obtain ⟨u,hu,hru⟩:=hrel.get hx
   refine ⟨u,?_,?_⟩
   ·rw [F1,Array.getElem?_append_left (by have:=(i1.1 hu).1; simpa using this)]
    simpa using hu
   ·simp only [K2]
    exact Rel.mono (fun b hb _=>⟨⟨.inl hb,fun k hk=>by simp [St.blk] at hk⟩,rfl⟩) _ _ hru
  ·simp [F,hn]; omega
 refine Y8 hf hb rfl rfl (fun _ _ h=>h) hS (h F hG (fun _ h=>h) rfl rfl (fun _ _=>rfl)) fun e S' hq=>⟨hq.1,fun ρ tmps w' hS'=>?_⟩
 obtain ⟨-,hs,ys,hB,hyl,hyx,hxl⟩:=hq
 obtain ⟨cap,cc,e1,e2,e3,e4⟩:=o9 hS' (x:=.tmp t) (off:=0) (n:=n) (by simpa [St.opd] using hs) hB (by simpa [Cells.len] using hyl)
 obtain ⟨c',g1,g2,g3,g4⟩:=hS'.blks k _ hB
 rw [e3] at g1
 injection g1 with g1
 injection g1 with g1
 subst g1
 have hbn:F.w0.heap.size≤ρ k:=by
  rcases g2 with g2 | g2
  ·exact g2.1.elim
  ·exact g2
 have hv:(results fn tmps).run E.P w' = .ok (.slice (some ⟨ρ k,0,none⟩) n cap) w':=by
  simp only [Act.eval] at e1
  have e:results fn tmps=(do let vs ← [ResultVar.tmp t].toArray.mapM (d8 tmps); pure (if h:vs.size=1 then vs[0] else .tuple vs)):=by
   unfold results
   rw [hr]
   rfl
  have hm:([ResultVar.tmp t].toArray.mapM (d8 tmps)).run E.P w' = .ok #[.slice (some ⟨ρ k,0,none⟩) n cap] w':=by
   rw [List.mapM_toArray]
   simp [List.mapM_cons,d8,e1]
  rw [e]
  simp only [Sem.run_bind,hm,Result.andThen_ok,Sem.run_pure]
  rfl
 have hfin : ∃ (b cap' : Nat) (c : Array Value), Ending.returned (.slice (some ⟨ρ k, 0, none⟩) n cap) = .returned (.slice (some ⟨b, 0, none⟩) n cap') ∧ n ≤ cap' ∧ w.heap.size ≤ b ∧ hp w' b = some (.cells c T (0, 0)) ∧ cap' * sz ≤ c.size ∧ xs.length = n * sz ∧
   (∀ (i:Nat) (x:J2),xs[i]? = some x→∃ u:Value,c[i]? = some u∧u.oneCell'=true∧Rel (fun a=>(ok a∨w.heap.size≤a)∧a≠b) (hp w') x u)∧Below w.heap.size w w':=by
  refine ⟨ρ k,cap,cc,rfl,e2,hbn,e3,by simpa using e4,hxl,fun i x hx=>?_,⟨hS'.frame.os,hS'.frame.tape,hS'.frame.output,hS'.frame.size,fun k hk=>hS'.frame.block k hk (fun h=>h)⟩⟩
  rw [← hyx,List.getElem?_take] at hx
  split at hx
  ·obtain ⟨u,hu,ho,hru⟩:=g4 i (.p x) (by simp [Cells.get,hx])
   refine ⟨u,hu,ho,?_⟩
   simp only [K2] at hru
   exact Rel.mono (fun b hb _=>⟨⟨hb.1,hb.2 k (by simp [hB])⟩,rfl⟩) _ _ hru
  ·cases hx
 exact ⟨_,hv,hfin⟩
theorem V0k {E:Env}{F:Fr}(hG:E.G F.w0)(hX:∀ b,F.X b→E.ng≤b){d k:Nat}{f:FuncId}{os:List Operand}{xs ys:List J2}{T':TypeId}{sz n:Nat}{ts:Array TypeId}{T:TypeId}{pos:String}{aft:Array Edge}{g:Option (Nat×Bool)}
  (hcall:∀ args w,(callFunc f args).run E.P w = .ok (.enter f args) w) (hlen:os.length=xs.length) (hng:E.ng≤F.w0.heap.size) (hs:w0j E f xs T' sz n ys) (hpk:F.pin k=none) (hlt:d<F.nt) :
  O2 E.P F ⟨some d,.call ⟨.value (.func f),os.toArray,ts⟩,T,pos,aft,g⟩ ⟨os.zip (xs.map .p),[],some k,[(d,.ref k 0 n (n*sz))],[(k,⟨T',sz,.pure ys⟩)]⟩:=by
 intro S a w ⟨ρ,h⟩ hA Q K hK
 obtain ⟨hk,hf⟩:=hA.fresh k rfl
 have hrun:(execOp a.eval ⟨some d,.call ⟨.value (.func f),os.toArray,ts⟩,T,pos,aft,g⟩).run E.P w = .ok (.enter f (os.map a.eval).toArray) w:=by
  simp [execOp,resolve,Act.eval,Deferred.ofValue,invoke,hcall]
 unfold Oper.wp
 rw [hrun]
 simp only [Oper.upon]
 have hrel:K5 (okI F S.blk ρ) (hp w) xs (os.map a.eval):=K5.of (by simp [hlen]) fun i x hx=>by
  have hlt:i<os.length:=by rw [hlen]; exact (i1.1 hx).1
  have hm:(os[i],PV.p x)∈os.zip (xs.map .p):=by
   rw [List.mem_iff_getElem?]
   exact ⟨i,by rw [List.getElem?_zip_eq_some]; simp [hx,hlt]⟩
  have:=Z4 h (hA.rs _ hm)
  exact ⟨a.eval os[i],by simp [hlt],by simpa [K2] using this⟩
 have hGw:E.G w:=E.stab F.w0 w hG fun b hb=>h.frame.block b (by omega) (fun hx=>by have:=hX b hx; omega)
 refine Calls.mono (hs (okI F S.blk ρ) w _ hGw hrel) fun e w' ⟨b,cap,c,he,hcap,hbn,hH,hsz,hyl,hcs,hbl⟩=>?_
 subst he
 refine hK _ _ ?_
 let ρ':Nat→Nat:=fun j=>if j=k then b else ρ j
 let S':St:=⟨(d,.ref k 0 n (n*sz)) :: S.sl,(k,⟨T',sz,.pure ys⟩) :: S.hb⟩
 show Sat F S' _ w'
 have hbk:∀ j,S'.blk j=if j=k then some ⟨T',sz,.pure ys⟩ else S.blk j:=fun j=>by
  simp only [S',St.blk,i0]
  by_cases e:j=k
  ·simp [e]
  ·rw [show (j == k)=false by simpa using e]; simp [e]
 have hlt':∀ j,S.blk j≠none→ρ j<w.heap.size:=fun j hj=>by
  cases hB:S.blk j with
  | none=>exact absurd hB hj
  | some B'=>obtain ⟨c',e1,_⟩:=h.blks j B' hB; exact World.size_lt e1
 have hhp:∀ b,b<w.heap.size→hp w' b=hp w b:=fun b hb=>hbl.block b hb
 have hc:Carry (okI F S.blk ρ) (okI F S'.blk ρ') (hp w) (hp w'):=fun b' hb hne=>by
  have hbs:b'<w.heap.size:=by
   cases e:hp w b' with
   | none=>exact absurd e hne
   | some o=>exact World.size_lt e
  refine ⟨⟨hb.1,fun j hj=>?_⟩,hhp _ hbs⟩
  simp only [ρ']
  split
  ·omega
  ·rename_i e
   rw [hbk,if_neg e] at hj
   exact hb.2 j hj
 have hkp:b0q (fun j=>j≠k) S.blk S'.blk ρ ρ' (hp w) (hp w'):=fun j hj B' hB'=>by
  rw [hbk,if_neg hj] at hB'
  exact ⟨B',hB',rfl,Nat.le_refl _,fun _=>⟨if_neg hj,fun c T fr hc'=>⟨c,T,fr,by rw [hhp _ (World.size_lt hc')]; exact hc',rfl⟩⟩⟩
 refine ⟨ρ',h.upd (Kp:=fun j=>j≠k) ⟨hbl.os.trans h.frame.os,hbl.tape.trans h.frame.tape,hbl.output.trans h.frame.output,Nat.le_trans h.frame.size hbl.size,fun b hb hx=>(hbl.block b (Nat.lt_of_lt_of_le hb h.frame.size)).trans (h.frame.block b hb hx)⟩ (by simp [Act.put,h.nt]) rfl hc hkp (fun j j' hj hj' he=>?_) (fun j b' m hj hS=>?_) (fun t v ht=>?_) (fun j B hB=>?_)⟩
 ·simp only [ρ'] at he
  rw [hbk] at hj hj'
  by_cases e1:j=k <;> by_cases e2:j'=k
  ·rw [e1,e2]
  ·rw [if_pos e1,if_neg e2] at he
   rw [if_neg e2] at hj'
   have:=hlt' j' hj'; omega
  ·rw [if_neg e1,if_pos e2] at he
   rw [if_neg e1] at hj
   have:=hlt' j hj; omega
  ·rw [if_neg e1,if_neg e2] at he
   rw [if_neg e1] at hj
   rw [if_neg e2] at hj'
   exact h.inj j j' hj hj' he
 ·have hjk:j≠k:=fun e=>by subst e; rw [hpk] at hj; cases hj
  rw [hbk,if_neg hjk] at hS
  exact ⟨hS,if_neg hjk,fun c T hc'=>⟨c,T,by rw [hhp _ (World.size_lt hc')]; exact hc',rfl⟩⟩
 ·rw [b0w (by rw [h.nt]; exact hlt)]
  simp only [S',St.slot,i0] at ht
  by_cases ed:t=d
  ·subst ed
   simp only [BEq.rfl,U0] at ht
   subst ht
   refine .inr ⟨_,by simp; rfl,?_⟩
   exact b0x (B:=⟨T',sz,.pure ys⟩) (by rw [hbk,if_pos rfl]) (by simp [ρ']) (by simpa [Cells.len] using hyl) hcap hH (by simpa using hsz)
  ·rw [show (t == d)=false by simpa using ed] at ht
   refine .inl ⟨ht,by rw [if_neg ed],fun j hj e=>?_⟩
   subst e
   have:=St.free_slot hf ht
   rw [hj] at this; cases this
 ·rw [hbk] at hB
  by_cases e:j=k
  ·subst e
   rw [if_pos rfl] at hB
   injection hB with hB
   subst hB
   refine .inr ⟨c,by simp only [ρ',if_pos]; exact hH,.inr (by simp only [ρ',if_pos]; exact Nat.le_trans h.frame.size hbn),by simp only [Cells.len]; rw [hyl]; exact Nat.le_trans (V0 _ hcap) hsz,fun i x hx=>?_⟩
   simp only [Cells.get,M0] at hx
   obtain ⟨y,hy,rfl⟩:=hx
   obtain ⟨u,hu,ho,hr⟩:=hcs i y hy
   refine ⟨u,hu,ho,?_⟩
   simp only [K2]
   refine Rel.mono (fun b' hb' _=>⟨?_,rfl⟩) _ _ hr
   have hne:∀ q,S'.blk q≠none→(q=j∨S.blk q≠none∧q≠j):=fun q hq=>by
    rw [hbk] at hq
    by_cases e:q=j
    ·exact .inl e
    ·rw [if_neg e] at hq; exact .inr ⟨hq,e⟩
   rcases hb'.1 with h1 | h1
   ·refine ⟨h1.1,fun q hq=>?_⟩
    rcases hne q hq with rfl | ⟨h3,h4⟩
    ·simp only [ρ',if_pos]; exact hb'.2
    ·simp only [ρ']; rw [if_neg h4]; exact h1.2 q h3
   ·refine ⟨.inr (Nat.le_trans h.frame.size h1),fun q hq=>?_⟩
    rcases hne q hq with rfl | ⟨h3,h4⟩
    ·simp only [ρ',if_pos]; exact hb'.2
    ·simp only [ρ']; rw [if_neg h4]; have:=hlt' q h3; omega
  ·rw [if_neg e] at hB
   refine .inl ⟨hB,if_neg e,hhp _ (hlt' j (by simp [hB])),fun i x hx q hq e2=>?_⟩
   subst e2
   have:=St.free_blk hf hB hx
   rw [hq] at this; cases this
end Go.Proofs.YtjagfionflbjbaaGreat.SH
namespace Go.Proofs.YtjagfionflbjbaaGreat.SH
open Go Go.RowKit
def y1b (E:Env)(f:FuncId)(args:List PV)(H H':List (Nat×Blk))(r:PV):Prop :=
 ∀ (ok:Nat→Prop) (ρ:Nat→Nat) (w:World) (vals:List Value),E.G w →
  (∀ j B,H.lookup j=some B→j0h (lk H) ρ ok (hp w) j B∧E.ng≤ρ j∧¬ ok (ρ j)) →
  (∀ j j',H.lookup j≠none→H.lookup j'≠none→ρ j=ρ j'→j=j')→D3 (lk H) ρ ok (hp w) args vals →
  Calls E.P f vals.toArray w fun e w'=>∃ v,e = .returned v∧K2 (lk H') ρ (fun b=>(ok b∨w.heap.size≤b)∧∀ j,H'.lookup j≠none→b≠ρ j) (hp w') r v ∧
   (∀ j B',H'.lookup j=some B'→j0h (lk H') ρ (fun b=>(ok b∨w.heap.size≤b)∧∀ j,H'.lookup j≠none→b≠ρ j) (hp w') j B' ∧
    ∀ c T,hp w (ρ j)=some (.cells c T (0,0))→∃ c' T',hp w' (ρ j)=some (.cells c' T' (0,0))∧c'.size=c.size) ∧
   w'.os=w.os∧w'.tape=w.tape∧w'.output=w.output∧w.heap.size≤w'.heap.size∧∀ b,b<w.heap.size→(∀ j,H.lookup j≠none→b≠ρ j)→w'.heap[b]? = w.heap[b]?
theorem B1n {E:Env}{f:FuncId}{fn:Func}{c:Code}{args:List PV}{H H':List (Nat×Blk)}{r:PV}{t0 n:Nat}(hf:E.P.funcs[f]? = some fn)(hb:fn.body=some c)(hn:fn.ntmps=n)(hr:fn.results = #[.tmp t0])(hle:args.length≤n)
  (hk:H.all (fun p=>decide (1000≤p.1))=true) (hk':∀ j B',H'.lookup j=some B'→∃ B,H.lookup j=some B)
  (h:∀ F:Fr,E.G F.w0→(∀ b,F.X b→E.ng≤b)→F.nt=n→F.df=[]→(∀ k,Nat.blt k 1000=true→F.pin k=none)→(∀ b,F.X b→∃ j n,F.pin j=some (b,n)∧H.lookup j≠none)→l4 E.P F c ⟨i3 0 args,H⟩ (fun e S=>(e = .normal∨e = .ret)∧S.slot t0=some r∧T5 S H')):y1b E f args H H' r:=by
 intro ok ρ w vals hG hH hinj hrel
 have hvl:=F5 hrel
 let F:Fr:=⟨w,ok,fun b=>∃ j,H.lookup j≠none∧b=ρ j,n,[],fun j=>if H.lookup j≠none then match hp w (ρ j) with | some (.cells c _ _)=>some (ρ j,c.size) | _=>none else none,none,fun _ _=>False,fun k=>Nat.blt k 1000⟩
 have hblk:∀ j,H.lookup j≠none→∃ B,H.lookup j=some B:=fun j hj=>by cases e:H.lookup j with
  | none=>exact absurd e hj
  | some B=>exact ⟨B,rfl⟩
 have hpin:∀ j B c,H.lookup j=some B→hp w (ρ j)=some (.cells c B.T (0,0))→F.pin j=some (ρ j,c.size):=fun j B c hj hc=>by
  simp only [F]
  rw [if_pos (by simp [hj]),hc]
 have hcarry:Carry ok (okI F (lk H) ρ) (hp w) (hp w):=fun b hb _=>⟨⟨.inl hb,fun k hk e=>by obtain ⟨B,hB⟩:=hblk k hk; exact (hH k B hB).2.2 (e ▸ hb)⟩,rfl⟩
 have hkeep:b0q (fun _=>True) (lk H) (lk H) ρ ρ (hp w) (hp w):=fun k _ B hB=>⟨B,hB,rfl,Nat.le_refl _,fun _=>⟨rfl,fun c T fr hc=>⟨c,T,fr,hc,rfl⟩⟩⟩
 have hS:b5 F ρ ⟨i3 0 args,H⟩ { tmps:=vals.toArray++Array.replicate (fn.ntmps - vals.toArray.size) undef,defers:=[] } w:=by
  refine ⟨fun t v ht=>?_,fun k B hB=>?_,hinj,⟨rfl,rfl,rfl,Nat.le_refl _,fun _ _ _=>rfl⟩,?_,g0z.nil rfl,fun j b m hj hS=>?_⟩
  ·obtain ⟨j,rfl,hx⟩:=e8 ht
   obtain ⟨u,hu,hru⟩:=L6 hrel hx
   refine ⟨u,?_,K2.mono hcarry hkeep v u (fun _ _=>trivial) hru⟩
   rw [F1,Array.getElem?_append_left (by have:=(i1.1 hu).1; simpa using this)]
   simpa using hu
  ·obtain ⟨⟨c,h1,h2,h3⟩,h4,h5⟩:=hH k B hB
   refine ⟨c,h1,.inl ⟨⟨k,by simp only [St.blk] at hB; simp [hB],rfl⟩,by cases e:Nat.blt k 1000 with | false=>exact e | true=>exact absurd hB (by simp [St.blk,d0a hk e])⟩,h2,fun i x hx=>?_⟩
   obtain ⟨u,hu,ho,hru⟩:=h3 i x hx
   exact ⟨u,hu,ho,K2.mono hcarry hkeep x u (fun _ _=>trivial) hru⟩
  ·simp [F,hn]; omega
  ·obtain ⟨B,hB⟩:=hblk j hS
   obtain ⟨⟨c,h1,_⟩,_⟩:=hH j B hB
   rw [hpin j B c hB h1] at hj
   injection hj with hj
   injection hj with hj1 hj2
   subst hj1 hj2
   exact ⟨rfl,c,B.T,h1,rfl⟩
 refine Y8 hf hb rfl rfl (fun _ _ h=>h) ⟨ρ,hS⟩ (h F hG (fun b ⟨j,hj,e⟩=>by obtain ⟨B,hB⟩:=hblk j hj; subst e; exact (hH j B hB).2.1) rfl rfl (fun k hk2=>by simp only [F]; rw [if_neg (by simp [d0a hk hk2])]) (fun b ⟨j,hj,e⟩=>by obtain ⟨B,hB⟩:=hblk j hj; obtain ⟨⟨c,h1,_⟩,_⟩:=hH j B hB; subst e; exact ⟨j,_,hpin j B c hB h1,hj⟩)) fun e S' hq=>⟨hq.1,fun ρ' tmps w' hS'=>?_⟩
 obtain ⟨-,hres,hHB⟩:=hq
 obtain ⟨v,hu,hrv⟩:=hS'.slots t0 r hres
 have hv:(results fn tmps).run E.P w' = .ok v w':=by
  have e:results fn tmps=(do let vs ← [ResultVar.tmp t0].toArray.mapM (d8 tmps); pure (if h:vs.size=1 then vs[0] else .tuple vs)):=by
   unfold results
   rw [hr]
   rfl
  have hm:([ResultVar.tmp t0].toArray.mapM (d8 tmps)).run E.P w' = .ok #[v] w':=by
   rw [List.mapM_toArray]
   simp [List.mapM_cons,d8,Array.getD_eq_getD_getElem?,hu]
  rw [e]
  simp only [Sem.run_bind,hm,Result.andThen_ok,Sem.run_pure]
  rfl
 have hpin':∀ j B',H'.lookup j=some B'→ρ' j=ρ j∧S'.blk j=some B'∧∀ c T,hp w (ρ j)=some (.cells c T (0,0))→∃ c' T',hp w' (ρ j)=some (.cells c' T' (0,0))∧c'.size=c.size:=fun j B' hj=>by
  have hsb:=hHB.all j B' hj
  obtain ⟨B,hB⟩:=hk' j B' hj
  obtain ⟨⟨c,h1,_⟩,_⟩:=hH j B hB
  obtain ⟨e1,c',T',e2,e3⟩:=hS'.pin j _ _ (hpin j B c hB h1) (by simp [hsb])
  refine ⟨e1,hsb,fun c2 T2 hc2=>⟨c',T',e2,?_⟩⟩
  rw [h1] at hc2
  injection hc2 with hc2
  injection hc2 with hc2
  rw [e3,hc2]
 have hcar:Carry (okI F S'.blk ρ') (fun b=>(ok b∨w.heap.size≤b)∧∀ j,H'.lookup j≠none→b≠ρ j) (hp w') (hp w'):=fun b hb _=>⟨⟨hb.1,fun j hj e=>by
  cases hj':H'.lookup j with
  | none=>exact hj hj'
  | some B' =>
   obtain ⟨e1,e2,_⟩:=hpin' j B' hj'
   exact hb.2 j (by simp [e2]) (by rw [e1]; exact e)⟩,rfl⟩
 have hfin : ∃ v0, Ending.returned v = .returned v0 ∧ K2 (lk H') ρ (fun b => (ok b ∨ w.heap.size ≤ b) ∧ ∀ j, H'.lookup j ≠ none → b ≠ ρ j) (hp w') r v0 ∧
   (∀ j B',H'.lookup j=some B'→j0h (lk H') ρ (fun b=>(ok b∨w.heap.size≤b)∧∀ j,H'.lookup j≠none→b≠ρ j) (hp w') j B' ∧
    ∀ c T,hp w (ρ j)=some (.cells c T (0,0))→∃ c' T',hp w' (ρ j)=some (.cells c' T' (0,0))∧c'.size=c.size) ∧
   w'.os=w.os∧w'.tape=w.tape∧w'.output=w.output∧w.heap.size≤w'.heap.size∧∀ b,b<w.heap.size→(∀ j,H.lookup j≠none→b≠ρ j)→w'.heap[b]? = w.heap[b]?:=by
  refine ⟨v,rfl,K2.mono (K:=fun _=>True) hcar (fun k _ B hB=>by obtain ⟨g1,g2,_⟩:=hpin' k B hB; exact ⟨B,g2,rfl,Nat.le_refl _,fun _=>⟨g1.symm,fun c T fr hc=>⟨c,T,fr,hc,rfl⟩⟩⟩) r v (fun _ _=>trivial) hrv,fun j B' hj=>?_,hS'.frame.os,hS'.frame.tape,hS'.frame.output,hS'.frame.size,fun b hb hx=>hS'.frame.block b hb (fun ⟨j,hj,e⟩=>hx j hj e)⟩
  obtain ⟨e1,e2,e3⟩:=hpin' j B' hj
  obtain ⟨c',f1,_,f3,f4⟩:=hS'.blks j B' e2
  refine ⟨⟨c',by rw [← e1]; exact f1,f3,fun i x hx=>?_⟩,e3⟩
  obtain ⟨u,hu,ho,hru⟩:=f4 i x hx
  refine ⟨u,hu,ho,K2.mono (K:=fun _=>True) hcar (fun k _ B hB=>?_) x u (fun _ _=>trivial) hru⟩
  obtain ⟨g1,g2,_⟩:=hpin' k B hB
  exact ⟨B,g2,rfl,Nat.le_refl _,fun _=>⟨g1.symm,fun c T fr hc=>⟨c,T,fr,hc,rfl⟩⟩⟩
 exact ⟨v,hv,hfin⟩
theorem List.map_map_fst {κ:Nat→Nat}{H H':List (Nat×Blk)}(h:H'.map (·.1)=H.map (·.1)):(H.map fun p=>κ p.1)=(H'.map fun p=>κ p.1):=by
 have e:∀ l:List (Nat×Blk),(l.map fun p=>κ p.1)=(l.map (·.1)).map κ:=fun l=>by simp
 rw [e,e,h]
theorem V1m {E:Env}{F:Fr}(hG:E.G F.w0)(hX:∀ b,F.X b→E.ng≤b){d:Nat}{f:FuncId}{o:Oper}{rs:List (Operand×PV)}{xs:List PV}{H H':List (Nat×Blk)}{k0 o0 n0 t0:Nat}(ks:List Nat)(hng:E.ng≤F.w0.heap.size)(hs:y1b E f xs H H' (.ref k0 o0 n0 t0))(hk0:(H'.lookup k0).isSome=true)(hd:o.dst=some d)
  (hargs:∀ ρ S a w,b5 F ρ S a w→(∀ p∈rs,S.opd p.1=some p.2)→∃ vals:List Value,(execOp a.eval o).run E.P w = .ok (.enter f vals.toArray) w∧D3 S.blk ρ (okI F S.blk ρ) (hp w) (xs.map (PV.ren fun j=>ks.getD (j - 1000) 0)) vals)
  (hn:Y9 (H.map fun p=>ks.getD (p.1 - 1000) 0)=true) (hn2:Y9 (H'.map (·.1))=true) (hn3:Y9 (H.map (·.1))=true) (hk:H'.map (·.1)=H.map (·.1)) (hsame:∀ j B B',H.lookup j=some B→H'.lookup j=some B'→B'.T=B.T∧B'.sz=B.sz∧B'.cs.len=B.cs.len) (hdata0:H.all (fun p=>p.2.cs.data)=true) (hdata:H'.all (fun p=>p.2.cs.data)=true) (hlt:d<F.nt) :
  O2 E.P F o ⟨rs,H.map (fun p=>(ks.getD (p.1 - 1000) 0,p.2)),none,[(d,.ref (ks.getD (k0 - 1000) 0) o0 n0 t0)],H'.map (fun p=>(ks.getD (p.1 - 1000) 0,p.2))⟩:=by
 intro S a w ⟨ρ,h⟩ hA Q K hK
 let κ:Nat→Nat:=fun j=>ks.getD (j - 1000) 0
 obtain ⟨vals,hrun,hvals⟩:=hargs ρ S a w h hA.rs
 unfold Oper.wp
 rw [hrun]
 simp only [Oper.upon]
 have hne:∀ k,S.blk k≠none→ρ k<w.heap.size:=fun k hk=>by
  cases hB:S.blk k with
  | none=>exact absurd hB hk
  | some B=>obtain ⟨c,e1,_⟩:=h.blks k B hB; exact World.size_lt e1
 have hmemH:∀ j B,H.lookup j=some B→(j,B)∈H:=fun j B hj=>by
  have:∀ l:List (Nat×Blk),l.lookup j=some B→(j,B)∈l:=by
   intro l
   induction l with
   | nil=>simp
   | cons p l ih =>
    obtain ⟨s,u⟩:=p
    intro h
    rw [i0] at h
    split at h
    ·rename_i e; injection h with h; subst h; simp [beq_iff_eq.1 e]
    ·simp [ih h]
  exact this H hj
 have hSH:∀ j B,H.lookup j=some B→S.blk (κ j)=some B:=fun j B hj=>hA.rb (κ j,B) (G0.2 ⟨(j,B),hmemH j B hj,rfl⟩)
 have hrel:D3 (lk H) (fun j=>ρ (κ j)) (okI F S.blk ρ) (hp w) xs vals:=b0c (κ:=κ) hSH xs _ (by rw [d0z]; exact hvals)
 have hGw:E.G w:=E.stab F.w0 w hG fun b hb=>h.frame.block b (by omega) (fun hx=>by have:=hX b hx; omega)
 have hpre:∀ j B,H.lookup j=some B→j0h (lk H) (fun j=>ρ (κ j)) (okI F S.blk ρ) (hp w) j B∧E.ng≤ρ (κ j)∧¬ okI F S.blk ρ (ρ (κ j)):=fun j B hj=>by
  have hB:=hSH j B hj
  obtain ⟨c,e1,e2,e3,e4⟩:=h.blks (κ j) B hB
  refine ⟨⟨c,e1,e3,fun i x hx=>?_⟩,?_,fun hok=>hok.2 (κ j) (by simp [hB]) rfl⟩
  ·rw [s0] at hdata0
   obtain ⟨y,rfl⟩:=Cells.data_get (hdata0 _ (hmemH j B hj)) hx
   obtain ⟨u,hu,ho,hru⟩:=e4 i _ hx
   exact ⟨u,hu,ho,by simpa only [K2] using hru⟩
  ·rcases e2 with e2 | e2
   ·exact hX _ e2.1
   ·omega
 refine Calls.mono (hs (okI F S.blk ρ) (fun j=>ρ (κ j)) w _ hGw hpre (fun j j' hj hj' e=>?_) hrel) fun e w' ⟨vr,he,hrv,hHB,ho,ht,hou,hsz,hfr⟩=>?_
 ·have : ∀ i, H.lookup i ≠ none → S.blk (κ i) ≠ none := fun i hi => by
   cases hB:H.lookup i with
   | none=>exact absurd hB hi
   | some B=>rw [hSH i B hB]; simp
  exact g0q (κ:=κ) hn j j' hj hj' (h.inj _ _ (this j hj) (this j' hj') e)
 subst he
 let S':St:=⟨(d,.ref (ks.getD (k0 - 1000) 0) o0 n0 t0) :: S.sl,H'.map (fun p=>(κ p.1,p.2))++S.hb⟩
 have happ:S.app ⟨rs,H.map (fun p=>(ks.getD (p.1 - 1000) 0,p.2)),none,[(d,.ref (ks.getD (k0 - 1000) 0) o0 n0 t0)],H'.map (fun p=>(ks.getD (p.1 - 1000) 0,p.2))⟩=S':=rfl
 have hmemH':∀ j B,(j,B)∈H'→H'.lookup j=some B:=fun j B hj=>d0s hn2 hj
 have hkeys:∀ j,H'.lookup j≠none↔H.lookup j≠none:=fun j=>by
  have:∀ l:List (Nat×Blk),l.lookup j≠none↔j∈l.map (·.1):=by
   intro l
   induction l with
   | nil=>simp
   | cons p l ih =>
    obtain ⟨s,u⟩:=p
    rw [i0]
    by_cases e:j=s
    ·simp [e]
    ·rw [show (j == s)=false by simpa using e]
     simp only [R0,List.mem_cons,e,false_or]
     exact ih
  rw [this,this,hk]
 have hsome:∀ {l:List (Nat×Blk)} {j},l.lookup j≠none→∃ B,l.lookup j=some B:=fun {l j} hj=>by
  cases e:l.lookup j with
  | none=>exact absurd e hj
  | some B=>exact ⟨B,rfl⟩
 have hS'blk:∀ k B,S'.blk k=some B→(∃ j,κ j=k∧H'.lookup j=some B)∨(S.blk k=some B∧∀ j,H'.lookup j≠none→κ j≠k):=fun k B hB=>by
  simp only [S',St.blk,T1] at hB
  cases hl:(H'.map fun p=>(κ p.1,p.2)).lookup k with
  | some C =>
   rw [hl,K0] at hB
   injection hB with hB
   subst hB
   obtain ⟨j,h1,h2⟩:=T9 hl
   exact .inl ⟨j,h1,hmemH' j _ h2⟩
  | none =>
   rw [hl,l0] at hB
   refine .inr ⟨hB,fun j hj e=>?_⟩
   obtain ⟨C,hC⟩:=hsome hj
   have hmem:(j,C)∈H':=by
    have:∀ l:List (Nat×Blk),l.lookup j=some C→(j,C)∈l:=by
     intro l
     induction l with
     | nil=>simp
     | cons p l ih =>
      obtain ⟨s,u⟩:=p
      intro h
      rw [i0] at h
      split at h
      ·rename_i e; injection h with h; subst h; simp [beq_iff_eq.1 e]
      ·simp [ih h]
    exact this H' hC
   have:(H'.map fun p=>(κ p.1,p.2)).lookup k≠none:=by
    have gen:∀ l:List (Nat×Blk),(j,C)∈l→(l.map fun p=>(κ p.1,p.2)).lookup k≠none:=by
     intro l
     induction l with
     | nil=>simp
     | cons p l ih =>
      intro hm
      simp only [R0,i0]
      split
      ·simp
      ·rename_i e'
       rcases List.mem_cons.1 hm with hm | hm
       ·subst hm; simp [e] at e'
       ·exact ih hm
    exact gen H' hmem
   exact this hl
 have hown:∀ k,S'.blk k≠none→S.blk k≠none:=fun k hk'=>by
  obtain ⟨B,hB⟩:∃ B,S'.blk k=some B:=by cases e:S'.blk k with
   | none=>exact absurd e hk'
   | some B=>exact ⟨B,rfl⟩
  rcases hS'blk k B hB with ⟨j,rfl,hj⟩ | ⟨hB',_⟩
  ·obtain ⟨C,hC⟩:=hsome ((hkeys j).1 (by simp [hj]))
   rw [hSH j C hC]; simp
  ·simp [hB']
 have hsizes:∀ j,H'.lookup j≠none→∀ c T,hp w (ρ (κ j))=some (.cells c T (0,0))→∃ c' T',hp w' (ρ (κ j))=some (.cells c' T' (0,0))∧c'.size=c.size:=fun j hj=>by
  obtain ⟨B',hB'⟩:=hsome hj
  exact (hHB j B' hB').2
 have hother:∀ k B,S.blk k=some B→(∀ j,H'.lookup j≠none→κ j≠k)→hp w' (ρ k)=hp w (ρ k):=fun k B hB hno=>by
  refine hfr (ρ k) (hne k (by simp [hB])) fun j hj e=>?_
  obtain ⟨C,hC⟩:=hsome hj
  exact hno j ((hkeys j).2 hj) (h.inj _ _ (by rw [hSH j C hC]; simp) (by simp [hB]) e.symm)
 have hcar:Carry (okI F S.blk ρ) (okI F S'.blk ρ) (hp w) (hp w'):=fun b hb hne'=>by
  refine ⟨⟨hb.1,fun k hk'=>hb.2 k (hown k hk')⟩,?_⟩
  have hbs:b<w.heap.size:=by
   cases e:hp w b with
   | none=>exact absurd e hne'
   | some o=>exact World.size_lt e
  exact hfr b hbs fun j hj e=>by
   obtain ⟨C,hC⟩:=hsome hj
   exact hb.2 (κ j) (by rw [hSH j C hC]; simp) e
 have hcar2:Carry (fun b=>(okI F S.blk ρ b∨w.heap.size≤b)∧∀ j,H'.lookup j≠none→b≠ρ (κ j)) (okI F S'.blk ρ) (hp w') (hp w'):=fun b hb _=>by
  refine ⟨?_,rfl⟩
  rcases hb.1 with hb1 | hb1
  ·exact ⟨hb1.1,fun k hk'=>hb1.2 k (hown k hk')⟩
  ·exact ⟨.inr (Nat.le_trans h.frame.size hb1),fun k hk'=>by have:=hne k (hown k hk'); omega⟩
 show K (a.put o.dst vr) w'
 refine hK _ _ ?_
 rw [happ]
 refine ⟨ρ,h.upd (S':=S') (Kp:=fun _=>True) ⟨ho.trans h.frame.os,ht.trans h.frame.tape,hou.trans h.frame.output,Nat.le_trans h.frame.size hsz,fun b hb hx=>?_⟩ (by simp [hd,Act.put,h.nt]) (by simp [hd,Act.put]) hcar (fun k _ B' hB'=>?_)
  (fun k k' h1 h2 e=>h.inj k k' (hown k h1) (hown k' h2) e) (fun j b n hj hS=>⟨hown j hS,rfl,fun c T hc=>?_⟩) (fun t v ht=>?_) (fun k B' hB'=>?_)⟩
 ·rw [hfr b (Nat.lt_of_lt_of_le hb h.frame.size) fun j hj e=>?_]
  ·exact h.frame.block b hb hx
  ·obtain ⟨C,hC⟩:=hsome hj
   obtain ⟨_,_,e2,_⟩:=h.blks (κ j) C (hSH j C hC)
   subst e
   rcases e2 with e2 | e2
   ·exact hx e2.1
   ·omega
 ·rcases hS'blk k B' hB' with ⟨j,rfl,hj⟩ | ⟨hB,hno⟩
  ·obtain ⟨C,hC⟩:=hsome ((hkeys j).1 (by simp [hj]))
   obtain ⟨t1,t2,t3⟩:=hsame j C B' hC hj
   refine ⟨C,hSH j C hC,t2,by omega,fun _=>⟨rfl,fun c T fr hc=>?_⟩⟩
   obtain ⟨c0,e1,_⟩:=h.blks (κ j) C (hSH j C hC)
   have hc':=hc
   rw [e1] at hc'
   injection hc' with hc'
   injection hc' with h1 h2 h3
   subst h1
   obtain ⟨c',T',g1,g2⟩:=hsizes j (by simp [hj]) _ _ e1
   exact ⟨c',T',(0,0),g1,g2⟩
  ·exact ⟨B',hB,rfl,Nat.le_refl _,fun _=>⟨rfl,fun c T fr hc=>⟨c,T,fr,by rw [hother k B' hB hno]; exact hc,rfl⟩⟩⟩
 ·obtain ⟨B', hB'⟩ : ∃ B, S'.blk j = some B := by cases e : S'.blk j with
   | none=>exact absurd e hS
   | some B=>exact ⟨B,rfl⟩
  rcases hS'blk j B' hB' with ⟨i,rfl,hi⟩ | ⟨hB,hno⟩
  ·exact hsizes i (by simp [hi]) c T hc
  ·exact ⟨c,T,by rw [hother j B' hB hno]; exact hc,rfl⟩
 ·rw [hd,b0w (by rw [h.nt]; exact hlt)]
  simp only [S',St.slot,i0] at ht
  by_cases ed:t=d
  ·subst ed
   simp only [BEq.rfl,U0] at ht
   subst ht
   refine .inr ⟨vr,by simp,?_⟩
   simp only [K2] at hrv ⊢
   refine ⟨hrv.1,fun B hB=>?_⟩
   obtain ⟨B',hB'⟩:=Option.isSome_iff_exists.1 hk0
   rcases hS'blk _ B hB with ⟨j,e1,hj⟩ | ⟨_,hno⟩
   ·have hjk:j=k0:=g0q (κ:=κ) (H:=H') (by rw [← List.map_map_fst hk]; exact hn) j k0 (by simp [hj]) (by simp [hB']) e1
    subst hjk
    exact hrv.2 B hj
   ·exact absurd rfl (hno k0 (by simp [hB']))
  ·rw [show (t == d)=false by simpa using ed] at ht
   exact .inl ⟨ht,by rw [if_neg ed],fun _ _=>trivial⟩
 ·rcases hS'blk k B' hB' with ⟨j,rfl,hj⟩ | ⟨hB,hno⟩
  ·obtain ⟨⟨c,f1,f2,f3⟩,_⟩:=hHB j B' hj
   obtain ⟨C,hC⟩:=hsome ((hkeys j).1 (by simp [hj]))
   obtain ⟨_,_,e2,_⟩:=h.blks (κ j) C (hSH j C hC)
   refine .inr ⟨c,f1,e2,f2,fun i x hx=>?_⟩
   obtain ⟨u,hu,ho',hru⟩:=f3 i x hx
   rw [s0] at hdata
   have hmem:(j,B')∈H':=by
    have:∀ l:List (Nat×Blk),l.lookup j=some B'→(j,B')∈l:=by
     intro l
     induction l with
     | nil=>simp
     | cons p l ih =>
      obtain ⟨s,u⟩:=p
      intro h
      rw [i0] at h
      split at h
      ·rename_i e; injection h with h; subst h; simp [beq_iff_eq.1 e]
      ·simp [ih h]
    exact this H' hj
   obtain ⟨y,rfl⟩:=Cells.data_get (hdata _ hmem) hx
   exact ⟨u,hu,ho',by simp only [K2] at hru ⊢; exact Rel.mono hcar2 _ _ hru⟩
  ·exact .inl ⟨hB,rfl,hother k B' hB hno,fun _ _ _ _ _=>trivial⟩
end Go.Proofs.YtjagfionflbjbaaGreat.SH
namespace Go.Proofs.YtjagfionflbjbaaGreat.SH
open Go
theorem t0:True:=trivial
theorem t1 {A0:Type}{a0:A0}:a0=a0∧True:=⟨rfl,trivial⟩
theorem t2 {A0 A1:Type}{a0:A0}{a1:A1}:a0=a0∧a1=a1∧True:=⟨rfl,rfl,trivial⟩
theorem t3 {A0 A1 A2:Type}{a0:A0}{a1:A1}{a2:A2}:a0=a0∧a1=a1∧a2=a2∧True:=⟨rfl,rfl,rfl,trivial⟩
theorem t4 {A0 A1 A2 A3:Type}{a0:A0}{a1:A1}{a2:A2}{a3:A3}:a0=a0∧a1=a1∧a2=a2∧a3=a3∧True:=⟨rfl,rfl,rfl,rfl,trivial⟩
theorem t5 {A0 A1 A2 A3 A4:Type}{a0:A0}{a1:A1}{a2:A2}{a3:A3}{a4:A4}:a0=a0∧a1=a1∧a2=a2∧a3=a3∧a4=a4∧True:=⟨rfl,rfl,rfl,rfl,rfl,trivial⟩
theorem t6 {A0 A1 A2 A3 A4 A5:Type}{a0:A0}{a1:A1}{a2:A2}{a3:A3}{a4:A4}{a5:A5}:a0=a0∧a1=a1∧a2=a2∧a3=a3∧a4=a4∧a5=a5∧True:=⟨rfl,rfl,rfl,rfl,rfl,rfl,trivial⟩
theorem t7 {A0 A1 A2 A3 A4 A5 A6:Type}{a0:A0}{a1:A1}{a2:A2}{a3:A3}{a4:A4}{a5:A5}{a6:A6}:a0=a0∧a1=a1∧a2=a2∧a3=a3∧a4=a4∧a5=a5∧a6=a6∧True:=⟨rfl,rfl,rfl,rfl,rfl,rfl,rfl,trivial⟩
theorem t8 {A0 A1 A2 A3 A4 A5 A6 A7:Type}{a0:A0}{a1:A1}{a2:A2}{a3:A3}{a4:A4}{a5:A5}{a6:A6}{a7:A7}:a0=a0∧a1=a1∧a2=a2∧a3=a3∧a4=a4∧a5=a5∧a6=a6∧a7=a7∧True:=⟨rfl,rfl,rfl,rfl,rfl,rfl,rfl,rfl,trivial⟩
theorem t9 {A0 A1 A2 A3 A4 A5 A6 A7 A8:Type}{a0:A0}{a1:A1}{a2:A2}{a3:A3}{a4:A4}{a5:A5}{a6:A6}{a7:A7}{a8:A8}:a0=a0∧a1=a1∧a2=a2∧a3=a3∧a4=a4∧a5=a5∧a6=a6∧a7=a7∧a8=a8∧True:=⟨rfl,rfl,rfl,rfl,rfl,rfl,rfl,rfl,rfl,trivial⟩
theorem t10 {A0 A1 A2 A3 A4 A5 A6 A7 A8 A9:Type}{a0:A0}{a1:A1}{a2:A2}{a3:A3}{a4:A4}{a5:A5}{a6:A6}{a7:A7}{a8:A8}{a9:A9}:a0=a0∧a1=a1∧a2=a2∧a3=a3∧a4=a4∧a5=a5∧a6=a6∧a7=a7∧a8=a8∧a9=a9∧True:=⟨rfl,rfl,rfl,rfl,rfl,rfl,rfl,rfl,rfl,rfl,trivial⟩
theorem t11 {A0 A1 A2 A3 A4 A5 A6 A7 A8 A9 A10:Type}{a0:A0}{a1:A1}{a2:A2}{a3:A3}{a4:A4}{a5:A5}{a6:A6}{a7:A7}{a8:A8}{a9:A9}{a10:A10}:a0=a0∧a1=a1∧a2=a2∧a3=a3∧a4=a4∧a5=a5∧a6=a6∧a7=a7∧a8=a8∧a9=a9∧a10=a10∧True:=⟨rfl,rfl,rfl,rfl,rfl,rfl,rfl,rfl,rfl,rfl,rfl,trivial⟩
theorem t12 {A0 A1 A2 A3 A4 A5 A6 A7 A8 A9 A10 A11:Type}{a0:A0}{a1:A1}{a2:A2}{a3:A3}{a4:A4}{a5:A5}{a6:A6}{a7:A7}{a8:A8}{a9:A9}{a10:A10}{a11:A11}:a0=a0∧a1=a1∧a2=a2∧a3=a3∧a4=a4∧a5=a5∧a6=a6∧a7=a7∧a8=a8∧a9=a9∧a10=a10∧a11=a11∧True:=⟨rfl,rfl,rfl,rfl,rfl,rfl,rfl,rfl,rfl,rfl,rfl,rfl,trivial⟩
theorem t13 {A0 A1 A2 A3 A4 A5 A6 A7 A8 A9 A10 A11 A12:Type}{a0:A0}{a1:A1}{a2:A2}{a3:A3}{a4:A4}{a5:A5}{a6:A6}{a7:A7}{a8:A8}{a9:A9}{a10:A10}{a11:A11}{a12:A12}:a0=a0∧a1=a1∧a2=a2∧a3=a3∧a4=a4∧a5=a5∧a6=a6∧a7=a7∧a8=a8∧a9=a9∧a10=a10∧a11=a11∧a12=a12∧True:=⟨rfl,rfl,rfl,rfl,rfl,rfl,rfl,rfl,rfl,rfl,rfl,rfl,rfl,trivial⟩
theorem t15 {A0 A1 A2 A3 A4 A5 A6 A7 A8 A9 A10 A11 A12 A13 A14:Type}{a0:A0}{a1:A1}{a2:A2}{a3:A3}{a4:A4}{a5:A5}{a6:A6}{a7:A7}{a8:A8}{a9:A9}{a10:A10}{a11:A11}{a12:A12}{a13:A13}{a14:A14}:a0=a0∧a1=a1∧a2=a2∧a3=a3∧a4=a4∧a5=a5∧a6=a6∧a7=a7∧a8=a8∧a9=a9∧a10=a10∧a11=a11∧a12=a12∧a13=a13∧a14=a14∧True:=⟨rfl,rfl,rfl,rfl,rfl,rfl,rfl,rfl,rfl,rfl,rfl,rfl,rfl,rfl,rfl,trivial⟩
theorem t16 {A0 A1 A2 A3 A4 A5 A6 A7 A8 A9 A10 A11 A12 A13 A14 A15:Type}{a0:A0}{a1:A1}{a2:A2}{a3:A3}{a4:A4}{a5:A5}{a6:A6}{a7:A7}{a8:A8}{a9:A9}{a10:A10}{a11:A11}{a12:A12}{a13:A13}{a14:A14}{a15:A15}:a0=a0∧a1=a1∧a2=a2∧a3=a3∧a4=a4∧a5=a5∧a6=a6∧a7=a7∧a8=a8∧a9=a9∧a10=a10∧a11=a11∧a12=a12∧a13=a13∧a14=a14∧a15=a15∧True:=⟨rfl,rfl,rfl,rfl,rfl,rfl,rfl,rfl,rfl,rfl,rfl,rfl,rfl,rfl,rfl,rfl,trivial⟩
theorem al2 {x0 x1:J2}:k0z [.p x0,.p x1] [x0,x1]:=(.cons (.cons .nil))
theorem pa2 {x0 x1:J2}:P6 (.p (.agg [x0,x1])) [.p x0,.p x1]:=.pagg al2
theorem al3 {x0 x1 x2:J2}:k0z [.p x0,.p x1,.p x2] [x0,x1,x2]:=(.cons (.cons (.cons .nil)))
theorem pa3 {x0 x1 x2:J2}:P6 (.p (.agg [x0,x1,x2])) [.p x0,.p x1,.p x2]:=.pagg al3
theorem al4 {x0 x1 x2 x3:J2}:k0z [.p x0,.p x1,.p x2,.p x3] [x0,x1,x2,x3]:=(.cons (.cons (.cons (.cons .nil))))
theorem pa4 {x0 x1 x2 x3:J2}:P6 (.p (.agg [x0,x1,x2,x3])) [.p x0,.p x1,.p x2,.p x3]:=.pagg al4
theorem pu1 {α:Type}{x0 n0:α}{r:List α}:q0m (x0 :: r) 0 [n0] (n0 :: r):=(.put .here)
theorem pu2 {α:Type}{x0 n0 x1 n1:α}{r:List α}:q0m (x0 :: x1 :: r) 0 [n0,n1] (n0 :: n1 :: r):=(.put (.put .here))
theorem pu4 {α:Type}{x0 n0 x1 n1 x2 n2 x3 n3:α}{r:List α}:q0m (x0 :: x1 :: x2 :: x3 :: r) 0 [n0,n1,n2,n3] (n0 :: n1 :: n2 :: n3 :: r):=(.put (.put (.put (.put .here))))
theorem xq {P:Program}{F:Fr}{c:Code}{S:St}{Q:Exit→St→Prop}(h:l4 P F c S Q):l4 P F c S Q:=h
theorem oR {p:Prop}(h:p:=by first | exact rfl | exact oi (by omega) rfl):p:=h
theorem rO {p:Prop}(h:p:=by first | exact rfl | omega):p:=h
theorem oF {p:Prop}(h:p:=by first | omega | rfl):p:=h
theorem sO {p:Prop}(h:p:=by simp; omega):p:=h
theorem oM {p:Prop}(h:p:=by omega):p:=h
theorem rX {p:Prop}(h:p:=by exact rfl):p:=h
theorem rF {p:Prop}(h:p:=by rfl):p:=h
theorem sM {p:Prop}(h:p:=by simp):p:=h
theorem dC {p:Prop}(h:p:=by decide):p:=h
theorem lti {F:Fr}{n:Nat}(h:F.nt=n):∀ {d},(k:Nat.blt d n=true:=by rfl)→d<F.nt:=fun {_} k=>ltn h _ k
section
variable {P:Program} {F:Fr} {ops:Array Oper} {sl:List (Nat×PV)} {hb:List (Nat×Blk)} {T:TypeId} {pos:String} {aft:Array Edge} {os:List Oper} {K:List Ann→St→Prop} {d:Nat} {x:Operand} {v:PV}
theorem mV (hl:d<F.nt)(h:St.opd ⟨sl,hb⟩ x=some v)(hn:y7 P F ops ⟨(d,v) :: sl,hb⟩ os fun As S'=>K (⟨[(x,v)],[],none,[(d,v)],[]⟩ :: As) S'):y7 P F ops ⟨sl,hb⟩ (⟨some d,.move x,T,pos,aft,none⟩ :: os) K:=sw (c_m hl) ⟨h,trivial⟩ trivial hn
theorem aV (hl:d<F.nt)(h:St.opd ⟨sl,hb⟩ x=some v)(hn:y7 P F ops ⟨(d,v) :: sl,hb⟩ os fun As S'=>K (⟨[(x,v)],[],none,[(d,v)],[]⟩ :: As) S'):y7 P F ops ⟨sl,hb⟩ (⟨some d,.assign x,T,pos,aft,none⟩ :: os) K:=sw (c_a hl) ⟨h,trivial⟩ trivial hn
theorem zn {S:St}{y:Code}{Q:Exit→St→Prop}(l:List (Nat×PV))(b:List (Nat×Blk))(h1:e7 S l)(h2:T5 S b)(hn:l4 P F y ⟨l,b⟩ Q):y7 P F ops S [] fun _ S1=>∃ sl hb,e7 S1 sl∧T5 S1 hb∧l4 P F y ⟨sl,hb⟩ Q:=O1 ⟨l,b,h1,h2,hn⟩
theorem gV {j g:Nat}{want b:Bool}(hj:((ops[j]?).bind (·.dst))=some g)(hbw:b=want)(hl:d<F.nt)(hgs:St.opd ⟨sl,hb⟩ (.tmp g)=some (.p (.a (.bool b))))(h:St.opd ⟨sl,hb⟩ x=some v)(hn:y7 P F ops ⟨(d,v) :: sl,hb⟩ os fun As S'=>K (⟨(.tmp g,.p (.a (.bool b))) :: [(x,v)],[],none,[(d,v)],[]⟩ :: As) S'):y7 P F ops ⟨sl,hb⟩ (⟨some d,.move x,T,pos,aft,some (j,want)⟩ :: os) K:=swg hj hbw (c_m hl) hgs ⟨h,trivial⟩ trivial hn
theorem lp2 {t:TypeId}{k off tot:Nat}{B:Blk}{x0 x1:J2}(hag:∀ w,(isAgg t).run P w = .ok true w)(hsz:∀ w,(sizeOf t).run P w = .ok 2 w)(hlt:d<F.nt)(h:St.opd ⟨sl,hb⟩ x=some (.at_ k off tot))(hB:St.blk ⟨sl,hb⟩ k=some B)(hn:y7 P F ops ⟨(d,.p (.agg [x0,x1])) :: sl,hb⟩ os fun As S'=>K (⟨[(x,.at_ k off tot)],[(k,B)],none,[(d,.p (.agg [x0,x1]))],[]⟩ :: As) S')(hl:B.cs.len=tot:=by rfl)(hv:B.cs.sub off 2=[.p x0,.p x1]:=by rfl):y7 P F ops ⟨sl,hb⟩ (⟨some d,.load t x,T,pos,aft,none⟩ :: os) K:=sw (l6 hag hsz hl (hv ▸ al2) rfl hlt) ⟨h,trivial⟩ ⟨hB,trivial⟩ hn
theorem lp4 {t:TypeId}{k off tot:Nat}{B:Blk}{x0 x1 x2 x3:J2}(hag:∀ w,(isAgg t).run P w = .ok true w)(hsz:∀ w,(sizeOf t).run P w = .ok 4 w)(hlt:d<F.nt)(h:St.opd ⟨sl,hb⟩ x=some (.at_ k off tot))(hB:St.blk ⟨sl,hb⟩ k=some B)(hn:y7 P F ops ⟨(d,.p (.agg [x0,x1,x2,x3])) :: sl,hb⟩ os fun As S'=>K (⟨[(x,.at_ k off tot)],[(k,B)],none,[(d,.p (.agg [x0,x1,x2,x3]))],[]⟩ :: As) S')(hl:B.cs.len=tot:=by rfl)(hv:B.cs.sub off 4=[.p x0,.p x1,.p x2,.p x3]:=by rfl):y7 P F ops ⟨sl,hb⟩ (⟨some d,.load t x,T,pos,aft,none⟩ :: os) K:=sw (l6 hag hsz hl (hv ▸ al4) rfl hlt) ⟨h,trivial⟩ ⟨hB,trivial⟩ hn
theorem cK {E:Env}{f:FuncId}{ops':Array Oper}{os':List Operand}{xs:List J2}{r:J2}{ts:Array TypeId}(hG:E.G F.w0)(hX:∀ b,F.X b→E.ng≤b)(hcall:∀ args w,(callFunc f args).run E.P w = .ok (.enter f args) w)(hng:E.ng≤F.w0.heap.size)(hs:Y2 E f xs r)(hlt:d<F.nt)(h1:v8 ⟨sl,hb⟩ (os'.zip (xs.map .p)))(hn:y7 E.P F ops' ⟨(d,.p r) :: sl,hb⟩ os fun As S'=>K (⟨os'.zip (xs.map .p),[],none,[(d,.p r)],[]⟩ :: As) S')(hlen:os'.length=xs.length:=by rfl):y7 E.P F ops' ⟨sl,hb⟩ (⟨some d,.call ⟨.value (.func f),os'.toArray,ts⟩,T,pos,aft,none⟩ :: os) K:=sw (c_c hG hX hcall hlen hng hs hlt) h1 trivial hn
end
end Go.Proofs.YtjagfionflbjbaaGreat.SH
