/- Part D of the proof: lemmas for the walks of the given functions. No statement of its own. -/
import Derived.RangeFuncSeq
import Derived.Laws.Cover3
import Derived.Test.YtjagfionflbjbaaGreatPC
set_option linter.unusedVariables false
set_option linter.unusedSimpArgs false
set_option linter.deprecated false
namespace Go.Proofs.YtjagfionflbjbaaGreat.SH
open Go Go.RowKit
mutual
theorem ren_of {β β0:Nat→Option Blk}{ρ:Nat→Nat}{ok:Nat→Prop}{Hp:Nat→Option Obj}{κ:Nat→Nat}(hH:∀ j B,β0 j=some B→∃ B',β (κ j)=some B'∧B'.sz=B.sz∧B'.cs.len=B.cs.len):∀ (x:PV) (v:Value),RelV β ρ ok Hp (x.ren κ) v→RelV β0 (fun j=>ρ (κ j)) ok Hp x v
  | .p x,v,h=>by simpa only [PV.ren,RelV] using h
  | .at_ k o t,v,h=>by
    simp only [PV.ren,RelV] at h ⊢
    intro B hB
    obtain ⟨B',h1,h2,h3⟩:=hH k B hB
    rw [← h3]; exact h B' h1
  | .im xs o,v,h=>by simpa only [PV.ren,RelV] using h
  | .ref k o n t,v,h=>by
    simp only [PV.ren,RelV] at h ⊢
    refine ⟨h.1,fun B hB=>?_⟩
    obtain ⟨B',h1,h2,h3⟩:=hH k B hB
    rw [← h3,← h2]; exact h.2 B' h1
  | .agg xs,v,h=>by
    simp only [PV.ren,RelV] at h ⊢
    obtain ⟨cs,h1,h2,h3⟩:=h
    exact ⟨cs,h1,renL_of hH xs cs h2,h3⟩
  | .tup xs,v,h=>by
    simp only [PV.ren,RelV] at h ⊢
    obtain ⟨cs,h1,h2⟩:=h
    exact ⟨cs,h1,renL_of hH xs cs h2⟩
  | .clo f a b,v,h=>by
    simp only [PV.ren,RelV] at h ⊢
    obtain ⟨fs,cs,h1,h2,h3⟩:=h
    exact ⟨fs,cs,h1,renL_of hH a fs h2,renL_of hH b cs h3⟩
  | .ifc t x,v,h=>by
    simp only [PV.ren,RelV] at h ⊢
    obtain ⟨y,h1,h2⟩:=h
    exact ⟨y,h1,ren_of hH x y h2⟩
  | .dead,_,_=>by simp [RelV]
theorem renL_of {β β0:Nat→Option Blk}{ρ:Nat→Nat}{ok:Nat→Prop}{Hp:Nat→Option Obj}{κ:Nat→Nat}(hH:∀ j B,β0 j=some B→∃ B',β (κ j)=some B'∧B'.sz=B.sz∧B'.cs.len=B.cs.len):∀ (xs:List PV) (vs:List Value),RelVL β ρ ok Hp (PV.renL κ xs) vs→RelVL β0 (fun j=>ρ (κ j)) ok Hp xs vs
  | [],v,h=>by simpa only [PV.renL,RelVL] using h
  | x :: xs,vs,h=>by
    simp only [PV.renL,RelVL] at h ⊢
    obtain ⟨v,r,h1,h2,h3⟩:=h
    exact ⟨v,r,h1,ren_of hH x v h2,renL_of hH xs r h3⟩
end
mutual
theorem ren_to {β β0:Nat→Option Blk}{ρ ρ0:Nat→Nat}{ok:Nat→Prop}{Hp:Nat→Option Obj}{κ:Nat→Nat}{K:Nat→Prop}(hH:∀ j,K j→∀ B',β (κ j)=some B'→∃ B,β0 j=some B∧B'.sz=B.sz∧B'.cs.len=B.cs.len∧ρ (κ j)=ρ0 j):∀ (x:PV) (v:Value),(∀ k,x.free k=false→K k)→RelV β0 ρ0 ok Hp x v→RelV β ρ ok Hp (x.ren κ) v
  | .p x,v,_,h=>by simpa only [PV.ren,RelV] using h
  | .at_ k o t,v,hf,h=>by
    simp only [PV.ren,RelV] at h ⊢
    intro B' hB'
    obtain ⟨B,h1,h2,h3,h4⟩:=hH k (hf k (by simp [PV.free])) B' hB'
    rw [h3,h4]; exact h B h1
  | .im xs o,v,_,h=>by simpa only [PV.ren,RelV] using h
  | .ref k o n t,v,hf,h=>by
    simp only [PV.ren,RelV] at h ⊢
    refine ⟨h.1,fun B' hB'=>?_⟩
    obtain ⟨B,h1,h2,h3,h4⟩:=hH k (hf k (by simp [PV.free])) B' hB'
    rw [h3,h4,h2]; exact h.2 B h1
  | .agg xs,v,hf,h=>by
    simp only [PV.ren,RelV] at h ⊢
    obtain ⟨cs,h1,h2,h3⟩:=h
    exact ⟨cs,h1,renL_to hH xs cs (fun k hk=>hf k (by simpa [PV.free] using hk)) h2,h3⟩
  | .tup xs,v,hf,h=>by
    simp only [PV.ren,RelV] at h ⊢
    obtain ⟨cs,h1,h2⟩:=h
    exact ⟨cs,h1,renL_to hH xs cs (fun k hk=>hf k (by simpa [PV.free] using hk)) h2⟩
  | .clo f a b,v,hf,h=>by
    simp only [PV.ren,RelV] at h ⊢
    obtain ⟨fs,cs,h1,h2,h3⟩:=h
    exact ⟨fs,cs,h1,renL_to hH a fs (fun k hk=>hf k (by simp [PV.free,hk])) h2,renL_to hH b cs (fun k hk=>hf k (by simp [PV.free,hk])) h3⟩
  | .ifc t x,v,hf,h=>by
    simp only [PV.ren,RelV] at h ⊢
    obtain ⟨y,h1,h2⟩:=h
    exact ⟨y,h1,ren_to hH x y (fun k hk=>hf k (by simpa [PV.free] using hk)) h2⟩
  | .dead,_,_,_=>by simp [PV.ren,RelV]
theorem renL_to {β β0:Nat→Option Blk}{ρ ρ0:Nat→Nat}{ok:Nat→Prop}{Hp:Nat→Option Obj}{κ:Nat→Nat}{K:Nat→Prop}(hH:∀ j,K j→∀ B',β (κ j)=some B'→∃ B,β0 j=some B∧B'.sz=B.sz∧B'.cs.len=B.cs.len∧ρ (κ j)=ρ0 j):∀ (xs:List PV) (vs:List Value),(∀ k,PV.freeL k xs=false→K k)→RelVL β0 ρ0 ok Hp xs vs→RelVL β ρ ok Hp (PV.renL κ xs) vs
  | [],v,_,h=>by simpa only [PV.renL,RelVL] using h
  | x :: xs,vs,hf,h=>by
    simp only [PV.renL,RelVL] at h ⊢
    obtain ⟨v,r,h1,h2,h3⟩:=h
    exact ⟨v,r,h1,ren_to hH x v (fun k hk=>hf k (by simp [PV.freeL,hk])) h2,renL_to hH xs r (fun k hk=>hf k (by simp [PV.freeL,hk])) h3⟩
end
def okG (ok:Nat→Prop)(w:World)(H':List (Nat×Blk))(ρ':Nat→Nat)(b:Nat):Prop:=(ok b∨w.heap.size≤b)∧∀ j,H'.lookup j≠none→b≠ρ' j
structure GPost (E:Env) (st:Nat→Bool) (ok:Nat→Prop) (ρ:Nat→Nat) (w:World) (H H':List (Nat×Blk)) (r:PV) (v:Value) (ρ':Nat→Nat) (w':World):Prop where
  res:RelV (lk H') ρ' (okG ok w H' ρ') (hp w') r v
  blk:∀ j B',H'.lookup j=some B'→BlkAt (lk H') ρ' (okG ok w H' ρ') (hp w') j B'
  inj:∀ j j',H'.lookup j≠none→H'.lookup j'≠none→ρ' j=ρ' j'→j=j'
  old:∀ j,H'.lookup j≠none→H.lookup j≠none→(∃ i,H.lookup i≠none∧ρ' j=ρ i)∨w.heap.size≤ρ' j
  new:∀ j,H'.lookup j≠none→H.lookup j=none→w.heap.size≤ρ' j
  stay:∀ j,H'.lookup j≠none→H.lookup j≠none→st j=true→ρ' j=ρ j∧∀ c T,hp w (ρ j)=some (.cells c T (0,0))→∃ c' T',hp w' (ρ j)=some (.cells c' T' (0,0))∧c'.size=c.size
  os:w'.os=w.os
  tape:w'.tape=w.tape
  output:w'.output=w.output
  size:w.heap.size≤w'.heap.size
  frame:∀ b,b<w.heap.size→(∀ j,H.lookup j≠none→b≠ρ j)→w'.heap[b]? = w.heap[b]?
def SaysG (E:Env)(st:Nat→Bool)(f:FuncId)(args:List PV)(H H':List (Nat×Blk))(r:PV):Prop :=
  ∀ (ok:Nat→Prop) (ρ:Nat→Nat) (w:World) (vals:List Value),E.G w →
    (∀ j B,H.lookup j=some B→BlkAt (lk H) ρ ok (hp w) j B∧E.ng≤ρ j∧¬ ok (ρ j)) →
    (∀ j j',H.lookup j≠none→H.lookup j'≠none→ρ j=ρ j'→j=j')→RelVL (lk H) ρ ok (hp w) args vals →
    Calls E.P f vals.toArray w fun e w'=>∃ v ρ',e = .returned v∧GPost E st ok ρ w H H' r v ρ' w'
theorem lookup_some {l:List (Nat×Blk)}{j:Nat}(h:l.lookup j≠none):∃ B,l.lookup j=some B:=Option.ne_none_iff_exists'.1 h
structure GFr (E:Env) (st:Nat→Bool) (H:List (Nat×Blk)) (n:Nat) (F:Fr):Prop where
  g:E.G F.w0
  x:∀ b,F.X b→E.ng≤b
  nt:F.nt=n
  df:F.df=[]
  p0:∀ k,H.lookup k=none→F.pin k=none
  ps:∀ k,st k=false→F.pin k=none
  lo:∀ k,F.lo k=(H.lookup k).isNone
  ro:F.ro=none
theorem saysG_of0 {E : Env} {st : Nat → Bool} {f : FuncId} {fn : Func} {c : Code} {args : List PV} {H H' : List (Nat × Blk)} {r : PV} {n : Nat} {Q : Exit → St → Prop} (hf : E.P.funcs[f]? = some fn) (hb : fn.body = some c) (hn : fn.ntmps = n) (hle : args.length ≤ n)
    (hQ:∀ e S,Q e S→(e = .normal∨e = .ret)∧HasB S H'∧∀ F ρ tmps w',SatR F ρ S ⟨tmps,[]⟩ w'→∃ v,(results fn tmps).run E.P w' = .ok v w'∧RelV S.blk ρ (okI F S.blk ρ) (hp w') r v)
    (h:∀ F:Fr,GFr E st H n F→Exec E.P F c ⟨argSlotsV 0 args,H⟩ Q):SaysG E st f args H H' r:=by
  intro ok ρ w vals hG hH hinj hrel
  have hvl:=relVL_length hrel
  let F:Fr:=⟨w,ok,fun b=>∃ j,H.lookup j≠none∧b=ρ j,n,[],fun j=>if H.lookup j≠none∧st j=true then match hp w (ρ j) with | some (.cells c _ _)=>some (ρ j,c.size) | _=>none else none,none,fun _ _=>False,fun k=>(H.lookup k).isNone⟩
  have hpin:∀ j B c,st j=true→H.lookup j=some B→hp w (ρ j)=some (.cells c B.T (0,0))→F.pin j=some (ρ j,c.size):=fun j B c hf hj hc=>by
    simp only [F]
    rw [if_pos ⟨by simp [hj],hf⟩,hc]
  have hcarry:Carry ok (okI F (lk H) ρ) (hp w) (hp w):=fun b hb _=>⟨⟨.inl hb,fun k hk e=>by obtain ⟨B,hB⟩:=lookup_some hk; exact (hH k B hB).2.2 (e ▸ hb)⟩,rfl⟩
  have hkeep:Keep (fun _=>True) (lk H) (lk H) ρ ρ (hp w) (hp w):=fun k _ B hB=>⟨B,hB,rfl,Nat.le_refl _,fun _=>⟨rfl,fun c T fr hc=>⟨c,T,fr,hc,rfl⟩⟩⟩
  have hS:SatR F ρ ⟨argSlotsV 0 args,H⟩ { tmps:=vals.toArray++Array.replicate (fn.ntmps - vals.toArray.size) undef,defers:=[] } w:=by
    refine ⟨fun t v ht=>?_,fun k B hB=>?_,hinj,⟨rfl,rfl,rfl,Nat.le_refl _,fun _ _ _=>rfl⟩,?_,Marks.nil rfl,fun j b m hj hS=>?_⟩
    · obtain ⟨j,rfl,hx⟩:=argSlotsV_get ht
      obtain ⟨u,hu,hru⟩:=relVL_get hrel hx
      refine ⟨u,?_,RelV.mono hcarry hkeep v u (fun _ _=>trivial) hru⟩
      rw [Nat.zero_add,Array.getElem?_append_left (by have:=(List.getElem?_eq_some_iff.1 hu).1; simpa using this)]
      simpa using hu
    · obtain ⟨⟨c,h1,h2,h3⟩,h4,h5⟩:=hH k B hB
      have hB':H.lookup k=some B:=hB
      refine ⟨c,h1,.inl ⟨⟨k,by simp [hB'],rfl⟩,by simp [F,hB']⟩,h2,fun i x hx=>?_⟩
      obtain ⟨u,hu,ho,hru⟩:=h3 i x hx
      exact ⟨u,hu,ho,RelV.mono hcarry hkeep x u (fun _ _=>trivial) hru⟩
    · simp [F,hn]; omega
    · obtain ⟨B,hB⟩:=lookup_some (l:=H) (j:=j) hS
      obtain ⟨⟨c,h1,_⟩,_⟩:=hH j B hB
      have hjf:st j=true:=by
        by_cases hjf:st j=true
        · exact hjf
        · simp only [F] at hj; rw [if_neg (fun h=>hjf h.2)] at hj; cases hj
      rw [hpin j B c hjf hB h1] at hj
      injection hj with hj
      injection hj with hj1 hj2
      subst hj1 hj2
      exact ⟨rfl,c,B.T,h1,rfl⟩
  refine calls_exec hf hb rfl rfl (fun _ _ h=>h) ⟨ρ,hS⟩ (h F ⟨hG,fun b ⟨j,hj,e⟩=>by obtain ⟨B,hB⟩:=lookup_some hj; subst e; exact (hH j B hB).2.1,rfl,rfl,fun k hk2=>by simp only [F]; rw [if_neg (fun h=>h.1 hk2)],fun k hk2=>by simp only [F]; rw [if_neg (fun h=>by rw [h.2] at hk2; cases hk2)],fun _=>rfl,rfl⟩) fun e S' hq=>⟨(hQ e S' hq).1,fun ρ' tmps w' hS'=>?_⟩
  obtain ⟨-,hHB,hres⟩:=hQ e S' hq
  obtain ⟨v,hv,hrv⟩:=hres F ρ' tmps w' hS'
  have hsb:∀ j B',H'.lookup j=some B'→S'.blk j=some B':=fun j B' hj=>hHB.all j B' hj
  have hcar:Carry (okI F S'.blk ρ') (okG ok w H' ρ') (hp w') (hp w'):=fun b hb _=>⟨⟨hb.1,fun j hj e=>by
    obtain ⟨B',hB'⟩:=lookup_some hj
    exact hb.2 j (by simp [hsb j B' hB']) e⟩,rfl⟩
  have hkp:∀ K:Nat→Prop,Keep K S'.blk (lk H') ρ' ρ' (hp w') (hp w'):=fun K k _ B hB=>⟨B,hsb k B hB,rfl,Nat.le_refl _,fun _=>⟨rfl,fun c T fr hc=>⟨c,T,fr,hc,rfl⟩⟩⟩
  refine ⟨v,hv,v,ρ',rfl,RelV.mono (K:=fun _=>True) hcar (hkp _) r v (fun _ _=>trivial) hrv,fun j B' hj=>?_,fun j j' h1 h2 e=>?_,fun j h1 h2=>?_,fun j h1 h2=>?_,fun j h1 h2 h3=>?_,hS'.frame.os,hS'.frame.tape,hS'.frame.output,hS'.frame.size,fun b hb hx=>hS'.frame.block b hb (fun ⟨j,hj,e⟩=>hx j hj e)⟩
  · obtain ⟨c',f1,_,f3,f4⟩:=hS'.blks j B' (hsb j B' hj)
    refine ⟨c',f1,f3,fun i x hx=>?_⟩
    obtain ⟨u,hu,ho,hru⟩:=f4 i x hx
    exact ⟨u,hu,ho,RelV.mono (K:=fun _=>True) hcar (hkp _) x u (fun _ _=>trivial) hru⟩
  · obtain ⟨B,hB⟩:=lookup_some h1
    obtain ⟨B',hB'⟩:=lookup_some h2
    exact hS'.inj j j' (by simp [hsb j B hB]) (by simp [hsb j' B' hB']) e
  · obtain ⟨B,hB⟩:=lookup_some h1
    obtain ⟨_,_,f2,_⟩:=hS'.blks j B (hsb j B hB)
    rcases f2 with ⟨⟨i,hi,e⟩,_⟩ | f2
    · exact .inl ⟨i,hi,e⟩
    · exact .inr f2
  · obtain ⟨B,hB⟩:=lookup_some h1
    obtain ⟨_,_,f2,_⟩:=hS'.blks j B (hsb j B hB)
    rcases f2 with ⟨_,f2⟩ | f2
    · simp only [F,h2] at f2; cases f2
    · exact f2
  · obtain ⟨B',hB'⟩:=lookup_some h1
    obtain ⟨B,hB⟩:=lookup_some h2
    obtain ⟨⟨c,g1,_⟩,_⟩:=hH j B hB
    obtain ⟨e1,c',T',e2,e3⟩:=hS'.pin j _ _ (hpin j B c h3 hB g1) (by simp [hsb j B' hB'])
    refine ⟨e1,fun c2 T2 hc2=>⟨c',T',e2,?_⟩⟩
    rw [g1] at hc2
    injection hc2 with hc2
    injection hc2 with hc2
    rw [e3,hc2]
theorem saysG_tmp {E : Env} {st : Nat → Bool} {f : FuncId} {fn : Func} {c : Code} {args : List PV} {H H' : List (Nat × Blk)} {r : PV} {t0 n : Nat} (hf : E.P.funcs[f]? = some fn) (hb : fn.body = some c) (hn : fn.ntmps = n) (hr : fn.results = #[.tmp t0]) (hle : args.length ≤ n)
    (h:∀ F:Fr,GFr E st H n F→Exec E.P F c ⟨argSlotsV 0 args,H⟩ (fun e S=>(e = .normal∨e = .ret)∧S.slot t0=some r∧HasB S H')):SaysG E st f args H H' r :=
  saysG_of0 hf hb hn hle (fun e S hq=>⟨hq.1,hq.2.2,fun F ρ tmps w' hS'=>by
    obtain ⟨v,hu,hrv⟩:=hS'.slots t0 r hq.2.1
    refine ⟨v,?_,hrv⟩
    have e:results fn tmps=(do let vs ← [ResultVar.tmp t0].toArray.mapM (resRun tmps); pure (if h:vs.size=1 then vs[0] else .tuple vs)):=by
      unfold results
      rw [hr]
      rfl
    have hm:([ResultVar.tmp t0].toArray.mapM (resRun tmps)).run E.P w' = .ok #[v] w':=by
      rw [List.mapM_toArray]
      simp [List.mapM_cons,resRun,Array.getD_eq_getD_getElem?,hu]
    rw [e]
    simp only [Sem.run_bind,hm,Result.andThen_ok,Sem.run_pure]
    rfl⟩) h
theorem saysG_dat {E : Env} {st : Nat → Bool} {f : FuncId} {fn : Func} {c : Code} {args : List PV} {H H' : List (Nat × Blk)} {xs : List Pure} {rs : List ResultVar} {n : Nat} (hf : E.P.funcs[f]? = some fn) (hb : fn.body = some c) (hn : fn.ntmps = n) (hr : fn.results = rs.toArray) (hle : args.length ≤ n)
    (h:∀ F:Fr,GFr E st H n F→Exec E.P F c ⟨argSlotsV 0 args,H⟩ (fun e S=>(e = .normal∨e = .ret)∧ResVs E.P S rs xs∧HasB S H')):SaysG E st f args H H' (.p (resOf xs)) :=
  saysG_of0 hf hb hn hle (fun e S hq=>⟨hq.1,hq.2.2,fun F ρ tmps w' hS'=>by
    obtain ⟨v,hv,hrv⟩:=results_run hS' hr hq.2.1
    exact ⟨v,hv,by simpa only [RelV] using hrv⟩⟩) h
def Stays (st:Nat→Bool)(S S':St)(κ:Nat→Nat)(H H':List (Nat×Blk))(k:Nat):Prop :=
  S'.blk k=none∨(S'.blk k=S.blk k∧∀ j,(H.lookup j≠none∨H'.lookup j≠none)→κ j≠k)∨∃ j B0 B1,κ j=k∧st j=true∧H.lookup j=some B0∧H'.lookup j=some B1∧B1.sz=B0.sz∧B1.cs.len=B0.cs.len
structure GCall (st:Nat→Bool) (F:Fr) (S S':St) (κ:Nat→Nat) (H H':List (Nat×Blk)) (r:PV) (d:Nat):Prop where
  h1:∀ j B,H.lookup j=some B→S.blk (κ j)=some (B.ren κ)
  inj:∀ j j',(H.lookup j≠none∨H'.lookup j≠none)→(H.lookup j'≠none∨H'.lookup j'≠none)→κ j=κ j'→j=j'
  lo:∀ i j,H.lookup i≠none→H.lookup j≠none→H'.lookup j≠none→st j=false→F.lo (κ i)=false→F.lo (κ j)=false
  blk:∀ k B',S'.blk k=some B'→(∃ j B,κ j=k∧H'.lookup j=some B∧B'=B.ren κ)∨(S.blk k=some B'∧(∀ j,(H.lookup j≠none∨H'.lookup j≠none)→κ j≠k)∧∀ i x,B'.cs.get i=some x→∀ q,x.free q=false→Stays st S S' κ H H' q)
  slot:∀ t v,S'.slot t=some v→(t=d∧v=r.ren κ)∨(t≠d∧S.slot t=some v∧∀ q,v.free q=false→Stays st S S' κ H H' q)
  res:∀ q,r.free q=false→H'.lookup q≠none
  cont:∀ j B,H'.lookup j=some B→∀ i x,B.cs.get i=some x→∀ q,x.free q=false→H'.lookup q≠none
  pin:∀ j,H'.lookup j≠none→F.pin (κ j)≠none→H.lookup j≠none∧st j=true
open Classical in
theorem stepG_wp {E : Env} {st : Nat → Bool} {F : Fr} (hG : E.G F.w0) (hX : ∀ b, F.X b → E.ng ≤ b) (hng : E.ng ≤ F.w0.heap.size) {d : Nat} {f : FuncId} {o : Oper} {xs : List PV} {S S' : St} {H H' : List (Nat × Blk)} {r : PV} (κ : Nat → Nat) (hs : SaysG E st f xs H H' r) (hd : o.dst = some d) (hlt : d < F.nt)
    (hargs:∀ ρ a w,SatR F ρ S a w→∃ vals:List Value,(execOp a.eval o).run E.P w = .ok (.enter f vals.toArray) w∧RelVL S.blk ρ (okI F S.blk ρ) (hp w) (PV.renL κ xs) vals)
    (C:GCall st F S S' κ H H' r d):∀ a w,Sat F S a w→∀ (Q:Exit→Act→World→Prop) (K:Act→World→Prop),(∀ a' w',Sat F S' a' w'→K a' w')→o.wp E.P a w K Q:=by
  intro a w ⟨ρ,h⟩ Q K hK
  obtain ⟨vals,hrun,hvals⟩:=hargs ρ a w h
  unfold Oper.wp
  rw [hrun]
  simp only [Oper.upon]
  have hne:∀ k,S.blk k≠none→ρ k<w.heap.size:=fun k hk=>by
    obtain ⟨B,hB⟩:=Option.ne_none_iff_exists'.1 hk
    obtain ⟨c,e1,_⟩:=h.blks k B hB; exact World.size_lt e1
  have hSH:∀ j,H.lookup j≠none→S.blk (κ j)≠none:=fun j hj=>by
    obtain ⟨B,hB⟩:=lookup_some hj; rw [C.h1 j B hB]; simp
  have hrel:RelVL (lk H) (fun j=>ρ (κ j)) (okI F S.blk ρ) (hp w) xs vals:=renL_of (fun j B hB=>⟨B.ren κ,C.h1 j B hB,rfl,Cells.ren_len κ B.cs⟩) xs _ hvals
  have hGw:E.G w:=E.stab F.w0 w hG fun b hb=>h.frame.block b (by omega) (fun hx=>by have:=hX b hx; omega)
  have hpre:∀ j B,H.lookup j=some B→BlkAt (lk H) (fun j=>ρ (κ j)) (okI F S.blk ρ) (hp w) j B∧E.ng≤ρ (κ j)∧¬ okI F S.blk ρ (ρ (κ j)):=fun j B hj=>by
    have hB:=C.h1 j B hj
    obtain ⟨c,e1,e2,e3,e4⟩:=h.blks (κ j) _ hB
    refine ⟨⟨c,e1,by rw [← Cells.ren_len κ]; exact e3,fun i x hx=>?_⟩,?_,fun hok=>hok.2 (κ j) (by simp [hB]) rfl⟩
    · obtain ⟨u,hu,ho,hru⟩:=e4 i (x.ren κ) (by show (B.cs.ren κ).get i=_; rw [Cells.ren_get,hx]; rfl)
      exact ⟨u,hu,ho,ren_of (fun j B hB=>⟨B.ren κ,C.h1 j B hB,rfl,Cells.ren_len κ B.cs⟩) x u hru⟩
    · rcases e2 with e2 | e2
      · exact hX _ e2.1
      · omega
  refine Calls.mono (hs (okI F S.blk ρ) (fun j=>ρ (κ j)) w _ hGw hpre (fun j j' hj hj' e=>C.inj j j' (.inl hj) (.inl hj') (h.inj _ _ (hSH j hj) (hSH j' hj') e)) hrel) fun e w' ⟨v,ρ',he,hp'⟩=>?_
  subst he
  let ρn:Nat→Nat:=fun k=>if hh:∃ j,κ j=k∧H'.lookup j≠none then ρ' (Classical.choose hh) else ρ k
  have n1:∀ j,H'.lookup j≠none→ρn (κ j)=ρ' j:=fun j hj=>by
    have hh:∃ i,κ i=κ j∧H'.lookup i≠none:=⟨j,rfl,hj⟩
    simp only [ρn,dif_pos hh]
    have:=Classical.choose_spec hh
    rw [C.inj _ j (.inr this.2) (.inr hj) this.1]
  have n2:∀ k,(∀ j,H'.lookup j≠none→κ j≠k)→ρn k=ρ k:=fun k hk=>by
    simp only [ρn]; rw [dif_neg (fun ⟨j,h1,h2⟩=>hk j h2 h1)]
  have hother:∀ b,b<w.heap.size→(∀ j,H.lookup j≠none→b≠ρ (κ j))→hp w' b=hp w b:=fun b hb hn=>hp'.frame b hb hn
  have hplace:∀ j,H'.lookup j≠none→(∃ i,H.lookup i≠none∧ρ' j=ρ (κ i))∨w.heap.size≤ρ' j:=fun j hj=>by
    by_cases hj':H.lookup j=none
    · exact .inr (hp'.new j hj hj')
    · exact hp'.old j hj hj'
  have hkept:∀ k B,S.blk k=some B→(∀ j,(H.lookup j≠none∨H'.lookup j≠none)→κ j≠k)→ρn k=ρ k∧hp w' (ρ k)=hp w (ρ k):=fun k B hB hk=>by
    refine ⟨n2 k fun j hj=>hk j (.inr hj),hother _ (hne k (by simp [hB])) fun j hj e=>hk j (.inl hj) (h.inj _ _ (hSH j hj) (by simp [hB]) e.symm)⟩
  have hown:∀ b,okI F S.blk ρ b→b<w.heap.size→∀ k,S'.blk k≠none→b≠ρn k:=fun b hb hbs k hk e=>by
    obtain ⟨B',hB'⟩:=Option.ne_none_iff_exists'.1 hk
    rcases C.blk k B' hB' with ⟨j,B,rfl,hj,_⟩ | ⟨hB,hk2,_⟩
    · rw [n1 j (by simp [hj])] at e
      rcases hplace j (by simp [hj]) with ⟨i,hi,e2⟩ | e2
      · exact hb.2 (κ i) (hSH i hi) (by rw [e,e2])
      · omega
    · rw [(hkept k B' hB hk2).1] at e
      exact hb.2 k (by simp [hB]) e
  have hcar:Carry (okI F S.blk ρ) (okI F S'.blk ρn) (hp w) (hp w'):=fun b hb hne'=>by
    have hbs:b<w.heap.size:=by
      obtain ⟨o,ho⟩:=Option.ne_none_iff_exists'.1 hne'; exact World.size_lt ho
    exact ⟨⟨hb.1,hown b hb hbs⟩,hother b hbs fun j hj e=>hb.2 (κ j) (hSH j hj) e⟩
  have hcar2:Carry (okG (okI F S.blk ρ) w H' ρ') (okI F S'.blk ρn) (hp w') (hp w'):=fun b hb _=>by
    refine ⟨⟨?_,fun k hk e=>?_⟩,rfl⟩
    · rcases hb.1 with hb1 | hb1
      · exact hb1.1
      · exact .inr (Nat.le_trans h.frame.size hb1)
    · obtain ⟨B',hB'⟩:=Option.ne_none_iff_exists'.1 hk
      rcases C.blk k B' hB' with ⟨j,B,rfl,hj,_⟩ | ⟨hB,hk2,_⟩
      · rw [n1 j (by simp [hj])] at e; exact hb.2 j (by simp [hj]) e
      · rw [(hkept k B' hB hk2).1] at e
        rcases hb.1 with hb1 | hb1
        · exact hb1.2 k (by simp [hB]) e
        · have:=hne k (by simp [hB]); omega
  have hren:∀ j,H'.lookup j≠none→∀ B',S'.blk (κ j)=some B'→∃ B,lk H' j=some B∧B'.sz=B.sz∧B'.cs.len=B.cs.len∧ρn (κ j)=ρ' j:=fun j hj B' hB'=>by
    rcases C.blk _ B' hB' with ⟨i,B,e1,hi,rfl⟩ | ⟨_,hk2,_⟩
    · obtain rfl:=C.inj i j (.inr (by simp [hi])) (.inr hj) e1
      exact ⟨B,hi,rfl,Cells.ren_len κ B.cs,n1 i hj⟩
    · exact absurd rfl (hk2 j (.inr hj))
  have hput:∀ t,t≠d→(a.put o.dst v).tmps[t]? = a.tmps[t]?:=fun t ht=>by
    rw [hd]; simp only [Act.put]; rw [Array.getElem?_setIfInBounds_ne (Ne.symm ht)]
  have hkeep:Keep (Stays st S S' κ H H') S.blk S'.blk ρ ρn (hp w) (hp w'):=fun k hst B' hB'=>by
    rcases hst with h0 | ⟨h0,hk2⟩ | ⟨j,B0,B1,rfl,hf,g0,g1,g2,g3⟩
    · rw [h0] at hB'; cases hB'
    · rw [h0] at hB'
      obtain ⟨e1,e2⟩:=hkept k B' hB' hk2
      exact ⟨B',hB',rfl,Nat.le_refl _,fun _=>⟨e1,fun c T fr hc=>⟨c,T,fr,by rw [e2]; exact hc,rfl⟩⟩⟩
    · rcases C.blk _ B' hB' with ⟨i,B,e1,hi,rfl⟩ | ⟨_,hk2,_⟩
      · obtain rfl:=C.inj i j (.inr (by simp [hi])) (.inr (by simp [g1])) e1
        rw [g1] at hi; injection hi with hi; subst hi
        obtain ⟨s1,s2⟩:=hp'.stay i (by simp [g1]) (by simp [g0]) hf
        refine ⟨B0.ren κ,C.h1 i B0 g0,g2,by show (B0.cs.ren κ).len≤(B1.cs.ren κ).len; rw [Cells.ren_len,Cells.ren_len]; omega,fun _=>⟨(n1 i (by simp [g1])).trans s1,fun c T fr hc=>?_⟩⟩
        obtain ⟨c0,e1',_⟩:=h.blks (κ i) _ (C.h1 i B0 g0)
        have hc':=hc
        rw [e1'] at hc'
        injection hc' with hc'
        injection hc' with q1 q2 q3
        subst q1
        obtain ⟨c',T',r1,r2⟩:=s2 _ _ e1'
        exact ⟨c',T',(0,0),r1,r2⟩
      · exact absurd rfl (hk2 j (.inr (by simp [g1])))
  show K (a.put o.dst v) w'
  refine hK _ _ ⟨ρn,h.upd (S':=S') (Kp:=Stays st S S' κ H H') ⟨hp'.os.trans h.frame.os,hp'.tape.trans h.frame.tape,hp'.output.trans h.frame.output,Nat.le_trans h.frame.size hp'.size,fun b hb hx=>?_⟩ (by simp [hd,Act.put,h.nt]) (by simp [hd,Act.put]) hcar hkeep (fun k k' h1 h2 e=>?_) (fun j b n hj hS=>?_) (fun t v' ht=>?_) (fun k B' hB'=>?_)⟩
  · rw [hp'.frame b (Nat.lt_of_lt_of_le hb h.frame.size) fun j hj e=>?_]
    · exact h.frame.block b hb hx
    · obtain ⟨B,hB⟩:=lookup_some hj
      obtain ⟨_,_,e2,_⟩:=h.blks (κ j) _ (C.h1 j B hB)
      subst e
      rcases e2 with e2 | e2
      · exact hx e2.1
      · omega
  · obtain ⟨B,hB⟩:=Option.ne_none_iff_exists'.1 h1
    obtain ⟨B',hB'⟩:=Option.ne_none_iff_exists'.1 h2
    rcases C.blk k B hB with ⟨j,C1,rfl,hj,_⟩ | ⟨g1,g2,_⟩ <;> rcases C.blk k' B' hB' with ⟨j',C2,rfl,hj',_⟩ | ⟨g1',g2',_⟩
    · rw [n1 j (by simp [hj]),n1 j' (by simp [hj'])] at e
      rw [hp'.inj j j' (by simp [hj]) (by simp [hj']) e]
    · rw [n1 j (by simp [hj]),(hkept k' B' g1' g2').1] at e
      rcases hplace j (by simp [hj]) with ⟨i,hi,e2⟩ | e2
      · exact absurd (h.inj (κ i) k' (hSH i hi) (by simp [g1']) (by rw [← e2,e])) (g2' i (.inl hi))
      · have:=hne k' (by simp [g1']); omega
    · rw [n1 j' (by simp [hj']),(hkept k B g1 g2).1] at e
      rcases hplace j' (by simp [hj']) with ⟨i,hi,e2⟩ | e2
      · exact absurd (h.inj (κ i) k (hSH i hi) (by simp [g1]) (by rw [← e2,e])) (g2 i (.inl hi))
      · have:=hne k (by simp [g1]); omega
    · rw [(hkept k B g1 g2).1,(hkept k' B' g1' g2').1] at e
      exact h.inj k k' (by simp [g1]) (by simp [g1']) e
  · obtain ⟨B',hB'⟩:=Option.ne_none_iff_exists'.1 hS
    rcases C.blk j B' hB' with ⟨i,B,rfl,hi,_⟩ | ⟨g1,g2,_⟩
    · obtain ⟨q1,q2⟩:=C.pin i (by simp [hi]) (by simp [hj])
      obtain ⟨s1,s2⟩:=hp'.stay i (by simp [hi]) q1 q2
      exact ⟨hSH i q1,(n1 i (by simp [hi])).trans s1,s2⟩
    · obtain ⟨e1,e2⟩:=hkept j B' g1 g2
      exact ⟨by simp [g1],e1,fun c T hc=>⟨c,T,by rw [e2]; exact hc,rfl⟩⟩
  · rcases C.slot t v' ht with ⟨rfl,rfl⟩ | ⟨h1,h2,h3⟩
    · refine .inr ⟨v,?_,?_⟩
      · rw [hd]; simp only [Act.put]; rw [Array.getElem?_setIfInBounds_self_of_lt (by rw [h.nt]; exact hlt)]
      · exact RelV.mono (K:=fun _=>True) hcar2 (fun k _ B hB=>⟨B,hB,rfl,Nat.le_refl _,fun _=>⟨rfl,fun c T fr hc=>⟨c,T,fr,hc,rfl⟩⟩⟩) _ v (fun _ _=>trivial) (ren_to (K:=fun q=>H'.lookup q≠none) hren r v C.res hp'.res)
    · exact .inl ⟨h2,hput t h1,h3⟩
  · rcases C.blk k B' hB' with ⟨j,B,rfl,hj,rfl⟩ | ⟨g1,g2,g3⟩
    · obtain ⟨c,f1,f2,f3⟩:=hp'.blk j B hj
      refine .inr ⟨c,by rw [n1 j (by simp [hj])]; exact f1,?_,by show (B.cs.ren κ).len≤_; rw [Cells.ren_len]; exact f2,fun i x hx=>?_⟩
      · rw [n1 j (by simp [hj])]
        by_cases hjH:H.lookup j=none
        · exact .inr (Nat.le_trans h.frame.size (hp'.new j (by simp [hj]) hjH))
        · rcases hp'.old j (by simp [hj]) hjH with ⟨i,hi,e2⟩ | e2
          · obtain ⟨Bi,hBi⟩:=lookup_some hi
            obtain ⟨Bj,hBj⟩:=lookup_some hjH
            by_cases hf:st j=true
            · rw [(hp'.stay j (by simp [hj]) hjH hf).1]
              obtain ⟨_,_,q2,_⟩:=h.blks (κ j) _ (C.h1 j Bj hBj)
              exact q2
            · rw [e2]
              obtain ⟨_,_,q2,_⟩:=h.blks (κ i) _ (C.h1 i Bi hBi)
              rcases q2 with ⟨q2,q3⟩ | q2
              · exact .inl ⟨q2,C.lo i j hi hjH (by simp [hj]) (by simpa using hf) q3⟩
              · exact .inr q2
          · exact .inr (Nat.le_trans h.frame.size e2)
      · have hx':(B.cs.ren κ).get i=some x:=hx
        rw [Cells.ren_get,Option.map_eq_some_iff] at hx'
        obtain ⟨y,hy,rfl⟩:=hx'
        obtain ⟨u,hu,ho,hru⟩:=f3 i y hy
        exact ⟨u,hu,ho,RelV.mono (K:=fun _=>True) hcar2 (fun k _ B hB=>⟨B,hB,rfl,Nat.le_refl _,fun _=>⟨rfl,fun c T fr hc=>⟨c,T,fr,hc,rfl⟩⟩⟩) _ u (fun _ _=>trivial) (ren_to (K:=fun q=>H'.lookup q≠none) hren y u (C.cont j B hj i y hy) hru)⟩
    · obtain ⟨e1,e2⟩:=hkept k B' g1 g2
      exact .inl ⟨g1,e1,e2,g3⟩
theorem stepG {E : Env} {st : Nat → Bool} {F : Fr} (hG : E.G F.w0) (hX : ∀ b, F.X b → E.ng ≤ b) (hng : E.ng ≤ F.w0.heap.size) {ops : Array Oper} {d : Nat} {f : FuncId} {o : Oper} {xs : List PV} {S S' : St} {H H' : List (Nat × Blk)} {r : PV} (κ : Nat → Nat) (hs : SaysG E st f xs H H' r) (hd : o.dst = some d) (hg : o.guard = none) (hlt : d < F.nt)
    (hargs:∀ ρ a w,SatR F ρ S a w→∃ vals:List Value,(execOp a.eval o).run E.P w = .ok (.enter f vals.toArray) w∧RelVL S.blk ρ (okI F S.blk ρ) (hp w) (PV.renL κ xs) vals)
    (C:GCall st F S S' κ H H' r d):StepN E.P F ops o S S':=by
  intro a w h Q K hK
  have hw:Region.wanted o (yielded ops a.tmps)=true:=by simp [Region.wanted,hg]
  rw [if_pos hw]
  exact .inl (stepG_wp hG hX hng κ hs hd hlt hargs C a w h Q K hK)
end Go.Proofs.YtjagfionflbjbaaGreat.SH
namespace Go.Proofs.YtjagfionflbjbaaGreat.SH
open Go Go.RowKit
theorem SatR.move {F F' : Fr} {ρ ρ' : Nat → Nat} {S S' : St} {a a' : Act} {w w' : World} {Kp : Nat → Prop} (h : SatR F ρ S a w) (hfr : Frame F' w') (hnt : a'.tmps.size = F'.nt) (hdf : Marks F' a'.defers w')
    (hc:Carry (okI F S.blk ρ) (okI F' S'.blk ρ') (hp w) (hp w')) (hk:Keep Kp S.blk S'.blk ρ ρ' (hp w) (hp w'))
    (hinj:∀ k k',S'.blk k≠none→S'.blk k'≠none→ρ' k=ρ' k'→k=k')
    (hpin:∀ j b n,F'.pin j=some (b,n)→S'.blk j≠none→ρ' j=b∧∃ c T,hp w' b=some (.cells c T (0,0))∧c.size=n)
    (hs:∀ t v,S'.slot t=some v→(S.slot t=some v∧a'.tmps[t]? = a.tmps[t]?∧∀ k,v.free k=false→Kp k)∨∃ u,a'.tmps[t]? = some u∧RelV S'.blk ρ' (okI F' S'.blk ρ') (hp w') v u)
    (hb:∀ k B,S'.blk k=some B→(S.blk k=some B∧ρ' k=ρ k∧hp w' (ρ k)=hp w (ρ k)∧((F'.X (ρ k)∧F'.lo k=false)∨F'.w0.heap.size≤ρ k)∧∀ i x,B.cs.get i=some x→∀ j,x.free j=false→Kp j) ∨
      ∃ c,hp w' (ρ' k)=some (.cells c B.T (0,0))∧((F'.X (ρ' k)∧F'.lo k=false)∨F'.w0.heap.size≤ρ' k)∧B.cs.len≤c.size∧∀ i x,B.cs.get i=some x→∃ u,c[i]? = some u∧u.oneCell'=true∧RelV S'.blk ρ' (okI F' S'.blk ρ') (hp w') x u) :
    SatR F' ρ' S' a' w' where
  slots t v ht:=by
    rcases hs t v ht with ⟨h1,h2,h3⟩ | h
    · obtain ⟨u,hu,hr⟩:=h.slots t v h1
      exact ⟨u,by rw [h2]; exact hu,RelV.mono hc hk v u h3 hr⟩
    · exact h
  blks k B hB:=by
    rcases hb k B hB with ⟨h1,h2,h3,h5,h4⟩ | h
    · obtain ⟨c,e1,e2,e3,e4⟩:=h.blks k B h1
      refine ⟨c,by rw [h2,h3]; exact e1,by rw [h2]; exact h5,e3,fun i x hx=>?_⟩
      obtain ⟨u,hu,h1c,hr⟩:=e4 i x hx
      exact ⟨u,hu,h1c,RelV.mono hc hk x u (h4 i x hx) hr⟩
    · exact h
  inj:=hinj
  frame:=hfr
  nt:=hnt
  df:=hdf
  pin:=hpin
theorem SatR.weakR {F:Fr}{ρ:Nat→Nat}{S S':St}{a:Act}{w:World}(h:SatR F ρ S a w)(hle:S'.le S):SatR F ρ S' a w:=by
  have hne:∀ k,S'.blk k≠none→S.blk k≠none∧ρ k=ρ k:=fun k hk=>by
    obtain ⟨B,hB⟩:=Option.ne_none_iff_exists'.1 hk
    exact ⟨by rw [hle.2 k B hB]; simp,rfl⟩
  exact h.upd (Kp:=fun _=>True) h.frame h.nt rfl (fun b hb' _=>⟨okI_mono hne hb',rfl⟩) (fun k _ B' hB'=>⟨B',hle.2 k B' hB',rfl,Nat.le_refl _,fun _=>⟨rfl,fun c T fr hc=>⟨c,T,fr,hc,rfl⟩⟩⟩)
    (fun k k' h1 h2 h3=>h.inj k k' (hne k h1).1 (hne k' h2).1 h3) (fun j _ _ _ hj=>⟨(hne j hj).1,rfl,fun c T hc=>⟨c,T,hc,rfl⟩⟩) (fun t v ht=>.inl ⟨hle.1 t v ht,rfl,fun _ _=>trivial⟩) (fun k B hB=>.inl ⟨hle.2 k B hB,rfl,rfl,fun _ _ _ _ _=>trivial⟩)
structure XFr (E:Env) (H:List (Nat×Blk)) (n:Nat) (F:Fr):Prop where
  g:E.G F.w0
  x:∀ b,F.X b→E.ng≤b
  nt:F.nt=n
  df:F.df=[]
  p0:∀ q,H.lookup q=none→F.pin q=none
  lo:∀ q,F.lo q=(H.lookup q).isNone
  ng:E.ng≤F.w0.heap.size
def Yields (P:Program)(F:Fr)(l n:Nat)(encs:Nat→Pure×Pure)(H:Nat→List (Nat×Blk)):Prop :=
  ∀ k,k<n→∀ (d:Nat) (fo o1 o2:Operand) (ts:Array TypeId) (T:TypeId) (pos:String) (aft:Array Edge) (g:Option (Nat×Bool)),d<F.nt →
    ∀ S a w,Sat F S a w→Ann.holds ⟨[(fo,.clo (.yield l) [] []),(o1,.p (encs k).1),(o2,.p (encs k).2)],H k,none,[(d,.p (.a (.bool true)))],H (k+1)⟩ S→∀ (Q:Exit→Act→World→Prop) (K:Act→World→Prop),
      (∀ a' w',Sat F (S.app ⟨[(fo,.clo (.yield l) [] []),(o1,.p (encs k).1),(o2,.p (encs k).2)],H k,none,[(d,.p (.a (.bool true)))],H (k+1)⟩) a' w'→K a' w')→∀ m,Oper.wpIn (fen F) m P ⟨some d,.call ⟨.value fo,#[o1,o2],ts⟩,T,pos,aft,g⟩ a w K Q
def mkL (fid:FuncId)(tmps:Array Value)(p1 p2:Nat)(asx bd:Code)(D:Nat)(st:LoopState)(pe:Option Code):Loop:={ state:=st,pending:=pe,fn:=fid,tmps:=tmps,params:=#[p1,p2],assign:=asx,body:=bd,defers:=D }
theorem lookup_mem {l:List (Nat×Blk)}{j:Nat}{B:Blk}(h:l.lookup j=some B):(j,B)∈l:=by
  induction l with
  | nil=>simp at h
  | cons p l ih =>
    obtain ⟨s,u⟩:=p
    rw [List.lookup_cons] at h
    split at h
    · rename_i e; injection h with h; subst h; simp [beq_iff_eq.1 e]
    · simp [ih h]
def roundF (FI:Fr)(nt:Nat)(S:St)(ρ:Nat→Nat)(W W0:World)(l:Nat)(Hk:List (Nat×Blk)):Fr :=
  ⟨W0,fun b=>okI FI S.blk ρ b∧b<W.heap.size,fun b=>∃ q,Hk.lookup q≠none∧b=ρ q,nt,[],fun q=>if Hk.lookup q≠none then match hp W (ρ q) with | some (.cells c _ _)=>some (ρ q,c.size) | _=>none else none,some l,fun _ _=>False,fun q=>(Hk.lookup q).isNone⟩
structure ItFr (FI:Fr) (l D:Nat) (L:Loop) (H:Nat→List (Nat×Blk)) (n:Nat):Prop where
  ro:FI.ro=none
  loop:FI.w0.heap[l]? = some (.loop L)
  lX:¬ FI.X l
  lok:¬ FI.okA l
  llt:l<FI.w0.heap.size
  pin:∀ k,k≤n→∀ q B,(H k).lookup q=some B→∃ b m,FI.pin q=some (b,m)
  keys:∀ k,k<n→∀ q,(H (k+1)).lookup q≠none↔(H k).lookup q≠none
  same:∀ k,k<n→∀ q B B',(H k).lookup q=some B→(H (k+1)).lookup q=some B'→B'.sz=B.sz∧B'.cs.len=B.cs.len
  lo:∀ k,k≤n→∀ q,(H k).lookup q≠none→FI.lo q=false
  cont:∀ k,k≤n→∀ j B,(H k).lookup j=some B→∀ i x,B.cs.get i=some x→∀ q,x.free q=false→(H k).lookup q≠none
theorem yields_of {E : Env} {FI : Fr} {nt l D p1 p2 n : Nat} {fid : FuncId} {tmps0 : Array Value} {asx bd : Code} {encs : Nat → Pure × Pure} {H : Nat → List (Nat × Blk)} {sl : List (Nat × PV)} (I : ItFr FI l D (mkL fid tmps0 p1 p2 asx bd D .ready none) H n)
    (hG:E.G FI.w0) (hx:∀ b,FI.X b→E.ng≤b) (hng:E.ng≤FI.w0.heap.size) (hlng:E.ng≤l) (ht0:tmps0.size=nt) (hlt:p1<nt∧p2<nt)
    (hout:∀ k,k≤n→∀ ρ S a W,SatR FI ρ S a W→(∀ q B,(H k).lookup q=some B→S.blk q=some B)→∀ t v,sl.lookup t=some v→∃ u,tmps0[t]? = some u∧RelV (lk (H k)) ρ (okI FI S.blk ρ) (hp W) v u)
    (hround:∀ k,k<n→∃ S1,(∀ F',XFr E (H k) nt F'→Exec E.P F' asx ⟨(p2,.p (encs k).2) :: (p1,.p (encs k).1) :: sl,H k⟩ (fun e S'=>e = .normal∧S1.le S')) ∧
      (∀ F',XFr E (H k) nt F'→Exec E.P F' bd S1 (fun e S'=>e = .normal∧HasB S' (H (k+1))))):Yields E.P FI l n encs H:=by
  intro k hk d fo o1 o2 ts T pos aft g hd S a W ⟨ρ,h⟩ hA Q K hK m
  obtain ⟨S1,has,hbd⟩:=hround k hk
  have hSH:∀ q B,(H k).lookup q=some B→S.blk q=some B:=fun q B hq=>hA.rb (q,B) (lookup_mem hq)
  have hSH':∀ q,(H k).lookup q≠none→S.blk q≠none:=fun q hq=>by obtain ⟨B,hB⟩:=lookup_some hq; rw [hSH q B hB]; simp
  have hne:∀ q,S.blk q≠none→ρ q<W.heap.size:=fun q hq=>by
    obtain ⟨B,hB⟩:=Option.ne_none_iff_exists'.1 hq
    obtain ⟨c,e1,_⟩:=h.blks q B hB; exact World.size_lt e1
  have hsz:=h.frame.size
  have hlW:W.heap[l]? = some (.loop (mkL fid tmps0 p1 p2 asx bd D .ready none)):=(h.frame.block l I.llt I.lX).trans I.loop
  have hlown:∀ q,S.blk q≠none→ρ q≠l:=fun q hq e=>by
    obtain ⟨B,hB⟩:=Option.ne_none_iff_exists'.1 hq
    obtain ⟨c,e1,_⟩:=h.blks q B hB
    have:hp W l=some (.loop (mkL fid tmps0 p1 p2 asx bd D .ready none)):=hlW
    rw [e,this] at e1; cases e1
  have hlok:∀ β ρ',¬ okI FI β ρ' l:=fun β ρ' hb=>by
    rcases hb.1 with hb | hb
    · exact I.lok hb
    · have:=I.llt; omega
  have ef:a.eval fo = .func (.yield l) #[] #[]:=by
    have:=opd_rel h (hA.rs (fo,.clo (.yield l) [] []) (by simp))
    simp only [RelV,RelVL] at this
    obtain ⟨fs,cs,h3,rfl,rfl⟩:=this
    exact h3
  have r1:=opd_rel h (hA.rs (o1,.p (encs k).1) (by simp))
  have r2:=opd_rel h (hA.rs (o2,.p (encs k).2) (by simp))
  simp only [RelV] at r1 r2
  obtain ⟨v1,hv1⟩:∃ v,v=a.eval o1:=⟨_,rfl⟩
  obtain ⟨v2,hv2⟩:∃ v,v=a.eval o2:=⟨_,rfl⟩
  rw [← hv1] at r1
  rw [← hv2] at r2
  obtain ⟨FR,hFR⟩:∃ FR,FR=roundF FI nt S ρ W W l (H k):=⟨_,rfl⟩
  have hGW:E.G W:=E.stab FI.w0 W hG fun b hb=>h.frame.block b (by omega) (fun hx'=>by have:=hx b hx'; omega)
  have hXng:∀ q,(H k).lookup q≠none→E.ng≤ρ q:=fun q hq=>by
    obtain ⟨B,hB⟩:=lookup_some hq
    obtain ⟨_,_,e2,_⟩:=h.blks q B (hSH q B hB)
    rcases e2 with e2 | e2
    · exact hx _ e2.1
    · omega
  have hXF:∀ W0:World,E.G W0→E.ng≤W0.heap.size→XFr E (H k) nt (roundF FI nt S ρ W W0 l (H k)):=fun W0 h1 h2=>⟨h1,fun b ⟨q,hq,e⟩=>e ▸ hXng q hq,rfl,rfl,fun q hq=>by simp only [roundF]; rw [if_neg (by simp [hq])],fun _=>rfl,h2⟩
  have hnH:∀ (β:Nat→Option Blk) (hβ:∀ q,β q≠none→S.blk q≠none) b,okI FI S.blk ρ b→b<W.heap.size→∀ W0,okI (roundF FI nt S ρ W W0 l (H k)) β ρ b:=fun β hβ b hb hbs W0=>⟨.inl ⟨hb,hbs⟩,fun q hq=>hb.2 q (hβ q hq)⟩
  have hs1:SatR FR ρ ⟨(p2,.p (encs k).2) :: (p1,.p (encs k).1) :: sl,H k⟩ ⟨(tmps0.setIfInBounds p1 v1).setIfInBounds p2 v2,[]⟩ W:=by
    rw [hFR]
    have hcar:Carry (okI FI S.blk ρ) (okI (roundF FI nt S ρ W W l (H k)) (lk (H k)) ρ) (hp W) (hp W):=fun b hb hne'=>⟨hnH _ (fun q hq=>hSH' q hq) b hb (by obtain ⟨o,ho⟩:=Option.ne_none_iff_exists'.1 hne'; exact World.size_lt ho) W,rfl⟩
    have hkp:Keep (fun _=>True) S.blk (lk (H k)) ρ ρ (hp W) (hp W):=fun q _ B hB=>⟨B,hSH q B hB,rfl,Nat.le_refl _,fun _=>⟨rfl,fun c T fr hc=>⟨c,T,fr,hc,rfl⟩⟩⟩
    refine h.move (S':=⟨(p2,.p (encs k).2) :: (p1,.p (encs k).1) :: sl,H k⟩) (Kp:=fun _=>True) ⟨rfl,rfl,rfl,Nat.le_refl _,fun _ _ _=>rfl⟩ (by simp [roundF,ht0]) (Marks.nil rfl) hcar hkp (fun q q' h1 h2 e=>h.inj q q' (hSH' q h1) (hSH' q' h2) e) (fun j b m hj hS=>?_) (fun t v ht=>.inr ?_) (fun q B hB=>.inl ⟨hSH q B hB,rfl,rfl,.inl ⟨⟨q,by have hB':(H k).lookup q=some B:=hB; simp [hB'],rfl⟩,by have hB':(H k).lookup q=some B:=hB; simp [roundF,hB']⟩,fun _ _ _ _ _=>trivial⟩)
    · simp only [roundF] at hj
      have hS':(H k).lookup j≠none:=hS
      rw [if_pos hS'] at hj
      obtain ⟨B,hB⟩:=lookup_some hS'
      obtain ⟨c,e1,_⟩:=h.blks j B (hSH j B hB)
      rw [e1] at hj
      injection hj with hj; injection hj with hj1 hj2
      subst hj1 hj2
      exact ⟨rfl,c,B.T,e1,rfl⟩
    · simp only [St.slot,List.lookup_cons] at ht
      split at ht
      · rename_i e; injection ht with ht; subst ht
        obtain rfl:t=p2:=by simpa using e
        exact ⟨v2,by rw [Array.getElem?_setIfInBounds_self_of_lt (by simp [ht0]; exact hlt.2)],by simp only [RelV]; exact Rel.mono hcar _ _ r2⟩
      · rename_i e2
        have e2:t≠p2:=by simpa using e2
        split at ht
        · rename_i e; injection ht with ht; subst ht
          obtain rfl:t=p1:=by simpa using e
          exact ⟨v1,by rw [Array.getElem?_setIfInBounds_ne (Ne.symm e2),Array.getElem?_setIfInBounds_self_of_lt (by rw [ht0]; exact hlt.1)],by simp only [RelV]; exact Rel.mono hcar _ _ r1⟩
        · rename_i e1
          have e1:t≠p1:=by simpa using e1
          obtain ⟨u,hu,hr⟩:=hout k (by omega) ρ S a W h hSH t v ht
          exact ⟨u,by rw [Array.getElem?_setIfInBounds_ne (Ne.symm e2),Array.getElem?_setIfInBounds_ne (Ne.symm e1)]; exact hu,RelV.mono (K:=fun _=>True) hcar (fun q _ B hB=>⟨B,hB,rfl,Nat.le_refl _,fun _=>⟨rfl,fun c T fr hc=>⟨c,T,fr,hc,rfl⟩⟩⟩) v u (fun _ _=>trivial) hr⟩
  have hyr:(Instr.yield l #[v1,v2]).run E.P W = .ok (.round l fid ((tmps0.setIfInBounds p1 v1).setIfInBounds p2 v2) asx bd) W:=by
    have:=run_yield (P:=E.P) (args:=#[v1,v2]) hlW (by rfl)
    simpa [mkL] using this
  have hfw:fen FI=Fence.wide:=by simp [fen,I.ro,Fence.wide]
  unfold Oper.wpIn
  refine ⟨fun f _=>trivial,?_⟩
  rw [Oper.semAt_eq _ _ _ (by intro c e; cases e)]
  have hexec:(execOp a.eval ⟨some d,.call ⟨.value fo,#[o1,o2],ts⟩,T,pos,aft,g⟩).run E.P W = .ok (.round l fid ((tmps0.setIfInBounds p1 v1).setIfInBounds p2 v2) asx bd) W:=by
    simp [execOp,resolve,ef,← hv1,← hv2,Deferred.ofValue,invoke,hyr]
  rw [hexec,Oper.uponIn_round,hfw]
  refine ⟨fun hh=>by simp [Fence.wide] at hh,?_⟩
  refine roundIn_of_wpIn trivial ?_
  have hA1:=(has FR (by rw [hFR]; exact hXF W hGW (by omega))).run (m - 1) _ W ⟨ρ,hs1⟩
  rw [show fen FR=Fence.wide.inRound l by rw [hFR]; rfl] at hA1
  refine wpIn_mono hA1 fun ex a1 w1 hq=>?_
  obtain ⟨S',⟨he,hle1⟩,ρ1,hsa⟩:=hq.resolve_right (fun h=>by rw [hFR] at h; exact h.2)
  subst he
  have hsa:=hsa.weakR hle1
  have hRl:∀ W0:World,¬ (roundF FI nt S ρ W W0 l (H k)).X l:=fun W0 ⟨q,hq,e⟩=>hlown q (hSH' q hq) e.symm
  have hw0:FR.w0=W:=by rw [hFR]; rfl
  have hl1:w1.heap[l]? = some (.loop (mkL fid tmps0 p1 p2 asx bd D .ready none)):=(hsa.frame.block l (by rw [hw0]; exact World.size_lt hlW) (by rw [hFR]; exact hRl W)).trans (by rw [hw0]; exact hlW)
  obtain ⟨W0b,hW0b⟩:∃ W0b,W0b=W.putObj l (.loop (mkL fid tmps0 p1 p2 asx bd D .busy none)):=⟨_,rfl⟩
  obtain ⟨w2,hw2⟩:∃ w2,w2=w1.putObj l (.loop (mkL fid tmps0 p1 p2 asx bd D .busy none)):=⟨_,rfl⟩
  have hbeg:(Instr.beginRound l).run E.P w1 = .ok () w2:=by rw [hw2]; exact run_beginRound hl1 rfl
  have hszb:W0b.heap.size=W.heap.size:=by rw [hW0b]; simp
  have hob:∀ b,b≠l→W0b.heap[b]? = W.heap[b]?:=fun b hb=>by rw [hW0b]; exact World.putObj_heap_other hb
  have ho2:∀ b,b≠l→w2.heap[b]? = w1.heap[b]?:=fun b hb=>by rw [hw2]; exact World.putObj_heap_other hb
  obtain ⟨FB,hFB⟩:∃ FB,FB=roundF FI nt S ρ W W0b l (H k):=⟨_,rfl⟩
  have hlR:∀ β ρ',¬ okI FR β ρ' l:=fun β ρ' hb=>by
    rw [hFR] at hb
    rcases hb.1 with hb | hb
    · exact hlok _ _ hb.1
    · have:=World.size_lt hlW; have:W.heap.size≤l:=hb; omega
  have hl1own:∀ q B,S1.blk q=some B→ρ1 q≠l:=fun q B hB e=>by
    obtain ⟨c,e1,_⟩:=hsa.blks q B hB
    have:hp w1 l=some (.loop (mkL fid tmps0 p1 p2 asx bd D .ready none)):=hl1
    rw [e,this] at e1; cases e1
  have hs2:SatR FB ρ1 S1 a1 w2:=by
    obtain ⟨Ds,d1,d2,d3⟩:=hsa.df
    have hfr:=hsa.frame
    rw [hFB]
    refine hsa.move (Kp:=fun _=>True) ⟨?_,?_,?_,?_,fun b hb hx'=>?_⟩ (by rw [hsa.nt,hFR]; rfl) ⟨Ds,by rw [d1,hFR]; rfl,d2,fun D' hD'=>?_⟩ (fun b hb _=>⟨⟨?_,hb.2⟩,ho2 b (fun e=>hlR _ _ (e ▸ hb))⟩) (fun q _ B hB=>⟨B,hB,rfl,Nat.le_refl _,fun _=>⟨rfl,fun c T fr hc=>⟨c,T,fr,(ho2 _ (hl1own q B hB)).trans hc,rfl⟩⟩⟩) hsa.inj (fun j b n hj hS=>?_) (fun t v ht=>.inl ⟨ht,rfl,fun _ _=>trivial⟩) (fun q B hB=>.inl ⟨hB,rfl,ho2 _ (hl1own q B hB),?_,fun _ _ _ _ _=>trivial⟩)
    · rw [hw2]; show w1.os=W0b.os; rw [hfr.os,hw0,hW0b]; rfl
    · rw [hw2]; show w1.tape=W0b.tape; rw [hfr.tape,hw0,hW0b]; rfl
    · rw [hw2]; show w1.output=W0b.output; rw [hfr.output,hw0,hW0b]; rfl
    · show W0b.heap.size≤w2.heap.size; rw [hszb,hw2]; have:=hfr.size; rw [hw0] at this; simpa using this
    · show w2.heap[b]? = W0b.heap[b]?
      by_cases eb:b=l
      · subst eb; rw [hw2,hW0b,World.putObj_heap_same (World.size_lt hl1),World.putObj_heap_same (World.size_lt hlW)]
      · rw [ho2 b eb,hob b eb]
        have hb':b<W0b.heap.size:=hb
        have:=hfr.block b (by rw [hw0]; omega) (by rw [hFR]; exact hx')
        rw [hw0] at this; exact this
    · obtain ⟨q1,q2⟩:=d3 D' hD'
      refine ⟨by show W0b.heap.size≤D'; rw [hszb]; rw [hw0] at q1; exact q1,(ho2 D' (fun e=>?_)).trans q2⟩
      rw [e,hl1] at q2; cases q2
    · rcases hb.1 with hb1 | hb1
      · rw [hFR] at hb1; exact .inl hb1
      · rw [hw0] at hb1; exact .inr (by show W0b.heap.size≤b; omega)
    · have hj':FR.pin j=some (b,n):=by rw [hFR]; exact hj
      obtain ⟨q1,c,T,q2,q3⟩:=hsa.pin j b n hj' hS
      obtain ⟨B,hB⟩:=Option.ne_none_iff_exists'.1 hS
      exact ⟨q1,c,T,(ho2 b (by rw [← q1]; exact hl1own j B hB)).trans q2,q3⟩
    · obtain ⟨_,_,q2,_⟩:=hsa.blks q B hB
      rcases q2 with q2 | q2
      · rw [hFR] at q2; exact .inl q2
      · rw [hw0] at q2; exact .inr (by show W0b.heap.size≤_; omega)
  refine ⟨w2,hbeg,?_⟩
  have hGb:E.G W0b:=E.stab W W0b hGW fun b hb=>hob b (fun e=>by omega)
  have hB1:=(hbd FB (by rw [hFB]; exact hXF W0b hGb (by omega))).run (m - 1) a1 w2 ⟨ρ1,hs2⟩
  rw [show fen FB=Fence.wide.inRound l by rw [hFB]; rfl] at hB1
  refine wpIn_mono hB1 fun ex a3 w3 hq=>?_
  obtain ⟨S3,⟨he,hHB⟩,ρ3,hs3⟩:=hq.resolve_right (fun h=>by rw [hFB] at h; exact h.2)
  subst he
  have hw0b:FB.w0=W0b:=by rw [hFB]; rfl
  have hl3:w3.heap[l]? = some (.loop (mkL fid tmps0 p1 p2 asx bd D .busy none)):=(hs3.frame.block l (by rw [hw0b,hszb]; exact World.size_lt hlW) (by rw [hFB]; exact hRl W0b)).trans (by rw [hw0b,hW0b]; exact World.putObj_heap_same (World.size_lt hlW))
  obtain ⟨w4,hw4⟩:∃ w4,w4=w3.putObj l (.loop (mkL fid tmps0 p1 p2 asx bd D .ready none)):=⟨_,rfl⟩
  have hend:(Instr.endRound l none).run E.P w3 = .ok (.bool true) w4:=by rw [hw4]; exact run_endRound none hl3
  have ho4:∀ b,b≠l→w4.heap[b]? = w3.heap[b]?:=fun b hb=>by rw [hw4]; exact World.putObj_heap_other hb
  have hfr3:=hs3.frame
  refine ⟨_,_,hend,?_⟩
  refine hK _ _ ⟨ρ,?_⟩
  have hS3:∀ q B,(H (k+1)).lookup q=some B→S3.blk q=some B:=fun q B hq=>hHB.all q B hq
  have hplace:∀ q,(H (k+1)).lookup q≠none→ρ3 q=ρ q∧∀ c T,hp W (ρ q)=some (.cells c T (0,0))→∃ c' T',hp w3 (ρ q)=some (.cells c' T' (0,0))∧c'.size=c.size:=fun q hq=>by
    have hq0:=(I.keys k hk q).1 hq
    obtain ⟨B0,hB0⟩:=lookup_some hq0
    obtain ⟨B1,hB1⟩:=lookup_some hq
    obtain ⟨c,e1,_⟩:=h.blks q B0 (hSH q B0 hB0)
    have hp0:FB.pin q=some (ρ q,c.size):=by rw [hFB]; simp only [roundF]; rw [if_pos hq0,e1]
    obtain ⟨q1,c',T',q2,q3⟩:=hs3.pin q _ _ hp0 (by rw [hS3 q B1 hB1]; simp)
    refine ⟨q1,fun c2 T2 h2=>⟨c',T',q2,?_⟩⟩
    rw [e1] at h2; injection h2 with h2; injection h2 with h2; rw [q3,h2]
  have hkeep:∀ q,(H k).lookup q=none→S.blk q≠none→hp w4 (ρ q)=hp W (ρ q):=fun q hq hS=>by
    have hl':=hlown q hS
    refine (ho4 _ hl').trans ((hfr3.block _ (by rw [hw0b,hszb]; exact hne q hS) (fun hX=>?_)).trans (by rw [hw0b]; exact hob _ hl'))
    rw [hFB] at hX
    obtain ⟨q',h1,h2⟩:=hX
    have:=h.inj q q' hS (hSH' q' h1) h2
    subst this; exact h1 hq
  have hold:∀ b,okI FI S.blk ρ b→b<W.heap.size→hp w4 b=hp W b:=fun b hb hbs=>by
    have hl':b≠l:=fun e=>hlok _ _ (e ▸ hb)
    refine (ho4 _ hl').trans ((hfr3.block _ (by rw [hw0b,hszb]; exact hbs) (fun hX=>?_)).trans (by rw [hw0b]; exact hob _ hl'))
    rw [hFB] at hX
    obtain ⟨q',h1,h2⟩:=hX
    exact hb.2 q' (hSH' q' h1) h2
  obtain ⟨S',hS'⟩:∃ S',S'=S.app ⟨[(fo,.clo (.yield l) [] []),(o1,.p (encs k).1),(o2,.p (encs k).2)],H k,none,[(d,.p (.a (.bool true)))],H (k+1)⟩:=⟨_,rfl⟩
  rw [← hS']
  have hS'b:∀ q,S'.blk q=((H (k+1)).lookup q).or (S.blk q):=fun q=>by rw [hS']; exact St.app_blk _ _ _
  have hS'n:∀ q,S'.blk q≠none→S.blk q≠none:=fun q hq=>by
    rw [hS'b] at hq
    cases e:(H (k+1)).lookup q with
    | none=>rw [e,Option.none_or] at hq; exact hq
    | some B=>exact hSH' q ((I.keys k hk q).1 (by simp [e]))
  have hsize:∀ q,S'.blk q≠none→∀ c T,hp W (ρ q)=some (.cells c T (0,0))→∃ c' T',hp w4 (ρ q)=some (.cells c' T' (0,0))∧c'.size=c.size:=fun q hq c T hc=>by
    have hSq:=hS'n q hq
    by_cases hH:(H (k+1)).lookup q=none
    · have : (H k).lookup q = none := by
        cases e:(H k).lookup q with
        | none=>rfl
        | some B=>exact absurd hH ((I.keys k hk q).2 (by simp [e]))
      exact ⟨c,T,(hkeep q this hSq).trans hc,rfl⟩
    · obtain ⟨c',T',g1,g2⟩:=(hplace q hH).2 c T hc
      exact ⟨c',T',(ho4 _ (hlown q hSq)).trans g1,g2⟩
  have hcells:∀ q,S.blk q≠none→∃ c T,hp W (ρ q)=some (.cells c T (0,0)):=fun q hq=>by
    obtain ⟨B,hB⟩:=Option.ne_none_iff_exists'.1 hq
    obtain ⟨c,e1,_⟩:=h.blks q B hB; exact ⟨c,B.T,e1⟩
  refine h.upd (S':=S') (Kp:=fun _=>True) ⟨?_,?_,?_,?_,fun b hb hx'=>?_⟩ (by simp [Act.put,h.nt]) rfl (fun b hb hne'=>⟨⟨hb.1,fun q hq=>hb.2 q (hS'n q hq)⟩,hold b hb (by obtain ⟨o,ho⟩:=Option.ne_none_iff_exists'.1 hne'; exact World.size_lt ho)⟩) (fun q _ B' hB'=>?_) (fun q q' h1 h2 e=>h.inj q q' (hS'n q h1) (hS'n q' h2) e) (fun j b n hj hSj=>⟨hS'n j hSj,rfl,hsize j hSj⟩) (fun t v ht=>?_) (fun q B hB=>?_)
  · rw [hw4]; show w3.os=_; rw [hfr3.os,hw0b,hW0b]; exact h.frame.os
  · rw [hw4]; show w3.tape=_; rw [hfr3.tape,hw0b,hW0b]; exact h.frame.tape
  · rw [hw4]; show w3.output=_; rw [hfr3.output,hw0b,hW0b]; exact h.frame.output
  · rw [hw4]; have:=hfr3.size; rw [hw0b,hszb] at this; simp; omega
  · by_cases eb:b=l
    · subst eb; rw [hw4,World.putObj_heap_same (World.size_lt hl3)]; exact I.loop.symm
    · rw [ho4 b eb,hfr3.block b (by rw [hw0b,hszb]; omega) (fun hX=>?_),hw0b,hob b eb]
      · exact h.frame.block b hb hx'
      · rw [hFB] at hX
        obtain ⟨q',h1,h2⟩:=hX
        obtain ⟨B,hB⟩:=lookup_some h1
        obtain ⟨_,_,e2,_⟩:=h.blks q' B (hSH q' B hB)
        rw [← h2] at e2
        rcases e2 with e2 | e2
        · exact hx' e2.1
        · omega
  · have hSq:=hS'n q (by simp [hB'])
    rw [hS'b] at hB'
    cases e:(H (k+1)).lookup q with
    | none =>
      rw [e,Option.none_or] at hB'
      exact ⟨B',hB',rfl,Nat.le_refl _,fun _=>⟨rfl,fun c T fr hc=>by
        obtain ⟨c0,T0,e1⟩:=hcells q hSq
        have hc':=hc
        rw [e1] at hc'; injection hc' with hc'; injection hc' with q1 q2 q3; subst q1
        obtain ⟨c',T',g1,g2⟩:=hsize q (by rw [hS'b,e,Option.none_or,hB']; simp) _ _ e1
        exact ⟨c',T',(0,0),g1,g2⟩⟩⟩
    | some B1 =>
      rw [e,Option.some_or] at hB'; injection hB' with hB'; subst hB'
      obtain ⟨B0,hB0⟩:=lookup_some ((I.keys k hk q).1 (by simp [e]))
      obtain ⟨s1,s2⟩:=I.same k hk q B0 B1 hB0 e
      exact ⟨B0,hSH q B0 hB0,s1,by omega,fun _=>⟨rfl,fun c T fr hc=>by
        obtain ⟨c0,T0,e1⟩:=hcells q hSq
        have hc':=hc
        rw [e1] at hc'; injection hc' with hc'; injection hc' with q1 q2 q3; subst q1
        obtain ⟨c',T',g1,g2⟩:=hsize q (by rw [hS'b,e,Option.some_or]; simp) _ _ e1
        exact ⟨c',T',(0,0),g1,g2⟩⟩⟩
  · rw [hS',St.app_slot] at ht
    simp only [List.lookup_cons,List.lookup_nil] at ht
    by_cases e:t=d
    · subst e
      simp only [BEq.rfl,Option.some_or,Option.some.injEq] at ht
      subst ht
      exact .inr ⟨.bool true,by simp only [Act.put]; rw [Array.getElem?_setIfInBounds_self_of_lt (by rw [h.nt]; exact hd)],by simp [RelV,Rel]⟩
    · rw [show (t == d)=false by simpa using e,Option.none_or] at ht
      exact .inl ⟨ht,by simp only [Act.put]; rw [Array.getElem?_setIfInBounds_ne (Ne.symm e)],fun _ _=>trivial⟩
  · have hSq:=hS'n q (by simp [hB])
    have hB0:=hB
    rw [hS'b] at hB
    cases e:(H (k+1)).lookup q with
    | none =>
      rw [e,Option.none_or] at hB
      have hn:(H k).lookup q=none:=by
        cases e':(H k).lookup q with
        | none=>rfl
        | some B=>exact absurd e ((I.keys k hk q).2 (by simp [e']))
      exact .inl ⟨hB,rfl,hkeep q hn hSq,fun _ _ _ _ _=>trivial⟩
    | some B1 =>
      rw [e,Option.some_or] at hB; injection hB with hB; subst hB
      obtain ⟨c,f1,f2,f3,f4⟩:=hs3.blks q B1 (hS3 q B1 e)
      obtain ⟨p1',p2'⟩:=hplace q (by simp [e])
      rw [p1'] at f1
      obtain ⟨B0',hB0'⟩:=Option.ne_none_iff_exists'.1 hSq
      obtain ⟨_,_,g2,_⟩:=h.blks q B0' hB0'
      refine .inr ⟨c,(ho4 _ (hlown q hSq)).trans f1,g2,f3,fun i x hx'=>?_⟩
      obtain ⟨u,hu,ho,hr⟩:=f4 i x hx'
      refine ⟨u,hu,ho,RelV.mono (K:=fun j=>(H (k+1)).lookup j≠none) (fun b hb _=>?_) (fun j hj B' hB'=>?_) x u (I.cont (k+1) (by omega) q B1 e i x hx') hr⟩
      · have hbok : okI FI S'.blk ρ b ∧ b ≠ l := by
          rcases hb.1 with hb1 | hb1
          · rw [hFB] at hb1
            exact ⟨⟨hb1.1.1,fun j hj=>hb1.1.2 j (hS'n j hj)⟩,fun e=>hlok _ _ (e ▸ hb1.1)⟩
          · rw [hw0b,hszb] at hb1
            exact ⟨⟨.inr (by omega),fun j hj e=>by have:=hne j (hS'n j hj); omega⟩,fun e=>by have:=World.size_lt hlW; omega⟩
        exact ⟨hbok.1,ho4 b hbok.2⟩
      · obtain ⟨Bj,hBj⟩:=lookup_some hj
        rw [hS'b,hBj,Option.some_or] at hB'; injection hB' with hB'; subst hB'
        refine ⟨Bj,hS3 j Bj hBj,rfl,Nat.le_refl _,fun _=>⟨(hplace j hj).1.symm,fun c T fr hc=>⟨c,T,fr,?_,rfl⟩⟩⟩
        rw [(hplace j hj).1] at hc ⊢
        exact (ho4 _ (hlown j (hSH' j ((I.keys k hk j).1 hj)))).trans hc
end Go.Proofs.YtjagfionflbjbaaGreat.SH
namespace Go.Proofs.YtjagfionflbjbaaGreat.SH
open Go Go.RowKit
theorem same_all {n : Nat} {H : Nat → List (Nat × Blk)} (keys : ∀ k, k < n → ∀ q, (H (k + 1)).lookup q ≠ none ↔ (H k).lookup q ≠ none) (same : ∀ k, k < n → ∀ q B B', (H k).lookup q = some B → (H (k + 1)).lookup q = some B' → B'.sz = B.sz ∧ B'.cs.len = B.cs.len) :
    ∀ k,k≤n→∀ q,((H k).lookup q≠none↔(H 0).lookup q≠none)∧∀ B B',(H 0).lookup q=some B→(H k).lookup q=some B'→B'.sz=B.sz∧B'.cs.len=B.cs.len
  | 0,_,q=>⟨Iff.rfl,fun B B' h h'=>by rw [h] at h'; injection h' with h'; subst h'; exact ⟨rfl,rfl⟩⟩
  | k+1,hk,q=>by
    obtain ⟨h1,h2⟩:=same_all keys same k (by omega) q
    have h3:=keys k (by omega) q
    refine ⟨h3.trans h1,fun B B' h h'=>?_⟩
    obtain ⟨B1,hB1⟩:=lookup_some (h3.1 (by simp [h']))
    obtain ⟨a1,a2⟩:=h2 B B1 h hB1
    obtain ⟨b1,b2⟩:=same k (by omega) q B1 B' hB1 h'
    exact ⟨b1.trans a1,b2.trans a2⟩
theorem ex_range {E : Env} {F : Fr} {S : St} {Q : Exit → St → Prop} {tg p1 p2 gf n nI : Nat} {asx bd c : Code} {fn : Func} {caps : List PV} {Hc Hc' : List (Nat × Blk)} (H : Nat → List (Nat × Blk)) (encs : Nat → Pure × Pure) {sl : List (Nat × PV)}
    (hG:E.G F.w0) (hX:∀ b,F.X b→E.ng≤b) (hng:E.ng≤F.w0.heap.size) (hro:F.ro=none) (htg:S.slot tg=some (.clo (.func gf) [] caps)) (hle:St.le ⟨sl,Hc++H 0⟩ S)
    (eg:∀ args w,(callFunc gf args).run E.P w = .ok (.enter gf args) w) (hf:E.P.funcs[gf]? = some fn) (hb:fn.body=some c) (hn:fn.ntmps=nI) (hr:fn.results = #[]) (hcl:caps.length+1≤nI) (hlt:p1<F.nt∧p2<F.nt)
    (hdis:∀ q,Hc.lookup q≠none→∀ k,k≤n→(H k).lookup q=none)
    (keys:∀ k,k<n→∀ q,(H (k+1)).lookup q≠none↔(H k).lookup q≠none) (same:∀ k,k<n→∀ q B B',(H k).lookup q=some B→(H (k+1)).lookup q=some B'→B'.sz=B.sz∧B'.cs.len=B.cs.len)
    (cont:∀ k,k≤n→∀ j B,(H k).lookup j=some B→∀ i x,B.cs.get i=some x→∀ q,x.free q=false→(H k).lookup q≠none)
    (keysc:∀ q,Hc'.lookup q≠none→Hc.lookup q≠none) (hsl:∀ t v,sl.lookup t=some v→∀ q,v.free q=false→(H 0).lookup q≠none)
    (hit:∀ l F',XFr E (Hc++H 0) nI F'→F'.ro=none→Yields E.P F' l n encs H→Exec E.P F' c ⟨(0,.clo (.yield l) [] []) :: argSlotsV 1 caps,Hc++H 0⟩ (fun e S'=>(e = .normal∨e = .ret)∧HasB S' (Hc'++H n)))
    (hround:∀ k,k<n→∃ S1,(∀ F',XFr E (H k) F.nt F'→Exec E.P F' asx ⟨(p2,.p (encs k).2) :: (p1,.p (encs k).1) :: sl,H k⟩ (fun e S'=>e = .normal∧S1.le S')) ∧
      (∀ F',XFr E (H k) F.nt F'→Exec E.P F' bd S1 (fun e S'=>e = .normal∧HasB S' (H (k+1)))))
    (hQ:Q .normal ⟨sl,Hc'++H n⟩):Exec E.P F (.rangeFunc (.tmp tg) #[p1,p2] asx bd) S Q:=by
  refine ⟨fun nn a w ⟨ρ,h⟩=>wpIn_rangeFunc ?_⟩
  intro fid _
  have hsa:=same_all keys same
  obtain ⟨uT,huT,hrT⟩:=h.slots tg _ htg
  simp only [RelV,RelVL] at hrT
  obtain ⟨fs,cs,rfl,rfl,hcs⟩:=hrT
  have htgv:a.eval (.tmp tg) = .func (.func gf) #[] cs.toArray:=by simp [Act.eval,Array.getD_eq_getD_getElem?,huT]
  have h0:=h.weakR hle
  let S0:St:=⟨sl,Hc++H 0⟩
  have hS0:∀ q,S0.blk q=(Hc.lookup q).or ((H 0).lookup q):=fun q=>lookup_append _ _ _
  have hS0H:∀ q B,(H 0).lookup q=some B→S0.blk q=some B:=fun q B hq=>by
    rw [hS0]
    cases e:Hc.lookup q with
    | none=>simp [hq]
    | some B'=>have:=hdis q (by simp [e]) 0 (by omega); rw [hq] at this; cases this
  obtain ⟨W1,hW1⟩:∃ W1,W1=(w.alloc (.deferred (some []))).alloc (.loop (mkL fid a.tmps p1 p2 asx bd w.heap.size .ready none)):=⟨_,rfl⟩
  have hsz1:W1.heap.size=w.heap.size+2:=by rw [hW1]; simp
  have hl1:W1.heap[w.heap.size+1]? = some (.loop (mkL fid a.tmps p1 p2 asx bd w.heap.size .ready none)):=by
    rw [hW1]; have:=World.alloc_heap_new (w.alloc (.deferred (some []))) (.loop (mkL fid a.tmps p1 p2 asx bd w.heap.size .ready none)); rwa [World.size_alloc] at this
  have hD1:W1.heap[w.heap.size]? = some (.deferred (some [])):=by
    rw [hW1]; exact (Below.heap_alloc _ _ _ (by simp)).trans (World.alloc_heap_new w _)
  have hold1:∀ b,b<w.heap.size→W1.heap[b]? = w.heap[b]?:=fun b hb=>by
    rw [hW1]; exact (Below.heap_alloc _ _ _ (by simp; omega)).trans (Below.heap_alloc _ _ _ hb)
  have hos1:W1.os=w.os∧W1.tape=w.tape∧W1.output=w.output:=by rw [hW1]; exact ⟨rfl,rfl,rfl⟩
  have hfsz:=h.frame.size
  have hne:∀ q,S0.blk q≠none→ρ q<w.heap.size:=fun q hq=>by
    obtain ⟨B,hB⟩:=Option.ne_none_iff_exists'.1 hq
    obtain ⟨c,e1,_⟩:=h0.blks q B hB; exact World.size_lt e1
  have hXng:∀ q,S0.blk q≠none→E.ng≤ρ q:=fun q hq=>by
    obtain ⟨B,hB⟩:=Option.ne_none_iff_exists'.1 hq
    obtain ⟨_,_,e2,_⟩:=h0.blks q B hB
    rcases e2 with e2 | e2
    · exact hX _ e2.1
    · omega
  obtain ⟨FI,hFI⟩:∃ FI:Fr,FI=⟨W1,fun b=>okI F S0.blk ρ b∧b<w.heap.size,fun b=>∃ q,S0.blk q≠none∧b=ρ q,nI,[],fun q=>if S0.blk q≠none then match hp w (ρ q) with | some (.cells c _ _)=>some (ρ q,c.size) | _=>none else none,none,fun _ _=>False,fun q=>(S0.blk q).isNone⟩:=⟨_,rfl⟩
  have iw:FI.w0=W1:=by rw [hFI]
  have ix:∀ b,FI.X b↔∃ q,S0.blk q≠none∧b=ρ q:=fun b=>by rw [hFI]
  have ik:∀ b,FI.okA b↔okI F S0.blk ρ b∧b<w.heap.size:=fun b=>by rw [hFI]
  have ipin:∀ q B c,S0.blk q=some B→hp w (ρ q)=some (.cells c B.T (0,0))→FI.pin q=some (ρ q,c.size):=fun q B c h1 h2=>by
    rw [hFI]; simp only; rw [if_pos (by rw [h1]; simp),h2]
  have iXlt:∀ b,FI.X b→b<w.heap.size:=fun b hb=>by obtain ⟨q,h1,h2⟩:=(ix b).1 hb; rw [h2]; exact hne q h1
  have hGw:E.G w:=E.stab F.w0 w hG fun b hb=>h.frame.block b (by omega) (fun hx'=>by have:=hX b hx'; omega)
  have hG1:E.G W1:=E.stab w W1 hGw fun b hb=>hold1 b (by omega)
  have iX:XFr E (Hc++H 0) nI FI:=⟨by rw [iw]; exact hG1,fun b hb=>by obtain ⟨q,h1,h2⟩:=(ix b).1 hb; rw [h2]; exact hXng q h1,by rw [hFI],by rw [hFI],fun q hq=>by
    rw [hFI]; simp only; rw [if_neg (by show ¬ (S0.blk q≠none); simp only [S0,St.blk]; simp [hq])],fun q=>by rw [hFI]; rfl,by rw [iw]; omega⟩
  have hcarW:∀ {ρ' S' a' W},SatR FI ρ' S' a' W→Carry (okI F S0.blk ρ) (okI FI S'.blk ρ') (hp w) (hp W):=fun {ρ' S' a' W} hs b hb hne'=>by
    have hbs:b<w.heap.size:=by obtain ⟨o,ho⟩:=Option.ne_none_iff_exists'.1 hne'; exact World.size_lt ho
    have hnX:¬ FI.X b:=fun hx'=>by obtain ⟨q,h1,h2⟩:=(ix b).1 hx'; exact hb.2 q h1 h2
    refine ⟨⟨.inl ((ik b).2 ⟨hb,hbs⟩),fun q hq e=>?_⟩,(hs.frame.block b (by rw [iw]; omega) hnX).trans (by rw [iw]; exact hold1 b hbs)⟩
    obtain ⟨B,hB⟩:=Option.ne_none_iff_exists'.1 hq
    obtain ⟨_,_,e2,_⟩:=hs.blks q B hB
    rw [← e] at e2
    rcases e2 with e2 | e2
    · exact hnX e2.1
    · rw [iw] at e2; omega
  have hpinW:∀ {ρ' S' a' W},SatR FI ρ' S' a' W→∀ q B,S0.blk q=some B→S'.blk q≠none→ρ' q=ρ q∧∀ c T,hp w (ρ q)=some (.cells c T (0,0))→∃ c' T',hp W (ρ q)=some (.cells c' T' (0,0))∧c'.size=c.size:=fun {ρ' S' a' W} hs q B hB hS'=>by
    obtain ⟨c,e1,_⟩:=h0.blks q B hB
    obtain ⟨q1,c',T',q2,q3⟩:=hs.pin q _ _ (ipin q B c hB e1) hS'
    refine ⟨q1,fun c2 T2 h2=>⟨c',T',q2,?_⟩⟩
    rw [e1] at h2; injection h2 with h2; injection h2 with h2; rw [q3,h2]
  have hkeepW:∀ {ρ' S' a' W} (β:Nat→Option Blk),SatR FI ρ' S' a' W→∀ k,k≤n→(∀ q B,(H k).lookup q=some B→S'.blk q=some B)→(∀ q,(H 0).lookup q≠none→∀ B,β q=some B→(H k).lookup q=some B)→Keep (fun q=>(H 0).lookup q≠none) S0.blk β ρ ρ' (hp w) (hp W):=fun {ρ' S' a' W} β hs k hk hH hβ q hq B' hB'=>by
    have hB':=hβ q hq B' hB'
    obtain ⟨B0,hB0⟩:=lookup_some hq
    obtain ⟨s1,s2⟩:=(hsa k hk q).2 B0 B' hB0 hB'
    have hb0:=hS0H q B0 hB0
    obtain ⟨q1,q2⟩:=hpinW hs q B0 hb0 (by rw [hH q B' hB']; simp)
    refine ⟨B0,hb0,s1,by omega,fun _=>⟨q1,fun c T fr hc=>?_⟩⟩
    obtain ⟨c0,e1,_⟩:=h0.blks q B0 hb0
    have hc':=hc
    rw [e1] at hc'; injection hc' with hc'; injection hc' with r1 r2 r3; subst r1
    obtain ⟨c',T',g1,g2⟩:=q2 _ _ e1
    exact ⟨c',T',(0,0),g1,g2⟩
  have hIt:ItFr FI (w.heap.size+1) w.heap.size (mkL fid a.tmps p1 p2 asx bd w.heap.size .ready none) H n:=by
    refine ⟨by rw [hFI],by rw [iw]; exact hl1,fun hh=>by have:=iXlt _ hh; omega,fun hh=>by have:=((ik _).1 hh).2; omega,by rw [iw]; omega,fun k hk q B hq=>?_,keys,same,fun k hk q hq=>?_,cont⟩
    · obtain ⟨B0,hB0⟩:=lookup_some ((hsa k hk q).1.1 (by simp [hq]))
      obtain ⟨c,e1,_⟩:=h0.blks q B0 (hS0H q B0 hB0)
      exact ⟨_,_,ipin q B0 c (hS0H q B0 hB0) e1⟩
    · obtain ⟨B0,hB0⟩:=lookup_some ((hsa k hk q).1.1 hq)
      rw [hFI]; simp only; rw [hS0H q B0 hB0]; rfl
  have hY:Yields E.P FI (w.heap.size+1) n encs H:=by
    refine yields_of (nt:=F.nt) (sl:=sl) hIt (by rw [iw]; exact hG1) iX.x iX.ng (by omega) h.nt hlt (fun k hk ρ' S' a' W hs hH t v ht=>?_) hround
    obtain ⟨u,hu,hr'⟩:=h0.slots t v ht
    refine ⟨u,hu,RelV.mono (hcarW hs) (hkeepW (lk (H k)) hs k hk hH (fun q _ B hB=>hB)) v u (hsl t v ht) hr'⟩
  refine ⟨w.heap.size+1,[{ target:=.collected w.heap.size,args:=#[] }],W1,{ target:=.fn (.func gf) cs.toArray,args:=#[.func (.yield (w.heap.size+1)) #[] #[]] },W1,gf,#[.func (.yield (w.heap.size+1)) #[] #[]]++cs.toArray,W1,?_,?_,fun _ _=>trivial,?_,fun hh=>by simp [Fence.wide] at hh,?_⟩
  · show (Instr.enterLoop fid a.tmps #[p1,p2] asx bd F.ro).run E.P w=_
    rw [hro,hW1]; exact run_enterLoop_outer _ _ _ _ _
  · simp only [resolve,rangeCall,htgv]; simp [Deferred.ofValue,Act.eval]
  · simp [invoke,eg]
  have hfw:fen F=Fence.wide:=by simp [fen,hro,Fence.wide]
  rw [hfw]
  refine callsIn_wide.2 ?_
  rw [show (#[Value.func (.yield (w.heap.size+1)) #[] #[]]++cs.toArray:Array Value)=(Value.func (.yield (w.heap.size+1)) #[] #[] :: cs).toArray by simp]
  have hcl':cs.length=caps.length:=relVL_length hcs
  have hSI:SatR FI ρ ⟨(0,.clo (.yield (w.heap.size+1)) [] []) :: argSlotsV 1 caps,Hc++H 0⟩ { tmps:=(Value.func (.yield (w.heap.size+1)) #[] #[] :: cs).toArray++Array.replicate (fn.ntmps - (Value.func (.yield (w.heap.size+1)) #[] #[] :: cs).toArray.size) undef,defers:=[] } W1:=by
    have hcar:Carry (okI F S.blk ρ) (okI FI (St.blk ⟨(0,.clo (.yield (w.heap.size+1)) [] []) :: argSlotsV 1 caps,Hc++H 0⟩) ρ) (hp w) (hp W1):=fun b hb hne'=>by
      have hbs:b<w.heap.size:=by obtain ⟨o,ho⟩:=Option.ne_none_iff_exists'.1 hne'; exact World.size_lt ho
      have hsub:∀ q,S0.blk q≠none→S.blk q≠none:=fun q hq=>by obtain ⟨B,hB⟩:=Option.ne_none_iff_exists'.1 hq; rw [hle.2 q B hB]; simp
      exact ⟨⟨.inl ((ik b).2 ⟨⟨hb.1,fun q hq=>hb.2 q (hsub q hq)⟩,hbs⟩),fun q hq=>hb.2 q (hsub q hq)⟩,hold1 b hbs⟩
    have hkp:Keep (fun _=>True) S.blk (St.blk ⟨(0,.clo (.yield (w.heap.size+1)) [] []) :: argSlotsV 1 caps,Hc++H 0⟩) ρ ρ (hp w) (hp W1):=fun q _ B hB=>⟨B,hle.2 q B hB,rfl,Nat.le_refl _,fun _=>⟨rfl,fun c T fr hc=>⟨c,T,fr,(hold1 _ (hne q (by have hB':S0.blk q=some B:=hB; simp [hB']))).trans hc,rfl⟩⟩⟩
    refine h.move (Kp:=fun _=>True) (by rw [hFI]; exact ⟨rfl,rfl,rfl,Nat.le_refl _,fun _ _ _=>rfl⟩) (by rw [iX.nt]; simp [hn,hcl']; omega) (Marks.nil iX.df) hcar hkp (fun q q' h1 h2 e=>h0.inj q q' h1 h2 e) (fun j b m hj hS=>?_) (fun t v ht=>.inr ?_) (fun q B hB=>.inl ⟨hle.2 q B hB,rfl,hold1 _ (hne q (by have hB':S0.blk q=some B:=hB; simp [hB'])),.inl ⟨(ix _).2 ⟨q,by have hB':S0.blk q=some B:=hB; simp [hB'],rfl⟩,by have hB':S0.blk q=some B:=hB; rw [hFI]; simp [hB']⟩,fun _ _ _ _ _=>trivial⟩)
    · have hS':S0.blk j≠none:=hS
      obtain ⟨B,hB⟩:=Option.ne_none_iff_exists'.1 hS'
      obtain ⟨c,e1,_⟩:=h0.blks j B hB
      rw [ipin j B c hB e1] at hj
      injection hj with hj; injection hj with hj1 hj2
      subst hj1 hj2
      exact ⟨rfl,c,B.T,(hold1 _ (hne j hS')).trans e1,rfl⟩
    · simp only [St.slot,List.lookup_cons] at ht
      split at ht
      · rename_i e; injection ht with ht; subst ht
        obtain rfl:t=0:=by simpa using e
        exact ⟨.func (.yield (w.heap.size+1)) #[] #[],by rw [Array.getElem?_append_left (by simp)]; simp,by simp [RelV,RelVL]⟩
      · obtain ⟨j,rfl,hx⟩:=argSlotsV_get ht
        obtain ⟨u,hu,hru⟩:=relVL_get hcs hx
        refine ⟨u,?_,RelV.mono hcar hkp v u (fun _ _=>trivial) hru⟩
        have hjl:=(List.getElem?_eq_some_iff.1 hu).1
        rw [Array.getElem?_append_left (by simp; omega)]
        simp [Nat.add_comm 1 j,hu]
  refine calls_exec hf hb (by rw [hFI]) iX.df (by rw [hFI]; exact fun _ _ h=>h) ⟨ρ,hSI⟩ (hit _ FI iX (by rw [hFI]) hY) fun e SE hq=>⟨hq.1,fun ρE tmps W2 hE=>?_⟩
  have hHB:=hq.2
  refine ⟨.tuple #[],by unfold results; rw [hr]; simp,?_⟩
  have hSE:∀ q B,(Hc'++H n).lookup q=some B→SE.blk q=some B:=fun q B hq=>hHB.all q B hq
  have hl2:W2.heap[w.heap.size+1]? = some (.loop (mkL fid a.tmps p1 p2 asx bd w.heap.size .ready none)):=(hE.frame.block _ (by rw [iw]; omega) (fun hh=>by have:=iXlt _ hh; omega)).trans (by rw [iw]; exact hl1)
  have hD2:W2.heap[w.heap.size]? = some (.deferred (some [])):=(hE.frame.block _ (by rw [iw]; omega) (fun hh=>by have:=iXlt _ hh; omega)).trans (by rw [iw]; exact hD1)
  obtain ⟨W4,hW4⟩:∃ W4,W4=W2.putObj (w.heap.size+1) (.loop (mkL fid a.tmps p1 p2 asx bd w.heap.size .exhausted none)):=⟨_,rfl⟩
  have hend:(Instr.endLoop (w.heap.size+1)).run E.P W2 = .ok none W4:=by rw [hW4]; exact run_endLoop hl2 (by simp [mkL])
  refine ⟨none,W4,hend,?_⟩
  have hother:∀ b,b≠w.heap.size+1→W4.heap[b]? = W2.heap[b]?:=fun b hb=>by rw [hW4]; exact World.putObj_heap_other hb
  have hsz2:=hE.frame.size
  rw [iw] at hsz2
  have hown:∀ q,SE.blk q≠none→ρE q≠w.heap.size+1∧ρE q≠w.heap.size:=fun q hq=>by
    obtain ⟨B,hB⟩:=Option.ne_none_iff_exists'.1 hq
    obtain ⟨c2,q1,_⟩:=hE.blks q B hB
    refine ⟨fun e2=>?_,fun e2=>?_⟩
    · rw [e2] at q1
      have:hp W2 (w.heap.size+1)=some (.loop (mkL fid a.tmps p1 p2 asx bd w.heap.size .ready none)):=hl2
      rw [this] at q1; cases q1
    · rw [e2] at q1
      have:hp W2 w.heap.size=some (.deferred (some [])):=hD2
      rw [this] at q1; cases q1
  have hend0:∀ q B,(Hc'++H n).lookup q=some B→∃ B0,S0.blk q=some B0:=fun q B hq=>by
    rw [lookup_append] at hq
    cases e:Hc'.lookup q with
    | some B1 =>
      obtain ⟨B0,hB0⟩:=lookup_some (keysc q (by simp [e]))
      exact ⟨B0,by rw [hS0,hB0]; rfl⟩
    | none =>
      rw [e,Option.none_or] at hq
      obtain ⟨B0,hB0⟩:=lookup_some ((hsa n (Nat.le_refl _) q).1.1 (by simp [hq]))
      exact ⟨B0,hS0H q B0 hB0⟩
  have hplace:∀ q B,(Hc'++H n).lookup q=some B→ρE q=ρ q:=fun q B hq=>by
    obtain ⟨B0,hB0⟩:=hend0 q B hq
    exact (hpinW hE q B0 hB0 (by rw [hSE q B hq]; simp)).1
  have hlI:∀ b,okI FI SE.blk ρE b→b≠w.heap.size+1:=fun b hb e=>by
    subst e
    rcases hb.1 with hb1 | hb1
    · exact hIt.lok hb1
    · rw [iw] at hb1; omega
  have hokE:∀ b,okI FI SE.blk ρE b→okI F (St.blk ⟨sl,Hc'++H n⟩) ρE b:=fun b hb=>by
    refine ⟨?_,fun q hq=>?_⟩
    · rcases hb.1 with hb1 | hb1
      · exact ((ik b).1 hb1).1.1
      · rw [iw] at hb1; exact .inr (by omega)
    · obtain ⟨B,hB⟩:=Option.ne_none_iff_exists'.1 hq
      exact hb.2 q (by rw [hSE q B hB]; simp)
  have hnX:∀ b,b<F.w0.heap.size→¬ F.X b→¬ FI.X b:=fun b hb hx' hh=>by
    obtain ⟨q,h1,h2⟩:=(ix b).1 hh
    obtain ⟨B,hB⟩:=Option.ne_none_iff_exists'.1 h1
    obtain ⟨_,_,e2,_⟩:=h0.blks q B hB
    rw [← h2] at e2
    rcases e2 with e2 | e2
    · exact hx' e2.1
    · omega
  refine .inl ⟨⟨sl,Hc'++H n⟩,hQ,ρE,?_⟩
  have hfr4:Frame F W4:=by
    have hfE:=hE.frame
    refine ⟨?_,?_,?_,?_,fun b hb hx'=>?_⟩
    · rw [hW4]; show W2.os=_; rw [hfE.os,iw,hos1.1]; exact h.frame.os
    · rw [hW4]; show W2.tape=_; rw [hfE.tape,iw,hos1.2.1]; exact h.frame.tape
    · rw [hW4]; show W2.output=_; rw [hfE.output,iw,hos1.2.2]; exact h.frame.output
    · rw [hW4]; simp; omega
    · rw [hother b (by omega),hfE.block b (by rw [iw]; omega) (hnX b hb hx'),iw,hold1 b (by omega)]; exact h.frame.block b hb hx'
  obtain ⟨Ds,d1,d2,d3⟩:=h.df
  have hcar4:Carry (okI FI SE.blk ρE) (okI F (St.blk ⟨sl,Hc'++H n⟩) ρE) (hp W2) (hp W4):=fun b hb _=>⟨hokE b hb,hother b (hlI b hb)⟩
  have hkeep4:Keep (fun _=>True) SE.blk (St.blk ⟨sl,Hc'++H n⟩) ρE ρE (hp W2) (hp W4):=fun q _ B hB=>⟨B,hSE q B hB,rfl,Nat.le_refl _,fun _=>⟨rfl,fun c T fr hc=>⟨c,T,fr,(hother _ (hown q (by rw [hSE q B hB]; simp)).1).trans hc,rfl⟩⟩⟩
  have hsub:∀ q,St.blk ⟨sl,Hc'++H n⟩ q≠none→SE.blk q≠none:=fun q hq=>by
    obtain ⟨B,hB⟩:=Option.ne_none_iff_exists'.1 hq
    rw [hSE q B hB]; simp
  refine hE.move (Kp:=fun _=>True) hfr4 h.nt ⟨w.heap.size :: Ds,by rw [d1]; rfl,List.nodup_cons.2 ⟨fun hm=>?_,d2⟩,fun D' hD'=>?_⟩ hcar4 hkeep4 (fun q q' h1 h2 e=>hE.inj q q' (hsub q h1) (hsub q' h2) e) (fun j b m hj hS=>?_) (fun t v ht=>.inr ?_) (fun q B hB=>.inl ⟨hSE q B hB,rfl,hother _ (hown q (by rw [hSE q B hB]; simp)).1,?_,fun _ _ _ _ _=>trivial⟩)
  · obtain ⟨_,q2⟩:=d3 _ hm; have:=World.size_lt q2; omega
  · rcases List.mem_cons.1 hD' with rfl | hD'
    · exact ⟨hfsz,(hother _ (by omega)).trans hD2⟩
    · obtain ⟨q1,q2⟩:=d3 D' hD'
      have hlt':=World.size_lt q2
      refine ⟨q1,(hother _ (by omega)).trans ((hE.frame.block D' (by rw [iw]; omega) (fun hh=>?_)).trans (by rw [iw]; exact (hold1 _ hlt').trans q2))⟩
      obtain ⟨q,h1,h2⟩:=(ix _).1 hh
      obtain ⟨B,hB⟩:=Option.ne_none_iff_exists'.1 h1
      obtain ⟨c,e1,_⟩:=h0.blks q B hB
      have:hp w D'=some (.deferred (some [])):=q2
      rw [← h2,this] at e1; cases e1
  · obtain ⟨B,hB⟩:=Option.ne_none_iff_exists'.1 hS
    obtain ⟨B0,hB0⟩:=hend0 j B hB
    obtain ⟨q1,c,T,q2,q3⟩:=h0.pin j b m hj (by show S0.blk j≠none; rw [hB0]; simp)
    obtain ⟨r1,r2⟩:=hpinW hE j B0 hB0 (by rw [hSE j B hB]; simp)
    rw [← q1] at q2
    obtain ⟨c',T',g1,g2⟩:=r2 c T q2
    refine ⟨r1.trans q1,c',T',?_,g2.trans q3⟩
    rw [← q1]
    exact (hother _ (by rw [← r1]; exact (hown j (by rw [hSE j B hB]; simp)).1)).trans g1
  · obtain ⟨u,hu,hr'⟩:=h0.slots t v ht
    refine ⟨u,hu,?_⟩
    have m1:=RelV.mono (hcarW hE) (hkeepW (fun q=>(Hc'++H n).lookup q) hE n (Nat.le_refl _) (fun q B hq=>?_) (fun q hq B hB=>?_)) v u (hsl t v ht) hr'
    · exact RelV.mono (K:=fun _=>True) hcar4 (fun q _ B hB=>⟨B,hB,rfl,Nat.le_refl _,fun _=>⟨rfl,fun c T fr hc=>⟨c,T,fr,(hother _ (hown q (by rw [hSE q B hB]; simp)).1).trans hc,rfl⟩⟩⟩) v u (fun _ _=>trivial) m1
    · refine hSE q B ?_
      rw [lookup_append]
      cases e:Hc'.lookup q with
      | none=>simp [hq]
      | some B1=>have:=hdis q (keysc q (by simp [e])) n (Nat.le_refl _); rw [hq] at this; cases this
    · rw [lookup_append] at hB
      cases e:Hc'.lookup q with
      | none=>rw [e,Option.none_or] at hB; exact hB
      | some B1=>exact absurd (hdis q (keysc q (by simp [e])) 0 (by omega)) hq
  · obtain ⟨B0,hB0⟩:=hend0 q B hB
    rw [hplace q B hB]
    obtain ⟨_,_,e2,_⟩:=h0.blks q B0 hB0
    exact e2
end Go.Proofs.YtjagfionflbjbaaGreat.SH
namespace Go.Proofs.YtjagfionflbjbaaGreat.SH
open Go Go.RowKit
theorem lookup_keys {H H':List (Nat×Blk)}(h:H'.map (·.1)=H.map (·.1))(j:Nat):H'.lookup j≠none↔H.lookup j≠none:=by
  have:∀ l:List (Nat×Blk),l.lookup j≠none↔j∈l.map (·.1):=by
    intro l
    induction l with
    | nil=>simp
    | cons p l ih =>
      obtain ⟨s,u⟩:=p
      rw [List.lookup_cons]
      by_cases e:j=s
      · simp [e]
      · rw [show (j == s)=false by simpa using e]
        simp only [List.map_cons,List.mem_cons,e,false_or]
        exact ih
  rw [this,this,h]
inductive RenH (κ:Nat→Nat):List (Nat×Blk)→List (Nat×Blk)→Prop
  | nil:RenH κ [] []
  | cons {j k:Nat} {B B':Blk} {H H':List (Nat×Blk)}:κ j=k→B'=B.ren κ→RenH κ H H'→RenH κ ((j,B) :: H) ((k,B') :: H')
theorem RenH.mem {κ:Nat→Nat}{H Hc:List (Nat×Blk)}(h:RenH κ H Hc):∀ j B,(j,B)∈H→(κ j,B.ren κ)∈Hc:=by
  induction h with
  | nil=>intro j B h; cases h
  | cons a b _ ih =>
    intro j B hm
    rcases List.mem_cons.1 hm with e | hm
    · injection e with e1 e2; subst e1 e2; subst a b; simp
    · exact List.mem_cons_of_mem _ (ih j B hm)
theorem RenH.lk {κ:Nat→Nat}{H Hc:List (Nat×Blk)}(h:RenH κ H Hc)(inj:∀ j j',H.lookup j≠none→H.lookup j'≠none→κ j=κ j'→j=j'):∀ j B,H.lookup j=some B→Hc.lookup (κ j)=some (B.ren κ):=by
  induction h with
  | nil=>intro j B h; simp at h
  | @cons i k B0 B1 H H' a b _ ih =>
    intro j B hj
    subst a b
    rw [List.lookup_cons] at hj ⊢
    by_cases e:j=i
    · subst e
      simp only [BEq.rfl,Option.some.injEq] at hj ⊢
      rw [hj]
    · rw [show (j == i)=false by simpa using e] at hj
      have hne:¬ κ j=κ i:=fun e2=>e (inj j i (by rw [List.lookup_cons,show (j == i)=false by simpa using e]; simp [hj]) (by rw [List.lookup_cons]; simp) e2)
      rw [show (κ j == κ i)=false by simpa using hne]
      refine ih (fun p p' h1 h2 e2=>?_) j B hj
      have ex:∀ q,H.lookup q≠none→List.lookup q ((i,B0) :: H)≠none:=fun q hq=>by rw [List.lookup_cons]; split <;> simp [hq]
      exact inj p p' (ex p h1) (ex p' h2) e2
theorem RenH.back {κ:Nat→Nat}{H Hc:List (Nat×Blk)}(h:RenH κ H Hc):∀ k B',Hc.lookup k=some B'→∃ j B,κ j=k∧(j,B)∈H∧B'=B.ren κ:=by
  induction h with
  | nil=>intro k B' h; simp at h
  | @cons i k0 B0 B1 H H' a b _ ih =>
    intro k B' hk
    rw [List.lookup_cons] at hk
    split at hk
    · rename_i e; injection hk with hk; subst hk
      exact ⟨i,B0,by rw [a]; exact (by simpa using e:k=k0).symm,by simp,b⟩
    · obtain ⟨j,B,h1,h2,h3⟩:=ih k B' hk
      exact ⟨j,B,h1,by simp [h2],h3⟩
structure GH (κ:Nat→Nat) (H H' Hc Hc':List (Nat×Blk)):Prop where
  ren:RenH κ H Hc
  ren':RenH κ H' Hc'
  inj:∀ j j',H.lookup j≠none→H.lookup j'≠none→κ j=κ j'→j=j'
  keys:H'.map (·.1)=H.map (·.1)
  nd:(H.map (·.1)).Nodup
  same:∀ j B B',H.lookup j=some B→H'.lookup j=some B'→B'.sz=B.sz∧B'.cs.len=B.cs.len
  cont:∀ j B,H'.lookup j=some B→∀ i x,B.cs.get i=some x→∀ q,x.free q=false→H'.lookup q≠none
theorem lookup_nd:∀ {H:List (Nat×Blk)},(H.map (·.1)).Nodup→∀ {j:Nat} {B:Blk},(j,B)∈H→H.lookup j=some B
  | [],_,j,B,h=>by cases h
  | (k,C) :: H,hn,j,B,h=>by
    rw [List.map_cons,List.nodup_cons] at hn
    rw [List.lookup_cons]
    rcases List.mem_cons.1 h with h0 | h0
    · injection h0 with h1 h2; subst h1 h2; simp
    · have:j≠k:=fun e=>by subst e; exact hn.1 (List.mem_map.2 ⟨(j,B),h0,rfl⟩)
      rw [show (j == k)=false by simpa using this]
      exact lookup_nd hn.2 h0
theorem core_callG {E : Env} {st : Nat → Bool} {F : Fr} (hG : E.G F.w0) (hX : ∀ b, F.X b → E.ng ≤ b) (hng : E.ng ≤ F.w0.heap.size) {d : Nat} {f : FuncId} {dst : Option Nat} {op : Op} {T : TypeId} {pos : String} {aft : Array Edge} {g : Option (Nat × Bool)} {rs : List (Operand × PV)} {xs : List PV} {H H' Hc Hc' : List (Nat × Blk)} {r r' : PV} (κ : Nat → Nat) (hst : ∀ j, H.lookup j ≠ none → st j = true) (hs : SaysG E st f xs H H' r) (hd : dst = some d) (hlt : d < F.nt)
    (hargs:∀ ρ S a w,SatR F ρ S a w→(∀ p∈rs,S.opd p.1=some p.2)→∃ vals:List Value,(execOp a.eval ⟨dst,op,T,pos,aft,g⟩).run E.P w = .ok (.enter f vals.toArray) w∧RelVL S.blk ρ (okI F S.blk ρ) (hp w) (xs.map (PV.ren κ)) vals)
    (h:GH κ H H' Hc Hc') (hr':r'=r.ren κ) (hres:∀ q,r.free q=false→H'.lookup q≠none):CoreOk E.P F ⟨dst,op,T,pos,aft,g⟩ ⟨rs,Hc,none,[(d,r')],Hc'⟩:=by
  intro S a w hS hA Q K hK
  subst hr'
  have hkeys:=lookup_keys h.keys
  have h1:∀ j B,H.lookup j=some B→S.blk (κ j)=some (B.ren κ):=fun j B hj=>hA.rb (κ j,B.ren κ) (h.ren.mem j B (lookup_mem hj))
  have nd':(H'.map (·.1)).Nodup:=by rw [h.keys]; exact h.nd
  have hb':∀ k,(S.app ⟨rs,Hc,none,[(d,r.ren κ)],Hc'⟩).blk k=(Hc'.lookup k).or (S.blk k):=fun k=>St.app_blk _ _ _
  have inj':∀ j j',(H.lookup j≠none∨H'.lookup j≠none)→(H.lookup j'≠none∨H'.lookup j'≠none)→κ j=κ j'→j=j':=fun j j' a b e =>
    h.inj j j' (a.elim id (hkeys j).1) (b.elim id (hkeys j').1) e
  have hc':∀ j B,H'.lookup j=some B→Hc'.lookup (κ j)=some (B.ren κ):=h.ren'.lk fun j j' a b e=>inj' j j' (.inr a) (.inr b) e
  have hstay:∀ q,Stays st S (S.app ⟨rs,Hc,none,[(d,r.ren κ)],Hc'⟩) κ H H' q:=fun q=>by
    by_cases hq:∃ j,κ j=q∧H.lookup j≠none
    · obtain ⟨j,rfl,hj⟩:=hq
      obtain ⟨B0,hB0⟩:=lookup_some hj
      obtain ⟨B1,hB1⟩:=lookup_some ((hkeys j).2 hj)
      obtain ⟨s1,s2⟩:=h.same j B0 B1 hB0 hB1
      exact .inr (.inr ⟨j,B0,B1,rfl,hst j hj,hB0,hB1,s1,s2⟩)
    · have hq':∀ j,(H.lookup j≠none∨H'.lookup j≠none)→κ j≠q:=fun j hj e=>hq ⟨j,e,hj.elim id (hkeys j).1⟩
      refine .inr (.inl ⟨?_,hq'⟩)
      rw [hb']
      cases e:Hc'.lookup q with
      | none=>simp
      | some B' =>
        obtain ⟨j,B,e1,e2,_⟩:=h.ren'.back q B' e
        exact absurd e1 (hq' j (.inr (by rw [lookup_nd nd' e2]; simp)))
  have C:GCall st F S (S.app ⟨rs,Hc,none,[(d,r.ren κ)],Hc'⟩) κ H H' r d:=by
    refine ⟨h1,inj',fun i j _ hj _ hf=>(by rw [hst j hj] at hf; cases hf),fun k B' hk=>?_,fun t v ht=>?_,hres,h.cont,fun j hj _=>⟨(hkeys j).1 hj,hst j ((hkeys j).1 hj)⟩⟩
    · rw [hb'] at hk
      cases e:Hc'.lookup k with
      | some B1 =>
        rw [e,Option.some_or] at hk; injection hk with hk; subst hk
        obtain ⟨j,B,e1,e2,e3⟩:=h.ren'.back k B1 e
        exact .inl ⟨j,B,e1,lookup_nd nd' e2,e3⟩
      | none =>
        rw [e,Option.none_or] at hk
        refine .inr ⟨hk,fun j hj e1=>?_,fun i x _ q _=>hstay q⟩
        obtain ⟨B,hB⟩:=lookup_some (hj.elim (hkeys j).2 id)
        rw [← e1,hc' j B hB] at e; cases e
    · rw [St.app_slot] at ht
      simp only [List.lookup_cons,List.lookup_nil] at ht
      by_cases e:t=d
      · subst e; simp only [BEq.rfl,Option.some_or,Option.some.injEq] at ht; exact .inl ⟨rfl,ht.symm⟩
      · rw [show (t == d)=false by simpa using e,Option.none_or] at ht
        exact .inr ⟨e,ht,fun q _=>hstay q⟩
  exact stepG_wp hG hX hng κ hs (o:=⟨dst,op,T,pos,aft,g⟩) hd hlt (fun ρ a w hS=>by
    obtain ⟨vals,v1,v2⟩:=hargs ρ S a w hS hA.rs
    exact ⟨vals,v1,by rw [renL_map]; exact v2⟩) C a w hS Q K hK
end Go.Proofs.YtjagfionflbjbaaGreat.SH
namespace Go.Proofs.YtjagfionflbjbaaGreat.SH
open Go Go.RowKit
mutual
theorem PV.ren_id:∀ x:PV,x.ren (fun j=>j)=x
  | .p _=>rfl
  | .at_ _ _ _=>rfl
  | .im _ _=>rfl
  | .ref _ _ _ _=>rfl
  | .agg xs=>by simp only [PV.ren]; rw [PV.renL_id xs]
  | .tup xs=>by simp only [PV.ren]; rw [PV.renL_id xs]
  | .clo _ a b=>by simp only [PV.ren]; rw [PV.renL_id a,PV.renL_id b]
  | .ifc _ x=>by simp only [PV.ren]; rw [PV.ren_id x]
  | .dead=>rfl
theorem PV.renL_id:∀ xs:List PV,PV.renL (fun j=>j) xs=xs
  | []=>rfl
  | x :: xs=>by simp only [PV.renL]; rw [PV.ren_id x,PV.renL_id xs]
end
theorem map_ren_id (xs:List PV):xs.map (PV.ren fun j=>j)=xs:=by rw [← renL_map,PV.renL_id]
theorem Blk.ren_id (B:Blk):B.ren (fun j=>j)=B:=by
  obtain ⟨T,sz,cs⟩:=B
  cases cs with
  | pure xs=>rfl
  | mix vs=>simp only [Blk.ren,Cells.ren,map_ren_id]
theorem RenH.id:∀ H:List (Nat×Blk),RenH (fun j=>j) H H
  | []=>.nil
  | (j,B) :: H=>.cons rfl (Blk.ren_id B).symm (RenH.id H)
def Whole (H:List (Nat×Blk)):Prop:=∀ j B,H.lookup j=some B→∀ i x,B.cs.get i=some x→∀ q,x.free q=false→H.lookup q≠none
theorem core_callI {E : Env} {F : Fr} (hG : E.G F.w0) (hX : ∀ b, F.X b → E.ng ≤ b) (hng : E.ng ≤ F.w0.heap.size) {d : Nat} {f : FuncId} {dst : Option Nat} {op : Op} {T : TypeId} {pos : String} {aft : Array Edge} {g : Option (Nat × Bool)} {rs : List (Operand × PV)} {xs : List PV} {H : List (Nat × Blk)} {r : PV} (hs : SaysG E (fun _ => true) f xs H H r) (hd : dst = some d) (hlt : d < F.nt)
    (hargs:∀ ρ S a w,SatR F ρ S a w→(∀ p∈rs,S.opd p.1=some p.2)→∃ vals:List Value,(execOp a.eval ⟨dst,op,T,pos,aft,g⟩).run E.P w = .ok (.enter f vals.toArray) w∧RelVL S.blk ρ (okI F S.blk ρ) (hp w) xs vals)
    (nd:(H.map (·.1)).Nodup) (hw:Whole H) (hres:∀ q,r.free q=false→H.lookup q≠none):CoreOk E.P F ⟨dst,op,T,pos,aft,g⟩ ⟨rs,H,none,[(d,r)],[]⟩:=by
  intro S a w hS hA Q K hK
  refine core_callG hG hX hng (fun j=>j) (fun _ _=>rfl) hs hd hlt (by rw [map_ren_id]; exact hargs) ⟨RenH.id H,RenH.id H,fun _ _ _ _ h=>h,rfl,nd,fun j B B' h h'=>by rw [h] at h'; injection h' with h'; subst h'; exact ⟨rfl,rfl⟩,hw⟩ (PV.ren_id r).symm hres S a w hS ⟨hA.rs,hA.rb,hA.fresh⟩ Q K fun a' w' hS'=>hK a' w' (hS'.congr (fun t=>?_) fun k=>?_)
  · rw [St.app_slot,St.app_slot]
  · rw [St.app_blk,St.app_blk]
    cases e:H.lookup k with
    | none=>simp
    | some B=>rw [hA.rb (k,B) (lookup_mem e)]; simp
theorem stepI {E : Env} {st : Nat → Bool} {F : Fr} (hG : E.G F.w0) (hX : ∀ b, F.X b → E.ng ≤ b) (hng : E.ng ≤ F.w0.heap.size) {ops : Array Oper} {d : Nat} {f : FuncId} {op : Op} {T : TypeId} {pos : String} {aft : Array Edge} {xs : List PV} {S : St} {H H' : List (Nat × Blk)} {r : PV} {rs : List (Operand × PV)} (ks : List Nat) (slR : List (Nat × PV)) (hbR : List (Nat × Blk)) (hs : SaysG E st f xs H H' r) (hlt : d < F.nt)
    (hargs:∀ ρ S a w,SatR F ρ S a w→(∀ p∈rs,S.opd p.1=some p.2)→∃ vals:List Value,(execOp a.eval ⟨some d,op,T,pos,aft,none⟩).run E.P w = .ok (.enter f vals.toArray) w∧RelVL S.blk ρ (okI F S.blk ρ) (hp w) xs vals)
    (hr:Reads S rs) (hH:HasB S H) (hsl:HasS S slR) (hR:HasB S hbR) (hd:slR.lookup d=none) (nd:(H.map (·.1)).Nodup) (nd':(H'.map (·.1)).Nodup) (dis:∀ k,hbR.lookup k≠none→H.lookup k=none∧H'.lookup k=none) (hw:Whole H') (hres:∀ q,r.free q=false→H'.lookup q≠none)
    (honly:(slR.all fun p=>p.2.only ks)=true) (hbonly:∀ k B,hbR.lookup k=some B→B.cs.only ks=true) (hks:∀ k∈ks,hbR.lookup k≠none∨∃ B0 B1,st k=true∧H.lookup k=some B0∧H'.lookup k=some B1∧B1.sz=B0.sz∧B1.cs.len=B0.cs.len)
    (hlo:∀ i j,H.lookup i≠none→H.lookup j≠none→st j=false→F.lo i=false→F.lo j=false) (hpin:∀ j,H'.lookup j≠none→F.pin j≠none→H.lookup j≠none∧st j=true):StepN E.P F ops ⟨some d,op,T,pos,aft,none⟩ S ⟨(d,r) :: slR,H'++hbR⟩:=by
  have hHl:∀ j B,H.lookup j=some B→S.blk j=some B:=fun j B hj=>hH.all j B hj
  have hb':∀ k,St.blk ⟨(d,r) :: slR,H'++hbR⟩ k=(H'.lookup k).or (hbR.lookup k):=fun k=>lookup_append _ _ _
  have hstay:∀ k∈ks,Stays st S ⟨(d,r) :: slR,H'++hbR⟩ (fun j=>j) H H' k:=fun k hk=>by
    rcases hks k hk with h | ⟨B0,B1,h⟩
    · obtain ⟨h1,h2⟩:=dis k h
      obtain ⟨B,hB⟩:=lookup_some h
      refine .inr (.inl ⟨by rw [hb',h2,Option.none_or,hB,hR.all k B hB],fun j hj e=>?_⟩)
      subst e; exact hj.elim (fun h=>h h1) (fun h=>h h2)
    · exact .inr (.inr ⟨k,B0,B1,rfl,h⟩)
  refine stepG hG hX hng (fun j=>j) hs rfl rfl hlt (fun ρ a w hS=>?_) ⟨fun j B hj=>by rw [Blk.ren_id]; exact hHl j B hj,fun _ _ _ _ h=>h,fun i j h1 h2 _ h4 h5=>hlo i j h1 h2 h4 h5,fun k B' hk=>?_,fun t v ht=>?_,hres,hw,hpin⟩
  · rw [PV.renL_id]; exact hargs ρ S a w hS hr.all
  · rw [hb'] at hk
    cases e:H'.lookup k with
    | some B=>rw [e,Option.some_or] at hk; injection hk with hk; subst hk; exact .inl ⟨k,B,rfl,e,(Blk.ren_id B).symm⟩
    | none =>
      rw [e,Option.none_or] at hk
      obtain ⟨h1,h2⟩:=dis k (by simp [hk])
      exact .inr ⟨hR.all k B' hk,fun j hj e2=>by subst e2; exact hj.elim (fun h=>h h1) (fun h=>h h2),fun i x hx q hq=>hstay q (PV.only_mem (Cells.only_get (hbonly k B' hk) hx) hq)⟩
  · simp only [St.slot,List.lookup_cons] at ht
    by_cases e:t=d
    · subst e; simp only [BEq.rfl,Option.some.injEq] at ht; exact .inl ⟨rfl,by rw [PV.ren_id]; exact ht.symm⟩
    · rw [show (t == d)=false by simpa using e] at ht
      refine .inr ⟨e,hsl.all t v ht,fun q hq=>hstay q (PV.only_mem ?_ hq)⟩
      rw [List.all_eq_true] at honly
      have:(t,v)∈slR:=by
        have:∀ l:List (Nat×PV),l.lookup t=some v→(t,v)∈l:=by
          intro l
          induction l with
          | nil=>simp
          | cons p l ih =>
            obtain ⟨s,u⟩:=p
            intro h
            rw [List.lookup_cons] at h
            split at h
            · rename_i e; injection h with h; subst h; simp [beq_iff_eq.1 e]
            · simp [ih h]
        exact this slR ht
      exact honly _ this
structure TailOk (T:List (Nat×Blk)):Prop where
  low:∀ k,Nat.blt k 1000=true→T.lookup k=none
  nd:(T.map (·.1)).Nodup
  free:∀ k,Nat.blt k 1000=true→freeHb k T=true
  whole:Whole T
theorem hasB_of:∀ {S:St}{l:List (Nat×Blk)},(l.map (·.1)).Nodup→(∀ k B,l.lookup k=some B→S.blk k=some B)→HasB S l
  | _,[],_,_=>trivial
  | S,(k,B) :: l,hn,h=>by
    rw [List.map_cons,List.nodup_cons] at hn
    refine ⟨h k B (by rw [List.lookup_cons]; simp),hasB_of hn.2 fun j C hj=>h j C ?_⟩
    have:j≠k:=fun e=>by subst e; exact hn.1 (List.mem_map.2 ⟨(j,C),lookup_mem hj,rfl⟩)
    rw [List.lookup_cons,show (j == k)=false by simpa using this]; exact hj
theorem hbT {sl:List (Nat×PV)}{T:List (Nat×Blk)}(pre:List (Nat×Blk))(h:TailOk T)(hp:(pre.all fun p=>Nat.blt p.1 1000)=true):HasB ⟨sl,pre++T⟩ T:=hasB_of h.nd fun k B hk=>by
  show (pre++T).lookup k=some B
  rw [lookup_append]
  cases e:pre.lookup k with
  | none=>simpa using hk
  | some C =>
    rw [List.all_eq_true] at hp
    have:=hp _ (lookup_mem e)
    rw [h.low k this] at hk; cases hk
theorem freeHb_append {k:Nat}:∀ {l r:List (Nat×Blk)},freeHb k (l++r)=(freeHb k l && freeHb k r)
  | [],r=>rfl
  | p :: l,r=>by simp only [List.cons_append,freeHb,freeHb_append,Bool.and_assoc]
theorem frT {sl:List (Nat×PV)}{T:List (Nat×Blk)}{d:Nat}(pre:List (Nat×Blk))(h:TailOk T)(hd:Nat.blt d 1000=true)(h1:pre.lookup d=none)(h2:(freeSl d sl && freeHb d pre)=true):FreshOk ⟨sl,pre++T⟩ (some d):=by
  refine ⟨?_,?_⟩
  · show (pre++T).lookup d=none
    rw [lookup_append,h1,h.low d hd]; rfl
  · simp only [Bool.and_eq_true] at h2
    show (freeSl d sl && freeHb d (pre++T))=true
    rw [freeHb_append,h2.1,h2.2,h.free d hd]; rfl
def cls (k:Nat):Nat:=if k<1000 then k else 1000
theorem hit_false {xs ys:List Nat}:hit xs ys=false↔∀ x∈xs,x ∉ ys:=by simp [hit]
theorem keysIn_cov {cf:Nat→Nat}{l l':List (Nat×Blk)}{xs ys:List Nat}(h1:∀ p∈l,cf p.1∈xs)(h2:∀ p∈l',cf p.1∈ys)(h:hit xs ys=false):keysIn l (l'.map (·.1))=false:=by
  rw [hit_keys,hit_false]
  intro x hx hy
  obtain ⟨p,hp,rfl⟩:=List.mem_map.1 hx
  obtain ⟨q,hq,e⟩:=List.mem_map.1 hy
  exact hit_false.1 h _ (h1 p hp) (e ▸ h2 q hq)
theorem exlT {P : Program} {F : Fr} {Q : Exit → St → Prop} {S : St} {c : Code} {α : Type} (ws : α → List (Nat × PV)) (wb : α → List (Nat × Blk)) (T : α → List (Nat × Blk)) (ok : α → Prop) (μ : α → Nat) (x : α) {sl : List (Nat × PV)} {hb : List (Nat × Blk)} (h0 : ok x) (h1 : HasS S (ws x ++ sl)) (h2 : HasB S (wb x ++ (hb ++ T x)))
    (round:∀ x,ok x→Exec P F c ⟨ws x++sl,wb x++(hb++T x)⟩ (QSeq (fun S'=>∃ y,ok y∧μ y<μ x∧St.le ⟨ws y++sl,wb y++(hb++T y)⟩ S') Q)):Exec P F (.loop c) S Q :=
  ex_loop (fun x=>⟨ws x++sl,wb x++(hb++T x)⟩) ok μ x h0 (le_of h1 h2) round
end Go.Proofs.YtjagfionflbjbaaGreat.SH
namespace Go.Proofs.YtjagfionflbjbaaGreat.SH
open Go Go.RowKit
structure CovF (cf:Nat→Nat) (A:Ann) (sk:Sk):Prop where
  fresh:∀ k,A.fresh=some k→A.wb.any (fun p=>p.1 == k)=true
  rs:rsSlots A.rs=sk.rs
  rb:∀ p∈A.rb,cf p.1∈sk.rb
  ws:A.ws.map (·.1)=sk.ws
  wb:∀ p∈A.wb,cf p.1∈sk.wb
inductive CovsF (cf:Nat→Nat):List Ann→List Sk→Prop
  | nil:CovsF cf [] []
  | cons {A:Ann} {sk:Sk} {As:List Ann} {sks:List Sk}:CovF cf A sk→CovsF cf As sks→CovsF cf (A :: As) (sk :: sks)
theorem rbk_cov {cf:Nat→Nat}{A B:Ann}{a b:Sk}(hA:CovF cf A a)(hB:CovF cf B b)(h1:hit a.wb b.rb=false)(h2:hit a.wb b.wb=false):keysIn A.wb B.rbk=false:=by
  rw [hit_keys,hit_false]
  intro x hx hy
  obtain ⟨p,hp,rfl⟩:=List.mem_map.1 hx
  simp only [Ann.rbk,List.mem_append,Option.mem_toList] at hy
  rcases hy with hy | hy
  · have:=hB.fresh _ hy
    rw [List.any_eq_true] at this
    obtain ⟨q,hq,e⟩:=this
    have e:q.1=p.1:=by simpa using e
    exact hit_false.1 h2 _ (hA.wb p hp) (e ▸ hB.wb q hq)
  · obtain ⟨q,hq,e⟩:=List.mem_map.1 hy
    exact hit_false.1 h1 _ (hA.wb p hp) (e ▸ hB.rb q hq)
def frPair (A B:Ann):Bool:=(A.fresh.all fun k=>B.free k) && (B.fresh.all fun k=>A.free k)
theorem apart_covF {cf:Nat→Nat}{A B:Ann}{a b:Sk}(hA:CovF cf A a)(hB:CovF cf B b)(hf:frPair A B=true)(h:apartS a b=true):apart A B=true:=by
  simp only [apartS,Bool.and_eq_true,Bool.not_eq_true'] at h
  obtain ⟨⟨⟨⟨⟨h1,h2⟩,h3⟩,h4⟩,h5⟩,h6⟩:=h
  simp only [frPair,Bool.and_eq_true] at hf
  simp only [apart,Bool.and_eq_true,Bool.not_eq_true']
  have h6':hit b.wb a.wb=false:=by rw [hit_false] at h6 ⊢; exact fun x hx hy=>h6 x hy hx
  refine ⟨⟨⟨⟨⟨⟨⟨?_,?_⟩,?_⟩,?_⟩,?_⟩,?_⟩,hf.1⟩,hf.2⟩
  · rw [hit_keys,hA.ws,hB.rs]; exact h1
  · rw [hit_keys,hB.ws,hA.rs]; exact h2
  · rw [hit_keys,hA.ws,hB.ws]; exact h3
  · exact rbk_cov hA hB h4 h6
  · exact rbk_cov hB hA h5 h6'
  · exact keysIn_cov hA.wb hB.wb h6
theorem covsF_get {cf:Nat→Nat}{As:List Ann}{sks:List Sk}(h:CovsF cf As sks):∀ (i:Nat) (A:Ann),As[i]? = some A→∃ sk,sks[i]? = some sk∧CovF cf A sk:=by
  induction h with
  | nil=>intro i A h; simp at h
  | cons hc _ ih =>
    intro i A hA
    cases i with
    | zero => obtain rfl := by simpa using hA
              exact ⟨_,rfl,hc⟩
    | succ i=>simpa using ih i A (by simpa using hA)
theorem covsF_app {cf:Nat→Nat}{As As':List Ann}{sks sks':List Sk}(h:CovsF cf As sks)(h':CovsF cf As' sks'):CovsF cf (As++As') (sks++sks'):=by
  induction h with
  | nil=>exact h'
  | cons hc _ ih=>exact .cons hc ih
def frAll:List Ann→List Ann→Bool
  | [],_=>true
  | B :: As,done=>(done.all fun A=>frPair A B) && frAll As (done++[B])
theorem anyOk_covF {cf:Nat→Nat}:∀ (os:List Oper) (As:List Ann) (sks:List Sk) (ms:List Nat) (done:List Ann) (dsk:List Sk),CovsF cf As sks→CovsF cf done dsk→done.length=ms.length→frAll As done=true→anyOkS os sks ms dsk=true→anyOk os As ms done=true
  | [],[],[],_,_,_,_,_,_,_,_=>rfl
  | o :: os,B :: As,b :: sks,ms,done,dsk,h,h',hl,hf,hh=>by
    cases h with
    | cons hB hAs =>
      simp only [anyOkS,Bool.and_eq_true] at hh
      simp only [frAll,Bool.and_eq_true] at hf
      obtain ⟨⟨h1,h2⟩,h3⟩:=hh
      simp only [anyOk,Bool.and_eq_true]
      refine ⟨⟨h1,?_⟩,anyOk_covF os As sks _ _ _ hAs (covsF_app h' (.cons hB .nil)) (by simp [hl]) hf.2 h3⟩
      rw [List.all_eq_true] at h2 ⊢
      intro i hi
      have hi':i<done.length:=by simpa using hi
      have:=h2 i (by simpa [← hl] using hi')
      rw [Bool.or_eq_true] at this ⊢
      rcases this with h | h
      · exact .inl h
      · refine .inr ?_
        obtain ⟨A,hA⟩:∃ A,done[i]? = some A:=⟨done[i],by simp [hi']⟩
        obtain ⟨sk,hs,hc⟩:=covsF_get h' i A hA
        rw [hs] at h
        rw [hA]
        have hff:=hf.1
        rw [List.all_eq_true] at hff
        exact apart_covF hc hB (hff A (List.mem_of_getElem? hA)) h
  | [],_ :: _,_ :: _,_,_,_,_,_,_,_,hh=>by simp [anyOkS] at hh
  | _ :: _,[],[],_,_,_,_,_,_,_,hh=>by simp [anyOkS] at hh
  | _ :: _,_ :: _,[],_,_,_,h,_,_,_,_=>by cases h
  | _,[],_ :: _,_,_,_,h,_,_,_,_=>by cases h
  | [],_ :: _,[],_,_,_,h,_,_,_,_=>by cases h
def frNames:List Ann→List Nat
  | []=>[]
  | A :: As=>A.fresh.toList++frNames As
theorem freshAll_names {S:St}:∀ {As:List Ann},(∀ k∈frNames As,S.free k=true)→freshAll S As=true
  | [],_=>rfl
  | A :: As,h=>by
    simp only [freshAll,Bool.and_eq_true]
    refine ⟨?_,freshAll_names fun k hk=>h k (by simp [frNames,hk])⟩
    cases e:A.fresh with
    | none=>rfl
    | some k=>exact h k (by simp [frNames,e])
theorem frS {sl:List (Nat×PV)}{T:List (Nat×Blk)}{As:List Ann}(ns:List Nat)(pre:List (Nat×Blk))(h:TailOk T)(hn:frNames As=ns)(h1:(ns.all fun k=>Nat.blt k 1000 && (freeSl k sl && freeHb k pre))=true):∀ k∈frNames As,St.free ⟨sl,pre++T⟩ k=true:=by
  subst hn
  intro k hk
  rw [List.all_eq_true] at h1
  have:=h1 k hk
  simp only [Bool.and_eq_true] at this
  show (freeSl k sl && freeHb k (pre++T))=true
  rw [freeHb_append,this.2.1,this.2.2,h.free k this.1]; rfl
theorem aokFc (cf:Nat→Nat){os:List Oper}{As:List Ann}{S:St}(sks:List Sk)(h1:CovsF cf As sks)(hf:frAll As []=true)(hS:∀ k∈frNames As,S.free k=true)(h2:anyOkS os sks [] []=true):(anyOk os As [] [] && freshAll S As)=true:=by
  rw [anyOk_covF os As sks [] [] [] h1 .nil rfl hf h2,freshAll_names hS]; rfl
theorem aokF {os:List Oper}{As:List Ann}{S:St}(sks:List Sk)(h1:CovsF cls As sks)(hf:frAll As []=true)(hS:∀ k∈frNames As,S.free k=true)(h2:anyOkS os sks [] []=true):(anyOk os As [] [] && freshAll S As)=true:=aokFc cls sks h1 hf hS h2
theorem cf0 {cf:Nat→Nat}{A:Ann}{sk:Sk}(h:((A.fresh.all fun k=>A.wb.any fun p=>p.1 == k) && decide (rsSlots A.rs=sk.rs) && decide (A.ws.map (·.1)=sk.ws) && (A.rb.all fun p=>sk.rb.contains (cf p.1)) && (A.wb.all fun p=>sk.wb.contains (cf p.1)))=true):CovF cf A sk:=by
  simp only [Bool.and_eq_true,decide_eq_true_eq,List.all_eq_true,List.contains_eq_mem] at h
  refine ⟨fun k hk=>?_,h.1.1.1.2,fun p hp=>h.1.2 p hp,h.1.1.2,fun p hp=>h.2 p hp⟩
  have:=h.1.1.1.1
  rw [hk] at this
  simpa using this
theorem cfT {cf:Nat→Nat}{A:Ann}{sk:Sk}(h0:A.fresh=none)(hr:rsSlots A.rs=sk.rs)(h1:∀ p∈A.rb,cf p.1∈sk.rb)(hw:A.ws.map (·.1)=sk.ws)(h2:∀ p∈A.wb,cf p.1∈sk.wb):CovF cf A sk:=⟨fun k hk=>(by rw [h0] at hk; cases hk),hr,h1,hw,h2⟩
theorem cls_hi {k:Nat}(h:1000≤k):cls k=1000:=by unfold cls; rw [if_neg (by omega)]
theorem cls_app {l r:List (Nat×Blk)}{ks:List Nat}(h1:(l.all fun p=>ks.contains (cls p.1))=true)(h2:∀ p∈r,1000≤p.1)(h3:ks.contains 1000=true):∀ p∈l++r,cls p.1∈ks:=by
  intro p hp
  rcases List.mem_append.1 hp with hp | hp
  · rw [List.all_eq_true] at h1; simpa using h1 p hp
  · rw [cls_hi (h2 p hp)]; simpa using h3
theorem tail_hi {T:List (Nat×Blk)}(h:TailOk T):∀ p∈T,1000≤p.1:=by
  intro p hp
  obtain ⟨k,B⟩:=p
  by_cases hk:Nat.blt k 1000=true
  · have:=h.low k hk
    rw [lookup_nd h.nd hp] at this; cases this
  · simp [Nat.blt_eq] at hk; exact hk
theorem rdT {sl:List (Nat×PV)}{T:List (Nat×Blk)}{k:Nat}{B:Blk}(pre:List (Nat×Blk))(h:TailOk T)(hp:(pre.all fun p=>Nat.blt p.1 1000)=true)(hk:T.lookup k=some B):St.blk ⟨sl,pre++T⟩ k=some B:=by
  show (pre++T).lookup k=some B
  rw [lookup_append]
  cases e:pre.lookup k with
  | none=>simpa using hk
  | some C =>
    rw [List.all_eq_true] at hp
    have:=hp _ (lookup_mem e)
    rw [h.low k this] at hk; cases hk
theorem cls1 {k:Nat}{B:Blk}{ks:List Nat}(h:1000≤k)(h2:ks.contains 1000=true:=by rfl):∀ p∈[(k,B)],cls p.1∈ks:=by
  intro p hp
  obtain rfl:=List.mem_singleton.1 hp
  rw [cls_hi h]; simpa using h2
theorem readsB_of {S:St}:∀ {l:List (Nat×Blk)},HasB S l→ReadsB S l
  | [],_=>trivial
  | _ :: _,h=>⟨h.1,readsB_of h.2⟩
theorem ixA0 {P : Program} {F : Fr} {d : Nat} {t T : TypeId} {pos : String} {aft : Array Edge} {g : Option (Nat × Bool)} {x y : Operand} {k n tot j sz : Nat} {B : Blk} {e : TypeId} {kd : IntKind} {i : Int} (hu : P.underlying t = some (.slice e)) (hsz : ∀ w, (sizeOf e).run P w = .ok sz w) (hl : B.cs.len = tot) (hi : i = (j : Int)) (h1 : j < n) (hlt : d < F.nt) :
    CoreOk P F ⟨some d,.indexAddr t x y,T,pos,aft,g⟩ { rs:=[(x,.ref k 0 n tot),(y,.p (.a (.int kd i)))],rb:=[(k,B)],ws:=[(d,.at_ k (j*sz) tot)] }:=by
  subst hi
  have:=core_indexAddr (P:=P) (F:=F) (d:=d) (t:=t) (T:=T) (pos:=pos) (aft:=aft) (g:=g) (x:=x) (y:=y) (kd:=kd) (off:=0) (k:=k) (n:=n) hu hsz hl (i:=j) (by omega) (by omega) hlt
  simpa using this
end Go.Proofs.YtjagfionflbjbaaGreat.SH
set_option maxRecDepth 100000
set_option maxHeartbeats 4000000
namespace Go.Proofs.YtjagfionflbjbaaGreat.N
open Go Go.Proofs.YtjagfionflbjbaaGreat.SH Go.Proofs.YtjagfionflbjbaaGreat.NumA
open Go.Proofs.Tryz renaming call100→cl100,call101→cl101,call106→cl106,call107→cl107,call108→cl108,call112→cl112,call127→cl127,call40→cl40,call52→cl52,call55→cl55,call64→cl64,call65→cl65,call67→cl67,call68→cl68,call70→cl70,call85→cl85,isAgg22→ag22,isAgg24→ag24,isAgg3→ag3,isAgg40→ag40,isAgg47→ag47,sizeOf22→sz22,sizeOf24→sz24,sizeOf3→sz3,sizeOf40→sz40,sizeOf47→sz47,typeInfo40→ti40,typeInfo47→ti47,underlying22→un22,underlying24→un24,underlying40→un40,underlying77→un77,zeroValue24→zv24,zeroValue47→zv47
@[reducible] def cQ (a:Rat):List Pure:=[.a (.bool (decide (a.num<0))),.sl (digs a.num.natAbs).length (encW (digs a.num.natAbs)),.a (.bool (decide ((a.den:Int)<0))),.sl (digs (a.den:Int).natAbs).length (encW (digs (a.den:Int).natAbs))]
def encQ:List Rat→List Pure
 | []=>[]
 | a :: v=>cQ a++encQ v
@[simp] theorem encQ_length:∀ v:List Rat,(encQ v).length=v.length*4
 | []=>rfl
 | a :: v=>by simp only [encQ,List.length_append,encQ_length v,cQ,List.length_cons,List.length_nil]; omega
theorem encQ_app:∀ v u:List Rat,encQ (v++u)=encQ v++encQ u
 | [],u=>rfl
 | a :: v,u=>by simp only [List.cons_append,encQ,encQ_app v u,List.append_assoc]
theorem getQ:∀ {v:List Rat}{i:Nat},i<v.length→((encQ v).drop (i*4)).take 4=cQ (v.getD i 0)
 | [],i,h=>by simp at h
 | a :: v,0,_=>by simp [encQ,cQ]
 | a :: v,i+1,h=>by
  have:=getQ (v:=v) (i:=i) (by simpa using h)
  rw [show (i+1)*4=i*4+1+1+1+1 by omega]
  simp only [encQ,cQ,List.cons_append,List.nil_append,List.drop_succ_cons,List.getD_cons_succ]
  exact this
theorem setQ:∀ {v:List Rat}{i:Nat}(b:Rat),i<v.length→(encQ v).take (i*4)++cQ b++(encQ v).drop (i*4+4)=encQ (v.set i b)
 | [],i,_,h=>by simp at h
 | a :: v,0,b,_=>by simp [encQ,cQ]
 | a :: v,i+1,b,h=>by
  have:=setQ (v:=v) (i:=i) b (by simpa using h)
  rw [show (i+1)*4=i*4+1+1+1+1 by omega,show i*4+1+1+1+1+4=i*4+4+1+1+1+1 by omega]
  simp only [List.set_cons_succ,encQ,← this]
  simp only [cQ,List.cons_append,List.nil_append,List.drop_succ_cons,List.take_succ_cons]
@[reducible] def pV (v:List Rat):Pure:=.sl v.length (encQ v)
def encM (m:List (List Rat)):List Pure:=m.map pV
@[simp] theorem encM_length (m:List (List Rat)):(encM m).length=m.length:=by simp [encM]
theorem getM0 {m:List (List Rat)}{i:Nat}(h:i<m.length):(encM m)[i]? = some (pV (m.getD i [])):=by
 simp [encM,h,List.getD_eq_getElem?_getD]
def rowN (s i:Nat):Nat:=2*i+s+1100
@[reducible] def rowBlk (v:List Rat):Blk:=⟨47,4,.pure (encQ v)⟩
theorem setBlk {v:List Rat}{k:Nat}(b:Rat)(h:k<v.length):(⟨47,4,.pure ((encQ v).take (k*4)++cQ b++(encQ v).drop (k*4+4))⟩:Blk)=rowBlk (v.set k b):=by rw [setQ b h]
def rowsB (s:Nat):Nat→List (List Rat)→List (Nat×Blk)
 | _,[]=>[]
 | i,v :: m=>(rowN s i,rowBlk v) :: rowsB s (i+1) m
def refsB (s:Nat):Nat→List (List Rat)→List PV
 | _,[]=>[]
 | i,v :: m=>.ref (rowN s i) 0 v.length (v.length*4) :: refsB s (i+1) m
@[simp] theorem refsB_length (s:Nat):∀ (i:Nat) (m:List (List Rat)),(refsB s i m).length=m.length
 | _,[]=>rfl
 | i,v :: m=>by simp [refsB,refsB_length s (i+1) m]
theorem refs_get {s:Nat}:∀ {i j:Nat} {m:List (List Rat)},(refsB s i m)[j]? = (m[j]?).map fun v=>.ref (rowN s (i+j)) 0 v.length (v.length*4)
 | i,j,[]=>by simp [refsB]
 | i,0,v :: m=>by simp [refsB]
 | i,j+1,v :: m=>by
  simp only [refsB,List.getElem?_cons_succ]
  rw [refs_get (i:=i+1) (j:=j) (m:=m),show i+1+j=i+(j+1) by omega]
theorem rows_lk {s:Nat}:∀ {i j:Nat} {m:List (List Rat)},(rowsB s i m).lookup (rowN s (i+j))=(m[j]?).map rowBlk
 | i,j,[]=>by simp [rowsB]
 | i,0,v :: m=>by simp [rowsB]
 | i,j+1,v :: m=>by
  simp only [rowsB,List.lookup_cons,List.getElem?_cons_succ]
  rw [show (rowN s (i+(j+1)) == rowN s i)=false by simp [rowN]; omega,show i+(j+1)=i+1+j by omega]
  exact rows_lk
theorem rows_no {s:Nat}:∀ {i k:Nat} {m:List (List Rat)},(∀ j,j<m.length→k≠rowN s (i+j))→(rowsB s i m).lookup k=none
 | i,k,[],_=>rfl
 | i,k,v :: m,h=>by
  simp only [rowsB,List.lookup_cons]
  rw [show (k == rowN s i)=false by simpa using h 0 sM]
  exact rows_no fun j hj=>by have:=h (j+1) (by simpa using hj); rwa [show i+1+j=i+(j+1) by omega]
theorem rows_mem {s:Nat}:∀ {i k:Nat} {m:List (List Rat)},k∈(rowsB s i m).map (·.1)→∃ j,j<m.length∧k=rowN s (i+j)
 | i,k,[],h=>by simp [rowsB] at h
 | i,k,v :: m,h=>by
  simp only [rowsB,List.map_cons,List.mem_cons] at h
  rcases h with h | h
  ·exact ⟨0,by simp,h⟩
  ·obtain ⟨j,h1,h2⟩:=rows_mem h
   exact ⟨j+1,by simpa using h1,by rw [h2,show i+1+j=i+(j+1) by omega]⟩
theorem rows_nd {s:Nat}:∀ (i:Nat) (m:List (List Rat)),((rowsB s i m).map (·.1)).Nodup
 | i,[]=>List.nodup_nil
 | i,v :: m=>by
  simp only [rowsB,List.map_cons]
  refine List.nodup_cons.2 ⟨fun h=>?_,rows_nd (i+1) m⟩
  obtain ⟨j,_,h2⟩:=rows_mem h
  simp only [rowN] at h2; omega
theorem rows_free {s k:Nat}:∀ (i:Nat) (m:List (List Rat)),freeHb k (rowsB s i m)=true
 | _,[]=>rfl
 | i,v :: m=>by simp [rowsB,freeHb,Cells.free,rows_free (i+1) m]
theorem refs_free {s k:Nat}(h:k<1100):∀ (i:Nat) (m:List (List Rat)),PV.freeL k (refsB s i m)=true
 | _,[]=>rfl
 | i,v :: m=>by
  simp only [refsB,PV.freeL,PV.free,Bool.and_eq_true]
  exact ⟨by simp [rowN]; omega,refs_free h (i+1) m⟩
theorem refs_names {s:Nat}:∀ {i j q:Nat} {m:List (List Rat)} {x:PV},(refsB s i m)[j]? = some x→x.free q=false→∃ v,m[j]? = some v∧q=rowN s (i+j):=by
 intro i j q m x h hq
 rw [refs_get,Option.map_eq_some_iff] at h
 obtain ⟨v,hv,rfl⟩:=h
 simp only [PV.free,bne_eq_false_iff_eq] at hq
 exact ⟨v,hv,hq.symm⟩
@[reducible] def hdB (s:Nat)(m:List (List Rat)):Blk:=⟨40,1,.mix (refsB s 0 m)⟩
def mat1 (s:Nat)(m:List (List Rat)):List (Nat×Blk):=(s+1001,hdB s m) :: rowsB s 0 m
theorem mat1_ok {s:Nat}(h2:s<9)(m:List (List Rat)):TailOk (mat1 s m):=by
 have hno:∀ k,k<1100→(rowsB s 0 m).lookup k=none:=fun k hk=>rows_no fun j _=>by simp only [rowN]; omega
 refine ⟨fun k hk=>?_,?_,fun k hk=>?_,fun j B hj i x hx q hq=>?_⟩
 ·simp only [Nat.blt_eq] at hk
  rw [mat1,List.lookup_cons,show (k == s+1001)=false by simp; omega]
  exact hno k oM
 ·simp only [mat1,List.map_cons]
  refine List.nodup_cons.2 ⟨fun hm=>?_,rows_nd 0 m⟩
  obtain ⟨j,_,h3⟩:=rows_mem hm
  simp only [rowN] at h3; omega
 ·simp only [Nat.blt_eq] at hk
  simp only [mat1,freeHb,Cells.free,Bool.and_eq_true]
  exact ⟨refs_free oM 0 m,rows_free 0 m⟩
 ·rw [mat1,List.lookup_cons] at hj
  split at hj
  ·injection hj with hj; subst hj
   obtain ⟨v,hv,rfl⟩:=refs_names hx hq
   rw [mat1,List.lookup_cons,show (rowN s (0+i) == s+1001)=false by simp [rowN]; omega,rows_lk,hv]; simp
  ·obtain ⟨j',_,rfl⟩:=rows_mem (List.mem_map.2 ⟨_,lookup_mem hj,rfl⟩)
   rw [rows_lk,Option.map_eq_some_iff] at hj
   obtain ⟨v,hv,rfl⟩:=hj
   simp only [Cells.get,Option.map_eq_some_iff] at hx
   obtain ⟨y,_,rfl⟩:=hx
   simp [PV.free] at hq
theorem hdGet {s i:Nat}{m:List (List Rat)}(h:i<m.length):(Cells.mix (refsB s 0 m)).get i=some (.ref (rowN s i) 0 (m.getD i []).length ((m.getD i []).length*4)):=by
 show (refsB s 0 m)[i]? = _
 rw [refs_get]; simp [h,List.getD_eq_getElem?_getD]
theorem hdL {s:Nat}{m:List (List Rat)}:(mat1 s m).lookup (s+1001)=some (hdB s m):=by simp [mat1]
theorem rwL {s i:Nat}{m:List (List Rat)}(hh:s<9)(hi:i<m.length):(mat1 s m).lookup (rowN s i)=some (rowBlk (m.getD i [])):=by
 rw [mat1,List.lookup_cons,show (rowN s i == s+1001)=false by simp [rowN]; omega]
 have:=rows_lk (s:=s) (i:=0) (j:=i) (m:=m)
 rw [Nat.zero_add] at this
 rw [this]; simp [hi,List.getD_eq_getElem?_getD]
theorem rwS {s i:Nat}{m:List (List Rat)}{r:List Rat}(hh:s<9)(hi:i<m.length):(mat1 s (m.set i r)).lookup (rowN s i)=some (rowBlk r):=by
 have:=rwL (s:=s) (i:=i) (m:=m.set i r) hh (by simpa using hi)
 rw [this,List.getD_eq_getElem?_getD,List.getElem?_set_self hi]; rfl
theorem rwO {s i j:Nat}{m:List (List Rat)}{r:List Rat}(hh:s<9)(hj:j<m.length)(hne:i≠j):(mat1 s (m.set i r)).lookup (rowN s j)=some (rowBlk (m.getD j [])):=by
 have:=rwL (s:=s) (i:=j) (m:=m.set i r) hh (by simpa using hj)
 rw [this,List.getD_eq_getElem?_getD,List.getD_eq_getElem?_getD,List.getElem?_set_ne hne]
theorem refs_set {s:Nat}:∀ {i j:Nat} {m:List (List Rat)} {r r':List Rat},r'.length=r.length→refsB s i (m.set j r')=refsB s i (m.set j r)
 | i,j,[],r,r',_=>rfl
 | i,0,v :: m,r,r',h=>by simp [refsB,h]
 | i,j+1,v :: m,r,r',h=>by simp only [List.set_cons_succ,refsB,refs_set (i:=i+1) (j:=j) h]
theorem rowN_inj {s i j:Nat}:rowN s i=rowN s j↔i=j:=by simp only [rowN]; omega
theorem hbS {sl:List (Nat×PV)}{s i:Nat}{m:List (List Rat)}{r r':List Rat}{B:Blk}(pre:List (Nat×Blk))(hp:(pre.all fun p=>Nat.blt p.1 1000)=true)(h2:s<9)(hi:i<m.length)(hB:B=rowBlk r')(hl:r'.length=r.length):HasB ⟨sl,(rowN s i,B) :: (pre++mat1 s (m.set i r))⟩ (mat1 s (m.set i r')):=by
 subst hB
 refine hasB_of (mat1_ok h2 _).nd fun k C hk=>?_
 show List.lookup k _=some C
 rw [List.lookup_cons]
 have hno:∀ k,k<1000→(mat1 s (m.set i r')).lookup k=none:=fun k hk=>(mat1_ok h2 _).low k (by simpa [Nat.blt_eq] using hk)
 have hpre:pre.lookup k=none:=by
  cases e:pre.lookup k with
  | none=>rfl
  | some D =>
   rw [List.all_eq_true] at hp
   have:=hp _ (lookup_mem e)
   rw [(mat1_ok h2 _).low k this] at hk; cases hk
 by_cases e:k=rowN s i
 ·subst e
  rw [rwS h2 hi] at hk
  simpa using hk
 ·rw [show (k == rowN s i)=false by simpa using e,lookup_append,hpre,Option.none_or]
  rw [mat1,List.lookup_cons] at hk ⊢
  by_cases e1:k=s+1001
  ·subst e1
   simp only [BEq.rfl,Option.some.injEq] at hk ⊢
   rw [← hk,hdB,hdB,refs_set hl]
  ·rw [show (k == s+1001)=false by simpa using e1] at hk ⊢
   obtain ⟨j,hj,e2⟩:=rows_mem (List.mem_map.2 ⟨_,lookup_mem hk,rfl⟩)
   simp only [Nat.zero_add] at e2
   subst e2
   have hne:i≠j:=fun h=>e (by rw [h])
   have h3:=rows_lk (s:=s) (i:=0) (j:=j) (m:=m.set i r')
   have h4:=rows_lk (s:=s) (i:=0) (j:=j) (m:=m.set i r)
   rw [Nat.zero_add,List.getElem?_set_ne hne] at h3 h4
   rw [h4,← h3]; exact hk
theorem hdGetS {s i:Nat}{m:List (List Rat)}{r:List Rat}{n:Nat}(h:i<m.length)(hr:r.length=n):(Cells.mix (refsB s 0 (m.set i r))).get i=some (.ref (rowN s i) 0 n (n*4)):=by
 subst hr
 have:=hdGet (s:=s) (i:=i) (m:=m.set i r) (by simpa using h)
 rwa [List.getD_eq_getElem?_getD,List.getElem?_set_self h] at this
theorem rowN_hi (s i:Nat):1000≤rowN s i:=by simp only [rowN]; omega
theorem hdN_hi (s:Nat):1000≤s+1001:=by omega
theorem at_says (s:Nat)(m:List (List Rat))(i c:Nat)(h2:s<9)(hi:i<m.length)(hc:c<(m.getD i []).length):SaysG E (fun _=>true) 91 [.ref (s+1001) 0 m.length m.length,.p (vZ i),.p (vZ c)] (mat1 s m) (mat1 s m) (.p (pQ ((m.getD i []).getD c 0))):=by
 refine saysG_dat (xs:=[pQ ((m.getD i []).getD c 0)]) Tryz.func91 rfl Tryz.ntmps91 Tryz.results91 sM fun F G=>?_
 have L:=@lti _ _ G.nt
 have hG:=G.g
 have hX:=G.x
 have hN:=ng_le hG
 have P0:∀ k,Nat.blt k 1000=true→F.pin k=none:=fun k hk=>G.p0 k ((mat1_ok h2 m).low k hk)
 refine exr (swb (c_al (k:=6) (n:=4) zv47 (.cons rfl (.cons rfl (.cons rfl (.cons rfl .nil)))) rfl (P0 _ rfl) L) t0 t0 (frT [] (mat1_ok h2 m) rfl rfl rfl) ?_)
 refine seq_nil ⟨[(0,_),(1,_),(2,_),(6,_)],(6,_) :: ((mat1 s m)),t4,⟨rfl,(hbT [_] (mat1_ok h2 m) rfl)⟩,?_⟩
 refine exr (mV L rfl (mV L rfl (sw (ixR0 un77 sz40 (by first | exact refsB_length _ _ _ | exact (refsB_length _ _ _).trans sM | simp [Cells.len]) (j:=i) rO oM L) t2 ⟨rdT [_] (mat1_ok h2 m) rfl hdL,trivial⟩ ?_)))
 refine sw (c_l1 ag40 (by first | exact refsB_length _ _ _ | exact (refsB_length _ _ _).trans sM) (hdGet hi) L) t1 ⟨rdT [_] (mat1_ok h2 m) rfl hdL,trivial⟩ ?_
 refine mV L rfl (sw (ixA0 un40 sz47 (by first | exact encQ_length _ | exact (encQ_length _).trans oM) (j:=c) rO oM L) t2 ⟨rdT [_] (mat1_ok h2 m) rfl (rwL h2 hi),trivial⟩ ?_)
 refine sw (c_lq ag47 sz47 (by first | exact encQ_length _ | exact (encQ_length _).trans oM) (getQ oM) rfl L) t1 ⟨rdT [_] (mat1_ok h2 m) rfl (rwL h2 hi),trivial⟩ ?_
 refine sb (c_sm sz47 rF pa4 rfl pu4) t2 t1 ?_
 refine seq_nil ⟨[(6,_)],(6,_) :: ((mat1 s m)),t1,⟨rfl,(hbT [_,_] (mat1_ok h2 m) rfl)⟩,?_⟩
 refine ex_ret ?_
 refine ⟨.inr rfl,ResVs.cast (.cons (.agg rfl rfl rfl ag47 sz47 (.cons (.cons (.cons (.cons .nil))))) .nil) ?_,(hbT [_] (mat1_ok h2 m) rfl)⟩
 rfl
def scl (v:List Rat)(c:Rat)(k:Nat):List Rat:=(v.take k).map (· * c)++v.drop k
@[simp] theorem scl_length (v:List Rat)(c:Rat)(k:Nat):(scl v c k).length=v.length:=by simp [scl]; omega
theorem scl_get {v:List Rat}{c:Rat}{k:Nat}(h:k<v.length):(scl v c k).getD k 0=v.getD k 0:=by
 simp [scl,List.getD_eq_getElem?_getD,List.getElem?_append_right,Nat.min_eq_left (Nat.le_of_lt h)]
theorem scl_succ {v:List Rat}{c:Rat}{k:Nat}(h:k<v.length):(scl v c k).set k ((scl v c k).getD k 0*c)=scl v c (k+1):=by
 rw [scl_get h,scl,scl,List.set_append,if_neg sO]
 have e:k - (List.map (· * c) (v.take k)).length=0:=by simp; omega
 rw [e,List.take_add_one,List.map_append,List.append_assoc]
 have e2:(List.drop k v).set 0 (v.getD k 0*c)=(v.getD k 0*c) :: List.drop (k+1) v:=by
  rw [List.drop_eq_getElem_cons h,List.set_cons_zero]
 have e3:List.map (· * c) v[k]?.toList=[v.getD k 0*c]:=by simp [List.getD_eq_getElem?_getD,h]
 rw [e2,e3]; rfl
theorem scl_end {v:List Rat}{c:Rat}:scl v c v.length=v.map (· * c):=by simp [scl]
theorem scl_zero {v:List Rat}{c:Rat}:scl v c 0=v:=by simp [scl]
theorem set_getD {m:List (List Rat)}{i:Nat}:m.set i (m.getD i [])=m:=by
 by_cases h:i<m.length
 ·rw [List.getD_eq_getElem?_getD,List.getElem?_eq_getElem h]; simp
 ·rw [List.set_eq_of_length_le oM]
theorem getD_mem {v:List Rat}{k:Nat}(h:k<v.length):v.getD k 0∈v:=by simp [List.getD_eq_getElem?_getD,h]
theorem scale_says (s:Nat)(m:List (List Rat))(i:Nat)(c:Rat)(h2:s<9)(hi:i<m.length)(hl:(m.getD i []).length<1000000000)(hs:∀ a∈m.getD i [],qw a<1000000000)(hc:qw c<1000000000):SaysG E (fun _=>true) 96 [.ref (s+1001) 0 m.length m.length,.p (vZ i),.p (pQ c)] (mat1 s m) (mat1 s (m.set i ((m.getD i []).map (· * c)))) (.p (.tup [])):=by
 refine saysG_dat (xs:=[]) Tryz.func96 rfl Tryz.ntmps96 Tryz.results96 sM fun F G=>?_
 have L:=@lti _ _ G.nt
 have hG:=G.g
 have hX:=G.x
 have hN:=ng_le hG
 have P0:∀ k,Nat.blt k 1000=true→F.pin k=none:=fun k hk=>G.p0 k ((mat1_ok h2 m).low k hk)
 refine exr (swb (c_bx (k:=5) (n:=4) pa4 rfl rfl (P0 _ rfl) L) t1 t0 (frT [] (mat1_ok h2 m) rfl rfl rfl) ?_)
 refine seq_nil ⟨[(0,_),(1,_),(5,_)],(5,_) :: ((mat1 s m)),t3,⟨rfl,(hbT [_] (mat1_ok h2 m) rfl)⟩,?_⟩
 refine exr (mV L rfl (mV L rfl (sw (ixR0 un77 sz40 (by first | exact refsB_length _ _ _ | exact (refsB_length _ _ _).trans sM | simp [Cells.len]) (j:=i) rO oM L) t2 ⟨rdT [_] (mat1_ok h2 m) rfl hdL,trivial⟩ ?_)))
 refine sw (c_l1 ag40 (by first | exact refsB_length _ _ _ | exact (refsB_length _ _ _).trans sM) (hdGet hi) L) t1 ⟨rdT [_] (mat1_ok h2 m) rfl hdL,trivial⟩ ?_
 refine sw (c_lr un40 (by first | exact encQ_length _ | exact (encQ_length _).trans oM) L) t1 ⟨rdT [_] (mat1_ok h2 m) rfl (rwL h2 hi),trivial⟩ ?_
 refine mV L rfl ?_
 refine seq_nil ⟨[(0,_),(1,_),(5,_),(11,_),(12,_),(13,_)],(5,_) :: ((mat1 s m)),t6,⟨rfl,(hbT [_] (mat1_ok h2 m) rfl)⟩,?_⟩
 obtain ⟨v,hv⟩:∃ v,v=m.getD i []:=⟨_,rfl⟩
 rw [← hv] at hl hs ⊢
 refine ex_block ?_
 refine exlT (α:=Nat) (fun k=>[(13,vi (k:Int))]) (fun k=>[]) (fun k=>(mat1 s (m.set i (scl v c k)))) (fun k=>k≤v.length) (fun k=>v.length - k) (0) (sl:=[(0,_),(1,_),(5,_),(11,_),(12,_)]) (hb:=[(5,_)]) ?_ ⟨oR,rfl,rfl,rfl,rfl,rfl,trivial⟩ ⟨rfl,(by rw [scl_zero,hv,set_getD]; exact hbT [_] (mat1_ok h2 m) rfl)⟩ ?_
 ·exact Nat.zero_le _
 intro k hk
 have hlen:=scl_length v c k
 refine exr (sw (c_ls L) t2 t0 ?_)
 refine seq_nil ⟨[(0,_),(1,_),(5,_),(11,_),(12,_),(13,_),(14,_)],(5,_) :: ((mat1 s (m.set i (scl v c k)))),t7,⟨rfl,(hbT [_] (mat1_ok h2 (m.set i (scl v c k))) rfl)⟩,?_⟩
 refine ex_seq ?_
 refine ex_if rfl (fun hc2=>?_) (fun hc2=>?_)
 ·have hc2:=dt hc2
  have hk2:k<v.length:=by omega
  refine ex_skip (xq ?_)
  refine ex_seq (ex_block (exr (mV L rfl (sw (ixA0 un40 sz47 (by first | exact encQ_length _ | exact (encQ_length _).trans oM) (j:=k) rO oM L) t2 ⟨rdT [_] (mat1_ok h2 (m.set i (scl v c k))) rfl (rwS h2 hi),trivial⟩ ?_))))
  refine sw (c_lq ag47 sz47 (by first | exact encQ_length _ | exact (encQ_length _).trans oM) (getQ oM) rfl L) t1 ⟨rdT [_] (mat1_ok h2 (m.set i (scl v c k))) rfl (rwS h2 hi),trivial⟩ ?_
  refine swb (c_al (k:=7) (n:=4) zv47 (.cons rfl (.cons rfl (.cons rfl (.cons rfl .nil)))) rfl (P0 _ rfl) L) t0 t0 (frT [_] (mat1_ok h2 (m.set i (scl v c k))) rfl rfl rfl) (aV L rfl (sb (c_sm sz47 rF pa4 rfl pu4) t2 t1 ?_))
  refine seq_nil ⟨[(0,_),(1,_),(5,_),(6,_),(7,_),(11,_),(12,_),(13,_)],(5,_) :: (7,_) :: ((mat1 s (m.set i (scl v c k)))),t8,⟨rfl,rfl,(hbT [_,_,_] (mat1_ok h2 (m.set i (scl v c k))) rfl)⟩,?_⟩
  refine exd0 rF ?_
  refine mV L rfl (mV L rfl (sw (ixR0 un77 sz40 (by first | exact refsB_length _ _ _ | exact (refsB_length _ _ _).trans sM | simp [Cells.len]) (j:=i) rO oM L) t2 ⟨rdT [_,_] (mat1_ok h2 (m.set i (scl v c k))) rfl hdL,trivial⟩ ?_))
  refine sw (c_l1 ag40 (by first | exact refsB_length _ _ _ | exact (refsB_length _ _ _).trans sM) (hdGetS hi hlen) L) t1 ⟨rdT [_,_] (mat1_ok h2 (m.set i (scl v c k))) rfl hdL,trivial⟩ ?_
  refine mV L rfl (lp4 ag47 sz47 L rfl rfl (lp4 ag47 sz47 L rfl rfl (cK hG hX cl67 hN (qmul_says ((scl v c k).getD k 0) c (by rw [scl_get hk2]; exact hs _ (getD_mem hk2)) hc) L t2 ?_)))
  refine sw (ixA0 un40 sz47 (by first | exact encQ_length _ | exact (encQ_length _).trans oM) (j:=k) rO oM L) t2 ⟨rdT [_,_] (mat1_ok h2 (m.set i (scl v c k))) rfl (rwS h2 hi),trivial⟩ ?_
  refine sb (c_sn (n:=4) sz47 (by first | exact encQ_length _ | exact (encQ_length _).trans oM) rfl oM) t2 ⟨rdT [_,_] (mat1_ok h2 (m.set i (scl v c k))) rfl (rwS h2 hi),trivial⟩ ?_
  refine seq_nil ⟨aokF [⟨[0],[],[18],[]⟩,⟨[1],[],[19],[]⟩,⟨[18,19],[1000],[20],[]⟩,⟨[20],[1000],[21],[]⟩,⟨[6],[],[22],[]⟩,⟨[7],[7],[23],[]⟩,⟨[5],[5],[24],[]⟩,⟨[23,24],[],[25],[]⟩,⟨[21,22],[1000],[26],[]⟩,⟨[26,25],[1000],[],[1000]⟩] (.cons (cf0 rfl) (.cons (cf0 rfl) (.cons (cfT rfl rfl (cls1 (by first | exact hdN_hi _ | exact rowN_hi _ _)) rfl (fun _ h=>by cases h)) (.cons (cfT rfl rfl (cls1 (by first | exact hdN_hi _ | exact rowN_hi _ _)) rfl (fun _ h=>by cases h)) (.cons (cf0 rfl) (.cons (cf0 rfl) (.cons (cf0 rfl) (.cons (cf0 rfl) (.cons (cfT rfl rfl (cls1 (by first | exact hdN_hi _ | exact rowN_hi _ _)) rfl (fun _ h=>by cases h)) (.cons (cfT rfl rfl (cls1 (by first | exact hdN_hi _ | exact rowN_hi _ _)) rfl (cls1 (by first | exact hdN_hi _ | exact rowN_hi _ _)))  .nil)))))))))) rfl (frS [] [_,_] (mat1_ok h2 (m.set i (scl v c k))) rfl rfl) dC,(show Exec _ _ _ _ _ from exw (sl:=[(0,_),(1,_),(5,_),(11,_),(12,_),(13,_)]) (hb:=(5,_) :: ((mat1 s (m.set i (scl v c (k+1)))))) t6 ⟨rfl,(hbS [_,_] rfl h2 hi ((setBlk ((scl v c k).getD k 0*c) oM).trans (by rw [scl_succ hk2])) sM)⟩ ?_)⟩
  refine exr0 (sw (c_ad L (w64 oM oM)) t2 t0 (mV L rfl (seq_nil ?_)))
  exact ⟨k+1,oM,by omega,le_of ⟨oR,rfl,rfl,rfl,rfl,rfl,trivial⟩ ⟨rfl,(hbT [_] (mat1_ok h2 (m.set i (scl v c (k+1)))) rfl)⟩⟩
 ·have hc2:=df hc2
  refine ex_exit ?_
  refine ⟨.inl rfl,ResVs.cast .nil ?_,(by rw [← scl_end,show v.length=k by omega]; exact hbT [_] (mat1_ok h2 _) rfl)⟩
  rfl
def tak (v u:List Rat)(c:Rat)(k:Nat):List Rat:=(List.zipWith (fun a b=>a - c*b) v u).take k++v.drop k
theorem tak_length {v u:List Rat}(c:Rat)(k:Nat)(h:u.length=v.length):(tak v u c k).length=v.length:=by simp [tak]; omega
theorem tak_get {v u:List Rat}{c:Rat}{k:Nat}(h:k<v.length)(hu:u.length=v.length):(tak v u c k).getD k 0=v.getD k 0:=by
 simp only [tak,List.getD_eq_getElem?_getD]
 rw [List.getElem?_append_right sO]
 congr 1; simp; congr 1; omega
theorem tak_succ {v u:List Rat}{c:Rat}{k:Nat}(h:k<v.length)(hu:u.length=v.length):(tak v u c k).set k ((tak v u c k).getD k 0 - c*u.getD k 0)=tak v u c (k+1):=by
 rw [tak_get h hu,tak,tak,List.set_append,if_neg sO]
 have e:k - ((List.zipWith (fun a b=>a - c*b) v u).take k).length=0:=by simp; omega
 rw [e,List.take_add_one,List.append_assoc]
 have e2:(List.drop k v).set 0 (v.getD k 0 - c*u.getD k 0)=(v.getD k 0 - c*u.getD k 0) :: List.drop (k+1) v:=by
  rw [List.drop_eq_getElem_cons h,List.set_cons_zero]
 have e3:(List.zipWith (fun a b=>a - c*b) v u)[k]?.toList=[v.getD k 0 - c*u.getD k 0]:=by
  have h2:k<u.length:=by omega
  simp [List.getElem?_zipWith,List.getD_eq_getElem?_getD,h,h2]
 rw [e2,e3]; rfl
theorem tak_skip {v u:List Rat}{c:Rat}{k:Nat}(h:k<v.length)(hu:u.length=v.length)(h0:u.getD k 0=0):tak v u c k=tak v u c (k+1):=by
 rw [← tak_succ h hu,h0,Rat.mul_zero,show ∀ x:Rat,x - 0=x from fun x=>by grind]
 have hl:=tak_length (v:=v) (u:=u) c k hu
 simp [List.getD_eq_getElem?_getD,show k<(tak v u c k).length by omega]
theorem tak_end {v u:List Rat}{c:Rat}(hu:u.length=v.length):tak v u c v.length=List.zipWith (fun a b=>a - c*b) v u:=by
 simp [tak,List.take_of_length_le,hu]
theorem tak_zero {v u:List Rat}{c:Rat}:tak v u c 0=v:=by simp [tak]
theorem cmpQ_z (a:Rat):cmpQ a 0=0↔a=0:=by
 unfold cmpQ
 constructor
 ·intro h
  split at h
  ·cases h
  ·split at h
   ·cases h
   ·rename_i h1 h2; exact Rat.le_antisymm (Rat.not_lt.1 h2) (Rat.not_lt.1 h1)
 ·rintro rfl; simp [Rat.lt_irrefl]
theorem zero_says (a:Rat)(ha:qw a<1000000000):Says E 65 [pQ a] (bZ (decide (a=0))):=by
 refine says_of (xs:=[bZ (decide (a=0))]) Tryz.func65 rfl Tryz.ntmps65 Tryz.results65 sM fun F hG hX0 hnt hdf P0=>?_
 obtain ⟨L,hX,hN⟩:=pro hnt hX0 hG
 refine exr (swb (c_bx (k:=1) (n:=4) pa4 rfl rfl (P0 _ rfl) L) t1 t0 ⟨rfl,rfl⟩ (aV L rfl (zn [(1,_)] [(1,_)] t1 t1 (exr (lp4 ag47 sz47 L rfl rfl (cK hG hX cl108 hN (qsign_says a ha) L t1 (sw (c_e L) t2 t0 (aV L rfl (zn [(2,_)] [] t1 trivial (ex_ret ?_))))))))))
 refine ⟨.inr rfl,ResVs.cast (.cons (.tmp rfl) .nil) ?_⟩
 rw [show decide (cmpQ a 0=0)=decide (a=0) from decide_eq_decide.2 (cmpQ_z a)]
theorem whole_says (n:Int)(h : -9223372036854775808≤n)(h1:n<9223372036854775808):Says E 55 [vZ n] (pQ (n:Rat)):=by
 refine says_of (xs:=[pQ (n:Rat)]) Tryz.func55 rfl Tryz.ntmps55 Tryz.results55 sM fun F hG hX0 hnt hdf P0=>?_
 obtain ⟨L,hX,hN⟩:=pro hnt hX0 hG
 refine exr (swb (c_al (k:=2) (n:=4) zv47 (.cons rfl (.cons rfl (.cons rfl (.cons rfl .nil)))) rfl (P0 _ rfl) L) t0 t0 ⟨rfl,rfl⟩ (zn [(0,_),(2,_)] [(2,_)] t2 t1 (exr (mV L rfl (cK hG hX cl101 hN (of_says n h h1) L t1 (cK hG hX cl100 hN (qwhole_says n) L t1 (sb (c_sm sz47 rF pa4 rfl pu4) t2 t1 ?_)))))))
 refine zn [(2,_)] [(2,_)] t1 t1 (ex_ret ?_)
 refine ⟨.inr rfl,ResVs.cast (.cons (.agg rfl rfl rfl ag47 sz47 (.cons (.cons (.cons (.cons .nil))))) .nil) ?_⟩
 rfl
@[reducible] def bQ (a:Rat):Blk:=⟨47,4,.mix [.p (.a (.bool (decide (a.num<0)))),.p (.sl (digs a.num.natAbs).length (encW (digs a.num.natAbs))),.p (.a (.bool (decide ((a.den:Int)<0)))),.p (.sl (digs (a.den:Int).natAbs).length (encW (digs (a.den:Int).natAbs)))]⟩
def sumQ (v:List Rat):Rat:=v.foldl (· + ·) 0
theorem sumQ_snoc (v:List Rat)(a:Rat):sumQ (v++[a])=sumQ v+a:=by simp [sumQ]
theorem sumQ_take {v:List Rat}{k:Nat}(h:k<v.length):sumQ (v.take (k+1))=sumQ (v.take k)+v.getD k 0:=by
 rw [List.take_add_one,show v[k]?.toList=[v.getD k 0] by simp [List.getD_eq_getElem?_getD,h],sumQ_snoc]
theorem qw_sum {B:Nat}:∀ {v:List Rat},(∀ a∈v,qw a≤B)→qw (sumQ v)≤v.length*(B+1)+1:=by
 intro v
 suffices h:∀ (n:Nat) (l:List Rat),l.length=n→(∀ a∈l,qw a≤B)→qw (sumQ l)≤l.length*(B+1)+1 from h _ v rfl
 intro n
 induction n with
 | zero=>intro l hl _; rw [List.eq_nil_of_length_eq_zero hl]; simp [sumQ,qw_zero]
 | succ n ih =>
  intro l hl hB
  obtain ⟨l',a,rfl⟩:∃ l' a,l=l'++[a]:=⟨l.dropLast,l.getLast (by intro e; simp [e] at hl),(List.dropLast_concat_getLast _).symm⟩
  simp only [List.length_append,List.length_cons,List.length_nil] at hl
  have h1:=ih l' oM (fun b hb=>hB b (by simp [hb]))
  have h2:=hB a sM
  have h3:=qw_add (sumQ l') a
  rw [sumQ_snoc,List.length_append,List.length_cons,List.length_nil,Nat.add_mul]
  omega
theorem qw_sum_take {B:Nat}{v:List Rat}{k:Nat}(h:∀ a∈v,qw a≤B):qw (sumQ (v.take k))≤v.length*(B+1)+1:=by
 have h1:=qw_sum (v:=v.take k) (B:=B) fun a ha=>h a (List.mem_of_mem_take ha)
 have h2:(v.take k).length*(B+1)≤v.length*(B+1):=Nat.mul_le_mul_right _ sO
 omega
theorem sum_says (v:List Rat)(B:Nat)(hl:v.length<1000000000)(hB:∀ a∈v,qw a≤B)(hb:v.length*(B+1)+1<900000000):Says E 68 [pV v] (pQ (sumQ v)):=by
 refine says_of (xs:=[pQ (sumQ v)]) Tryz.func68 rfl Tryz.ntmps68 Tryz.results68 sM fun F hG hX0 hnt hdf P0=>?_
 obtain ⟨L,hX,hN⟩:=pro hnt hX0 hG
 have hBB:∀ a∈v,qw a<1000000000:=fun a ha=>by
  have h1:=hB a ha
  have h2:0<v.length:=List.length_pos_of_mem ha
  have h3:1*(B+1)≤v.length*(B+1):=Nat.mul_le_mul_right _ h2
  omega
 refine exr (swb (c_al (k:=2) (n:=4) zv47 (.cons rfl (.cons rfl (.cons rfl (.cons rfl .nil)))) rfl (P0 _ rfl) L) t0 t0 ⟨rfl,rfl⟩ (zn [(0,_),(2,_)] [(2,_)] t2 t1 (exr (cK hG hX cl55 hN (whole_says 0 dC dC) L t1 (swb (c_al (k:=3) (n:=4) zv47 (.cons rfl (.cons rfl (.cons rfl (.cons rfl .nil)))) rfl (P0 _ rfl) L) t0 t0 ⟨rfl,rfl⟩ (sb (c_sm sz47 rF pa4 rfl pu4) t2 t1 ?_))))))
 refine zn [(0,_),(2,_),(3,_)] [(2,_),(3,_)] t3 t2 (ex_seq (exr (mV L rfl (sw (c_ln un40 L) t1 t0 (mV L rfl (zn [(2,_),(3,_),(7,_),(8,_),(9,_)] [(2,_),(3,_)] t5 t2 (ex_block ?_)))))))
 refine exl (α:=Nat) (fun k=>[(9,vi (k:Int))]) (fun k=>[(3,bQ (sumQ (v.take k)))]) (fun k=>k≤v.length) (fun k=>v.length - k) (0) (sl:=[(2,_),(3,_),(7,_),(8,_)]) (hb:=[(2,_)]) ?_ ⟨oR,rfl,rfl,rfl,rfl,trivial⟩ t2 ?_
 ·exact Nat.zero_le _
 intro k hk
 refine exr (sw (c_ls L) t2 t0 (zn [(2,_),(3,_),(7,_),(8,_),(9,_),(10,_)] [(2,_),(3,_)] t6 t2 (ex_seq ?_)))
 refine ex_if rfl (fun hc=>?_) (fun hc=>?_)
 ·have hc:=dt hc
  have hkl:k<v.length:=by omega
  have hq:=qw_sum_take (k:=k) hB
  refine ex_skip (xq ?_)
  refine ex_seq (ex_block (exr (sw (core_indexAddrJ un40 sz47 oM oM sM dC L) t2 t0 ?_)))
  refine sw (c_la ag47 sz47 (getQ hkl) rfl L) t1 t0 (swb (c_al (k:=5) (n:=4) zv47 (.cons rfl (.cons rfl (.cons rfl (.cons rfl .nil)))) rfl (P0 _ rfl) L) t0 t0 ⟨rfl,rfl⟩ (sb (c_sm sz47 rF pa4 rfl pu4) t2 t1 ?_))
  refine zn [(2,_),(3,_),(5,_),(7,_),(8,_),(9,_)] [(2,_),(3,_),(5,_)] t6 t3 (exr0 (lp4 ag47 sz47 L rfl rfl (lp4 ag47 sz47 L rfl rfl (cK hG hX cl112 hN (qadd_says (sumQ (v.take k)) (v.getD k 0) oM (hBB _ (getD_mem hkl))) L t2 (sb (c_sm sz47 rF pa4 rfl pu4) t2 t1 ?_)))))
  refine seq_nil (exr0 (sw (c_ad L (w64 oM oM)) t2 t0 (mV L rfl (seq_nil ?_))))
  exact ⟨k+1,oM,by omega,le_of ⟨oR,rfl,rfl,rfl,rfl,trivial⟩ ⟨obl rfl (by rw [sumQ_take hkl]),rfl,trivial⟩⟩
 ·have hc:=df hc
  refine ex_exit (xq ?_)
  refine exr (lp4 ag47 sz47 L rfl rfl (sb (c_sm sz47 rF pa4 rfl pu4) t2 t1 ?_))
  refine zn [(2,_)] [(2,_)] t1 t1 (ex_ret ?_)
  refine ⟨.inr rfl,ResVs.cast (.cons (.agg rfl rfl rfl ag47 sz47 (.cons (.cons (.cons (.cons .nil))))) .nil) ?_⟩
  rw [List.take_of_length_le oM]
theorem hbI {S:St}{l l':List (Nat×Blk)}(e:l=l')(h:HasB S l'):HasB S l:=e ▸ h
@[reducible] def rowV (k:Nat):List Rat→PV
 | []=>.p (.a (.slice none 0 0))
 | a :: v=>.ref k 0 (a :: v).length ((a :: v).length*4)
@[reducible] def rowB (k:Nat):List Rat→List (Nat×Blk)
 | []=>[]
 | a :: v=>[(k,⟨47,4,.pure (encQ (a :: v))⟩)]
theorem rowSn (v:List Rat)(a:Rat):(⟨47,4,.pure (encQ v++cQ a)⟩:Blk)=rowBlk (v++[a]):=by rw [rowBlk,encQ_app]; simp [encQ]
def dotT (u v:List Rat):List Rat:=((List.zip u v).filter fun p=>decide (p.1≠0∧p.2≠0)).map fun p=>p.1*p.2
def dotQ (u v:List Rat):Rat:=sumQ (dotT u v)
theorem dotT_le {u v:List Rat}:(dotT u v).length≤u.length:=by
 unfold dotT; rw [List.length_map]
 refine Nat.le_trans (List.length_filter_le _ _) ?_
 simp; omega
theorem dotT_take {u v:List Rat}{k:Nat}(h:k<u.length)(hv:u.length=v.length):dotT (u.take (k+1)) v=dotT (u.take k) v++(if u.getD k 0≠0∧v.getD k 0≠0 then [u.getD k 0*v.getD k 0] else []):=by
 have h2:k<v.length:=by omega
 have e:List.zip (u.take (k+1)) v=List.zip (u.take k) v++[(u.getD k 0,v.getD k 0)]:=by
  apply List.ext_getElem?
  intro i
  rw [List.getElem?_append]
  simp only [List.zip,List.getElem?_zipWith,List.length_zipWith,List.length_take,List.getElem?_take]
  by_cases h3:i<k
  ·rw [if_pos oM,if_pos oM,if_pos oM]
  ·rw [if_neg (show ¬ i<min (min k u.length) v.length by omega)]
   by_cases h4:i=k
   ·subst h4
    rw [if_pos oM]
    have:i - min (min i u.length) v.length=0:=by omega
    rw [this]; simp [List.getD_eq_getElem?_getD,h,h2]
   ·rw [if_neg oM]
    obtain ⟨m,hm⟩:∃ m,i - min (min k u.length) v.length=m+1:=⟨i - min (min k u.length) v.length - 1,by omega⟩
    rw [hm]; rfl
 unfold dotT
 rw [e,List.filter_append,List.map_append]
 congr 1
 by_cases hc:u.getD k 0≠0∧v.getD k 0≠0
 ·rw [if_pos hc,List.filter_cons_of_pos (by simpa using hc)]; rfl
 ·rw [if_neg hc,List.filter_cons_of_neg (by simpa using hc)]; rfl
theorem dotT_bd {B C:Nat}{u v:List Rat}(hB:∀ a∈u,qw a≤B)(hC:∀ a∈v,qw a≤C):∀ a∈dotT u v,qw a≤B+C:=by
 intro a ha
 simp only [dotT,List.mem_map,List.mem_filter] at ha
 obtain ⟨p,⟨h1,-⟩,rfl⟩:=ha
 have h2:=List.of_mem_zip (a:=p.1) (b:=p.2) h1
 have:=qw_mul p.1 p.2
 have:=hB _ h2.1
 have:=hC _ h2.2
 omega
theorem dot_says (u v:List Rat)(B C:Nat)(huv:u.length=v.length)(hl:u.length<1000000000)(hB:∀ a∈u,qw a≤B)(hC:∀ a∈v,qw a≤C)(hBl:B<1000000000)(hCl:C<1000000000)(hb:u.length*(B+C+1)+1<900000000):Says E 70 [pV u,pV v] (pQ (dotQ u v)):=by
 refine says_of (xs:=[pQ (dotQ u v)]) Tryz.func70 rfl Tryz.ntmps70 Tryz.results70 sM fun F hG hX0 hnt hdf P0=>?_
 obtain ⟨L,hX,hN⟩:=pro hnt hX0 hG
 refine exr (swb (c_al (k:=4) (n:=4) zv47 (.cons rfl (.cons rfl (.cons rfl (.cons rfl .nil)))) rfl (P0 _ rfl) L) t0 t0 ⟨rfl,rfl⟩ (zn [(0,_),(1,_),(4,_)] [(4,_)] t3 t1 (exr (aV L rfl (zn [(0,_),(1,_),(4,_),(5,_)] [(4,_)] t4 t1 (ex_seq (exr (mV L rfl (sw (c_ln un40 L) t1 t0 (mV L rfl (zn [(1,_),(4,_),(5,_),(8,_),(9,_),(10,_)] [(4,_)] t6 t1 ?_)))))))))))
 refine ex_block ?_
 refine exl (α:=(Nat×List Rat)) (fun x=>[(10,vi (x.1:Int)),(5,rowV 34 x.2)]) (fun x=>[]++rowB 34 x.2) (fun x=>x.1≤u.length∧dotT (u.take x.1) v=x.2) (fun x=>u.length - x.1) ((0,[])) (sl:=[(1,_),(4,_),(8,_),(9,_)]) (hb:=[(4,_)]) ?_ ⟨oR,oR,rfl,rfl,rfl,rfl,trivial⟩ (hbI (l':=[(4,_)]) rfl t1) ?_
 ·exact ⟨Nat.zero_le _,rfl⟩
 intro x hk
 obtain ⟨k,T⟩:=x
 obtain ⟨hk,hT⟩:=hk
 simp only at hk hT
 rcases T with _ | ⟨q,T⟩
 ·dsimp only [rowV,rowB,List.append_nil]
  refine exr (sw (c_ls L) t2 t0 (zn [(1,_),(4,_),(5,_),(8,_),(9,_),(10,_),(11,_)] [(4,_)] t7 t1 (ex_seq ?_)))
  refine ex_if rfl (fun hc=>?_) (fun hc=>?_)
  ·have hc:=dt hc
   have hk2:k<u.length:=by omega
   have hk3:k<v.length:=by omega
   have ht:=dotT_take hk2 huv
   have b1:qw (u.getD k 0)≤B:=hB _ (getD_mem hk2)
   have b2:qw (v.getD k 0)≤C:=hC _ (getD_mem hk3)
   refine ex_skip (xq ?_)
   refine ex_seq (ex_block (exr (mV L rfl (sw (core_indexAddrJ un40 sz47 oM oM sM dC L) t2 t0 ?_))))
   refine sw (c_la ag47 sz47 (getQ hk2) rfl L) t1 t0 (swb (c_al (k:=7) (n:=4) zv47 (.cons rfl (.cons rfl (.cons rfl (.cons rfl .nil)))) rfl (P0 _ rfl) L) t0 t0 ⟨rfl,rfl⟩ (aV L rfl (sb (c_sm sz47 rF pa4 rfl pu4) t2 t1 ?_)))
   refine zn [(1,_),(4,_),(5,_),(6,_),(7,_),(8,_),(9,_),(10,_)] [(4,_),(7,_)] t8 t2 ?_
   refine exm (sl:=[(25,vb (decide (u.getD k 0≠0∧v.getD k 0≠0)))]) (sl0:=[(1,_),(4,_),(5,_),(6,_),(7,_),(8,_),(9,_),(10,_)]) (hb:=[]) (hb0:=[(4,_),(7,_)]) t8 t2 ?_ ?_
   ·by_cases h0:u.getD k 0=0
    ·refine lp4 ag47 sz47 L rfl rfl (cK hG hX cl65 hN (zero_says (u.getD k 0) oM) L t1 (sw (c_no L) t1 t0 (mV L rfl (swn (g:=18) rfl (by rw [h0]; rfl) L rfl ?_))))
     refine swn (g:=18) rfl (by rw [h0]; rfl) L rfl ?_
     refine swn (g:=18) rfl (by rw [h0]; rfl) L rfl ?_
     refine swn (g:=18) rfl (by rw [h0]; rfl) L rfl ?_
     refine swn (g:=18) rfl (by rw [h0]; rfl) L rfl ?_
     refine swn (g:=18) rfl (by rw [h0]; rfl) L rfl ?_
     refine sw (c_pf (by rw [h0]; rfl) L) t2 t0 ?_
     exact seq_nil ⟨⟨ob rfl (by simp only [h0]; rfl),rfl,rfl,rfl,rfl,rfl,rfl,rfl,rfl,trivial⟩,t2⟩
    ·refine lp4 ag47 sz47 L rfl rfl (cK hG hX cl65 hN (zero_says (u.getD k 0) oM) L t1 (sw (c_no L) t1 t0 (mV L rfl (gV (g:=18) rfl (by simp only [h0]; rfl) L rfl rfl ?_))))
     refine gV (g:=18) rfl (by simp only [h0]; rfl) L rfl rfl ?_
     refine swg (g:=18) rfl (by simp only [h0]; rfl) (core_indexAddrJ un40 sz47 oM oM sM dC L) rfl t2 t0 ?_
     refine swg (g:=18) rfl (by simp only [h0]; rfl) (c_la ag47 sz47 (getQ hk3) rfl L) rfl t1 t0 ?_
     refine swg (g:=18) rfl (by simp only [h0]; rfl) (c_c hG hX cl65 rfl hN (zero_says (v.getD k 0) oM) L) rfl t1 t0 ?_
     refine swg (g:=18) rfl (by simp only [h0]; rfl) (c_no L) rfl t1 t0 ?_
     refine sw (c_pt (by simp only [h0]; rfl) L) t2 t0 ?_
     exact seq_nil ⟨⟨ob rfl (by rw [decide_eq_decide.2 (show (¬ (v.getD k 0=0))↔(u.getD k 0≠0∧v.getD k 0≠0) from ⟨fun h=>⟨h0,h⟩,fun h=>h.2⟩).symm]; exact (decide_not).symm),rfl,rfl,rfl,rfl,rfl,rfl,rfl,rfl,trivial⟩,t2⟩
   refine ex_if rfl (fun h1=>?_) (fun h1=>?_)
   ·have h1:=dt h1
    rw [if_pos h1,hT] at ht
    refine exd0 rF ?_
    refine mV L rfl (lp4 ag47 sz47 L rfl rfl (mV L rfl (mV L rfl (sw (core_indexAddrJ un40 sz47 oM oM sM dC L) t2 t0 ?_))))
    refine sw (c_la ag47 sz47 (getQ hk3) rfl L) t1 t0 (cK hG hX cl67 hN (qmul_says (u.getD k 0) (v.getD k 0) oM oM) L t2 (sw (c_bI (vs:=[_]) un40 ti47 rfl rfl dC dC rfl (zs_made (.cons rfl (.cons rfl (.cons rfl (.cons rfl .nil)))) rfl) rfl (.cons rfl pa4 rfl pu4 .nil) (.cons (.cons (.cons (.cons .nil)))) L) t1 t0 (swb (apN (k:=34) (sz:=4) un40 un40 ti47 rfl rfl rfl dC sM rfl (by first | (simp [Tryz.t47]; done) | (simp [Tryz.t47]; omega)) oM (P0 _ rfl) L) t2 t0 ⟨rfl,rfl⟩ ?_)))
    refine aV L rfl ?_
    refine seq_nil ⟨aok rfl rfl,?_⟩
    refine exr0 (sw (c_ad L (w64 oM oM)) t2 t0 (mV L rfl (seq_nil ?_)))
    exact ⟨(k+1,[u.getD k 0*v.getD k 0]),⟨by simp only; omega,ht⟩,(by simp only; omega),le_of ⟨oR,oR,rfl,rfl,rfl,rfl,trivial⟩ (hbI (l':=[(34,_),(4,_)]) rfl t2)⟩
   ·have h1:=df h1
    rw [if_neg h1,hT,List.append_nil] at ht
    refine ex_skip (xq ?_)
    refine exr0 (sw (c_ad L (w64 oM oM)) t2 t0 (mV L rfl (seq_nil ?_)))
    exact ⟨(k+1,[]),⟨by simp only; omega,ht⟩,(by simp only; omega),le_of ⟨oR,oR,rfl,rfl,rfl,rfl,trivial⟩ (hbI (l':=[(4,_)]) rfl t1)⟩
  ·have hc:=df hc
   have hku:k=u.length:=by omega
   rw [hku,List.take_length] at hT
   refine ex_exit (xq ?_)
   refine ex_cv [] (sl:=[(4,_),(5,_)]) (hb:=[(4,_)]) (own_none hX0) ⟨⟨_,rfl,.same⟩,⟨_,rfl,(.p .nil)⟩,trivial⟩ ⟨⟨rfl,_,rfl,.same⟩,trivial⟩ (exr (mV L rfl (cK hG hX cl68 hN (sum_says [] (B+C) (by rw [← hT]; have:=dotT_le (u:=u) (v:=v); omega) (by rw [← hT]; exact dotT_bd hB hC) (by rw [← hT]; have:=Nat.mul_le_mul_right (B+C+1) (dotT_le (u:=u) (v:=v)); omega)) L t1 ?_)))
   refine sb (c_sm sz47 rF pa4 rfl pu4) t2 t1 ?_
   refine zn [(4,_)] [(4,_)] t1 t1 (ex_ret ?_)
   refine ⟨.inr rfl,ResVs.cast (.cons (.agg rfl rfl rfl ag47 sz47 (.cons (.cons (.cons (.cons .nil))))) .nil) ?_⟩
   rw [dotQ,hT]
 ·dsimp only [rowV,rowB]
  have hTl:T.length+1≤u.length:=by
   have h1:=dotT_le (u:=u.take k) (v:=v)
   rw [hT] at h1; simp at h1; omega
  have hTl2:(q :: T).length≤u.length:=hTl
  refine exr (sw (c_ls L) t2 t0 (zn [(1,_),(4,_),(5,_),(8,_),(9,_),(10,_),(11,_)] [(4,_),(34,_)] t7 t2 (ex_seq ?_)))
  refine ex_if rfl (fun hc=>?_) (fun hc=>?_)
  ·have hc:=dt hc
   have hk2:k<u.length:=by omega
   have hk3:k<v.length:=by omega
   have ht:=dotT_take hk2 huv
   have b1:qw (u.getD k 0)≤B:=hB _ (getD_mem hk2)
   have b2:qw (v.getD k 0)≤C:=hC _ (getD_mem hk3)
   refine ex_skip (xq ?_)
   refine ex_seq (ex_block (exr (mV L rfl (sw (core_indexAddrJ un40 sz47 oM oM sM dC L) t2 t0 ?_))))
   refine sw (c_la ag47 sz47 (getQ hk2) rfl L) t1 t0 (swb (c_al (k:=7) (n:=4) zv47 (.cons rfl (.cons rfl (.cons rfl (.cons rfl .nil)))) rfl (P0 _ rfl) L) t0 t0 ⟨rfl,rfl⟩ (aV L rfl (sb (c_sm sz47 rF pa4 rfl pu4) t2 t1 ?_)))
   refine zn [(1,_),(4,_),(5,_),(6,_),(7,_),(8,_),(9,_),(10,_)] [(4,_),(7,_),(34,_)] t8 t3 ?_
   refine exm (sl:=[(25,vb (decide (u.getD k 0≠0∧v.getD k 0≠0)))]) (sl0:=[(1,_),(4,_),(5,_),(6,_),(7,_),(8,_),(9,_),(10,_)]) (hb:=[]) (hb0:=[(4,_),(7,_),(34,_)]) t8 t3 ?_ ?_
   ·by_cases h0:u.getD k 0=0
    ·refine lp4 ag47 sz47 L rfl rfl (cK hG hX cl65 hN (zero_says (u.getD k 0) oM) L t1 (sw (c_no L) t1 t0 (mV L rfl (swn (g:=18) rfl (by rw [h0]; rfl) L rfl ?_))))
     refine swn (g:=18) rfl (by rw [h0]; rfl) L rfl ?_
     refine swn (g:=18) rfl (by rw [h0]; rfl) L rfl ?_
     refine swn (g:=18) rfl (by rw [h0]; rfl) L rfl ?_
     refine swn (g:=18) rfl (by rw [h0]; rfl) L rfl ?_
     refine swn (g:=18) rfl (by rw [h0]; rfl) L rfl ?_
     refine sw (c_pf (by rw [h0]; rfl) L) t2 t0 ?_
     exact seq_nil ⟨⟨ob rfl (by simp only [h0]; rfl),rfl,rfl,rfl,rfl,rfl,rfl,rfl,rfl,trivial⟩,t3⟩
    ·refine lp4 ag47 sz47 L rfl rfl (cK hG hX cl65 hN (zero_says (u.getD k 0) oM) L t1 (sw (c_no L) t1 t0 (mV L rfl (gV (g:=18) rfl (by simp only [h0]; rfl) L rfl rfl ?_))))
     refine gV (g:=18) rfl (by simp only [h0]; rfl) L rfl rfl ?_
     refine swg (g:=18) rfl (by simp only [h0]; rfl) (core_indexAddrJ un40 sz47 oM oM sM dC L) rfl t2 t0 ?_
     refine swg (g:=18) rfl (by simp only [h0]; rfl) (c_la ag47 sz47 (getQ hk3) rfl L) rfl t1 t0 ?_
     refine swg (g:=18) rfl (by simp only [h0]; rfl) (c_c hG hX cl65 rfl hN (zero_says (v.getD k 0) oM) L) rfl t1 t0 ?_
     refine swg (g:=18) rfl (by simp only [h0]; rfl) (c_no L) rfl t1 t0 ?_
     refine sw (c_pt (by simp only [h0]; rfl) L) t2 t0 ?_
     exact seq_nil ⟨⟨ob rfl (by rw [decide_eq_decide.2 (show (¬ (v.getD k 0=0))↔(u.getD k 0≠0∧v.getD k 0≠0) from ⟨fun h=>⟨h0,h⟩,fun h=>h.2⟩).symm]; exact (decide_not).symm),rfl,rfl,rfl,rfl,rfl,rfl,rfl,rfl,trivial⟩,t3⟩
   refine ex_if rfl (fun h1=>?_) (fun h1=>?_)
   ·have h1:=dt h1
    rw [if_pos h1,hT] at ht
    refine exd0 rF ?_
    refine mV L rfl (lp4 ag47 sz47 L rfl rfl (mV L rfl (mV L rfl (sw (core_indexAddrJ un40 sz47 sM (by simp; trace_state; omega) sM dC L) t2 t0 ?_))))
    refine sw (c_la ag47 sz47 (getQ hk3) rfl L) t1 t0 (cK hG hX cl67 hN (qmul_says (u.getD k 0) (v.getD k 0) oM oM) L t2 (sw (c_bI (vs:=[_]) un40 ti47 rfl rfl dC dC rfl (zs_made (.cons rfl (.cons rfl (.cons rfl (.cons rfl .nil)))) rfl) rfl (.cons rfl pa4 rfl pu4 .nil) (.cons (.cons (.cons (.cons .nil)))) L) t1 t0 (swb (apP (sz:=4) un40 un40 ti47 rfl rfl rfl dC (by exact sM) oF sM rfl rfl rfl (by first | (simp [Tryz.t47]; done) | (simp [Tryz.t47]; omega)) oM (P0 _ rfl) L) t2 t1 t0 ?_)))
    refine aV L rfl ?_
    refine seq_nil ⟨aoks [⟨[5],[],[26],[]⟩,⟨[7],[7],[27],[]⟩,⟨[1],[],[28],[]⟩,⟨[6],[],[29],[]⟩,⟨[28,29],[],[30],[]⟩,⟨[30],[],[31],[]⟩,⟨[27,31],[],[32],[]⟩,⟨[32],[],[33],[]⟩,⟨[26,33],[34],[34],[34]⟩,⟨[34],[],[5],[]⟩] rF rF dC,?_⟩
    refine exr0 (sw (c_ad L (w64 oM oM)) t2 t0 (mV L rfl (seq_nil ?_)))
    exact ⟨(k+1,q :: T++[u.getD k 0*v.getD k 0]),⟨by simp only; omega,ht⟩,(by simp only; omega),le_of ⟨oR,(by exact ov rfl sO),rfl,rfl,rfl,rfl,trivial⟩ (hbI (l':=[(34,_),(4,_)]) rfl ⟨(obl rfl (rowSn (q :: T) _)),rfl,trivial⟩)⟩
   ·have h1:=df h1
    rw [if_neg h1,hT,List.append_nil] at ht
    refine ex_skip (xq ?_)
    refine exr0 (sw (c_ad L (w64 oM oM)) t2 t0 (mV L rfl (seq_nil ?_)))
    exact ⟨(k+1,q :: T),⟨by simp only; omega,ht⟩,(by simp only; omega),le_of ⟨oR,oR,rfl,rfl,rfl,rfl,trivial⟩ (hbI (l':=[(34,_),(4,_)]) rfl t2)⟩
  ·have hc:=df hc
   have hku:k=u.length:=by omega
   rw [hku,List.take_length] at hT
   refine ex_exit (xq ?_)
   refine ex_cv [34] (sl:=[(4,_),(5,_)]) (hb:=[(4,_)]) (own_none hX0) ⟨⟨_,rfl,.same⟩,⟨_,rfl,(.ref rfl rfl (by exact sM) (by first | rfl | omega))⟩,trivial⟩ ⟨⟨rfl,_,rfl,.same⟩,trivial⟩ ?_
   refine exr (mV L rfl (cK hG hX cl68 hN (sum_says (q :: T) (B+C) (by rw [← hT]; have:=dotT_le (u:=u) (v:=v); omega) (by rw [← hT]; exact dotT_bd hB hC) (by rw [← hT]; have:=Nat.mul_le_mul_right (B+C+1) (dotT_le (u:=u) (v:=v)); omega)) L t1 ?_))
   refine sb (c_sm sz47 rF pa4 rfl pu4) t2 t1 ?_
   refine zn [(4,_)] [(4,_)] t1 t1 (ex_ret ?_)
   refine ⟨.inr rfl,ResVs.cast (.cons (.agg rfl rfl rfl ag47 sz47 (.cons (.cons (.cons (.cons .nil))))) .nil) ?_⟩
   rw [dotQ,hT]
theorem copied_says (v:List Rat)(hl:v.length<1000000000):SaysO E 89 [pV v] 47 4 v.length (encQ v):=by
 refine saysO_of (k:=3) (tot:=v.length*4) Tryz.func89 rfl Tryz.ntmps89 Tryz.results89 sM fun F hG hX0 hnt hdf P0=>?_
 obtain ⟨L,hX,hN⟩:=pro hnt hX0 hG
 refine exr (aV L rfl (zn [(0,_)] [] t1 trivial (exr (swb (core_bs0R (k:=3) (sz:=4) un40 ti47 (P0 _ rfl) L) t0 t0 ⟨rfl,rfl⟩ (mV L rfl (swb (apP (sz:=4) un40 un40 ti47 rfl rfl rfl dC rX oF sM rfl rfl rfl (by simp [Tryz.t47]; omega) oM (P0 _ rfl) L) t2 t1 t0 ?_))))))
 refine aV L rfl ?_
 refine seq_nil ⟨[(2,.ref 3 0 v.length (v.length*4))],[(3,_)],⟨ov rfl sM,trivial⟩,t1,?_⟩
 refine ex_ret ?_
 refine ⟨.inr rfl,rfl,_,rfl,by simp,?_,by simp⟩
 rw [List.take_of_length_le sM]; rfl
def zq (n:Nat):List Rat:=List.replicate n 0
@[simp] theorem zq_length (n:Nat):(zq n).length=n:=by simp [zq]
theorem zq_succ (n:Nat):zq (n+1)=zq n++[0]:=by simp [zq,List.replicate_succ']
def zc0:List Pure:=[.a (.bool false),.a (.slice none 0 0),.a (.bool false),.a (.slice none 0 0)]
theorem zrow_succ (n:Nat)(z:List Pure):zrow (n+1) z=z++zrow n z:=by simp [zrow,List.replicate_succ]
theorem fill_step {v:List Rat}{n k:Nat}(hv:v.length=k)(h:k<n)(a:Rat):(encQ v++zrow (n - k) zc0).take (k*4)++cQ a++(encQ v++zrow (n - k) zc0).drop (k*4+4)=encQ (v++[a])++zrow (n - (k+1)) zc0:=by
 have e:(encQ v).length=k*4:=by rw [encQ_length,hv]
 obtain ⟨m,hm⟩:∃ m,n - k=m+1:=⟨n - k - 1,by omega⟩
 rw [hm,show n - (k+1)=m by omega,zrow_succ]
 rw [List.take_append_of_le_length oM,List.take_of_length_le oM,← List.append_assoc (encQ v),List.drop_append,List.drop_eq_nil_of_le (by rw [List.length_append,e]; simp [zc0])]
 have e2:k*4+4 - (encQ v++zc0).length=0:=by rw [List.length_append,e]; simp [zc0]
 rw [e2,encQ_app]
 simp [encQ]
theorem fill_length {v:List Rat}{n k:Nat}(hv:v.length=k)(h:k≤n):(encQ v++zrow (n - k) zc0).length=n*4:=by
 rw [List.length_append,encQ_length,zrow_length,hv]; simp only [zc0,List.length_cons,List.length_nil]; omega
theorem zeros_says (n:Nat)(hn:n<1000000000):SaysO E 54 [vZ n] 47 4 n (encQ (zq n)):=by
 refine saysO_of (k:=6) (tot:=n*4) Tryz.func54 rfl Tryz.ntmps54 Tryz.results54 sM fun F hG hX0 hnt hdf P0=>?_
 obtain ⟨L,hX,hN⟩:=pro hnt hX0 hG
 refine exr (aV L rfl (zn [(0,_)] [] t1 trivial (exr (mV L rfl (swb (core_make (sz:=4) (k:=6) un40 ti47 rfl rfl dC rfl rfl rfl rfl rfl (Nat.le_refl _) (by simp [Tryz.t47]; omega) oM (P0 _ rfl) L) t2 t0 ⟨rfl,rfl⟩ ?_)))))
 refine aV L rfl (zn [(3,_)] [(6,_)] t1 t1 (ex_seq (exr (mV L rfl (sw (c_lr un40 (by exact (zrow_length _ _)) L) t1 t1 ?_)))))
 refine mV L rfl (zn [(3,_),(8,_),(9,_)] [(6,_)] t3 t1 (ex_block ?_))
 refine exl (α:=Nat) (fun k=>[(9,vi (k:Int))]) (fun k=>[(6,⟨47,4,.pure (encQ (zq k)++zrow (n - k) zc0)⟩)]) (fun k=>k≤n) (fun k=>n - k) (0) (sl:=[(3,_),(8,_)]) (hb:=[]) ?_ ⟨oR,rfl,rfl,trivial⟩ t1 ?_
 ·exact Nat.zero_le _
 intro k hk
 refine exr (sw (c_ls L) t2 t0 (zn [(3,_),(8,_),(9,_),(10,_)] [(6,_)] t4 t1 (ex_seq ?_)))
 refine ex_if rfl (fun hc=>?_) (fun hc=>?_)
 ·have hc:=dt hc
  refine ex_skip (xq ?_)
  refine ex_seq (ex_block (exr (mV L rfl (aV L rfl (zn [(3,_),(4,_),(8,_),(9,_)] [(6,_)] t4 t1 (exr0 (mV L rfl (mV L rfl (cK hG hX cl55 hN (whole_says 0 dC dC) L t1 (sw (ixA0 (sz:=4) un40 sz47 (by exact (fill_length (zq_length _) hk)) (j:=k) rO oM L) t2 t1 ?_))))))))))
  refine sb (c_sn (n:=4) sz47 (by exact (fill_length (zq_length _) hk)) rfl oM) t2 t1 ?_
  refine seq_nil (exr0 (sw (c_ad L (w64 oM oM)) t2 t0 (mV L rfl (seq_nil ?_))))
  exact ⟨k+1,oM,by omega,le_of ⟨oR,rfl,rfl,trivial⟩ ⟨obl rfl (congrArg (fun c=>(⟨47,4,.pure c⟩:Blk)) ((fill_step (zq_length k) (show k<n by omega) 0).trans (by rw [zq_succ]))),trivial⟩⟩
 ·have hc:=df hc
  refine ex_exit (xq ?_)
  refine exr (mV L rfl (aV L rfl (zn [(2,_)] [(6,_)] t1 t1 (ex_ret ?_))))
  refine ⟨.inr rfl,rfl,_,rfl,(fill_length (zq_length _) hk),?_,by simp⟩
  have e:k=n:=by omega
  subst e
  simp [zrow,List.take_of_length_le]
theorem firstI_step {p:Nat→Bool}{i b:Nat}(h:i<b):firstI p i (b - i)=if p i=true then (i:Int) else firstI p (i+1) (b - (i+1)):=by
 obtain ⟨m,hm⟩:∃ m,b - i=m+1:=⟨b - i - 1,by omega⟩
 rw [hm,show b - (i+1)=m by omega]; rfl
theorem first_says (g:FuncId)(caps:List PV)(H:List (Nat×Blk))(hnd:(H.map (·.1)).Nodup)(hw:Whole H)(hcall:∀ args w,(callFunc g args).run E.P w = .ok (.enter g args) w)(p:Nat→Bool)(a b:Nat)(hb:b<9000000000000)(hg:∀ i:Nat,a≤i→i<b→SaysG E (fun _=>true) g (List.cons (.p (vZ i)) caps) H H (.p (bZ (p i)))):SaysG E (fun _=>true) 52 [.p (vZ a),.p (vZ b),.clo (.func g) [] caps] (H) (H) (.p (vZ (firstI p a (b - a)))):=by
 refine saysG_dat (xs:=[vZ (firstI p a (b - a))]) Tryz.func52 rfl Tryz.ntmps52 Tryz.results52 sM fun F G=>?_
 have L:=@lti _ _ G.nt
 have hG:=G.g
 have hX:=G.x
 have hN:=ng_le hG
 refine exr (aV L rfl ?_)
 refine seq_nil ⟨[(0,_),(1,_),(2,_)],H,t3,(hasB_of (l:=H) hnd (fun _ _ h=>h)),?_⟩
 refine ex_seq (exr (mV L rfl (aV L rfl ?_)))
 refine seq_nil ⟨[(1,_),(2,_),(7,_)],H,t3,(hasB_of (l:=H) hnd (fun _ _ h=>h)),?_⟩
 refine ex_block ?_
 refine exlT (α:=Nat) (fun i=>[(7,vi (i:Int))]) (fun i=>[]) (fun i=>H) (fun i=>a≤i∧firstI p i (b - i)=firstI p a (b - a)) (fun i=>b - i) (a) (sl:=[(1,_),(2,_)]) (hb:=[]) ?_ ⟨oR,rfl,rfl,trivial⟩ (hasB_of (l:=H) hnd (fun _ _ h=>h)) ?_
 ·exact ⟨Nat.le_refl _,rfl⟩
 intro i hi
 obtain ⟨hi,hI⟩:=hi
 refine ex_seq (exr (mV L rfl (mV L rfl (sw (c_ls L) t2 t0 ?_))))
 refine seq_nil ⟨[(1,_),(2,_),(7,_),(11,_)],H,t4,(hasB_of (l:=H) hnd (fun _ _ h=>h)),?_⟩
 refine ex_if rfl (fun hc=>?_) (fun hc=>?_)
 ·have hc:=dt hc
  have hib:i<b:=by omega
  rw [firstI_step hib] at hI
  refine ex_skip (xq ?_)
  refine ex_seq (ex_block (exr (mV L rfl (mV L rfl (sw (core_callI hG hX hN (hg i hi hib) rfl L (args_clo (fst:=[]) (ys:=[_]) (cap:=caps) hcall rfl rfl) hnd hw (fun q h=>by cases h)) t2 (readsB_of (hasB_of hnd fun _ _ h=>h)) ?_)))))
  refine seq_nil ⟨[(1,_),(2,_),(7,_),(16,_)],H,t4,(hasB_of (l:=H) hnd (fun _ _ h=>h)),?_⟩
  refine ex_if rfl (fun hp=>?_) (fun hp=>?_)
  ·rw [if_pos hp] at hI
   refine exr (mV L rfl (aV L rfl ?_))
   refine seq_nil ⟨[(6,_)],H,t1,(hasB_of (l:=H) hnd (fun _ _ h=>h)),?_⟩
   refine ex_ret ?_
   refine ⟨.inr rfl,ResVs.cast (.cons (.tmp rfl) .nil) ?_,(hasB_of (l:=H) hnd (fun _ _ h=>h))⟩
   rw [← hI]
  ·rw [hp,if_neg Bool.false_ne_true] at hI
   refine ex_skip (xq ?_)
   refine exr0 (mV L rfl (sw (c_ad L (w64 oM oM)) t2 t0 (aV L rfl (seq_nil ?_))))
   exact ⟨i+1,⟨by omega,hI⟩,by omega,le_of ⟨oR,rfl,rfl,trivial⟩ (hasB_of (l:=H) hnd (fun _ _ h=>h))⟩
 ·have hc:=df hc
  have e:b - i=0:=by omega
  rw [e] at hI
  refine ex_exit (xq ?_)
  refine exr (aV L rfl ?_)
  refine seq_nil ⟨[(6,_)],H,t1,(hasB_of (l:=H) hnd (fun _ _ h=>h)),?_⟩
  refine ex_ret ?_
  refine ⟨.inr rfl,ResVs.cast (.cons (.tmp rfl) .nil) ?_,(hasB_of (l:=H) hnd (fun _ _ h=>h))⟩
  rw [← hI]; rfl
structure RQ where
 m:Bool
 ws:List Int
 n:Bool
 vs:List Int
instance:Inhabited RQ:=⟨⟨false,[],false,[]⟩⟩
def RQ.of (a:Rat):RQ:=⟨decide (a.num<0),digs a.num.natAbs,decide ((a.den:Int)<0),digs (a.den:Int).natAbs⟩
def RQ.is (r:RQ):Bool:=canon r.m r.ws && (canon r.n r.vs && decide (0<sg r.n (val r.vs)∧(Int.gcd (sg r.m (val r.ws)) (sg r.n (val r.vs)):Int)=1))
def RQ.wd (r:RQ):Prop:=Wd r.ws∧Wd r.vs
theorem sg_of (n:Int):sg (decide (n<0)) (val (digs n.natAbs))=n:=by
 rw [val_digs]; unfold sg; split <;> rename_i h <;> simp at h <;> omega
theorem RQ.is_of (a:Rat):(RQ.of a).is=true:=by
 simp only [RQ.is,RQ.of,canon_digs,sg_of,Bool.true_and,decide_eq_true_eq]
 refine ⟨by exact_mod_cast a.den_pos,?_⟩
 have:=a.reduced
 unfold Nat.Coprime at this
 unfold Int.gcd
 exact_mod_cast this
theorem RQ.of_is {r:RQ}(h:r.wd)(hi:r.is=true):∃ a:Rat,r=RQ.of a:=by
 obtain ⟨m,ws,n,vs⟩:=r
 simp only [RQ.is,Bool.and_eq_true,decide_eq_true_eq] at hi
 obtain ⟨h1,h2,h3,h4⟩:=hi
 obtain ⟨e1,e2⟩:=canon_eq h.1 h1
 obtain ⟨e3,e4⟩:=canon_eq h.2 h2
 simp only at e1 e2 e3 e4
 refine ⟨⟨sg m (val ws),(sg n (val vs)).natAbs,by omega,?_⟩,?_⟩
 ·unfold Int.gcd at h4; exact_mod_cast h4
 ·have e5:(((sg n (val vs)).natAbs:Nat):Int)=sg n (val vs):=by omega
  simp only [RQ.of,e5,e1,e2,e3,e4]
@[reducible] def cR (r:RQ):List Pure:=[.a (.bool r.m),.sl r.ws.length (encW r.ws),.a (.bool r.n),.sl r.vs.length (encW r.vs)]
def encR:List RQ→List Pure
 | []=>[]
 | a :: v=>cR a++encR v
@[simp] theorem encR_length:∀ v:List RQ,(encR v).length=v.length*4
 | []=>rfl
 | a :: v=>by simp only [encR,List.length_append,encR_length v,cR,List.length_cons,List.length_nil]; omega
theorem getR:∀ {v:List RQ}{i:Nat},i<v.length→((encR v).drop (i*4)).take 4=cR (v.getD i default)
 | [],i,h=>by simp at h
 | a :: v,0,_=>by simp [encR,cR]
 | a :: v,i+1,h=>by
  have:=getR (v:=v) (i:=i) (by simpa using h)
  rw [show (i+1)*4=i*4+1+1+1+1 by omega]
  simp only [encR,cR,List.cons_append,List.nil_append,List.drop_succ_cons,List.getD_cons_succ]
  exact this
theorem encR_of:∀ v:List Rat,encR (v.map RQ.of)=encQ v
 | []=>rfl
 | a :: v=>by simp only [List.map_cons,encR,encQ,encR_of v]; rfl
@[reducible] def pVR (v:List RQ):Pure:=.sl v.length (encR v)
theorem pVR_of (v:List Rat):pVR (v.map RQ.of)=pV v:=by rw [pVR,pV,encR_of,List.length_map]
theorem qis_says {r:RQ}(hw:r.wd)(hl:r.ws.length<1000000000)(hl2:r.vs.length<1000000000):Says E 107 [.agg (cR r)] (bZ r.is):=by
 obtain ⟨m,ws,n,vs⟩:=r
 by_cases h:canon m ws=true∧canon n vs=true
 ·obtain ⟨e1,e2⟩:=canon_eq hw.1 h.1
  obtain ⟨e3,e4⟩:=canon_eq hw.2 h.2
  have:=qis_z (sg m (val ws)) (sg n (val vs)) (by unfold nw; simp only at e2 hl; rw [e2]; exact hl) (by unfold nw; simp only at e4 hl2; rw [e4]; exact hl2)
  rw [pN,e1,e2,e3,e4] at this
  rw [RQ.is,show canon (RQ.mk m ws n vs).m (RQ.mk m ws n vs).ws=true from h.1,show canon (RQ.mk m ws n vs).n (RQ.mk m ws n vs).vs=true from h.2]
  exact this
 ·have:=qis_no m n ws vs hl hl2 h
  have e:(RQ.mk m ws n vs).is=false:=by
   rw [RQ.is,Bool.eq_false_iff]; simp only [Bool.and_eq_true,ne_eq]; exact fun hh=>h ⟨hh.1,hh.2.1⟩
  rw [e]; exact this
theorem rqis_says {r:RQ}(hw:r.wd)(hl:r.ws.length<1000000000)(hl2:r.vs.length<1000000000):Says E 36 [.agg (cR r)] (bZ r.is):=by
 obtain ⟨m,ws,n,vs⟩:=r
 by_cases h:canon m ws=true∧canon n vs=true
 ·obtain ⟨e1,e2⟩:=canon_eq hw.1 h.1
  obtain ⟨e3,e4⟩:=canon_eq hw.2 h.2
  have:=rqis_z (sg m (val ws)) (sg n (val vs)) (by unfold nw; simp only at e2 hl; rw [e2]; exact hl) (by unfold nw; simp only at e4 hl2; rw [e4]; exact hl2)
  rw [pN,e1,e2,e3,e4] at this
  rw [RQ.is,show canon (RQ.mk m ws n vs).m (RQ.mk m ws n vs).ws=true from h.1,show canon (RQ.mk m ws n vs).n (RQ.mk m ws n vs).vs=true from h.2]
  exact this
 ·have:=rqis_no m n ws vs hl hl2 h
  have e:(RQ.mk m ws n vs).is=false:=by
   rw [RQ.is,Bool.eq_false_iff]; simp only [Bool.and_eq_true,ne_eq]; exact fun hh=>h ⟨hh.1,hh.2.1⟩
  rw [e]; exact this
def RQ.sm (r:RQ):Prop:=r.wd∧r.ws.length<1000000000∧r.vs.length<1000000000
theorem RQ.sm_of {a:Rat}(h:qw a<1000000000):(RQ.of a).sm:=by
 have h1:=nw_num_le a
 have h2:=nw_den_le a
 exact ⟨⟨wd_digs _,wd_digs _⟩,by show nw a.num<_; omega,by show nw (a.den:Int)<_; omega⟩
theorem gD {v:List RQ}{i:Nat}(h:i<v.length):v.getD i default∈v:=by simp [List.getD_eq_getElem?_getD,h]
@[reducible] def bV (v:List RQ):List (Nat×Blk):=[(1,⟨40,1,.mix [.p (pVR v)]⟩)]
theorem canonical1_says (v:List RQ)(i:Nat)(hi:i<v.length)(hl:v.length<1000000000)(hs:∀ r∈v,r.sm):SaysG E (fun _=>true) 106 [.p (vZ i),.at_ 1 0 1] (bV v) (bV v) (.p (bZ (!(v.getD i default).is))):=by
 refine saysG_dat (xs:=[bZ (!(v.getD i default).is)]) Tryz.func106 rfl Tryz.ntmps106 Tryz.results106 sM fun F G=>?_
 have L:=@lti _ _ G.nt
 have hG:=G.g
 have hX:=G.x
 have hN:=ng_le hG
 have P0:=G.p0
 have hr:=hs _ (gD hi)
 refine exr (aV L rfl (zn [(0,_),(1,_)] [(1,_)] t2 t1 (exr (sw (c_l1 ag40 rF rF L) t1 t1 ?_))))
 refine mV L rfl (sw (core_indexAddrJ un40 sz47 oM oM sM dC L) t2 t0 ?_)
 refine sw (c_la ag47 sz47 (getR hi) rfl L) t1 t0 (cK hG hX cl107 hN (qis_says hr.1 hr.2.1 hr.2.2) L t1 (sw (c_no L) t1 t0 (aV L rfl (zn [(3,_)] [(1,_)] t1 t1 (ex_ret ?_)))))
 refine ⟨.inr rfl,ResVs.cast (.cons (.tmp rfl) .nil) ?_,t1⟩
 rfl
theorem firstI_neg {p:Nat→Bool}:∀ {n a:Nat},(firstI p a n<0)↔(List.range' a n).all (fun i=>!p i)=true
 | 0,a=>by simp [firstI]
 | n+1,a=>by
  simp only [firstI,List.range'_succ,List.all_cons]
  by_cases h:p a=true
  ·simp [h]
  ·simp only [Bool.not_eq_true] at h
   rw [h,if_neg Bool.false_ne_true,firstI_neg]; simp
theorem whole_of {H:List (Nat×Blk)}(h:(H.all fun p=>p.2.cs.only (H.map (·.1)))=true):Whole H:=by
 intro j B hj i x hx q hq
 rw [List.all_eq_true] at h
 have h1:=PV.only_mem (Cells.only_get (h _ (lookup_mem hj)) hx) hq
 obtain ⟨p,hp,e⟩:=List.mem_map.1 h1
 intro hn
 rw [List.lookup_eq_none_iff] at hn
 have:=hn p hp
 simp [e] at this
theorem range_all {p:RQ→Bool}{v:List RQ}:((List.range' 0 v.length).all fun i=>p (v.getD i default))=v.all p:=by
 rw [← List.range_eq_range']
 induction v with
 | nil=>rfl
 | cons a v ih =>
  rw [List.length_cons,List.range_succ_eq_map,List.all_cons,List.all_map,List.all_cons]
  simp only [List.getD_cons_zero,Function.comp_def,List.getD_cons_succ]
  rw [← ih]
theorem firstI_all {p:RQ→Bool}{v:List RQ}:decide (firstI (fun i=>!p (v.getD i default)) 0 (v.length - 0)<0)=v.all p:=by
 rw [Bool.eq_iff_iff,decide_eq_true_iff,firstI_neg,Nat.sub_zero]
 simp only [Bool.not_not]
 rw [range_all]
theorem canonical_says (v:List RQ)(hl:v.length<1000000000)(hs:∀ r∈v,r.sm):Says E 64 [pVR v] (bZ (v.all RQ.is)):=by
 refine says_of (xs:=[bZ (v.all RQ.is)]) Tryz.func64 rfl Tryz.ntmps64 Tryz.results64 sM fun F hG hX0 hnt hdf P0=>?_
 obtain ⟨L,hX,hN⟩:=pro hnt hX0 hG
 have hcl:=fun i (h:0≤i) (hi:i<v.length)=>canonical1_says v i hi hl hs
 refine exr (swb (c_bx (k:=1) (n:=1) .sl rfl rfl (P0 _ rfl) L) t1 t0 ⟨rfl,rfl⟩ (aV L rfl (zn [(1,_)] [(1,_)] t1 t1 (exr (sw (c_l1 ag40 rF rF L) t1 t1 ?_)))))
 refine sw (c_ln un40 L) t1 t0 (sw (c_fn (vs:=[]) (us:=[_]) rfl rfl L) t1 t0 (sw (core_callI hG hX hN (first_says 106 [.at_ 1 0 1] (bV v) sM (whole_of rfl) cl106 _ 0 v.length oM hcl) rfl L (args_fn (ys:=[_,_,_]) cl52 rfl rfl) sM (whole_of rfl) (fun q h=>by cases h)) t3 t1 ?_))
 refine sw (c_ls L) t2 t0 (aV L rfl (zn [(2,_)] [] t1 trivial (ex_ret ?_)))
 refine ⟨.inr rfl,ResVs.cast (.cons (.tmp rfl) .nil) ?_⟩
 rw [← firstI_all]
def encMR (m:List (List RQ)):List Pure:=m.map pVR
@[simp] theorem encMR_length (m:List (List RQ)):(encMR m).length=m.length:=by simp [encMR]
@[reducible] def pMR (c:Int)(m:List (List RQ)):Pure:=.agg [vZ c,.sl m.length (encMR m)]
theorem getMR {m:List (List RQ)}{i:Nat}(h:i<m.length):(encMR m)[i]? = some (pVR (m.getD i [])):=by
 simp [encMR,h,List.getD_eq_getElem?_getD]
theorem gDL {α:Type}{v:List (List α)}{i:Nat}(h:i<v.length):v.getD i []∈v:=by simp [List.getD_eq_getElem?_getD,h]
@[reducible] def bM (c:Int)(m:List (List RQ)):List (Nat×Blk):=[(1,⟨24,2,.mix [.p (vZ c),.p (.sl m.length (encMR m))]⟩)]
def rowOk (c:Int)(r:List RQ):Bool:=decide ((r.length:Int)=c) && r.all RQ.is
def MSm (m:List (List RQ)):Prop:=m.length<1000000000∧∀ r∈m,r.length<1000000000∧∀ a∈r,a.sm
theorem is1_says (c:Int)(m:List (List RQ))(i:Nat)(hi:i<m.length)(hm:MSm m):SaysG E (fun _=>true) 85 [.p (vZ i),.at_ 1 0 2] (bM c m) (bM c m) (.p (bZ (!rowOk c (m.getD i [])))):=by
 refine saysG_dat (xs:=[bZ (!rowOk c (m.getD i []))]) Tryz.func85 rfl Tryz.ntmps85 Tryz.results85 sM fun F G=>?_
 have L:=@lti _ _ G.nt
 have hG:=G.g
 have hX:=G.x
 have hN:=ng_le hG
 have P0:=G.p0
 have hr:=hm.2 _ (gDL hi)
 have hl:=hm.1
 refine exr (aV L rfl (zn [(0,_),(1,_)] [(1,_)] t2 t1 ?_))
 refine exmd (sl:=[(3,vb (!rowOk c (m.getD i [])))]) (sl0:=[]) (hb:=[]) (hb0:=[(1,_)]) rF t0 t1 ?_ ?_
 ·by_cases h:((m.getD i []).length:Int)=c
  ·refine sw (c_fa un24 rfl sz22 dC rX L) t1 t1 ?_
   refine sw (c_l1 ag22 rF rF L) t1 t1 ?_
   refine mV L rfl (sw (ixJ un22 sz40 (j:=i) rO oM sM L) t2 t0 ?_)
   refine sw (c_li ag40 (getMR hi) L) t1 t0 (sw (c_ln un40 L) t1 t0 (sw (c_fa un24 rfl sz3 dC rX L) t1 t1 ?_))
   refine sw (c_l1 ag3 rF rF L) t1 t1 ?_
   refine sw (c_n L) t2 t0 (mV L rfl (swg (g:=13) rfl (by rw [h]; simp) (c_fa un24 rfl sz22 dC rX L) rfl t1 t1 ?_))
   refine swg (g:=13) rfl (by rw [h]; simp) (c_l1 ag22 rF rF L) rfl t1 t1 ?_
   refine gV (g:=13) rfl (by rw [h]; simp) L rfl rfl ?_
   refine swg (g:=13) rfl (by rw [h]; simp) (ixJ un22 sz40 (j:=i) rO oM sM L) rfl t2 t0 ?_
   refine swg (g:=13) rfl (by rw [h]; simp) (c_li ag40 (getMR hi) L) rfl t1 t0 ?_
   refine swg (g:=13) rfl (by rw [h]; simp) (c_c hG hX cl64 rfl hN (canonical_says (m.getD i []) hr.1 hr.2) L) rfl t1 t0 ?_
   refine swg (g:=13) rfl (by rw [h]; simp) (c_no L) rfl t1 t0 ?_
   refine sw (c_pf (by rw [h]; simp) L) t2 t0 ?_
   refine aV L rfl ?_
   exact seq_nil ⟨aoks [⟨[1],[1],[4],[]⟩,⟨[4],[1],[5],[]⟩,⟨[0],[],[6],[]⟩,⟨[5,6],[],[7],[]⟩,⟨[7],[],[8],[]⟩,⟨[8],[],[9],[]⟩,⟨[1],[1],[10],[]⟩,⟨[10],[1],[11],[]⟩,⟨[9,11],[],[12],[]⟩,⟨[12],[],[13],[]⟩,⟨[13,1],[1],[14],[]⟩,⟨[13,14],[1],[15],[]⟩,⟨[13,0],[],[16],[]⟩,⟨[13,15,16],[],[17],[]⟩,⟨[13,17],[],[18],[]⟩,⟨[13,18],[],[19],[]⟩,⟨[13,19],[],[20],[]⟩,⟨[13,20],[],[21],[]⟩,⟨[21],[],[3],[]⟩] rF rF dC,⟨ob rfl (by rw [rowOk,h]; simp),trivial⟩,t1⟩
  ·refine sw (c_fa un24 rfl sz22 dC rX L) t1 t1 ?_
   refine sw (c_l1 ag22 rF rF L) t1 t1 ?_
   refine mV L rfl (sw (ixJ un22 sz40 (j:=i) rO oM sM L) t2 t0 ?_)
   refine sw (c_li ag40 (getMR hi) L) t1 t0 (sw (c_ln un40 L) t1 t0 (sw (c_fa un24 rfl sz3 dC rX L) t1 t1 ?_))
   refine sw (c_l1 ag3 rF rF L) t1 t1 ?_
   refine sw (c_n L) t2 t0 (mV L rfl (swn (g:=13) rfl (by rw [decide_eq_false h]) L rfl ?_))
   refine swn (g:=13) rfl (by rw [decide_eq_false h]) L rfl ?_
   refine swn (g:=13) rfl (by rw [decide_eq_false h]) L rfl ?_
   refine swn (g:=13) rfl (by rw [decide_eq_false h]) L rfl ?_
   refine swn (g:=13) rfl (by rw [decide_eq_false h]) L rfl ?_
   refine swn (g:=13) rfl (by rw [decide_eq_false h]) L rfl ?_
   refine swn (g:=13) rfl (by rw [decide_eq_false h]) L rfl ?_
   refine sw (c_pt (by rw [decide_eq_false h]; rfl) L) t2 t0 ?_
   refine aV L rfl ?_
   exact seq_nil ⟨aoks [⟨[1],[1],[4],[]⟩,⟨[4],[1],[5],[]⟩,⟨[0],[],[6],[]⟩,⟨[5,6],[],[7],[]⟩,⟨[7],[],[8],[]⟩,⟨[8],[],[9],[]⟩,⟨[1],[1],[10],[]⟩,⟨[10],[1],[11],[]⟩,⟨[9,11],[],[12],[]⟩,⟨[12],[],[13],[]⟩,⟨[13],[],[14],[]⟩,⟨[13],[],[15],[]⟩,⟨[13],[],[16],[]⟩,⟨[13],[],[17],[]⟩,⟨[13],[],[18],[]⟩,⟨[13],[],[19],[]⟩,⟨[13],[],[20],[]⟩,⟨[13],[],[21],[]⟩,⟨[21],[],[3],[]⟩] rF rF dC,⟨ob rfl (by rw [rowOk,decide_eq_false h]; rfl),trivial⟩,t1⟩
 refine ex_ret ?_
 refine ⟨.inr rfl,ResVs.cast (.cons (.tmp rfl) .nil) ?_,t1⟩
 rfl
def isM (c:Int)(m:List (List RQ)):Bool:=decide (m.length≤400∧0≤c∧c≤60) && m.all (rowOk c)
theorem range_allL {p:List RQ→Bool}{v:List (List RQ)}:((List.range' 0 v.length).all fun i=>p (v.getD i []))=v.all p:=by
 rw [← List.range_eq_range']
 induction v with
 | nil=>rfl
 | cons a v ih =>
  rw [List.length_cons,List.range_succ_eq_map,List.all_cons,List.all_map,List.all_cons]
  simp only [List.getD_cons_zero,Function.comp_def,List.getD_cons_succ]
  rw [← ih]
theorem firstI_allL {p:List RQ→Bool}{v:List (List RQ)}:decide (firstI (fun i=>!p (v.getD i [])) 0 (v.length - 0)<0)=v.all p:=by
 rw [Bool.eq_iff_iff,decide_eq_true_iff,firstI_neg,Nat.sub_zero]
 simp only [Bool.not_not]
 rw [range_allL]
theorem mis_says (c:Int)(m:List (List RQ))(hm:MSm m):Says E 40 [pMR c m] (bZ (isM c m)):=by
 refine says_of (xs:=[bZ (isM c m)]) Tryz.func40 rfl Tryz.ntmps40 Tryz.results40 sM fun F hG hX0 hnt hdf P0=>?_
 obtain ⟨L,hX,hN⟩:=pro hnt hX0 hG
 have hl:=hm.1
 have hcl:=fun i (h:0≤i) (hi:i<m.length)=>is1_says c m i hi hm
 refine exr (swb (c_bx (k:=1) (n:=2) pa2 rfl rfl (P0 _ rfl) L) t1 t0 ⟨rfl,rfl⟩ (aV L rfl (zn [(1,_)] [(1,_)] t1 t1 (ex_seq ?_))))
 refine exm (sl:=[(16,vb (!decide (m.length≤400∧0≤c∧c≤60)))]) (sl0:=[(1,_)]) (hb:=[]) (hb0:=[(1,_)]) t1 t1 ?_ ?_
 ·rcases (by omega:400<m.length∨m.length≤400∧c<0∨m.length≤400∧0≤c) with h | h | h
  ·refine sw (c_fa un24 rfl sz22 dC rX L) t1 t1 ?_
   refine sw (c_l1 ag22 rF rF L) t1 t1 ?_
   refine sw (c_ln un22 L) t1 t0 (sw (c_gt L) t2 t0 (mV L rfl (swn (g:=7) rfl sO L rfl (swn (g:=7) rfl sO L rfl (swn (g:=7) rfl sO L rfl (sw (c_pt sO L) t2 t0 (mV L rfl (swn (g:=12) rfl rfl L rfl (swn (g:=12) rfl rfl L rfl (swn (g:=12) rfl rfl L rfl (sw (c_pt rfl L) t2 t0 ?_)))))))))))
   exact seq_nil ⟨⟨ob rfl sO,rfl,trivial⟩,t1⟩
  ·refine sw (c_fa un24 rfl sz22 dC rX L) t1 t1 ?_
   refine sw (c_l1 ag22 rF rF L) t1 t1 ?_
   refine sw (c_ln un22 L) t1 t0 (sw (c_gt L) t2 t0 (mV L rfl (swg (g:=7) rfl sO (c_fa un24 rfl sz3 dC rX L) rfl t1 t1 ?_)))
   refine swg (g:=7) rfl sO (c_l1 ag3 rF rF L) rfl t1 t1 ?_
   refine swg (g:=7) rfl sO (c_ls L) rfl t2 t0 (sw (c_pf sO L) t2 t0 (mV L rfl (swn (g:=12) rfl sO L rfl (swn (g:=12) rfl sO L rfl (swn (g:=12) rfl sO L rfl (sw (c_pt sO L) t2 t0 ?_))))))
   exact seq_nil ⟨⟨ob rfl sO,rfl,trivial⟩,t1⟩
  ·refine sw (c_fa un24 rfl sz22 dC rX L) t1 t1 ?_
   refine sw (c_l1 ag22 rF rF L) t1 t1 ?_
   refine sw (c_ln un22 L) t1 t0 (sw (c_gt L) t2 t0 (mV L rfl (swg (g:=7) rfl sO (c_fa un24 rfl sz3 dC rX L) rfl t1 t1 ?_)))
   refine swg (g:=7) rfl sO (c_l1 ag3 rF rF L) rfl t1 t1 ?_
   refine swg (g:=7) rfl sO (c_ls L) rfl t2 t0 (sw (c_pf sO L) t2 t0 (mV L rfl (swg (g:=12) rfl sO (c_fa un24 rfl sz3 dC rX L) rfl t1 t1 ?_)))
   refine swg (g:=12) rfl sO (c_l1 ag3 rF rF L) rfl t1 t1 ?_
   refine swg (g:=12) rfl sO (c_gt L) rfl t2 t0 (sw (c_pf sO L) t2 t0 ?_)
   exact seq_nil ⟨⟨ob rfl (by rw [Bool.eq_iff_iff]; simp; omega),rfl,trivial⟩,t1⟩
 refine ex_if rfl (fun hc=>?_) (fun hc=>?_)
 ·refine exr (aV L rfl (zn [(2,_)] [] t1 trivial (ex_ret ?_)))
  refine ⟨.inr rfl,ResVs.cast (.cons (.tmp rfl) .nil) ?_⟩
  simp only [isM]; rw [show decide (m.length≤400∧0≤c∧c≤60)=false by simpa only [Bool.not_eq_true'] using hc]; rfl
 ·refine ex_skip (xq ?_)
  refine exr (sw (c_fa un24 rfl sz22 dC rX L) t1 t1 ?_)
  refine sw (c_l1 ag22 rF rF L) t1 t1 ?_
  refine sw (c_ln un22 L) t1 t0 (sw (c_fn (vs:=[]) (us:=[_]) rfl rfl L) t1 t0 (sw (core_callI hG hX hN (first_says 85 [.at_ 1 0 2] (bM c m) sM (whole_of rfl) cl85 _ 0 m.length oM hcl) rfl L (args_fn (ys:=[_,_,_]) cl52 rfl rfl) sM (whole_of rfl) (fun q h=>by cases h)) t3 t1 ?_))
  refine sw (c_ls L) t2 t0 (aV L rfl (zn [(2,_)] [] t1 trivial (ex_ret ?_)))
  refine ⟨.inr rfl,ResVs.cast (.cons (.tmp rfl) .nil) ?_⟩
  rw [isM,show decide (m.length≤400∧0≤c∧c≤60)=true by simpa only [Bool.not_eq_false'] using hc,Bool.true_and,← firstI_allL]
@[reducible] def pMq (c:Int)(M:List (List Rat)):Pure:=.agg [vZ c,.sl M.length (encM M)]
theorem encMR_of (M:List (List Rat)):encMR (M.map (List.map RQ.of))=encM M:=by
 simp only [encMR,encM,List.map_map,Function.comp_def,pVR_of]
theorem pMR_of (c:Int)(M:List (List Rat)):pMR c (M.map (List.map RQ.of))=pMq c M:=by rw [pMR,pMq,encMR_of,List.length_map]
structure MOk (c:Nat) (M:List (List Rat)):Prop where
 rows:M.length≤400
 cols:c≤60
 len:∀ r∈M,r.length=c
def MB (B:Nat)(M:List (List Rat)):Prop:=∀ r∈M,∀ a∈r,qw a≤B
theorem MOk.get {c:Nat}{M:List (List Rat)}(h:MOk c M){i:Nat}(hi:i<M.length):(M.getD i []).length=c:=h.len _ (gDL hi)
theorem all_is (v:List Rat):(v.map RQ.of).all RQ.is=true:=by
 rw [List.all_eq_true]; intro r hr
 obtain ⟨a,_,rfl⟩:=List.mem_map.1 hr
 exact RQ.is_of a
theorem isM_of {c:Nat}{M:List (List Rat)}(h:MOk c M):isM c (M.map (List.map RQ.of))=true:=by
 rw [isM,Bool.and_eq_true,decide_eq_true_iff,List.all_eq_true]
 have:=h.rows; have:=h.cols
 refine ⟨⟨by simp; omega,by omega,by omega⟩,fun r hr=>?_⟩
 obtain ⟨v,hv,rfl⟩:=List.mem_map.1 hr
 rw [rowOk,all_is,List.length_map,h.len v hv]; simp
theorem rowQ:∀ {r:List RQ},(∀ a∈r,a.sm)→r.all RQ.is=true→∃ v:List Rat,r=v.map RQ.of
 | [],_,_=>⟨[],rfl⟩
 | a :: r,hs,h=>by
  simp only [List.all_cons,Bool.and_eq_true] at h
  obtain ⟨q,hq⟩:=RQ.of_is (hs a sM).1 h.1
  obtain ⟨v,hv⟩:=rowQ (fun b hb=>hs b (by simp [hb])) h.2
  exact ⟨q :: v,by rw [hq,hv]; rfl⟩
theorem matQ:∀ {m:List (List RQ)},(∀ r∈m,∀ a∈r,a.sm)→(m.all fun r=>r.all RQ.is)=true→∃ M:List (List Rat),m=M.map (List.map RQ.of)
 | [],_,_=>⟨[],rfl⟩
 | r :: m,hs,h=>by
  simp only [List.all_cons,Bool.and_eq_true] at h
  obtain ⟨v,hv⟩:=rowQ (hs r sM) h.1
  obtain ⟨M,hM⟩:=matQ (fun b hb=>hs b (by simp [hb])) h.2
  exact ⟨v :: M,by rw [hv,hM]; rfl⟩
theorem isM_to {c:Int}{m:List (List RQ)}(hs:MSm m)(h:isM c m=true):∃ (k:Nat) (M:List (List Rat)),c=k∧m=M.map (List.map RQ.of)∧MOk k M:=by
 rw [isM,Bool.and_eq_true,decide_eq_true_iff,List.all_eq_true] at h
 obtain ⟨⟨h1,h2,h3⟩,h4⟩:=h
 obtain ⟨M,rfl⟩:=matQ (fun r hr=>(hs.2 r hr).2) (by
  rw [List.all_eq_true]; intro r hr
  have:=h4 r hr
  rw [rowOk,Bool.and_eq_true] at this; exact this.2)
 refine ⟨c.toNat,M,by omega,rfl,by simpa using h1,by omega,fun r hr=>?_⟩
 have:=h4 _ (List.mem_map_of_mem hr)
 rw [rowOk,Bool.and_eq_true,decide_eq_true_iff,List.length_map] at this
 omega
theorem msm_of {c B:Nat}{M:List (List Rat)}(h:MOk c M)(hB:MB B M)(hb:B<1000000000):MSm (M.map (List.map RQ.of)):=by
 have:=h.rows; have:=h.cols
 refine ⟨by simp; omega,fun r hr=>?_⟩
 obtain ⟨v,hv,rfl⟩:=List.mem_map.1 hr
 refine ⟨by rw [List.length_map,h.len v hv]; omega,fun a ha=>?_⟩
 obtain ⟨q,hq,rfl⟩:=List.mem_map.1 ha
 have:=hB v hv q hq
 exact RQ.sm_of oM
theorem misq_says {c B:Nat}{M:List (List Rat)}(h:MOk c M)(hB:MB B M)(hb:B<1000000000):Says E 40 [pMq c M] (bZ true):=by
 have:=mis_says c _ (msm_of h hB hb)
 rwa [isM_of h,pMR_of] at this
@[reducible] def matV (k:Nat):List (List Rat)→PV
 | []=>.p (.a (.slice none 0 0))
 | a :: v=>.ref k 0 (a :: v).length (a :: v).length
@[reducible] def matB (k:Nat):List (List Rat)→List (Nat×Blk)
 | []=>[]
 | a :: v=>[(k,⟨40,1,.pure (encM (a :: v))⟩)]
theorem encM_app (u v:List (List Rat)):encM (u++v)=encM u++encM v:=by simp [encM]
theorem matSn (n:Nat)(T:List (List Rat))(v:List Rat)(h:v.length=n):(⟨40,1,.pure (encM T++[.sl n (encQ v)])⟩:Blk)=⟨40,1,.pure (encM (T++[v]))⟩:=by subst h; rw [encM_app]; rfl
def colM (M:List (List Rat))(j:Nat):List Rat:=M.map (·.getD j 0)
def trM (c:Nat)(M:List (List Rat)):List (List Rat):=(List.range c).map (colM M)
theorem colM_take {M:List (List Rat)}{j k:Nat}(h:k<M.length):colM (M.take (k+1)) j=colM (M.take k) j++[(M.getD k []).getD j 0]:=by
 rw [List.take_add_one,show M[k]?.toList=[M.getD k []] by simp [List.getD_eq_getElem?_getD,h],colM,List.map_append]; rfl
theorem trM_succ (j:Nat)(M:List (List Rat)):trM (j+1) M=trM j M++[colM M j]:=by simp [trM,List.range_succ]
@[simp] theorem trM_length (j:Nat)(M:List (List Rat)):(trM j M).length=j:=by simp [trM]
@[simp] theorem colM_length (j:Nat)(M:List (List Rat)):(colM M j).length=M.length:=by simp [colM]
theorem trans_no (c:Int)(m:List (List RQ))(hm:MSm m)(h:isM c m=false):Says E 38 [pMR c m] (.tup [pMq 0 [],vZ 3]):=by
 refine says_of (xs:=[pMq 0 [],vZ 3]) Tryz.func38 rfl Tryz.ntmps38 Tryz.results38 sM fun F hG hX0 hnt hdf P0=>?_
 obtain ⟨L,hX,hN⟩:=pro hnt hX0 hG
 refine exr (swb (c_bx (k:=1) (n:=2) pa2 rfl rfl (P0 _ rfl) L) t1 t0 ⟨rfl,rfl⟩ (swb (c_al (k:=2) (n:=2) zv24 (.cons rfl (.cons rfl .nil)) rfl (P0 _ rfl) L) t0 t0 ⟨rfl,rfl⟩ (aV L rfl (zn [(1,_),(2,_)] [(1,_),(2,_)] t2 t2 (ex_seq (exr (lp2 ag24 sz24 L rfl rfl (cK hG hX cl40 hN (mis_says c m hm) L t1 (sw (c_no L) t1 t0 (zn [(1,_),(2,_),(11,_)] [(1,_),(2,_)] t3 t2 (ex_true rfl (by rw [h]; rfl) ?_)))))))))))
 refine exr (sw (c_pc (c_bp (vs:=[]) un24 zv24 (.cons rfl (.cons rfl .nil)) ((Places.cons sz3 (Places.cons sz22 Places.nil))).to rfl .nil (.cons (.cons .nil)) L) (.agg (.cons .same (.cons .nil .nil)))) t0 t0 (sb (c_sm sz24 rF pa2 rfl pu2) t2 t1 ?_))
 refine aV L rfl (zn [(2,_),(3,_)] [(2,_)] t2 t1 (ex_ret ?_))
 refine ⟨.inr rfl,ResVs.cast (.cons (.agg rfl rfl rfl ag24 sz24 (.cons (.cons .nil))) (.cons (.tmp rfl) .nil)) ?_⟩
 rfl
theorem trans_lim (c B:Nat)(M:List (List Rat))(h:MOk c M)(hB:MB B M)(hb:B<1000000000)(hM:60<M.length):Says E 38 [pMq c M] (.tup [pMq 0 [],vZ 2]):=by
 refine says_of (xs:=[pMq 0 [],vZ 2]) Tryz.func38 rfl Tryz.ntmps38 Tryz.results38 sM fun F hG hX0 hnt hdf P0=>?_
 obtain ⟨L,hX,hN⟩:=pro hnt hX0 hG
 refine exr (swb (c_bx (k:=1) (n:=2) pa2 rfl rfl (P0 _ rfl) L) t1 t0 ⟨rfl,rfl⟩ (swb (c_al (k:=2) (n:=2) zv24 (.cons rfl (.cons rfl .nil)) rfl (P0 _ rfl) L) t0 t0 ⟨rfl,rfl⟩ (aV L rfl (zn [(1,_),(2,_)] [(1,_),(2,_)] t2 t2 (ex_seq (exr (lp2 ag24 sz24 L rfl rfl (cK hG hX cl40 hN (misq_says h hB hb) L t1 (sw (c_no L) t1 t0 (zn [(1,_),(2,_),(11,_)] [(1,_),(2,_)] t3 t2 (ex_false rfl rfl ?_)))))))))))
 refine ex_skip (xq ?_)
 refine ex_seq (exr (sw (c_fa un24 rfl sz22 dC rX L) t1 t1 ?_))
 refine sw (c_l1 ag22 rF rF L) t1 t1 ?_
 refine sw (c_ln un22 L) t1 t0 (sw (c_gt L) t2 t0 (zn [(1,_),(2,_),(16,_)] [(1,_),(2,_)] t3 t2 (ex_true rfl sO (exr (sw (c_pc (c_bp (vs:=[]) un24 zv24 (.cons rfl (.cons rfl .nil)) ((Places.cons sz3 (Places.cons sz22 Places.nil))).to rfl .nil (.cons (.cons .nil)) L) (.agg (.cons .same (.cons .nil .nil)))) t0 t0 (sb (c_sm sz24 rF pa2 rfl pu2) t2 t1 ?_))))))
 refine aV L rfl (zn [(2,_),(3,_)] [(2,_)] t2 t1 (ex_ret ?_))
 refine ⟨.inr rfl,ResVs.cast (.cons (.agg rfl rfl rfl ag24 sz24 (.cons (.cons .nil))) (.cons (.tmp rfl) .nil)) ?_⟩
 rfl
theorem trans_says (c B:Nat)(M:List (List Rat))(h:MOk c M)(hB:MB B M)(hb:B<1000000000)(hM:M.length≤60):Says E 38 [pMq c M] (.tup [pMq M.length (trM c M),vZ 0]):=by
 refine says_of (xs:=[pMq M.length (trM c M),vZ 0]) Tryz.func38 rfl Tryz.ntmps38 Tryz.results38 sM fun F hG hX0 hnt hdf P0=>?_
 obtain ⟨L,hX,hN⟩:=pro hnt hX0 hG
 have hc60:=h.cols
 refine exr (swb (c_bx (k:=1) (n:=2) pa2 rfl rfl (P0 _ rfl) L) t1 t0 ⟨rfl,rfl⟩ (swb (c_al (k:=2) (n:=2) zv24 (.cons rfl (.cons rfl .nil)) rfl (P0 _ rfl) L) t0 t0 ⟨rfl,rfl⟩ (aV L rfl (zn [(1,_),(2,_)] [(1,_),(2,_)] t2 t2 (ex_seq (exr (lp2 ag24 sz24 L rfl rfl (cK hG hX cl40 hN (misq_says h hB hb) L t1 (sw (c_no L) t1 t0 (zn [(1,_),(2,_),(11,_)] [(1,_),(2,_)] t3 t2 (ex_false rfl rfl ?_)))))))))))
 refine ex_skip (xq ?_)
 refine ex_seq (exr (sw (c_fa un24 rfl sz22 dC rX L) t1 t1 ?_))
 refine sw (c_l1 ag22 rF rF L) t1 t1 ?_
 refine sw (c_ln un22 L) t1 t0 (sw (c_gt L) t2 t0 (zn [(1,_),(2,_),(16,_)] [(1,_),(2,_)] t3 t2 (ex_false rfl sO ?_)))
 refine ex_skip (xq ?_)
 refine exr (sw (c_fa un24 rfl sz22 dC rX L) t1 t1 ?_)
 refine sw (c_l1 ag22 rF rF L) t1 t1 ?_
 refine sw (c_ln un22 L) t1 t0 (sw (c_bp (vs:=[_]) un24 zv24 (.cons rfl (.cons rfl .nil)) ((Places.cons sz3 (Places.cons sz22 Places.nil))).to rfl (.cons rfl (.atom rfl) rfl pu1 .nil) (.cons (.cons .nil)) L) t1 t0 (swb (c_al (k:=4) (n:=2) zv24 (.cons rfl (.cons rfl .nil)) rfl (P0 _ rfl) L) t0 t0 ⟨rfl,rfl⟩ (sb (c_sm sz24 rF pa2 rfl pu2) t2 t1 ?_)))
 refine zn [(1,_),(2,_),(4,_)] [(1,_),(2,_),(4,_)] t3 t3 (ex_seq (exr (sw (c_fa un24 rfl sz3 dC rX L) t1 t1 ?_)))
 refine sw (c_l1 ag3 rF rF L) t1 t1 ?_
 refine mV L rfl (zn [(1,_),(2,_),(4,_),(23,_),(24,_)] [(1,_),(2,_),(4,_)] t5 t3 (ex_block ?_))
 refine exl (α:=(Nat×List (List Rat))) (fun x=>[(24,vi (x.1:Int))]) (fun x=>[(4,⟨24,2,.mix [.p (vZ M.length),matV 50 x.2]⟩)]++matB 50 x.2) (fun x=>x.1≤c∧trM x.1 M=x.2) (fun x=>c - x.1) ((0,[])) (sl:=[(1,_),(2,_),(4,_),(23,_)]) (hb:=[(1,_),(2,_)]) ?_ ⟨oR,rfl,rfl,rfl,rfl,trivial⟩ (hbI (l':=[(4,_),(1,_),(2,_)]) rfl t3) ?_
 ·exact ⟨Nat.zero_le _,rfl⟩
 intro x hx
 obtain ⟨j,T⟩:=x
 obtain ⟨hj,hT⟩:=hx
 simp only at hj hT
 rcases T with _ | ⟨q,T⟩
 ·dsimp only [matV,matB,List.append_nil]
  refine exr (sw (c_ls L) t2 t0 (zn [(1,_),(2,_),(4,_),(23,_),(24,_),(25,_)] [(1,_),(2,_),(4,_)] t6 t3 (ex_seq ?_)))
  refine ex_if rfl (fun hc=>?_) (fun hc=>?_)
  ·have hc:=dt hc
   have hjc:j<c:=by omega
   have ht:=trM_succ j M
   rw [hT] at ht
   refine ex_skip (xq ?_)
   refine ex_seq (ex_block (exr (mV L rfl (aV L rfl (zn [(1,_),(2,_),(4,_),(5,_),(23,_),(24,_)] [(1,_),(2,_),(4,_)] t6 t3 (exr (sw (c_fa un24 rfl sz22 dC rX L) t1 t1 ?_)))))))
   refine sw (c_l1 ag22 rF rF L) t1 t1 ?_
   refine sw (c_ln un22 L) t1 t0 (swb (core_make (sz:=4) (k:=30) un40 ti47 rfl rfl dC rfl rfl rfl (show (0:Int)=((0:Nat):Int) from rfl) rfl (Nat.zero_le _) (by simp [Tryz.t47]; omega) oM (P0 _ rfl) L) t2 t0 ⟨rfl,rfl⟩ ?_)
   refine aV L rfl ?_
   refine seq_nil ⟨[(1,_),(2,_),(4,_),(5,_),(6,.ref 30 0 0 0),(23,_),(24,_)],[(1,_),(2,_),(4,_),(30,rowBlk [])],t7,t4,?_⟩
   refine ex_seq (exr (sw (c_fa un24 rfl sz22 dC rX L) t1 t1 ?_))
   refine sw (c_l1 ag22 rF rF L) t1 t1 ?_
   refine sw (c_ln un22 L) t1 t0 (mV L rfl (zn [(1,_),(2,_),(4,_),(5,_),(6,_),(23,_),(24,_),(32,_),(33,_),(34,_)] [(1,_),(2,_),(4,_),(30,_)] t10 t4 (ex_block ?_)))
   refine exl (α:=Nat) (fun k=>[(34,vi (k:Int)),(6,.ref 30 0 k (k*4))]) (fun k=>[(30,rowBlk (colM (M.take k) j))]) (fun k=>k≤M.length) (fun k=>M.length - k) (0) (sl:=[(1,_),(2,_),(4,_),(5,_),(23,_),(24,_),(32,_),(33,_)]) (hb:=[(1,_),(2,_),(4,_)]) ?_ ⟨oR,oR,rfl,rfl,rfl,rfl,rfl,rfl,rfl,rfl,trivial⟩ t4 ?_
   ·exact Nat.zero_le _
   intro k hk
   refine exr (sw (c_ls L) t2 t0 (zn [(1,_),(2,_),(4,_),(5,_),(6,_),(23,_),(24,_),(32,_),(33,_),(34,_),(35,_)] [(1,_),(2,_),(4,_),(30,_)] t11 t4 (ex_seq ?_)))
   refine ex_if rfl (fun he=>?_) (fun he=>?_)
   ·have he:=dt he
    have hk2:k<M.length:=by omega
    have hrl:=h.get hk2
    refine ex_skip (xq ?_)
    refine ex_seq (ex_block (exr (sw (ixJ un22 sz40 (j:=k) rO oM sM L) t2 t0 ?_)))
    refine sw (c_li ag40 (getM0 hk2) L) t1 t0 (aV L rfl (zn [(1,_),(2,_),(4,_),(5,_),(6,_),(8,_),(23,_),(24,_),(32,_),(33,_),(34,_)] [(1,_),(2,_),(4,_),(30,_)] t11 t4 (exr0 (mV L rfl (mV L rfl (mV L rfl (sw (core_indexAddrJ un40 sz47 oM oM sM dC L) t2 t0 ?_)))))))
    refine sw (c_la ag47 sz47 (getQ (show j<(M.getD k []).length by omega)) rfl L) t1 t0 ?_
    refine sw (c_bI (vs:=[_]) un40 ti47 rfl rfl dC dC rfl (zs_made (.cons rfl (.cons rfl (.cons rfl (.cons rfl .nil)))) rfl) rfl (.cons rfl pa4 rfl pu4 .nil) (.cons (.cons (.cons (.cons .nil)))) L) t1 t0 (swb (apP (sz:=4) un40 un40 ti47 rfl rfl rfl dC (by exact (by first | (simp; done) | (simp; omega))) oF sM rfl rfl rfl (by first | (simp [Tryz.t47]; done) | (simp [Tryz.t47]; omega)) oM (P0 _ rfl) L) t2 t1 t0 ?_)
    refine aV L rfl (seq_nil (exr0 (sw (c_ad L (w64 oM oM)) t2 t0 (mV L rfl (seq_nil ?_)))))
    exact ⟨k+1,oM,by omega,le_of ⟨oR,ov rfl sO,rfl,rfl,rfl,rfl,rfl,rfl,rfl,rfl,trivial⟩ ⟨obl rfl ((rowSn _ _).trans (by rw [colM_take hk2])),rfl,rfl,rfl,trivial⟩⟩
   ·have he:=df he
    have hkM:k=M.length:=by omega
    subst hkM
    rw [List.take_length]
    refine ex_exit (xq ?_)
    refine ex_cv [30] (sl:=[(1,_),(2,_),(4,_),(6,_),(23,_),(24,_)]) (hb:=[(1,_),(2,_),(4,_)]) (own_none hX0) ⟨⟨_,rfl,.same⟩,⟨_,rfl,.same⟩,⟨_,rfl,.same⟩,⟨_,rfl,(.ref rfl rfl (by exact (by first | (simp; done) | (simp; omega))) (by first | rfl | omega))⟩,⟨_,rfl,.same⟩,⟨_,rfl,.same⟩,trivial⟩ ⟨⟨rfl,_,rfl,.same⟩,⟨rfl,_,rfl,.same⟩,⟨rfl,_,rfl,.same⟩,trivial⟩ ?_
    refine exr0 (sw (c_fa un24 rfl sz22 dC rX L) t1 t1 ?_)
    refine sw (c_l1 ag22 rF rF L) t1 t1 ?_
    refine mV L rfl (sw (c_bI (vs:=[_]) un22 ti40 rfl rfl dC dC rfl (zs_made (.cons rfl .nil) rfl) rfl (.cons rfl .sl rfl pu1 .nil) (.cons .nil) L) t1 t0 (swb (apN (k:=50) (sz:=1) un22 un22 ti40 rfl rfl rfl dC sM rfl (by first | (simp [Tryz.t40]; done) | (simp [Tryz.t40]; omega)) oM (P0 _ rfl) L) t2 t0 ⟨rfl,rfl⟩ ?_))
    refine sw (c_fa un24 rfl sz22 dC rX L) t1 t1 ?_
    refine sb (c_sm sz22 rF .ref rfl (.skip pu1)) t2 t1 ?_
    refine seq_nil (exr0 (sw (c_ad L (w64 oM oM)) t2 t0 (mV L rfl (seq_nil ?_))))
    exact ⟨(j+1,[colM M j]),⟨by simp only; omega,ht⟩,(by simp only; omega),le_of ⟨oR,rfl,rfl,rfl,rfl,trivial⟩ (hbI (l':=[(4,_),(50,_),(1,_),(2,_)]) rfl ⟨rfl,obl rfl (by simp [encM]),rfl,rfl,trivial⟩)⟩
  ·have hc:=df hc
   have hjc:j=c:=by omega
   subst hjc
   refine ex_exit (xq ?_)
   refine exr (sw (c_pc (c_lp ag24 sz24 rF (by exact al2) rfl L) (.agg (.cons .same (.cons .nil .nil)))) t1 t1 ?_)
   refine sb (c_sm sz24 rF pa2 rfl pu2) t2 t1 ?_
   refine aV L rfl (zn [(2,_),(3,_)] [(2,_)] t2 t1 (ex_ret ?_))
   refine ⟨.inr rfl,ResVs.cast (.cons (.agg rfl rfl rfl ag24 sz24 (.cons (.cons .nil))) (.cons (.tmp rfl) .nil)) ?_⟩
   rw [hT]; rfl
 ·dsimp only [matV,matB]
  have hTl:(q :: T).length=j:=by rw [← hT,trM_length]
  have hTl2:T.length+1=j:=hTl
  refine exr (sw (c_ls L) t2 t0 (zn [(1,_),(2,_),(4,_),(23,_),(24,_),(25,_)] [(1,_),(2,_),(4,_),(50,_)] t6 t4 (ex_seq ?_)))
  refine ex_if rfl (fun hc=>?_) (fun hc=>?_)
  ·have hc:=dt hc
   have hjc:j<c:=by omega
   have ht:=trM_succ j M
   rw [hT] at ht
   refine ex_skip (xq ?_)
   refine ex_seq (ex_block (exr (mV L rfl (aV L rfl (zn [(1,_),(2,_),(4,_),(5,_),(23,_),(24,_)] [(1,_),(2,_),(4,_),(50,_)] t6 t4 (exr (sw (c_fa un24 rfl sz22 dC rX L) t1 t1 ?_)))))))
   refine sw (c_l1 ag22 rF rF L) t1 t1 ?_
   refine sw (c_ln un22 L) t1 t0 (swb (core_make (sz:=4) (k:=30) un40 ti47 rfl rfl dC rfl rfl rfl (show (0:Int)=((0:Nat):Int) from rfl) rfl (Nat.zero_le _) (by simp [Tryz.t47]; omega) oM (P0 _ rfl) L) t2 t0 ⟨rfl,rfl⟩ ?_)
   refine aV L rfl ?_
   refine seq_nil ⟨[(1,_),(2,_),(4,_),(5,_),(6,.ref 30 0 0 0),(23,_),(24,_)],[(1,_),(2,_),(4,_),(30,rowBlk []),(50,_)],t7,t5,?_⟩
   refine ex_seq (exr (sw (c_fa un24 rfl sz22 dC rX L) t1 t1 ?_))
   refine sw (c_l1 ag22 rF rF L) t1 t1 ?_
   refine sw (c_ln un22 L) t1 t0 (mV L rfl (zn [(1,_),(2,_),(4,_),(5,_),(6,_),(23,_),(24,_),(32,_),(33,_),(34,_)] [(1,_),(2,_),(4,_),(30,_),(50,_)] t10 t5 (ex_block ?_)))
   refine exl (α:=Nat) (fun k=>[(34,vi (k:Int)),(6,.ref 30 0 k (k*4))]) (fun k=>[(30,rowBlk (colM (M.take k) j))]) (fun k=>k≤M.length) (fun k=>M.length - k) (0) (sl:=[(1,_),(2,_),(4,_),(5,_),(23,_),(24,_),(32,_),(33,_)]) (hb:=[(1,_),(2,_),(4,_),(50,_)]) ?_ ⟨oR,oR,rfl,rfl,rfl,rfl,rfl,rfl,rfl,rfl,trivial⟩ t5 ?_
   ·exact Nat.zero_le _
   intro k hk
   refine exr (sw (c_ls L) t2 t0 (zn [(1,_),(2,_),(4,_),(5,_),(6,_),(23,_),(24,_),(32,_),(33,_),(34,_),(35,_)] [(1,_),(2,_),(4,_),(30,_),(50,_)] t11 t5 (ex_seq ?_)))
   refine ex_if rfl (fun he=>?_) (fun he=>?_)
   ·have he:=dt he
    have hk2:k<M.length:=by omega
    have hrl:=h.get hk2
    refine ex_skip (xq ?_)
    refine ex_seq (ex_block (exr (sw (ixJ un22 sz40 (j:=k) rO oM sM L) t2 t0 ?_)))
    refine sw (c_li ag40 (getM0 hk2) L) t1 t0 (aV L rfl (zn [(1,_),(2,_),(4,_),(5,_),(6,_),(8,_),(23,_),(24,_),(32,_),(33,_),(34,_)] [(1,_),(2,_),(4,_),(30,_),(50,_)] t11 t5 (exr0 (mV L rfl (mV L rfl (mV L rfl (sw (core_indexAddrJ un40 sz47 oM oM sM dC L) t2 t0 ?_)))))))
    refine sw (c_la ag47 sz47 (getQ (show j<(M.getD k []).length by omega)) rfl L) t1 t0 ?_
    refine sw (c_bI (vs:=[_]) un40 ti47 rfl rfl dC dC rfl (zs_made (.cons rfl (.cons rfl (.cons rfl (.cons rfl .nil)))) rfl) rfl (.cons rfl pa4 rfl pu4 .nil) (.cons (.cons (.cons (.cons .nil)))) L) t1 t0 (swb (apP (sz:=4) un40 un40 ti47 rfl rfl rfl dC (by exact (by first | (simp; done) | (simp; omega))) oF sM rfl rfl rfl (by first | (simp [Tryz.t47]; done) | (simp [Tryz.t47]; omega)) oM (P0 _ rfl) L) t2 t1 t0 ?_)
    refine aV L rfl (seq_nil (exr0 (sw (c_ad L (w64 oM oM)) t2 t0 (mV L rfl (seq_nil ?_)))))
    exact ⟨k+1,oM,by omega,le_of ⟨oR,ov rfl sO,rfl,rfl,rfl,rfl,rfl,rfl,rfl,rfl,trivial⟩ ⟨obl rfl ((rowSn _ _).trans (by rw [colM_take hk2])),rfl,rfl,rfl,rfl,trivial⟩⟩
   ·have he:=df he
    have hkM:k=M.length:=by omega
    subst hkM
    rw [List.take_length]
    refine ex_exit (xq ?_)
    refine ex_cv [30] (sl:=[(1,_),(2,_),(4,_),(6,_),(23,_),(24,_)]) (hb:=[(1,_),(2,_),(4,_),(50,_)]) (own_none hX0) ⟨⟨_,rfl,.same⟩,⟨_,rfl,.same⟩,⟨_,rfl,.same⟩,⟨_,rfl,(.ref rfl rfl (by exact (by first | (simp; done) | (simp; omega))) (by first | rfl | omega))⟩,⟨_,rfl,.same⟩,⟨_,rfl,.same⟩,trivial⟩ ⟨⟨rfl,_,rfl,.same⟩,⟨rfl,_,rfl,.same⟩,⟨rfl,_,rfl,.same⟩,⟨rfl,_,rfl,.same⟩,trivial⟩ ?_
    refine exr0 (sw (c_fa un24 rfl sz22 dC rX L) t1 t1 ?_)
    refine sw (c_l1 ag22 rF rF L) t1 t1 ?_
    refine mV L rfl (sw (c_bI (vs:=[_]) un22 ti40 rfl rfl dC dC rfl (zs_made (.cons rfl .nil) rfl) rfl (.cons rfl .sl rfl pu1 .nil) (.cons .nil) L) t1 t0 (swb (apP (sz:=1) un22 un22 ti40 rfl rfl rfl dC (by exact (encM_length _)) oF sM rfl rfl rfl (by first | (simp [Tryz.t40]; done) | (simp [Tryz.t40]; omega)) oM (P0 _ rfl) L) t2 t1 t0 ?_))
    refine sw (c_fa un24 rfl sz22 dC rX L) t1 t1 ?_
    refine sb (c_sm sz22 rF .ref rfl (.skip pu1)) t2 t1 ?_
    refine seq_nil (exr0 (sw (c_ad L (w64 oM oM)) t2 t0 (mV L rfl (seq_nil ?_))))
    exact ⟨(j+1,q :: T++[colM M j]),⟨by simp only; omega,ht⟩,(by simp only; omega),le_of ⟨oR,rfl,rfl,rfl,rfl,trivial⟩ (hbI (l':=[(4,_),(50,_),(1,_),(2,_)]) rfl ⟨obl rfl sM,obl rfl (matSn M.length (q :: T) (colM M j) (colM_length _ _)),rfl,rfl,trivial⟩)⟩
  ·have hc:=df hc
   have hjc:j=c:=by omega
   subst hjc
   refine ex_exit (xq ?_)
   refine exr (sw (c_lA ag24 sz24 rF (by exact (.cons (.cons .nil))) rfl L) t1 t1 ?_)
   refine sb (c_sm sz24 rF .agg rfl pu2) t2 t1 ?_
   refine aV L rfl (zn [(2,_),(3,_)] [(2,_),(50,_)] t2 t2 (ex_cv [50] (sl:=[(2,_),(3,_)]) (hb:=[(2,_)]) (own_none hX0) ⟨⟨_,rfl,.same⟩,⟨_,rfl,.same⟩,trivial⟩ ⟨⟨rfl,_,rfl,(.mix (.cons .same (.cons (.ref rfl rfl (by exact (encM_length _)) (by first | rfl | omega)) .nil)))⟩,trivial⟩ ?_))
   refine ex_ret ?_
   refine ⟨.inr rfl,ResVs.cast (.cons (.agg rfl rfl rfl ag24 sz24 (.cons (.cons .nil))) (.cons (.tmp rfl) .nil)) ?_⟩
   rw [hT]
def mulR (r:List Rat)(N:List (List Rat))(j:Nat):List Rat:=(List.range j).map fun k=>dotQ r (colM N k)
def mulM (d:Nat)(M N:List (List Rat)):List (List Rat):=M.map fun r=>mulR r N d
@[simp] theorem mulR_length (r:List Rat)(N:List (List Rat))(j:Nat):(mulR r N j).length=j:=by simp [mulR]
theorem mulR_succ {r:List Rat}{N:List (List Rat)}{j:Nat}:mulR r N j++[dotQ r (colM N j)]=mulR r N (j+1):=by simp [mulR,List.range_succ]
@[simp] theorem mulM_length (d:Nat)(M N:List (List Rat)):(mulM d M N).length=M.length:=by simp [mulM]
theorem mulM_take {d:Nat}{M N:List (List Rat)}{i:Nat}(h:i<M.length):mulM d (M.take (i+1)) N=mulM d (M.take i) N++[mulR (M.getD i []) N d]:=by
 rw [List.take_add_one,show M[i]?.toList=[M.getD i []] by simp [List.getD_eq_getElem?_getD,h],mulM,List.map_append]; rfl
theorem colB {B d j:Nat}{N:List (List Rat)}(h:MB B N)(hj:j<d)(hl:∀ r∈N,r.length=d):∀ a∈colM N j,qw a≤B:=by
 intro a ha
 obtain ⟨r,hr,rfl⟩:=List.mem_map.1 ha
 have h1:j<r.length:=by rw [hl r hr]; exact hj
 exact h r hr _ (getD_mem h1)
theorem mmul_no1 (c d:Int)(m n:List (List RQ))(hm:MSm m)(h:isM c m=false):Says E 41 [pMR c m,pMR d n] (.tup [pMq 0 [],vZ 3]):=by
 refine says_of (xs:=[pMq 0 [],vZ 3]) Tryz.func41 rfl Tryz.ntmps41 Tryz.results41 sM fun F hG hX0 hnt hdf P0=>?_
 obtain ⟨L,hX,hN⟩:=pro hnt hX0 hG
 refine exr (swb (c_bx (k:=2) (n:=2) pa2 rfl rfl (P0 _ rfl) L) t1 t0 ⟨rfl,rfl⟩ (swb (c_bx (k:=3) (n:=2) pa2 rfl rfl (P0 _ rfl) L) t1 t0 ⟨rfl,rfl⟩ (swb (c_al (k:=4) (n:=2) zv24 (.cons rfl (.cons rfl .nil)) rfl (P0 _ rfl) L) t0 t0 ⟨rfl,rfl⟩ (aV L rfl (zn [(2,_),(3,_),(4,_)] [(2,_),(3,_),(4,_)] t3 t3 (ex_seq (exr (lp2 ag24 sz24 L rfl rfl (cK hG hX cl40 hN (mis_says c m hm) L t1 (sw (c_no L) t1 t0 (mV L rfl ?_)))))))))))
 refine swn (g:=17) rfl (by rw [h] <;> rfl) L rfl ?_
 refine swn (g:=17) rfl (by rw [h] <;> rfl) L rfl ?_
 refine swn (g:=17) rfl (by rw [h] <;> rfl) L rfl ?_
 refine sw (c_pt (by rw [h]; rfl) L) t2 t0 ?_
 refine zn [(2,_),(3,_),(4,_),(21,_)] [(2,_),(3,_),(4,_)] t4 t3 (ex_true rfl rfl (exr (sw (c_pc (c_bp (vs:=[]) un24 zv24 (.cons rfl (.cons rfl .nil)) ((Places.cons sz3 (Places.cons sz22 Places.nil))).to rfl .nil (.cons (.cons .nil)) L) (.agg (.cons .same (.cons .nil .nil)))) t0 t0 (sb (c_sm sz24 rF pa2 rfl pu2) t2 t1 ?_))))
 refine aV L rfl (zn [(4,_),(5,_)] [(4,_)] t2 t1 (ex_ret ?_))
 refine ⟨.inr rfl,ResVs.cast (.cons (.agg rfl rfl rfl ag24 sz24 (.cons (.cons .nil))) (.cons (.tmp rfl) .nil)) ?_⟩
 rfl
theorem mmul_no2 (c d:Int)(m n:List (List RQ))(hm:MSm m)(hn:MSm n)(h:isM c m=true)(h2:isM d n=false):Says E 41 [pMR c m,pMR d n] (.tup [pMq 0 [],vZ 3]):=by
 refine says_of (xs:=[pMq 0 [],vZ 3]) Tryz.func41 rfl Tryz.ntmps41 Tryz.results41 sM fun F hG hX0 hnt hdf P0=>?_
 obtain ⟨L,hX,hN⟩:=pro hnt hX0 hG
 refine exr (swb (c_bx (k:=2) (n:=2) pa2 rfl rfl (P0 _ rfl) L) t1 t0 ⟨rfl,rfl⟩ (swb (c_bx (k:=3) (n:=2) pa2 rfl rfl (P0 _ rfl) L) t1 t0 ⟨rfl,rfl⟩ (swb (c_al (k:=4) (n:=2) zv24 (.cons rfl (.cons rfl .nil)) rfl (P0 _ rfl) L) t0 t0 ⟨rfl,rfl⟩ (aV L rfl (zn [(2,_),(3,_),(4,_)] [(2,_),(3,_),(4,_)] t3 t3 (ex_seq (exr (lp2 ag24 sz24 L rfl rfl (cK hG hX cl40 hN (mis_says c m hm) L t1 (sw (c_no L) t1 t0 (mV L rfl ?_)))))))))))
 refine swg (g:=17) rfl (by rw [h] <;> rfl) (c_lp ag24 sz24 rF (by exact al2) rfl L) rfl t1 t1 ?_
 refine swg (g:=17) rfl (by rw [h] <;> rfl) (c_c hG hX cl40 rfl hN (mis_says d n hn) L) rfl t1 t0 ?_
 refine swg (g:=17) rfl (by rw [h] <;> rfl) (c_no L) rfl t1 t0 ?_
 refine sw (c_pf (by rw [h]; rfl) L) t2 t0 ?_
 refine zn [(2,_),(3,_),(4,_),(21,_)] [(2,_),(3,_),(4,_)] t4 t3 (ex_true rfl (by rw [h2]; rfl) ?_)
 refine exr (sw (c_pc (c_bp (vs:=[]) un24 zv24 (.cons rfl (.cons rfl .nil)) ((Places.cons sz3 (Places.cons sz22 Places.nil))).to rfl .nil (.cons (.cons .nil)) L) (.agg (.cons .same (.cons .nil .nil)))) t0 t0 (sb (c_sm sz24 rF pa2 rfl pu2) t2 t1 ?_))
 refine aV L rfl (zn [(4,_),(5,_)] [(4,_)] t2 t1 (ex_ret ?_))
 refine ⟨.inr rfl,ResVs.cast (.cons (.agg rfl rfl rfl ag24 sz24 (.cons (.cons .nil))) (.cons (.tmp rfl) .nil)) ?_⟩
 rfl
theorem mmul_arg (c d B:Nat)(M N:List (List Rat))(h:MOk c M)(h2:MOk d N)(hB:MB B M)(hB2:MB B N)(hb:B<1000000000)(hcN:c≠N.length):Says E 41 [pMq c M,pMq d N] (.tup [pMq 0 [],vZ 1]):=by
 refine says_of (xs:=[pMq 0 [],vZ 1]) Tryz.func41 rfl Tryz.ntmps41 Tryz.results41 sM fun F hG hX0 hnt hdf P0=>?_
 obtain ⟨L,hX,hN⟩:=pro hnt hX0 hG
 refine exr (swb (c_bx (k:=2) (n:=2) pa2 rfl rfl (P0 _ rfl) L) t1 t0 ⟨rfl,rfl⟩ (swb (c_bx (k:=3) (n:=2) pa2 rfl rfl (P0 _ rfl) L) t1 t0 ⟨rfl,rfl⟩ (swb (c_al (k:=4) (n:=2) zv24 (.cons rfl (.cons rfl .nil)) rfl (P0 _ rfl) L) t0 t0 ⟨rfl,rfl⟩ (aV L rfl (zn [(2,_),(3,_),(4,_)] [(2,_),(3,_),(4,_)] t3 t3 (ex_seq (exr (lp2 ag24 sz24 L rfl rfl (cK hG hX cl40 hN (misq_says h hB hb) L t1 (sw (c_no L) t1 t0 (mV L rfl ?_)))))))))))
 refine swg (g:=17) rfl rfl (c_lp ag24 sz24 rF (by exact al2) rfl L) rfl t1 t1 ?_
 refine swg (g:=17) rfl rfl (c_c hG hX cl40 rfl hN (misq_says h2 hB2 hb) L) rfl t1 t0 (swg (g:=17) rfl rfl (c_no L) rfl t1 t0 (sw (c_pf rfl L) t2 t0 (zn [(2,_),(3,_),(4,_),(21,_)] [(2,_),(3,_),(4,_)] t4 t3 (ex_false rfl rfl ?_))))
 refine ex_skip (xq ?_)
 refine ex_seq (exr (sw (c_fa un24 rfl sz3 dC rX L) t1 t1 ?_))
 refine sw (c_l1 ag3 rF rF L) t1 t1 ?_
 refine sw (c_fa un24 rfl sz22 dC rX L) t1 t1 ?_
 refine sw (c_l1 ag22 rF rF L) t1 t1 ?_
 refine sw (c_ln un22 L) t1 t0 (sw (c_n L) t2 t0 (zn [(2,_),(3,_),(4,_),(28,_)] [(2,_),(3,_),(4,_)] t4 t3 (ex_true rfl sO (exr (sw (c_pc (c_bp (vs:=[]) un24 zv24 (.cons rfl (.cons rfl .nil)) ((Places.cons sz3 (Places.cons sz22 Places.nil))).to rfl .nil (.cons (.cons .nil)) L) (.agg (.cons .same (.cons .nil .nil)))) t0 t0 (sb (c_sm sz24 rF pa2 rfl pu2) t2 t1 ?_))))))
 refine aV L rfl (zn [(4,_),(5,_)] [(4,_)] t2 t1 (ex_ret ?_))
 refine ⟨.inr rfl,ResVs.cast (.cons (.agg rfl rfl rfl ag24 sz24 (.cons (.cons .nil))) (.cons (.tmp rfl) .nil)) ?_⟩
 rfl
theorem mmul_says (c d B:Nat)(M N:List (List Rat))(h:MOk c M)(h2:MOk d N)(hB:MB B M)(hB2:MB B N)(hb:B<1000000)(hcN:c=N.length):Says E 41 [pMq c M,pMq d N] (.tup [pMq d (mulM d M N),vZ 0]):=by
 refine says_of (xs:=[pMq d (mulM d M N),vZ 0]) Tryz.func41 rfl Tryz.ntmps41 Tryz.results41 sM fun F hG hX0 hnt hdf P0=>?_
 obtain ⟨L,hX,hN⟩:=pro hnt hX0 hG
 have hc60:=h.cols
 have hd60:=h2.cols
 have hr4:=h.rows
 have hr5:=h2.rows
 refine exr (swb (c_bx (k:=2) (n:=2) pa2 rfl rfl (P0 _ rfl) L) t1 t0 ⟨rfl,rfl⟩ (swb (c_bx (k:=3) (n:=2) pa2 rfl rfl (P0 _ rfl) L) t1 t0 ⟨rfl,rfl⟩ (swb (c_al (k:=4) (n:=2) zv24 (.cons rfl (.cons rfl .nil)) rfl (P0 _ rfl) L) t0 t0 ⟨rfl,rfl⟩ (aV L rfl (zn [(2,_),(3,_),(4,_)] [(2,_),(3,_),(4,_)] t3 t3 (ex_seq (exr (lp2 ag24 sz24 L rfl rfl (cK hG hX cl40 hN (misq_says h hB oM) L t1 (sw (c_no L) t1 t0 (mV L rfl ?_)))))))))))
 refine swg (g:=17) rfl rfl (c_lp ag24 sz24 rF (by exact al2) rfl L) rfl t1 t1 ?_
 refine swg (g:=17) rfl rfl (c_c hG hX cl40 rfl hN (misq_says h2 hB2 oM) L) rfl t1 t0 (swg (g:=17) rfl rfl (c_no L) rfl t1 t0 (sw (c_pf rfl L) t2 t0 (zn [(2,_),(3,_),(4,_),(21,_)] [(2,_),(3,_),(4,_)] t4 t3 (ex_false rfl rfl ?_))))
 refine ex_skip (xq ?_)
 refine ex_seq (exr (sw (c_fa un24 rfl sz3 dC rX L) t1 t1 ?_))
 refine sw (c_l1 ag3 rF rF L) t1 t1 ?_
 refine sw (c_fa un24 rfl sz22 dC rX L) t1 t1 ?_
 refine sw (c_l1 ag22 rF rF L) t1 t1 ?_
 refine sw (c_ln un22 L) t1 t0 (sw (c_n L) t2 t0 (zn [(2,_),(3,_),(4,_),(28,_)] [(2,_),(3,_),(4,_)] t4 t3 (ex_false rfl sO ?_)))
 refine ex_skip (xq ?_)
 refine exr (sw (c_fa un24 rfl sz3 dC rX L) t1 t1 ?_)
 refine sw (c_l1 ag3 rF rF L) t1 t1 ?_
 refine sw (c_bp (vs:=[_]) un24 zv24 (.cons rfl (.cons rfl .nil)) ((Places.cons sz3 (Places.cons sz22 Places.nil))).to rfl (.cons rfl (.atom rfl) rfl pu1 .nil) (.cons (.cons .nil)) L) t1 t0 (swb (c_al (k:=6) (n:=2) zv24 (.cons rfl (.cons rfl .nil)) rfl (P0 _ rfl) L) t0 t0 ⟨rfl,rfl⟩ (sb (c_sm sz24 rF pa2 rfl pu2) t2 t1 ?_))
 refine zn [(2,_),(3,_),(4,_),(6,_)] [(2,_),(3,_),(4,_),(6,_)] t4 t4 (ex_seq (exr (sw (c_fa un24 rfl sz22 dC rX L) t1 t1 ?_)))
 refine sw (c_l1 ag22 rF rF L) t1 t1 ?_
 refine sw (c_ln un22 L) t1 t0 (mV L rfl (zn [(3,_),(4,_),(6,_),(34,_),(35,_),(36,_)] [(3,_),(4,_),(6,_)] t6 t3 (ex_block ?_)))
 refine exl (α:=(Nat×List (List Rat))) (fun x=>[(36,vi (x.1:Int))]) (fun x=>[(6,⟨24,2,.mix [.p (vZ d),matV 78 x.2]⟩)]++matB 78 x.2) (fun x=>x.1≤M.length∧mulM d (M.take x.1) N=x.2) (fun x=>M.length - x.1) ((0,[])) (sl:=[(3,_),(4,_),(6,_),(34,_),(35,_)]) (hb:=[(3,_),(4,_)]) ?_ ⟨oR,rfl,rfl,rfl,rfl,rfl,trivial⟩ (hbI (l':=[(6,_),(3,_),(4,_)]) rfl t3) ?_
 ·exact ⟨Nat.zero_le _,rfl⟩
 intro x hx
 obtain ⟨i,T⟩:=x
 obtain ⟨hi,hT⟩:=hx
 simp only at hi hT
 rcases T with _ | ⟨q,T⟩
 ·dsimp only [matV,matB,List.append_nil]
  refine exr (sw (c_ls L) t2 t0 (zn [(3,_),(4,_),(6,_),(34,_),(35,_),(36,_),(37,_)] [(3,_),(4,_),(6,_)] t7 t3 (ex_seq ?_)))
  refine ex_if rfl (fun hc=>?_) (fun hc=>?_)
  ·have hc:=dt hc
   have hia:i<M.length:=by omega
   have ht:=mulM_take (N:=N) (d:=d) hia
   rw [hT] at ht
   have hrl:=h.get hia
   refine ex_skip (xq ?_)
   refine ex_seq (ex_block (exr (sw (ixJ un22 sz40 (j:=i) rO oM sM L) t2 t0 ?_)))
   refine sw (c_li ag40 (getM0 hia) L) t1 t0 (aV L rfl (zn [(3,_),(4,_),(6,_),(8,_),(34,_),(35,_),(36,_)] [(3,_),(4,_),(6,_)] t7 t3 (exr (sw (c_fa un24 rfl sz3 dC rX L) t1 t1 ?_))))
   refine sw (c_l1 ag3 rF rF L) t1 t1 ?_
   refine swb (core_make (sz:=4) (k:=42) un40 ti47 rfl rfl dC rfl rfl rfl rfl rfl (Nat.le_refl _) (by simp [Tryz.t47]; omega) oM (P0 _ rfl) L) t2 t0 ⟨rfl,rfl⟩ ?_
   refine aV L rfl ?_
   refine seq_nil ⟨[(3,_),(4,_),(6,_),(8,_),(9,_),(34,_),(35,_),(36,_)],[(3,_),(4,_),(6,_),(42,⟨47,4,.pure (encQ []++zrow (d - 0) zc0)⟩)],t8,t4,?_⟩
   refine ex_seq (exr (mV L rfl (sw (c_lr un40 (by exact (zrow_length _ _)) L) t1 t1 ?_)))
   refine mV L rfl (zn [(3,_),(4,_),(6,_),(8,_),(9,_),(34,_),(35,_),(36,_),(44,_),(45,_)] [(3,_),(4,_),(6,_),(42,_)] t10 t4 (ex_block ?_))
   refine exl (α:=Nat) (fun j=>[(45,vi (j:Int))]) (fun j=>[(42,⟨47,4,.pure (encQ (mulR (M.getD i []) N j)++zrow (d - j) zc0)⟩)]) (fun j=>j≤d) (fun j=>d - j) (0) (sl:=[(3,_),(4,_),(6,_),(8,_),(9,_),(34,_),(35,_),(36,_),(44,_)]) (hb:=[(3,_),(4,_),(6,_)]) ?_ ⟨oR,rfl,rfl,rfl,rfl,rfl,rfl,rfl,rfl,rfl,trivial⟩ t4 ?_
   ·exact Nat.zero_le _
   intro j hj
   refine exr (sw (c_ls L) t2 t0 (zn [(3,_),(4,_),(6,_),(8,_),(9,_),(34,_),(35,_),(36,_),(44,_),(45,_),(46,_)] [(3,_),(4,_),(6,_),(42,_)] t11 t4 (ex_seq ?_)))
   refine ex_if rfl (fun he=>?_) (fun he=>?_)
   ·have he:=dt he
    have hjd:j<d:=by omega
    refine ex_skip (xq ?_)
    refine ex_seq (ex_block (exr (mV L rfl (aV L rfl (zn [(3,_),(4,_),(6,_),(8,_),(9,_),(10,_),(34,_),(35,_),(36,_),(44,_),(45,_)] [(3,_),(4,_),(6,_),(42,_)] t11 t4 (exr (sw (c_fa un24 rfl sz22 dC rX L) t1 t1 ?_)))))))
    refine sw (c_l1 ag22 rF rF L) t1 t1 ?_
    refine sw (c_ln un22 L) t1 t0 (swb (core_make (sz:=4) (k:=51) un40 ti47 rfl rfl dC rfl rfl rfl (show (0:Int)=((0:Nat):Int) from rfl) rfl (Nat.zero_le _) (by simp [Tryz.t47]; omega) oM (P0 _ rfl) L) t2 t0 ⟨rfl,rfl⟩ ?_)
    refine aV L rfl ?_
    refine seq_nil ⟨[(3,_),(4,_),(6,_),(8,_),(9,_),(10,_),(11,.ref 51 0 0 0),(34,_),(35,_),(36,_),(44,_),(45,_)],[(3,_),(4,_),(6,_),(42,_),(51,rowBlk [])],t12,t5,?_⟩
    refine ex_seq (exr (sw (c_fa un24 rfl sz22 dC rX L) t1 t1 ?_))
    refine sw (c_l1 ag22 rF rF L) t1 t1 ?_
    refine sw (c_ln un22 L) t1 t0 (mV L rfl (zn [(3,_),(4,_),(6,_),(8,_),(9,_),(10,_),(11,_),(34,_),(35,_),(36,_),(44,_),(45,_),(53,_),(54,_),(55,_)] [(3,_),(4,_),(6,_),(42,_),(51,_)] t15 t5 (ex_block ?_)))
    refine exl (α:=Nat) (fun k=>[(55,vi (k:Int)),(11,.ref 51 0 k (k*4))]) (fun k=>[(51,rowBlk (colM (N.take k) j))]) (fun k=>k≤N.length) (fun k=>N.length - k) (0) (sl:=[(3,_),(4,_),(6,_),(8,_),(9,_),(10,_),(34,_),(35,_),(36,_),(44,_),(45,_),(53,_),(54,_)]) (hb:=[(3,_),(4,_),(6,_),(42,_)]) ?_ ⟨oR,oR,rfl,rfl,rfl,rfl,rfl,rfl,rfl,rfl,rfl,rfl,rfl,rfl,rfl,trivial⟩ t5 ?_
    ·exact Nat.zero_le _
    intro k hk
    refine exr (sw (c_ls L) t2 t0 (zn [(3,_),(4,_),(6,_),(8,_),(9,_),(10,_),(11,_),(34,_),(35,_),(36,_),(44,_),(45,_),(53,_),(54,_),(55,_),(56,_)] [(3,_),(4,_),(6,_),(42,_),(51,_)] t16 t5 (ex_seq ?_)))
    refine ex_if rfl (fun hf=>?_) (fun hf=>?_)
    ·have hf:=dt hf
     have hk2:k<N.length:=by omega
     have hrl2:=h2.get hk2
     refine ex_skip (xq ?_)
     refine ex_seq (ex_block (exr (sw (ixJ un22 sz40 (j:=k) rO oM sM L) t2 t0 ?_)))
     refine sw (c_li ag40 (getM0 hk2) L) t1 t0 (aV L rfl (zn [(3,_),(4,_),(6,_),(8,_),(9,_),(10,_),(11,_),(13,_),(34,_),(35,_),(36,_),(44,_),(45,_),(53,_),(54,_),(55,_)] [(3,_),(4,_),(6,_),(42,_),(51,_)] t16 t5 (exr0 (mV L rfl (mV L rfl (mV L rfl (sw (core_indexAddrJ un40 sz47 oM oM sM dC L) t2 t0 ?_)))))))
     refine sw (c_la ag47 sz47 (getQ (show j<(N.getD k []).length by omega)) rfl L) t1 t0 ?_
     refine sw (c_bI (vs:=[_]) un40 ti47 rfl rfl dC dC rfl (zs_made (.cons rfl (.cons rfl (.cons rfl (.cons rfl .nil)))) rfl) rfl (.cons rfl pa4 rfl pu4 .nil) (.cons (.cons (.cons (.cons .nil)))) L) t1 t0 (swb (apP (sz:=4) un40 un40 ti47 rfl rfl rfl dC (by exact (by first | (simp; done) | (simp; omega))) oF sM rfl rfl rfl (by first | (simp [Tryz.t47]; done) | (simp [Tryz.t47]; omega)) oM (P0 _ rfl) L) t2 t1 t0 ?_)
     refine aV L rfl (seq_nil (exr0 (sw (c_ad L (w64 oM oM)) t2 t0 (mV L rfl (seq_nil ?_)))))
     exact ⟨k+1,oM,by omega,le_of ⟨oR,ov rfl sO,rfl,rfl,rfl,rfl,rfl,rfl,rfl,rfl,rfl,rfl,rfl,rfl,rfl,trivial⟩ ⟨obl rfl ((rowSn _ _).trans (by rw [colM_take hk2])),rfl,rfl,rfl,rfl,trivial⟩⟩
    ·have hf:=df hf
     have hkM:k=N.length:=by omega
     subst hkM
     rw [List.take_length]
     refine ex_exit (xq ?_)
     refine ex_cv [51] (sl:=[(3,_),(4,_),(6,_),(8,_),(9,_),(10,_),(11,_),(34,_),(35,_),(36,_),(44,_),(45,_)]) (hb:=[(3,_),(4,_),(6,_),(42,_)]) (own_none hX0) ⟨⟨_,rfl,.same⟩,⟨_,rfl,.same⟩,⟨_,rfl,.same⟩,⟨_,rfl,.same⟩,⟨_,rfl,.same⟩,⟨_,rfl,.same⟩,⟨_,rfl,(.ref rfl rfl (by exact (by first | (simp; done) | (simp; omega))) (by first | rfl | omega))⟩,⟨_,rfl,.same⟩,⟨_,rfl,.same⟩,⟨_,rfl,.same⟩,⟨_,rfl,.same⟩,⟨_,rfl,.same⟩,trivial⟩ ⟨⟨rfl,_,rfl,.same⟩,⟨rfl,_,rfl,.same⟩,⟨rfl,_,rfl,.same⟩,⟨rfl,_,rfl,.same⟩,trivial⟩ ?_
     rw [show Pure.sl N.length (encQ (colM N j))=pV (colM N j) by rw [pV,colM_length]]
     refine exr0 (mV L rfl (mV L rfl (mV L rfl (mV L rfl (cK hG hX cl70 hN (dot_says (M.getD i []) (colM N j) B B (by rw [hrl,colM_length,hcN]) oM (fun a ha=>hB _ (gDL hia) a ha) (fun a ha=>colB hB2 hjd h2.len a ha) oM oM (by rw [hrl]; have:=Nat.mul_le_mul_right (B+B+1) hc60; omega)) L t2 ?_)))))
     refine sw (ixA0 (sz:=4) un40 sz47 (by exact (fill_length (mulR_length _ _ _) hj)) (j:=j) rO oM L) t2 t1 ?_
     refine sb (c_sn (n:=4) sz47 (by exact (fill_length (mulR_length _ _ _) hj)) rfl oM) t2 t1 ?_
     refine seq_nil (exr0 (sw (c_ad L (w64 oM oM)) t2 t0 (mV L rfl (seq_nil ?_))))
     exact ⟨j+1,oM,by omega,le_of ⟨oR,rfl,rfl,rfl,rfl,rfl,rfl,rfl,rfl,rfl,trivial⟩ ⟨obl rfl (congrArg (fun c=>(⟨47,4,.pure c⟩:Blk)) ((fill_step (mulR_length _ _ _) hjd (dotQ (M.getD i []) (colM N j))).trans (by rw [mulR_succ]))),rfl,rfl,rfl,trivial⟩⟩
   ·have he:=df he
    have hjd:j=d:=by omega
    subst hjd
    refine ex_exit (xq ?_)
    refine ex_cv [42] (sl:=[(3,_),(4,_),(6,_),(9,_),(34,_),(35,_),(36,_)]) (hb:=[(3,_),(4,_),(6,_)]) (own_none hX0) ⟨⟨_,rfl,.same⟩,⟨_,rfl,.same⟩,⟨_,rfl,.same⟩,⟨_,rfl,(.ref rfl rfl (by exact (fill_length (mulR_length _ _ _) hj)) (by first | rfl | omega))⟩,⟨_,rfl,.same⟩,⟨_,rfl,.same⟩,⟨_,rfl,.same⟩,trivial⟩ ⟨⟨rfl,_,rfl,.same⟩,⟨rfl,_,rfl,.same⟩,⟨rfl,_,rfl,.same⟩,trivial⟩ ?_
    rw [show encQ (mulR (M.getD i []) N j)++zrow (j - j) zc0=encQ (mulR (M.getD i []) N j) by simp [zrow]]
    refine exr0 (sw (c_fa un24 rfl sz22 dC rX L) t1 t1 ?_)
    refine sw (c_l1 ag22 rF rF L) t1 t1 ?_
    refine mV L rfl (sw (c_bI (vs:=[_]) un22 ti40 rfl rfl dC dC rfl (zs_made (.cons rfl .nil) rfl) rfl (.cons rfl .sl rfl pu1 .nil) (.cons .nil) L) t1 t0 (swb (apN (k:=78) (sz:=1) un22 un22 ti40 rfl rfl rfl dC sM rfl (by first | (simp [Tryz.t40]; done) | (simp [Tryz.t40]; omega)) oM (P0 _ rfl) L) t2 t0 ⟨rfl,rfl⟩ ?_))
    refine sw (c_fa un24 rfl sz22 dC rX L) t1 t1 ?_
    refine sb (c_sm sz22 rF .ref rfl (.skip pu1)) t2 t1 ?_
    refine seq_nil (exr0 (sw (c_ad L (w64 oM oM)) t2 t0 (mV L rfl (seq_nil ?_))))
    exact ⟨(i+1,[mulR (M.getD i []) N j]),⟨by simp only; omega,ht⟩,(by simp only; omega),le_of ⟨oR,rfl,rfl,rfl,rfl,rfl,trivial⟩ (hbI (l':=[(6,_),(78,_),(3,_),(4,_)]) rfl ⟨rfl,obl rfl (by simp [encM]),rfl,rfl,trivial⟩)⟩
  ·have hc:=df hc
   have hia:i=M.length:=by omega
   subst hia
   rw [List.take_length] at hT
   refine ex_exit (xq ?_)
   refine exr (sw (c_pc (c_lp ag24 sz24 rF (by exact al2) rfl L) (.agg (.cons .same (.cons .nil .nil)))) t1 t1 ?_)
   refine sb (c_sm sz24 rF pa2 rfl pu2) t2 t1 ?_
   refine aV L rfl (zn [(4,_),(5,_)] [(4,_)] t2 t1 (ex_ret ?_))
   refine ⟨.inr rfl,ResVs.cast (.cons (.agg rfl rfl rfl ag24 sz24 (.cons (.cons .nil))) (.cons (.tmp rfl) .nil)) ?_⟩
   rw [hT]; rfl
 ·dsimp only [matV,matB]
  have hTl:(q :: T).length=i:=by rw [← hT,mulM_length,List.length_take]; omega
  have hTl2:T.length+1=i:=hTl
  refine exr (sw (c_ls L) t2 t0 (zn [(3,_),(4,_),(6,_),(34,_),(35,_),(36,_),(37,_)] [(3,_),(4,_),(6,_),(78,_)] t7 t4 (ex_seq ?_)))
  refine ex_if rfl (fun hc=>?_) (fun hc=>?_)
  ·have hc:=dt hc
   have hia:i<M.length:=by omega
   have ht:=mulM_take (N:=N) (d:=d) hia
   rw [hT] at ht
   have hrl:=h.get hia
   refine ex_skip (xq ?_)
   refine ex_seq (ex_block (exr (sw (ixJ un22 sz40 (j:=i) rO oM sM L) t2 t0 ?_)))
   refine sw (c_li ag40 (getM0 hia) L) t1 t0 (aV L rfl (zn [(3,_),(4,_),(6,_),(8,_),(34,_),(35,_),(36,_)] [(3,_),(4,_),(6,_),(78,_)] t7 t4 (exr (sw (c_fa un24 rfl sz3 dC rX L) t1 t1 ?_))))
   refine sw (c_l1 ag3 rF rF L) t1 t1 ?_
   refine swb (core_make (sz:=4) (k:=42) un40 ti47 rfl rfl dC rfl rfl rfl rfl rfl (Nat.le_refl _) (by simp [Tryz.t47]; omega) oM (P0 _ rfl) L) t2 t0 ⟨rfl,rfl⟩ ?_
   refine aV L rfl ?_
   refine seq_nil ⟨[(3,_),(4,_),(6,_),(8,_),(9,_),(34,_),(35,_),(36,_)],[(3,_),(4,_),(6,_),(42,⟨47,4,.pure (encQ []++zrow (d - 0) zc0)⟩),(78,_)],t8,t5,?_⟩
   refine ex_seq (exr (mV L rfl (sw (c_lr un40 (by exact (zrow_length _ _)) L) t1 t1 ?_)))
   refine mV L rfl (zn [(3,_),(4,_),(6,_),(8,_),(9,_),(34,_),(35,_),(36,_),(44,_),(45,_)] [(3,_),(4,_),(6,_),(42,_),(78,_)] t10 t5 (ex_block ?_))
   refine exl (α:=Nat) (fun j=>[(45,vi (j:Int))]) (fun j=>[(42,⟨47,4,.pure (encQ (mulR (M.getD i []) N j)++zrow (d - j) zc0)⟩)]) (fun j=>j≤d) (fun j=>d - j) (0) (sl:=[(3,_),(4,_),(6,_),(8,_),(9,_),(34,_),(35,_),(36,_),(44,_)]) (hb:=[(3,_),(4,_),(6,_),(78,_)]) ?_ ⟨oR,rfl,rfl,rfl,rfl,rfl,rfl,rfl,rfl,rfl,trivial⟩ t5 ?_
   ·exact Nat.zero_le _
   intro j hj
   refine exr (sw (c_ls L) t2 t0 (zn [(3,_),(4,_),(6,_),(8,_),(9,_),(34,_),(35,_),(36,_),(44,_),(45,_),(46,_)] [(3,_),(4,_),(6,_),(42,_),(78,_)] t11 t5 (ex_seq ?_)))
   refine ex_if rfl (fun he=>?_) (fun he=>?_)
   ·have he:=dt he
    have hjd:j<d:=by omega
    refine ex_skip (xq ?_)
    refine ex_seq (ex_block (exr (mV L rfl (aV L rfl (zn [(3,_),(4,_),(6,_),(8,_),(9,_),(10,_),(34,_),(35,_),(36,_),(44,_),(45,_)] [(3,_),(4,_),(6,_),(42,_),(78,_)] t11 t5 (exr (sw (c_fa un24 rfl sz22 dC rX L) t1 t1 ?_)))))))
    refine sw (c_l1 ag22 rF rF L) t1 t1 ?_
    refine sw (c_ln un22 L) t1 t0 (swb (core_make (sz:=4) (k:=51) un40 ti47 rfl rfl dC rfl rfl rfl (show (0:Int)=((0:Nat):Int) from rfl) rfl (Nat.zero_le _) (by simp [Tryz.t47]; omega) oM (P0 _ rfl) L) t2 t0 ⟨rfl,rfl⟩ ?_)
    refine aV L rfl ?_
    refine seq_nil ⟨[(3,_),(4,_),(6,_),(8,_),(9,_),(10,_),(11,.ref 51 0 0 0),(34,_),(35,_),(36,_),(44,_),(45,_)],[(3,_),(4,_),(6,_),(42,_),(51,rowBlk []),(78,_)],t12,t6,?_⟩
    refine ex_seq (exr (sw (c_fa un24 rfl sz22 dC rX L) t1 t1 ?_))
    refine sw (c_l1 ag22 rF rF L) t1 t1 ?_
    refine sw (c_ln un22 L) t1 t0 (mV L rfl (zn [(3,_),(4,_),(6,_),(8,_),(9,_),(10,_),(11,_),(34,_),(35,_),(36,_),(44,_),(45,_),(53,_),(54,_),(55,_)] [(3,_),(4,_),(6,_),(42,_),(51,_),(78,_)] t15 t6 (ex_block ?_)))
    refine exl (α:=Nat) (fun k=>[(55,vi (k:Int)),(11,.ref 51 0 k (k*4))]) (fun k=>[(51,rowBlk (colM (N.take k) j))]) (fun k=>k≤N.length) (fun k=>N.length - k) (0) (sl:=[(3,_),(4,_),(6,_),(8,_),(9,_),(10,_),(34,_),(35,_),(36,_),(44,_),(45,_),(53,_),(54,_)]) (hb:=[(3,_),(4,_),(6,_),(42,_),(78,_)]) ?_ ⟨oR,oR,rfl,rfl,rfl,rfl,rfl,rfl,rfl,rfl,rfl,rfl,rfl,rfl,rfl,trivial⟩ t6 ?_
    ·exact Nat.zero_le _
    intro k hk
    refine exr (sw (c_ls L) t2 t0 (zn [(3,_),(4,_),(6,_),(8,_),(9,_),(10,_),(11,_),(34,_),(35,_),(36,_),(44,_),(45,_),(53,_),(54,_),(55,_),(56,_)] [(3,_),(4,_),(6,_),(42,_),(51,_),(78,_)] t16 t6 (ex_seq ?_)))
    refine ex_if rfl (fun hf=>?_) (fun hf=>?_)
    ·have hf:=dt hf
     have hk2:k<N.length:=by omega
     have hrl2:=h2.get hk2
     refine ex_skip (xq ?_)
     refine ex_seq (ex_block (exr (sw (ixJ un22 sz40 (j:=k) rO oM sM L) t2 t0 ?_)))
     refine sw (c_li ag40 (getM0 hk2) L) t1 t0 (aV L rfl (zn [(3,_),(4,_),(6,_),(8,_),(9,_),(10,_),(11,_),(13,_),(34,_),(35,_),(36,_),(44,_),(45,_),(53,_),(54,_),(55,_)] [(3,_),(4,_),(6,_),(42,_),(51,_),(78,_)] t16 t6 (exr0 (mV L rfl (mV L rfl (mV L rfl (sw (core_indexAddrJ un40 sz47 oM oM sM dC L) t2 t0 ?_)))))))
     refine sw (c_la ag47 sz47 (getQ (show j<(N.getD k []).length by omega)) rfl L) t1 t0 ?_
     refine sw (c_bI (vs:=[_]) un40 ti47 rfl rfl dC dC rfl (zs_made (.cons rfl (.cons rfl (.cons rfl (.cons rfl .nil)))) rfl) rfl (.cons rfl pa4 rfl pu4 .nil) (.cons (.cons (.cons (.cons .nil)))) L) t1 t0 (swb (apP (sz:=4) un40 un40 ti47 rfl rfl rfl dC (by exact (by first | (simp; done) | (simp; omega))) oF sM rfl rfl rfl (by first | (simp [Tryz.t47]; done) | (simp [Tryz.t47]; omega)) oM (P0 _ rfl) L) t2 t1 t0 ?_)
     refine aV L rfl (seq_nil (exr0 (sw (c_ad L (w64 oM oM)) t2 t0 (mV L rfl (seq_nil ?_)))))
     exact ⟨k+1,oM,by omega,le_of ⟨oR,ov rfl sO,rfl,rfl,rfl,rfl,rfl,rfl,rfl,rfl,rfl,rfl,rfl,rfl,rfl,trivial⟩ ⟨obl rfl ((rowSn _ _).trans (by rw [colM_take hk2])),rfl,rfl,rfl,rfl,rfl,trivial⟩⟩
    ·have hf:=df hf
     have hkM:k=N.length:=by omega
     subst hkM
     rw [List.take_length]
     refine ex_exit (xq ?_)
     refine ex_cv [51] (sl:=[(3,_),(4,_),(6,_),(8,_),(9,_),(10,_),(11,_),(34,_),(35,_),(36,_),(44,_),(45,_)]) (hb:=[(3,_),(4,_),(6,_),(42,_),(78,_)]) (own_none hX0) ⟨⟨_,rfl,.same⟩,⟨_,rfl,.same⟩,⟨_,rfl,.same⟩,⟨_,rfl,.same⟩,⟨_,rfl,.same⟩,⟨_,rfl,.same⟩,⟨_,rfl,(.ref rfl rfl (by exact (by first | (simp; done) | (simp; omega))) (by first | rfl | omega))⟩,⟨_,rfl,.same⟩,⟨_,rfl,.same⟩,⟨_,rfl,.same⟩,⟨_,rfl,.same⟩,⟨_,rfl,.same⟩,trivial⟩ ⟨⟨rfl,_,rfl,.same⟩,⟨rfl,_,rfl,.same⟩,⟨rfl,_,rfl,.same⟩,⟨rfl,_,rfl,.same⟩,⟨rfl,_,rfl,.same⟩,trivial⟩ ?_
     rw [show Pure.sl N.length (encQ (colM N j))=pV (colM N j) by rw [pV,colM_length]]
     refine exr0 (mV L rfl (mV L rfl (mV L rfl (mV L rfl (cK hG hX cl70 hN (dot_says (M.getD i []) (colM N j) B B (by rw [hrl,colM_length,hcN]) oM (fun a ha=>hB _ (gDL hia) a ha) (fun a ha=>colB hB2 hjd h2.len a ha) oM oM (by rw [hrl]; have:=Nat.mul_le_mul_right (B+B+1) hc60; omega)) L t2 ?_)))))
     refine sw (ixA0 (sz:=4) un40 sz47 (by exact (fill_length (mulR_length _ _ _) hj)) (j:=j) rO oM L) t2 t1 ?_
     refine sb (c_sn (n:=4) sz47 (by exact (fill_length (mulR_length _ _ _) hj)) rfl oM) t2 t1 ?_
     refine seq_nil (exr0 (sw (c_ad L (w64 oM oM)) t2 t0 (mV L rfl (seq_nil ?_))))
     exact ⟨j+1,oM,by omega,le_of ⟨oR,rfl,rfl,rfl,rfl,rfl,rfl,rfl,rfl,rfl,trivial⟩ ⟨obl rfl (congrArg (fun c=>(⟨47,4,.pure c⟩:Blk)) ((fill_step (mulR_length _ _ _) hjd (dotQ (M.getD i []) (colM N j))).trans (by rw [mulR_succ]))),rfl,rfl,rfl,rfl,trivial⟩⟩
   ·have he:=df he
    have hjd:j=d:=by omega
    subst hjd
    refine ex_exit (xq ?_)
    refine ex_cv [42] (sl:=[(3,_),(4,_),(6,_),(9,_),(34,_),(35,_),(36,_)]) (hb:=[(3,_),(4,_),(6,_),(78,_)]) (own_none hX0) ⟨⟨_,rfl,.same⟩,⟨_,rfl,.same⟩,⟨_,rfl,.same⟩,⟨_,rfl,(.ref rfl rfl (by exact (fill_length (mulR_length _ _ _) hj)) (by first | rfl | omega))⟩,⟨_,rfl,.same⟩,⟨_,rfl,.same⟩,⟨_,rfl,.same⟩,trivial⟩ ⟨⟨rfl,_,rfl,.same⟩,⟨rfl,_,rfl,.same⟩,⟨rfl,_,rfl,.same⟩,⟨rfl,_,rfl,.same⟩,trivial⟩ ?_
    rw [show encQ (mulR (M.getD i []) N j)++zrow (j - j) zc0=encQ (mulR (M.getD i []) N j) by simp [zrow]]
    refine exr0 (sw (c_fa un24 rfl sz22 dC rX L) t1 t1 ?_)
    refine sw (c_l1 ag22 rF rF L) t1 t1 ?_
    refine mV L rfl (sw (c_bI (vs:=[_]) un22 ti40 rfl rfl dC dC rfl (zs_made (.cons rfl .nil) rfl) rfl (.cons rfl .sl rfl pu1 .nil) (.cons .nil) L) t1 t0 (swb (apP (sz:=1) un22 un22 ti40 rfl rfl rfl dC (by exact (encM_length _)) oF sM rfl rfl rfl (by first | (simp [Tryz.t40]; done) | (simp [Tryz.t40]; omega)) oM (P0 _ rfl) L) t2 t1 t0 ?_))
    refine sw (c_fa un24 rfl sz22 dC rX L) t1 t1 ?_
    refine sb (c_sm sz22 rF .ref rfl (.skip pu1)) t2 t1 ?_
    refine seq_nil (exr0 (sw (c_ad L (w64 oM oM)) t2 t0 (mV L rfl (seq_nil ?_))))
    exact ⟨(i+1,q :: T++[mulR (M.getD i []) N j]),⟨by simp only; omega,ht⟩,(by simp only; omega),le_of ⟨oR,rfl,rfl,rfl,rfl,rfl,trivial⟩ (hbI (l':=[(6,_),(78,_),(3,_),(4,_)]) rfl ⟨obl rfl sM,obl rfl (matSn _ _ _ (mulR_length _ _ _)),rfl,rfl,trivial⟩)⟩
  ·have hc:=df hc
   have hia:i=M.length:=by omega
   subst hia
   rw [List.take_length] at hT
   refine ex_exit (xq ?_)
   refine exr (sw (c_lA ag24 sz24 rF (by exact (.cons (.cons .nil))) rfl L) t1 t1 ?_)
   refine sb (c_sm sz24 rF .agg rfl pu2) t2 t1 ?_
   refine aV L rfl (zn [(4,_),(5,_)] [(4,_),(78,_)] t2 t2 (ex_cv [78] (sl:=[(4,_),(5,_)]) (hb:=[(4,_)]) (own_none hX0) ⟨⟨_,rfl,.same⟩,⟨_,rfl,.same⟩,trivial⟩ ⟨⟨rfl,_,rfl,(.mix (.cons .same (.cons (.ref rfl rfl (by exact (encM_length _)) (by first | rfl | omega)) .nil)))⟩,trivial⟩ ?_))
   refine ex_ret ?_
   refine ⟨.inr rfl,ResVs.cast (.cons (.agg rfl rfl rfl ag24 sz24 (.cons (.cons .nil))) (.cons (.tmp rfl) .nil)) ?_⟩
   rw [hT]
theorem nt {p:Prop}[Decidable p](h:(!decide p)=true):¬ p:=by simpa using h
theorem nf {p:Prop}[Decidable p](h:(!decide p)=false):p:=by simpa using h
theorem qw_tak {v u:List Rat}{c:Rat}{j B C D:Nat}(hv:∀ a∈v,qw a≤B)(hu:∀ a∈u,qw a≤C)(hc:qw c≤D):∀ a∈tak v u c j,qw a≤B+(D+C)+1:=by
 intro a ha
 rcases List.mem_append.1 ha with h | h
 ·have h1:=List.mem_of_mem_take h
  rw [List.zipWith_eq_zipWith_take_min,List.mem_iff_getElem?] at h1
  obtain ⟨i,hi⟩:=h1
  rw [← List.zipWith_eq_zipWith_take_min,List.getElem?_zipWith] at hi
  split at hi
  ·rename_i x y h3 h4
   obtain rfl:=by simpa using hi
   have h5:=qw_sub x (c*y)
   have h6:=qw_mul c y
   have:=hv x (List.mem_of_getElem? h3)
   have:=hu y (List.mem_of_getElem? h4)
   omega
  ·cases hi
 ·have:=hv a (List.mem_of_mem_drop h); omega
theorem rtake_says (s:Nat)(m:List (List Rat))(i k:Nat)(c:Rat)(B C D:Nat)(h2:s<9)(hi:i<m.length)(hk:k<m.length)(hne:i≠k)(hlen:(m.getD k []).length=(m.getD i []).length)(hl:(m.getD i []).length<1000000000)(hB:∀ a∈m.getD i [],qw a≤B)(hC:∀ a∈m.getD k [],qw a≤C)(hD:qw c≤D)(hb:B+(D+C)+1<1000000000):SaysG E (fun _=>true) 99 [.ref (s+1001) 0 m.length m.length,.p (vZ i),.p (vZ k),.p (pQ c)] (mat1 s m) (mat1 s (m.set i (List.zipWith (fun a b=>a - c*b) (m.getD i []) (m.getD k [])))) (.p (.tup [])):=by
 refine saysG_dat (xs:=[]) Tryz.func99 rfl Tryz.ntmps99 Tryz.results99 sM fun F G=>?_
 have L:=@lti _ _ G.nt
 have hG:=G.g
 have hX:=G.x
 have hN:=ng_le hG
 have P0:∀ k,Nat.blt k 1000=true→F.pin k=none:=fun k hk=>G.p0 k ((mat1_ok h2 m).low k hk)
 refine exr (swb (c_bx (k:=7) (n:=4) pa4 rfl rfl (P0 _ rfl) L) t1 t0 (frT [] (mat1_ok h2 m) rfl rfl rfl) ?_)
 refine seq_nil ⟨[(0,_),(1,_),(2,_),(7,_)],(7,_) :: ((mat1 s m)),t4,⟨rfl,(hbT [_] (mat1_ok h2 m) rfl)⟩,?_⟩
 refine exr (mV L rfl (mV L rfl (sw (ixR0 un77 sz40 (by first | exact refsB_length _ _ _ | exact (refsB_length _ _ _).trans sM | simp [Cells.len]) (j:=k) rO oM L) t2 ⟨rdT [_] (mat1_ok h2 m) rfl hdL,trivial⟩ ?_)))
 refine sw (c_l1 ag40 (by first | exact refsB_length _ _ _ | exact (refsB_length _ _ _).trans sM) (hdGet hk) L) t1 ⟨rdT [_] (mat1_ok h2 m) rfl hdL,trivial⟩ ?_
 refine sw (c_lr un40 (by first | exact encQ_length _ | exact (encQ_length _).trans oM) L) t1 ⟨rdT [_] (mat1_ok h2 m) rfl (rwL h2 hk),trivial⟩ ?_
 refine mV L rfl ?_
 refine seq_nil ⟨[(0,_),(1,_),(7,_),(13,_),(14,_),(15,_)],(7,_) :: ((mat1 s m)),t6,⟨rfl,(hbT [_] (mat1_ok h2 m) rfl)⟩,?_⟩
 have hku:m.getD k []=(m.set i (m.getD i [])).getD k []:=by rw [set_getD]
 obtain ⟨v,hv⟩:∃ v,v=m.getD i []:=⟨_,rfl⟩
 obtain ⟨u,hu⟩:∃ u,u=m.getD k []:=⟨_,rfl⟩
 have hru:=fun (r:List Rat)=>(show (mat1 s (m.set i r)).lookup (rowN s k)=some (rowBlk u) from by rw [hu]; exact rwO h2 hk hne)
 rw [← hv,← hu] at hlen
 rw [← hv] at hl hB ⊢
 rw [← hu] at hC ⊢
 refine ex_block ?_
 refine exlT (α:=Nat) (fun j=>[(15,vi (j:Int))]) (fun j=>[]) (fun j=>(mat1 s (m.set i (tak v u c j)))) (fun j=>j≤v.length) (fun j=>v.length - j) (0) (sl:=[(0,_),(1,_),(7,_),(13,_),(14,_)]) (hb:=[(7,_)]) ?_ ⟨oR,rfl,rfl,rfl,rfl,rfl,trivial⟩ ⟨rfl,(by rw [tak_zero,hv,set_getD]; exact hbT [_] (mat1_ok h2 m) rfl)⟩ ?_
 ·exact Nat.zero_le _
 intro j hj
 have htl:=tak_length (v:=v) (u:=u) c j hlen
 have hq:=qw_tak (j:=j) hB hC hD
 refine exr (sw (c_ls L) t2 t0 ?_)
 refine seq_nil ⟨[(0,_),(1,_),(7,_),(13,_),(14,_),(15,_),(16,_)],(7,_) :: ((mat1 s (m.set i (tak v u c j)))),t7,⟨rfl,(hbT [_] (mat1_ok h2 (m.set i (tak v u c j))) rfl)⟩,?_⟩
 refine ex_seq ?_
 refine ex_if rfl (fun hc2=>?_) (fun hc2=>?_)
 ·have hc2:=dt hc2
  have hk2:j<v.length:=by omega
  have hk3:j<u.length:=by omega
  have hk5:j<(m.getD k []).length:=by rw [← hu]; omega
  have hk4:j<(tak v u c j).length:=by omega
  refine ex_skip (xq ?_)
  refine ex_seq (ex_block (exr (mV L rfl (sw (ixA0 un40 sz47 (by first | exact encQ_length _ | exact (encQ_length _).trans oM) (j:=j) rO oM L) t2 ⟨rdT [_] (mat1_ok h2 (m.set i (tak v u c j))) rfl (hru _),trivial⟩ ?_))))
  refine sw (c_lq ag47 sz47 (by first | exact encQ_length _ | exact (encQ_length _).trans oM) (getQ hk3) rfl L) t1 ⟨rdT [_] (mat1_ok h2 (m.set i (tak v u c j))) rfl (hru _),trivial⟩ ?_
  refine swb (c_al (k:=9) (n:=4) zv47 (.cons rfl (.cons rfl (.cons rfl (.cons rfl .nil)))) rfl (P0 _ rfl) L) t0 t0 (frT [_] (mat1_ok h2 (m.set i (tak v u c j))) rfl rfl rfl) (aV L rfl (sb (c_sm sz47 rF pa4 rfl pu4) t2 t1 ?_))
  refine seq_nil ⟨[(0,_),(1,_),(7,_),(8,_),(9,_),(13,_),(14,_),(15,_)],(7,_) :: (9,_) :: ((mat1 s (m.set i (tak v u c j)))),t8,⟨rfl,rfl,(hbT [_,_,_] (mat1_ok h2 (m.set i (tak v u c j))) rfl)⟩,?_⟩
  refine exr (lp4 ag47 sz47 L rfl rfl (cK hG hX cl65 hN (zero_says (u.getD j 0) (by have:=hC _ (getD_mem hk3); omega)) L t1 ?_))
  refine sw (c_no L) t1 t0 ?_
  refine seq_nil ⟨[(0,_),(1,_),(7,_),(8,_),(9,_),(13,_),(14,_),(15,_),(22,_)],(7,_) :: (9,_) :: ((mat1 s (m.set i (tak v u c j)))),t9,⟨rfl,rfl,(hbT [_,_] (mat1_ok h2 (m.set i (tak v u c j))) rfl)⟩,?_⟩
  refine ex_if rfl (fun h0=>?_) (fun h0=>?_)
  ·have h0:=nt h0
   refine exd0 rF ?_
   refine mV L rfl (mV L rfl (sw (ixR0 un77 sz40 (by first | exact refsB_length _ _ _ | exact (refsB_length _ _ _).trans sM | simp [Cells.len]) (j:=i) rO oM L) t2 ⟨rdT [_,_] (mat1_ok h2 (m.set i (tak v u c j))) rfl hdL,trivial⟩ ?_))
   refine sw (c_l1 ag40 (by first | exact refsB_length _ _ _ | exact (refsB_length _ _ _).trans sM) (hdGetS hi htl) L) t1 ⟨rdT [_,_] (mat1_ok h2 (m.set i (tak v u c j))) rfl hdL,trivial⟩ ?_
   refine mV L rfl (mV L rfl (mV L rfl (sw (ixR0 un77 sz40 (by first | exact refsB_length _ _ _ | exact (refsB_length _ _ _).trans sM | simp [Cells.len]) (j:=i) rO oM L) t2 ⟨rdT [_,_] (mat1_ok h2 (m.set i (tak v u c j))) rfl hdL,trivial⟩ ?_)))
   refine sw (c_l1 ag40 (by first | exact refsB_length _ _ _ | exact (refsB_length _ _ _).trans sM) (hdGetS hi htl) L) t1 ⟨rdT [_,_] (mat1_ok h2 (m.set i (tak v u c j))) rfl hdL,trivial⟩ ?_
   refine mV L rfl (sw (ixA0 un40 sz47 (by first | exact encQ_length _ | exact (encQ_length _).trans oM) (j:=j) rO oM L) t2 ⟨rdT [_,_] (mat1_ok h2 (m.set i (tak v u c j))) rfl (rwS h2 hi),trivial⟩ ?_)
   refine sw (c_lq ag47 sz47 (by first | exact encQ_length _ | exact (encQ_length _).trans oM) (getQ hk4) rfl L) t1 ⟨rdT [_,_] (mat1_ok h2 (m.set i (tak v u c j))) rfl (rwS h2 hi),trivial⟩ ?_
   refine lp4 ag47 sz47 L rfl rfl (lp4 ag47 sz47 L rfl rfl (cK hG hX cl67 hN (qmul_says c (u.getD j 0) oM (by have:=hC _ (getD_mem hk3); omega)) L t2 ?_))
   refine cK hG hX cl127 hN (qsub_says ((tak v u c j).getD j 0) (c*u.getD j 0) (by have:=hq _ (getD_mem hk4); omega) (by have:=qw_mul c (u.getD j 0); have:=hC _ (getD_mem hk3); omega)) L t2 ?_
   refine sw (ixA0 un40 sz47 (by first | exact encQ_length _ | exact (encQ_length _).trans oM) (j:=j) rO oM L) t2 ⟨rdT [_,_] (mat1_ok h2 (m.set i (tak v u c j))) rfl (rwS h2 hi),trivial⟩ ?_
   refine sb (c_sn (n:=4) sz47 (by first | exact encQ_length _ | exact (encQ_length _).trans oM) rfl oM) t2 ⟨rdT [_,_] (mat1_ok h2 (m.set i (tak v u c j))) rfl (rwS h2 hi),trivial⟩ ?_
   refine seq_nil ⟨aokF [⟨[0],[],[23],[]⟩,⟨[1],[],[24],[]⟩,⟨[23,24],[1000],[25],[]⟩,⟨[25],[1000],[26],[]⟩,⟨[8],[],[27],[]⟩,⟨[0],[],[28],[]⟩,⟨[1],[],[29],[]⟩,⟨[28,29],[1000],[30],[]⟩,⟨[30],[1000],[31],[]⟩,⟨[8],[],[32],[]⟩,⟨[31,32],[1000],[33],[]⟩,⟨[33],[1000],[34],[]⟩,⟨[7],[7],[35],[]⟩,⟨[9],[9],[36],[]⟩,⟨[35,36],[],[37],[]⟩,⟨[34,37],[],[38],[]⟩,⟨[26,27],[1000],[39],[]⟩,⟨[39,38],[1000],[],[1000]⟩] (.cons (cf0 rfl) (.cons (cf0 rfl) (.cons (cfT rfl rfl (cls1 (by first | exact hdN_hi _ | exact rowN_hi _ _)) rfl (fun _ h=>by cases h)) (.cons (cfT rfl rfl (cls1 (by first | exact hdN_hi _ | exact rowN_hi _ _)) rfl (fun _ h=>by cases h)) (.cons (cf0 rfl) (.cons (cf0 rfl) (.cons (cf0 rfl) (.cons (cfT rfl rfl (cls1 (by first | exact hdN_hi _ | exact rowN_hi _ _)) rfl (fun _ h=>by cases h)) (.cons (cfT rfl rfl (cls1 (by first | exact hdN_hi _ | exact rowN_hi _ _)) rfl (fun _ h=>by cases h)) (.cons (cf0 rfl) (.cons (cfT rfl rfl (cls1 (by first | exact hdN_hi _ | exact rowN_hi _ _)) rfl (fun _ h=>by cases h)) (.cons (cfT rfl rfl (cls1 (by first | exact hdN_hi _ | exact rowN_hi _ _)) rfl (fun _ h=>by cases h)) (.cons (cf0 rfl) (.cons (cf0 rfl) (.cons (cf0 rfl) (.cons (cf0 rfl) (.cons (cfT rfl rfl (cls1 (by first | exact hdN_hi _ | exact rowN_hi _ _)) rfl (fun _ h=>by cases h)) (.cons (cfT rfl rfl (cls1 (by first | exact hdN_hi _ | exact rowN_hi _ _)) rfl (cls1 (by first | exact hdN_hi _ | exact rowN_hi _ _)))  .nil)))))))))))))))))) rfl (frS [] [_,_] (mat1_ok h2 (m.set i (tak v u c j))) rfl rfl) dC,(show Exec _ _ _ _ _ from exw (sl:=[(0,_),(1,_),(7,_),(13,_),(14,_),(15,_)]) (hb:=(7,_) :: ((mat1 s (m.set i (tak v u c (j+1)))))) t6 ⟨rfl,(hbS [_,_] rfl h2 hi ((setBlk _ hk4).trans (by rw [tak_succ hk2 hlen])) (by simp only [tak_length c _ hlen]))⟩ ?_)⟩
   refine exr0 (sw (c_ad L (w64 oM oM)) t2 t0 (mV L rfl (seq_nil ?_)))
   exact ⟨j+1,oM,by omega,le_of ⟨oR,rfl,rfl,rfl,rfl,rfl,trivial⟩ ⟨rfl,(hbT [_] (mat1_ok h2 (m.set i (tak v u c (j+1)))) rfl)⟩⟩
  ·have h0:=nf h0
   refine ex_skip (xq ?_)
   refine exr0 (sw (c_ad L (w64 oM oM)) t2 t0 (mV L rfl (seq_nil ?_)))
   exact ⟨j+1,oM,by omega,le_of ⟨oR,rfl,rfl,rfl,rfl,rfl,trivial⟩ ⟨rfl,(by rw [← tak_skip hk2 hlen h0]; exact hbT [_,_] (mat1_ok h2 _) rfl)⟩⟩
 ·have hc2:=df hc2
  refine ex_exit ?_
  refine ⟨.inl rfl,ResVs.cast .nil ?_,(by rw [← tak_end hlen,show v.length=j by omega]; exact hbT [_] (mat1_ok h2 _) rfl)⟩
  rfl
end Go.Proofs.YtjagfionflbjbaaGreat.N
namespace Go.Proofs.YtjagfionflbjbaaGreat.SH
open Go Go.RowKit
theorem saysG_ren {E : Env} {st st' : Nat → Bool} {f : FuncId} {args : List PV} {H H' H1 : List (Nat × Blk)} {r r1 : PV} (κ : Nat → Nat) (h : SaysG E st f args H H1 r1) (hr : r1 = r.ren κ)
    (hb:∀ j B,H'.lookup j=some B→H1.lookup (κ j)=some (B.ren κ)) (inj:∀ j j',H'.lookup j≠none→H'.lookup j'≠none→κ j=κ j'→j=j')
    (hnew:∀ j,H'.lookup j≠none→H.lookup j=none→H.lookup (κ j)=none) (hst:∀ j,H'.lookup j≠none→H.lookup j≠none→st' j=true→κ j=j∧st j=true):SaysG E st' f args H H' r:=by
  intro ok ρ w vals hG hH hinj hrel
  refine Calls.mono (h ok ρ w vals hG hH hinj hrel) fun e w' ⟨v,ρ1,he,hp⟩=>⟨v,fun j=>ρ1 (κ j),he,?_⟩
  have hin:∀ j,H'.lookup j≠none→H1.lookup (κ j)≠none:=fun j hj=>by
    obtain ⟨B,hB⟩:=lookup_some hj
    rw [hb j B hB]; simp
  have hok:Carry (okG ok w H1 ρ1) (okG ok w H' fun j=>ρ1 (κ j)) (Go.Proofs.YtjagfionflbjbaaGreat.SH.hp w') (Go.Proofs.YtjagfionflbjbaaGreat.SH.hp w'):=fun b hb' _=>⟨⟨hb'.1,fun j hj=>hb'.2 _ (hin j hj)⟩,rfl⟩
  have hH1:∀ j B,lk H' j=some B→∃ B',lk H1 (κ j)=some B'∧B'.sz=B.sz∧B'.cs.len=B.cs.len:=fun j B hj=>⟨_,hb j B hj,rfl,Cells.ren_len _ _⟩
  have hrv:∀ x v,RelV (lk H1) ρ1 (okG ok w H1 ρ1) (Go.Proofs.YtjagfionflbjbaaGreat.SH.hp w') (x.ren κ) v→RelV (lk H') (fun j=>ρ1 (κ j)) (okG ok w H' fun j=>ρ1 (κ j)) (Go.Proofs.YtjagfionflbjbaaGreat.SH.hp w') x v:=fun x v hx =>
    RelV.mono (K:=fun _=>True) hok (fun k _ B' hB'=>⟨B',hB',rfl,Nat.le_refl _,fun _=>⟨rfl,fun c T fr hc=>⟨c,T,fr,hc,rfl⟩⟩⟩) x v (fun _ _=>trivial) (ren_of hH1 x v hx)
  exact {
    res:=hrv r v (hr ▸ hp.res)
    blk:=fun j B' hj=>by
      obtain ⟨c,h1,h2,h3⟩:=hp.blk (κ j) _ (hb j B' hj)
      refine ⟨c,h1,by rw [← Cells.ren_len κ]; exact h2,fun i x hx=>?_⟩
      obtain ⟨u,hu,h4,h5⟩:=h3 i (x.ren κ) (by show (B'.cs.ren κ).get i=_; rw [Cells.ren_get,hx]; rfl)
      exact ⟨u,hu,h4,hrv x u h5⟩
    inj:=fun j j' hj hj' e=>inj j j' hj hj' (hp.inj _ _ (hin j hj) (hin j' hj') e)
    old:=fun j hj hj'=>by
      by_cases hk:H.lookup (κ j)=none
      · exact .inr (hp.new _ (hin j hj) hk)
      · exact hp.old _ (hin j hj) hk
    new:=fun j hj hj'=>hp.new _ (hin j hj) (hnew j hj hj')
    stay:=fun j hj hj' hs=>by
      obtain ⟨e,hs'⟩:=hst j hj hj' hs
      have:=hp.stay j (by have:=hin j hj; rwa [e] at this) hj' hs'
      show ρ1 (κ j)=_∧_
      rw [e]; exact this
    os:=hp.os
    tape:=hp.tape
    output:=hp.output
    size:=hp.size
    frame:=hp.frame }
end Go.Proofs.YtjagfionflbjbaaGreat.SH
set_option maxRecDepth 100000
set_option maxHeartbeats 4000000
namespace Go.Proofs.YtjagfionflbjbaaGreat.N
open Go Go.Proofs.YtjagfionflbjbaaGreat.SH Go.Proofs.YtjagfionflbjbaaGreat.NumA
open Go.Proofs.Tryz renaming isAgg40→ag40,sizeOf40→sz40,underlying77→un77
theorem updL_set:∀ {vs:List PV}{off:Nat}{u:PV},off<vs.length→UpdL vs off [u] (vs.set off u)
 | [],_,_,h=>by simp at h
 | v :: vs,0,u,_=>.put .here
 | v :: vs,n+1,u,h=>.skip (updL_set (by simpa using h))
theorem lkH {sl:List (Nat×PV)}{k:Nat}{B:Blk}{r:List (Nat×Blk)}:St.blk ⟨sl,(k,B) :: r⟩ k=some B:=by show List.lookup k _=_; simp
def rowR (s i n:Nat):PV:=.ref (rowN s i) 0 n (n*4)
def swH (s:Nat)(m:List (List Rat))(i k:Nat):List (Nat×Blk):=(s+1001,⟨40,1,.mix (((refsB s 0 m).set i (rowR s k (m.getD k []).length)).set k (rowR s i (m.getD i []).length))⟩) :: rowsB s 0 m
theorem swHb {sl:List (Nat×PV)}{s:Nat}{m:List (List Rat)}{i k:Nat}{B:Blk}(h2:s<9):HasB ⟨sl,(s+1001,⟨40,1,.mix (((refsB s 0 m).set i (rowR s k (m.getD k []).length)).set k (rowR s i (m.getD i []).length))⟩) :: (s+1001,B) :: ([]++mat1 s m)⟩ (swH s m i k):=by
 have hnd:=(mat1_ok h2 m).nd
 refine hasB_of (by simpa [swH,mat1] using hnd) fun j C hj=>?_
 show List.lookup j _=some C
 rw [swH,List.lookup_cons] at hj
 rw [List.lookup_cons]
 by_cases e:j=s+1001
 ·subst e; simpa using hj
 ·rw [show (j == s+1001)=false by simpa using e] at hj ⊢
  simp only [List.nil_append,mat1,List.lookup_cons]
  rw [show (j == s+1001)=false by simpa using e]; exact hj
theorem swap0_says (s:Nat)(m:List (List Rat))(i k:Nat)(h2:s<9)(hi:i<m.length)(hk:k<m.length):SaysG E (fun k=>Nat.blt k 1100) 94 [.ref (s+1001) 0 m.length m.length,.p (vZ i),.p (vZ k)] (mat1 s m) (swH s m i k) (.p (.tup [])):=by
 refine saysG_dat (xs:=[]) Tryz.func94 rfl Tryz.ntmps94 Tryz.results94 sM fun F G=>?_
 have L:=@lti _ _ G.nt
 have hG:=G.g
 have hX:=G.x
 have hN:=ng_le hG
 have P0:∀ k,Nat.blt k 1000=true→F.pin k=none:=fun k hk=>G.p0 k ((mat1_ok h2 m).low k hk)
 refine exd0 rF ?_
 refine mV L rfl (mV L rfl (mV L rfl (mV L rfl (mV L rfl (mV L rfl (sw (ixR0 un77 sz40 (by first | exact refsB_length _ _ _ | exact (refsB_length _ _ _).trans sM | simp [Cells.len]) (j:=k) rO oM L) t2 ⟨rdT [] (mat1_ok h2 m) rfl hdL,trivial⟩ ?_))))))
 refine sw (c_l1 ag40 (by first | exact refsB_length _ _ _ | exact (refsB_length _ _ _).trans sM) (hdGet hk) L) t1 ⟨rdT [] (mat1_ok h2 m) rfl hdL,trivial⟩ ?_
 refine mV L rfl (mV L rfl (sw (ixR0 un77 sz40 (by first | exact refsB_length _ _ _ | exact (refsB_length _ _ _).trans sM | simp [Cells.len]) (j:=i) rO oM L) t2 ⟨rdT [] (mat1_ok h2 m) rfl hdL,trivial⟩ ?_))
 refine sw (c_l1 ag40 (by first | exact refsB_length _ _ _ | exact (refsB_length _ _ _).trans sM) (hdGet hi) L) t1 ⟨rdT [] (mat1_ok h2 m) rfl hdL,trivial⟩ ?_
 refine sw (ixR0 un77 sz40 (by first | exact refsB_length _ _ _ | exact (refsB_length _ _ _).trans sM | simp [Cells.len]) (j:=i) rO oM L) t2 ⟨rdT [] (mat1_ok h2 m) rfl hdL,trivial⟩ ?_
 refine sb (c_sm sz40 sM .ref rfl (updL_set sO)) t2 ⟨rdT [] (mat1_ok h2 m) rfl hdL,trivial⟩ ?_
 refine sw (ixR0 un77 sz40 (by first | exact refsB_length _ _ _ | exact (refsB_length _ _ _).trans sM | simp [Cells.len]) (j:=k) rO oM L) t2 ⟨lkH,trivial⟩ ?_
 refine sb (c_sm sz40 sM .ref rfl (updL_set sO)) t2 ⟨lkH,trivial⟩ ?_
 refine seq_nil ⟨aokF [⟨[0],[],[6],[]⟩,⟨[1],[],[7],[]⟩,⟨[0],[],[8],[]⟩,⟨[2],[],[9],[]⟩,⟨[0],[],[10],[]⟩,⟨[2],[],[11],[]⟩,⟨[10,11],[1000],[12],[]⟩,⟨[12],[1000],[13],[]⟩,⟨[0],[],[14],[]⟩,⟨[1],[],[15],[]⟩,⟨[14,15],[1000],[16],[]⟩,⟨[16],[1000],[17],[]⟩,⟨[6,7],[1000],[18],[]⟩,⟨[18,13],[1000],[],[1000]⟩,⟨[8,9],[1000],[19],[]⟩,⟨[19,17],[1000],[],[1000]⟩] (.cons (cf0 rfl) (.cons (cf0 rfl) (.cons (cf0 rfl) (.cons (cf0 rfl) (.cons (cf0 rfl) (.cons (cf0 rfl) (.cons (cfT rfl rfl (cls1 (by first | exact hdN_hi _ | exact rowN_hi _ _)) rfl (fun _ h=>by cases h)) (.cons (cfT rfl rfl (cls1 (by first | exact hdN_hi _ | exact rowN_hi _ _)) rfl (fun _ h=>by cases h)) (.cons (cf0 rfl) (.cons (cf0 rfl) (.cons (cfT rfl rfl (cls1 (by first | exact hdN_hi _ | exact rowN_hi _ _)) rfl (fun _ h=>by cases h)) (.cons (cfT rfl rfl (cls1 (by first | exact hdN_hi _ | exact rowN_hi _ _)) rfl (fun _ h=>by cases h)) (.cons (cfT rfl rfl (cls1 (by first | exact hdN_hi _ | exact rowN_hi _ _)) rfl (fun _ h=>by cases h)) (.cons (cfT rfl rfl (cls1 (by first | exact hdN_hi _ | exact rowN_hi _ _)) rfl (cls1 (by first | exact hdN_hi _ | exact rowN_hi _ _))) (.cons (cfT rfl rfl (cls1 (by first | exact hdN_hi _ | exact rowN_hi _ _)) rfl (fun _ h=>by cases h)) (.cons (cfT rfl rfl (cls1 (by first | exact hdN_hi _ | exact rowN_hi _ _)) rfl (cls1 (by first | exact hdN_hi _ | exact rowN_hi _ _)))  .nil)))))))))))))))) rfl (frS [] [] (mat1_ok h2 m) rfl rfl) dC,?_⟩
 refine ⟨.inl rfl,ResVs.cast .nil ?_,(swHb h2)⟩
 rfl
@[simp] theorem swapL_length (m:List (List Rat))(i k:Nat):(swapL m i k).length=m.length:=by simp [swapL]
theorem swapL_get {m:List (List Rat)}{i k j:Nat}(hi:i<m.length)(hk:k<m.length)(hne:i≠k):(swapL m i k)[j]? = if j=k then some (m.getD i []) else if j=i then some (m.getD k []) else m[j]?:=by
 simp only [swapL,List.getElem?_set,List.length_set]
 by_cases h1:k=j
 ·subst h1; simp [hk]
 ·rw [if_neg h1,if_neg (Ne.symm h1)]
  by_cases h2:i=j
  ·subst h2; simp [hi]
  ·rw [if_neg h2,if_neg (Ne.symm h2)]
def kap (s i k j:Nat):Nat:=if j=rowN s i then rowN s k else if j=rowN s k then rowN s i else j
theorem kap_row {s i k j:Nat}:kap s i k (rowN s j)=rowN s (if j=i then k else if j=k then i else j):=by
 unfold kap
 simp only [rowN_inj]
 split
 ·rfl
 ·split <;> rfl
theorem kap_low {s i k j:Nat}(h:j<1100):kap s i k j=j:=by
 unfold kap
 rw [if_neg (by unfold rowN; omega),if_neg (by unfold rowN; omega)]
theorem rows_lk0 {s j:Nat}{m:List (List Rat)}:(rowsB s 0 m).lookup (rowN s j)=(m[j]?).map rowBlk:=by
 have:=rows_lk (s:=s) (i:=0) (j:=j) (m:=m)
 rwa [Nat.zero_add] at this
theorem mat1_keys {s j:Nat}{m:List (List Rat)}(h2:s<9)(h:(mat1 s m).lookup j≠none):j=s+1001∨∃ q,q<m.length∧j=rowN s q:=by
 obtain ⟨B,hB⟩:=Option.ne_none_iff_exists'.1 h
 rw [mat1,List.lookup_cons] at hB
 by_cases e:j=s+1001
 ·exact .inl e
 ·rw [show (j == s+1001)=false by simpa using e] at hB
  obtain ⟨q,hq,e2⟩:=rows_mem (List.mem_map.2 ⟨_,lookup_mem hB,rfl⟩)
  exact .inr ⟨q,hq,by have e2:j=rowN s (0+q):=e2; rw [e2,Nat.zero_add]⟩
theorem mat1_has {s q:Nat}{m:List (List Rat)}(h2:s<9)(h:q<m.length):(mat1 s m).lookup (rowN s q)≠none:=by rw [rwL h2 h]; simp
theorem swap_says (s:Nat)(m:List (List Rat))(i k:Nat)(h2:s<9)(hi:i<m.length)(hk:k<m.length)(hne:i≠k):SaysG E (fun k=>Nat.blt k 1100) 94 [.ref (s+1001) 0 m.length m.length,.p (vZ i),.p (vZ k)] (mat1 s m) (mat1 s (swapL m i k)) (.p (.tup [])):=by
 refine saysG_ren (kap s i k) (swap0_says s m i k h2 hi hk) rfl (fun j B hj=>?_) (fun j j' hj hj' e=>?_) (fun j hj hj'=>?_) (fun j hj hj' hs=>?_)
 ·rcases mat1_keys h2 (show (mat1 s (swapL m i k)).lookup j≠none by rw [hj]; simp) with rfl | ⟨q,hq,rfl⟩
  ·rw [kap_low oM,swH]
   rw [hdL] at hj
   obtain rfl:=by simpa using hj
   rw [List.lookup_cons,BEq.rfl]
   refine congrArg (fun l=>some (⟨40,1,.mix l⟩:Blk)) ?_
   apply List.ext_getElem?
   intro j
   rw [List.getElem?_map,refs_get,swapL_get hi hk hne,Nat.zero_add,List.getElem?_set,List.getElem?_set]
   simp only [List.length_set,refsB_length]
   by_cases h1:j=k
   ·subst h1
    simp only [if_true,hk,Option.map_some,PV.ren,kap_row,rowR]
    rw [if_neg (Ne.symm hne)]
   ·rw [if_neg h1,if_neg (Ne.symm h1)]
    by_cases h3:j=i
    ·subst h3; simp [hi,PV.ren,kap_row,rowR]
    ·rw [if_neg h3,if_neg (Ne.symm h3),refs_get,Nat.zero_add]
     cases m[j]? with
     | none=>rfl
     | some v=>simp [PV.ren,kap_row,h1,h3]
  ·rw [swapL_length] at hq
   rw [kap_row,swH,List.lookup_cons,show ((rowN s (if q=i then k else if q=k then i else q)) == s+1001)=false by simp [rowN]; omega,rows_lk0]
   rw [rwL h2 (by rw [swapL_length]; exact hq)] at hj
   injection hj with hj
   subst hj
   show _=some (rowBlk _)
   have e:(swapL m i k).getD q []=m.getD (if q=i then k else if q=k then i else q) []:=by
    rw [List.getD_eq_getElem?_getD,swapL_get hi hk hne]
    by_cases h1:q=k
    ·subst h1; rw [if_pos rfl,if_neg (Ne.symm hne),if_pos rfl]; rfl
    ·rw [if_neg h1]
     by_cases h3:q=i
     ·rw [if_pos h3,if_pos h3]; rfl
     ·rw [if_neg h3,if_neg h3,if_neg h1,List.getD_eq_getElem?_getD]
   rw [e]
   show Option.map rowBlk _=_
   have hl:(if q=i then k else if q=k then i else q)<m.length:=by split; exact hk; split; exact hi; exact hq
   simp [List.getD_eq_getElem?_getD,hl]
 ·rcases mat1_keys h2 hj with rfl | ⟨q,hq,rfl⟩ <;> rcases mat1_keys h2 hj' with rfl | ⟨q',hq',rfl⟩
  ·rfl
  ·rw [kap_low oM,kap_row] at e; simp [rowN] at e; omega
  ·rw [kap_row,kap_low oM] at e; simp [rowN] at e; omega
  ·rw [kap_row,kap_row,rowN_inj] at e; rw [rowN_inj]; split at e <;> split at e <;> (try split at e) <;> (try split at e) <;> omega
 ·rcases mat1_keys h2 hj with rfl | ⟨q,hq,rfl⟩
  ·rw [hdL] at hj'; cases hj'
  ·exact absurd hj' (mat1_has h2 (by rwa [swapL_length] at hq))
 ·rw [Nat.blt_eq] at hs
  exact ⟨kap_low hs,by simpa [Nat.blt_eq] using hs⟩
end Go.Proofs.YtjagfionflbjbaaGreat.N
namespace Go.Proofs.YtjagfionflbjbaaGreat.SH
open Go Go.RowKit
structure NCall (st:Nat→Bool) (F:Fr) (S:St) (H H':List (Nat×Blk)) (slR:List (Nat×PV)) (hb2:List (Nat×Blk)):Prop where
  h1:∀ j B,H.lookup j=some B→S.blk j=some B
  hs:HasS S slR
  h2:∀ k B,hb2.lookup k=some B→H'.lookup k=some B∨(S.blk k=some B∧H.lookup k=none∧H'.lookup k=none∧∀ i x,B.cs.get i=some x→∀ q,x.free q=false→st q=false→H'.lookup q=none)
  fix:∀ q B1,st q=true→H'.lookup q=some B1→∃ B0,H.lookup q=some B0∧B1.sz=B0.sz∧B1.cs.len=B0.cs.len
  slot:∀ t v,slR.lookup t=some v→∀ q,v.free q=false→st q=false→H'.lookup q=none
  lo:∀ j,H.lookup j≠none→st j=false→F.lo j=false
  pin:∀ j,F.pin j≠none→st j=true
  whole:Whole H'
theorem nsI {E : Env} {st : Nat → Bool} {F : Fr} (hG : E.G F.w0) (hX : ∀ b, F.X b → E.ng ≤ b) (hng : E.ng ≤ F.w0.heap.size) {ops : Array Oper} {d : Nat} {f : FuncId} {op : Op} {T : TypeId} {pos : String} {aft : Array Edge} {xs : List PV} {S : St} {H H' : List (Nat × Blk)} {r : PV} {rs : List (Operand × PV)} {os : List Oper} {K : St → Prop} (slR : List (Nat × PV)) (hb2 : List (Nat × Blk)) (hs : SaysG E st f xs H H' r) (hlt : d < F.nt)
    (hargs:∀ ρ S a w,SatR F ρ S a w→(∀ p∈rs,S.opd p.1=some p.2)→∃ vals:List Value,(execOp a.eval ⟨some d,op,T,pos,aft,none⟩).run E.P w = .ok (.enter f vals.toArray) w∧RelVL S.blk ρ (okI F S.blk ρ) (hp w) xs vals)
    (hr:Reads S rs) (C:NCall st F S H H' slR hb2) (hres:∀ q,r.free q=false→H'.lookup q≠none) (hd:slR.lookup d=none) (hn:SeqS E.P F ops os ⟨(d,r) :: slR,hb2⟩ K):SeqS E.P F ops (⟨some d,op,T,pos,aft,none⟩ :: os) S K:=by
  have hstay:∀ q,(st q=false→H'.lookup q=none)→Stays st S ⟨(d,r) :: slR,hb2⟩ (fun j=>j) H H' q:=fun q hq=>by
    cases e:hb2.lookup q with
    | none=>exact .inl e
    | some B =>
      rcases C.h2 q B e with h | ⟨h3,h4,h5,_⟩
      · have hst : st q = true := by
          cases e2:st q with
          | true=>rfl
          | false=>rw [hq e2] at h; cases h
        obtain ⟨B0,h6,h7,h8⟩:=C.fix q B hst h
        exact .inr (.inr ⟨q,B0,B,rfl,hst,h6,h,h7,h8⟩)
      · exact .inr (.inl ⟨by rw [h3]; exact e,fun j hj e2=>by subst e2; exact hj.elim (fun h=>h h4) (fun h=>h h5)⟩)
  refine .cons (stepG hG hX hng (fun j=>j) hs rfl rfl hlt (fun ρ a w hS=>?_) ⟨fun j B hj=>by rw [Blk.ren_id]; exact C.h1 j B hj,fun _ _ _ _ h=>h,fun i j _ h2 _ h4 _=>C.lo j h2 h4,fun k B' hk=>?_,fun t v ht=>?_,hres,C.whole,fun j hj hp=>?_⟩) hn
  · rw [PV.renL_id]; exact hargs ρ S a w hS hr.all
  · rcases C.h2 k B' hk with h | ⟨h3,h4,h5,h6⟩
    · exact .inl ⟨k,B',rfl,h,(Blk.ren_id B').symm⟩
    · exact .inr ⟨h3,fun j hj e2=>by subst e2; exact hj.elim (fun h=>h h4) (fun h=>h h5),fun i x hx q hq=>hstay q (h6 i x hx q hq)⟩
  · simp only [St.slot,List.lookup_cons] at ht
    by_cases e:t=d
    · subst e; simp only [BEq.rfl,Option.some.injEq] at ht; exact .inl ⟨rfl,by rw [PV.ren_id]; exact ht.symm⟩
    · rw [show (t == d)=false by simpa using e] at ht
      exact .inr ⟨e,C.hs.all t v ht,fun q hq=>hstay q (C.slot t v ht q hq)⟩
  · have h:=C.pin j hp
    obtain ⟨B1,hB1⟩:=lookup_some hj
    obtain ⟨B0,h0,_⟩:=C.fix j B1 h hB1
    exact ⟨by rw [h0]; simp,h⟩
end Go.Proofs.YtjagfionflbjbaaGreat.SH
namespace Go.Proofs.YtjagfionflbjbaaGreat.SH
open Go Go.RowKit
def st11 (k:Nat):Bool:=Nat.blt k 1100
def blt10 (l:List (Nat×Blk)):Bool:=l.all fun p=>Nat.blt p.1 1000
theorem blt10_lk {l:List (Nat×Blk)}(h:blt10 l=true){k:Nat}{B:Blk}(hk:l.lookup k=some B):k<1000:=by
  unfold blt10 at h
  rw [List.all_eq_true] at h
  simpa [Nat.blt_eq] using h _ (lookup_mem hk)
theorem blt10_none {l:List (Nat×Blk)}(h:blt10 l=true){k:Nat}(hk:1000≤k):l.lookup k=none:=by
  cases e:l.lookup k with
  | none=>rfl
  | some B=>have:=blt10_lk h e; omega
theorem lookup_mem' {α:Type}:∀ {l:List (Nat×α)} {j:Nat} {B:α} (_:l.lookup j=some B),(j,B)∈l
  | [],_,_,h=>by simp at h
  | (k,C) :: l,j,B,h=>by
    rw [List.lookup_cons] at h
    split at h
    · rename_i e; injection h with h; subst h; simp [beq_iff_eq.1 e]
    · simp [lookup_mem' h]
theorem ncT {F : Fr} {sl slR : List (Nat × PV)} {bx pre pre' T T' U U' : List (Nat × Blk)} (ks : List Nat) (hks : (ks.all fun k => Nat.blt k 1100) = true)
    (hp:blt10 pre=true) (hbp:∀ k B,bx.lookup k=some B→pre.lookup k=some B) (hpp:∀ k B,pre'.lookup k=some B→pre.lookup k=some B)
    (hT:∀ k B,T.lookup k=some B→U.lookup k=some B∧1000≤k) (hT':∀ k B,T'.lookup k=some B→1000≤k)
    (hU:∀ k B,U'.lookup k=some B→T'.lookup k=some B∨(1000≤k∧U.lookup k=some B∧T.lookup k=none∧T'.lookup k=none∧∀ i x,B.cs.get i=some x→∀ q,x.free q=false→1100≤q→T'.lookup q=none))
    (hfix:∀ q B1,q<1100→T'.lookup q=some B1→∃ B0,T.lookup q=some B0∧B1.sz=B0.sz∧B1.cs.len=B0.cs.len)
    (hpo:(pre'.all fun p=>p.2.cs.only ks)=true) (hso:(slR.all fun p=>p.2.only ks)=true) (hS:HasS ⟨sl,pre++U⟩ slR)
    (hlo:∀ j,1100≤j→T.lookup j≠none→F.lo j=false) (hpin:∀ j,st11 j=false→F.pin j=none) (hw:Whole (bx++T')) :
    NCall st11 F ⟨sl,pre++U⟩ (bx++T) (bx++T') slR (pre'++U'):=by
  have hbx:∀ k,1000≤k→bx.lookup k=none:=fun k hk=>by
    cases e:bx.lookup k with
    | none=>rfl
    | some B=>have:=blt10_lk hp (hbp k B e); omega
  have hTl:∀ k,k<1000→T.lookup k=none:=fun k hk=>by
    cases e:T.lookup k with
    | none=>rfl
    | some B=>have:=(hT k B e).2; omega
  have hTl':∀ k,k<1000→T'.lookup k=none:=fun k hk=>by
    cases e:T'.lookup k with
    | none=>rfl
    | some B=>have:=hT' k B e; omega
  have hst:∀ {q},st11 q=false→1100≤q:=fun {q} h=>by
    have:¬ q<1100:=fun h2=>by rw [st11,show Nat.blt q 1100=true by rw [Nat.blt_eq]; exact h2] at h; cases h
    omega
  have hst':∀ {q},st11 q=true→q<1100:=fun {q} h=>by simpa [st11,Nat.blt_eq] using h
  have hkl:∀ q,q∈ks→q<1100:=fun q hq=>by rw [List.all_eq_true] at hks; simpa [Nat.blt_eq] using hks q hq
  refine ⟨fun j B hj=>?_,hS,fun k B hk=>?_,fun q B1 hq hq1=>?_,fun t v ht q hq hs=>?_,fun j hj hs=>?_,fun j hj=>?_,hw⟩
  · show (pre++U).lookup j=some B
    rw [lookup_append] at hj ⊢
    cases e:bx.lookup j with
    | some C=>rw [e,Option.some_or] at hj; rw [hbp j C e,Option.some_or,hj]
    | none =>
      rw [e,Option.none_or] at hj
      rw [blt10_none hp (hT j B hj).2,Option.none_or]; exact (hT j B hj).1
  · rw [lookup_append] at hk
    show _∨((pre++U).lookup k=some B∧_)
    rw [lookup_append,lookup_append,lookup_append]
    cases e:pre'.lookup k with
    | some C =>
      rw [e,Option.some_or] at hk
      injection hk with hk
      subst hk
      have h3:=hpp k C e
      have h4:=blt10_lk hp h3
      rw [h3,hTl k h4,hTl' k h4,Option.some_or,Option.or_none]
      cases e2:bx.lookup k with
      | some D =>
        have:=hbp k D e2
        rw [h3] at this
        exact .inl this.symm
      | none =>
        refine .inr ⟨rfl,rfl,rfl,fun i x hx q hq hs=>?_⟩
        rw [List.all_eq_true] at hpo
        have h5:=hkl q (PV.only_mem (Cells.only_get (hpo _ (lookup_mem e)) hx) hq)
        have:=hst hs
        omega
    | none =>
      rw [e,Option.none_or] at hk
      rcases hU k B hk with h | ⟨h1,h3,h4,h5,h6⟩
      · exact .inl (by rw [hbx k (hT' k B h),Option.none_or,h])
      · refine .inr ⟨by rw [blt10_none hp h1,Option.none_or,h3],by rw [hbx k h1,h4]; rfl,by rw [hbx k h1,h5]; rfl,fun i x hx q hq hs=>?_⟩
        have:=hst hs
        rw [lookup_append,hbx q (by omega),Option.none_or]; exact h6 i x hx q hq this
  · rw [lookup_append] at hq1 ⊢
    cases e:bx.lookup q with
    | some C=>rw [e,Option.some_or] at hq1; injection hq1 with hq1; subst hq1; exact ⟨C,rfl,rfl,rfl⟩
    | none =>
      rw [e,Option.none_or] at hq1
      obtain ⟨B0,h1,h3⟩:=hfix q B1 (hst' hq) hq1
      exact ⟨B0,by rw [Option.none_or]; exact h1,h3⟩
  · rw [List.all_eq_true] at hso
    have h5:=hkl q (PV.only_mem (hso _ (lookup_mem' ht)) hq)
    have:=hst hs
    omega
  · have h1:=hst hs
    rw [lookup_append,hbx j (by omega),Option.none_or] at hj
    exact hlo j h1 hj
  · cases e:st11 j with
    | true=>rfl
    | false=>exact absurd (hpin j e) hj
end Go.Proofs.YtjagfionflbjbaaGreat.SH
namespace Go.Proofs.YtjagfionflbjbaaGreat.SH
open Go
theorem saysG_weak {E:Env}{st st':Nat→Bool}{f:FuncId}{args:List PV}{H H':List (Nat×Blk)}{r:PV}(h:SaysG E st f args H H' r)(hst:∀ j,st' j=true→st j=true):SaysG E st' f args H H' r:=by
  intro ok ρ w vals hG hH hinj hrel
  refine Calls.mono (h ok ρ w vals hG hH hinj hrel) fun e w' ⟨v,ρ1,he,hp⟩=>⟨v,ρ1,he,{ hp with stay:=fun j h1 h2 h3=>hp.stay j h1 h2 (hst j h3) }⟩
end Go.Proofs.YtjagfionflbjbaaGreat.SH
namespace Go.Proofs.YtjagfionflbjbaaGreat.SH
open Go
section
variable {P:Program} {F:Fr} {d:Nat} {T:TypeId} {pos:String} {aft:Array Edge} {g:Option (Nat×Bool)} {x y:Operand} {xT yT:TypeId}
theorem core_neqN {e:TypeId}(hu:P.underlying xT=some (.slice e))(hlt:d<F.nt):CoreOk P F ⟨some d,.binOp .neq xT x y yT,T,pos,aft,g⟩ { rs:=[(x,.p (.a (.slice none 0 0))),(y,.p (.a (.slice none 0 0)))],ws:=[(d,.p (.a (.bool false)))] } :=
  core_atom2 hlt fun e' w h1 h2=>by simp [execOp,h1,h2,eqGuard,run_neq_slice_nil w xT e none 0 0 hu]
theorem core_neqR {e:TypeId}{k off n tot:Nat}{B:Blk}(hu:P.underlying xT=some (.slice e))(hl:B.cs.len=tot)(hlt:d<F.nt):CoreOk P F ⟨some d,.binOp .neq xT x y yT,T,pos,aft,g⟩ { rs:=[(x,.ref k off n tot),(y,.p (.a (.slice none 0 0)))],rb:=[(k,B)],ws:=[(d,.p (.a (.bool true)))] } :=
  core_val rfl hlt rfl rfl fun ρ S a w h hA=>by
    obtain ⟨cap,c,he,hc,_,_⟩:=ref_eval h (hA.rs (x,.ref k off n tot) (by simp)) (hA.rb (k,B) (by simp)) hl
    have hy:=atom_eval h (v:=.slice none 0 0) (hA.rs (y,_) (by simp))
    exact ⟨.bool true,by simp [execOp,he,hy,eqGuard,run_neq_slice_nil w xT e _ n cap hu],by simp [RelV,Rel]⟩
end
end Go.Proofs.YtjagfionflbjbaaGreat.SH
namespace Go.Proofs.YtjagfionflbjbaaGreat.SH
open Go
theorem core_nilCheck {P:Program}{F:Fr}{d:Nat}{T:TypeId}{pos:String}{aft:Array Edge}{g:Option (Nat×Bool)}{x:Operand}{k off tot:Nat}{B:Blk}(hl:B.cs.len=tot)(hlt:d<F.nt):CoreOk P F ⟨some d,.nilCheck x,T,pos,aft,g⟩ { rs:=[(x,.at_ k off tot)],rb:=[(k,B)],ws:=[(d,.at_ k off tot)] } :=
  core_val rfl hlt rfl rfl fun ρ S a w h hA=>by
    have hx:=hA.rs (x,.at_ k off tot) (by simp)
    have he:=at_eval h hx (hA.rb (k,B) (by simp)) hl
    exact ⟨.pointer (some ⟨ρ k,off,none⟩),by simp [execOp,he],by rw [← he]; exact opd_rel h hx⟩
end Go.Proofs.YtjagfionflbjbaaGreat.SH
namespace Go.Proofs.YtjagfionflbjbaaGreat.SH
open Go Go.RowKit
def stA (_:Nat):Bool:=true
theorem ncTA {F : Fr} {sl slR : List (Nat × PV)} {bx pre pre' T T' U U' : List (Nat × Blk)}
    (hp:blt10 pre=true) (hbp:∀ k B,bx.lookup k=some B→pre.lookup k=some B) (hpp:∀ k B,pre'.lookup k=some B→pre.lookup k=some B)
    (hT:∀ k B,T.lookup k=some B→U.lookup k=some B∧1000≤k) (hT':∀ k B,T'.lookup k=some B→1000≤k)
    (hU:∀ k B,U'.lookup k=some B→T'.lookup k=some B∨(1000≤k∧U.lookup k=some B∧T.lookup k=none∧T'.lookup k=none))
    (hfix:∀ q B1,T'.lookup q=some B1→∃ B0,T.lookup q=some B0∧B1.sz=B0.sz∧B1.cs.len=B0.cs.len)
    (hS:HasS ⟨sl,pre++U⟩ slR) (hw:Whole (bx++T')) :
    NCall stA F ⟨sl,pre++U⟩ (bx++T) (bx++T') slR (pre'++U'):=by
  have hbx:∀ k,1000≤k→bx.lookup k=none:=fun k hk=>by
    cases e:bx.lookup k with
    | none=>rfl
    | some B=>have:=blt10_lk hp (hbp k B e); omega
  have hTl:∀ k,k<1000→T.lookup k=none:=fun k hk=>by
    cases e:T.lookup k with
    | none=>rfl
    | some B=>have:=(hT k B e).2; omega
  have hTl':∀ k,k<1000→T'.lookup k=none:=fun k hk=>by
    cases e:T'.lookup k with
    | none=>rfl
    | some B=>have:=hT' k B e; omega
  refine ⟨fun j B hj=>?_,hS,fun k B hk=>?_,fun q B1 hq hq1=>?_,fun t v ht q hq hs=>(by cases hs),fun j hj hs=>(by cases hs),fun j hj=>rfl,hw⟩
  · show (pre++U).lookup j=some B
    rw [lookup_append] at hj ⊢
    cases e:bx.lookup j with
    | some C=>rw [e,Option.some_or] at hj; rw [hbp j C e,Option.some_or,hj]
    | none =>
      rw [e,Option.none_or] at hj
      rw [blt10_none hp (hT j B hj).2,Option.none_or]; exact (hT j B hj).1
  · rw [lookup_append] at hk
    show _∨((pre++U).lookup k=some B∧_)
    rw [lookup_append,lookup_append,lookup_append]
    cases e:pre'.lookup k with
    | some C =>
      rw [e,Option.some_or] at hk
      injection hk with hk
      subst hk
      have h3:=hpp k C e
      have h4:=blt10_lk hp h3
      rw [h3,hTl k h4,hTl' k h4,Option.some_or,Option.or_none]
      cases e2:bx.lookup k with
      | some D =>
        have:=hbp k D e2
        rw [h3] at this
        exact .inl this.symm
      | none=>exact .inr ⟨rfl,rfl,rfl,fun i x hx q hq hs=>(by cases hs)⟩
    | none =>
      rw [e,Option.none_or] at hk
      rcases hU k B hk with h | ⟨h1,h3,h4,h5⟩
      · exact .inl (by rw [hbx k (hT' k B h),Option.none_or,h])
      · exact .inr ⟨by rw [blt10_none hp h1,Option.none_or,h3],by rw [hbx k h1,h4]; rfl,by rw [hbx k h1,h5]; rfl,fun i x hx q hq hs=>(by cases hs)⟩
  · rw [lookup_append] at hq1 ⊢
    cases e:bx.lookup q with
    | some C=>rw [e,Option.some_or] at hq1; injection hq1 with hq1; subst hq1; exact ⟨C,rfl,rfl,rfl⟩
    | none =>
      rw [e,Option.none_or] at hq1
      obtain ⟨B0,h1,h3⟩:=hfix q B1 hq1
      exact ⟨B0,by rw [Option.none_or]; exact h1,h3⟩
end Go.Proofs.YtjagfionflbjbaaGreat.SH
namespace Go.Proofs.YtjagfionflbjbaaGreat.SH
open Go
theorem core_boxAt {P : Program} {F : Fr} {d : Nat} {t T : TypeId} {pos : String} {aft : Array Edge} {g : Option (Nat × Bool)} {k : Nat} {x : Operand} {j off tot : Nat} {B : Blk} (hl : B.cs.len = tot) (hf : (j != k) = true) (hpk : F.pin k = none) (hlt : d < F.nt) :
    CoreOk P F ⟨some d,.box t x,T,pos,aft,g⟩ { rs:=[(x,.at_ j off tot)],rb:=[(j,B)],fresh:=some k,ws:=[(d,.at_ k 0 1)],wb:=[(k,⟨t,1,.mix [.at_ j off tot]⟩)] } :=
  core_newvar (n:=1) (vs:=[.at_ j off tot]) rfl hpk hlt rfl rfl rfl rfl fun ρ S a w h hA=>by
    have hx:=hA.rs (x,.at_ j off tot) (by simp)
    have he:=at_eval h hx (hA.rb (j,B) (by simp)) hl
    have hr:=opd_rel h hx
    refine ⟨[a.eval x],?_,by simp only [RelVL]; exact ⟨_,_,rfl,hr,rfl⟩,fun c hc=>?_,by simp only [PV.freeL,PV.free,hf]; rfl⟩
    · rw [he]; simp [execOp,he,Instr.box,newVar,newRow,Value.cells]
    · obtain rfl:=List.mem_singleton.1 hc
      rw [he]; rfl
end Go.Proofs.YtjagfionflbjbaaGreat.SH
namespace Go.Proofs.YtjagfionflbjbaaGreat.SH
open Go
theorem p0T {pre T:List (Nat×Blk)}{k:Nat}(h:TailOk T)(hk:(Nat.blt k 1000 && (pre.lookup k).isNone)=true):(pre++T).lookup k=none:=by
  rw [Bool.and_eq_true] at hk
  rw [lookup_append,h.low k hk.1,Option.or_none]
  exact Option.isNone_iff_eq_none.1 hk.2
end Go.Proofs.YtjagfionflbjbaaGreat.SH
set_option maxRecDepth 100000
set_option maxHeartbeats 4000000
namespace Go.Proofs.YtjagfionflbjbaaGreat.N
open Go Go.Proofs.YtjagfionflbjbaaGreat.SH Go.Proofs.YtjagfionflbjbaaGreat.NumA
open Go.Proofs.Tryz renaming call65→cl65,call91→cl91,call93→cl93,call94→cl94,call95→cl95,call96→cl96,call98→cl98,call99→cl99,isAgg3→ag3,isAgg47→ag47,isAgg73→ag73,isAgg77→ag77,sizeOf47→sz47,sizeOf77→sz77,underlying77→un77,underlying79→un79
@[reducible] def bxI (k:Nat)(i:Nat):Nat×Blk:=(k,⟨3,1,.mix [.p (vZ i)]⟩)
theorem mat1_hi {s k:Nat}{B:Blk}{m:List (List Rat)}(h2:s<9)(h:(mat1 s m).lookup k=some B):1000≤k:=by
 rcases mat1_keys h2 (show (mat1 s m).lookup k≠none by rw [h]; simp) with rfl | ⟨q,_,rfl⟩
 ·omega
 ·simp only [rowN]; omega
theorem mat1_fix {s:Nat}{m m':List (List Rat)}(h2:s<9)(hl:m'.length=m.length){q:Nat}{B1:Blk}(hq:q<1100)(h:(mat1 s m').lookup q=some B1):∃ B0,(mat1 s m).lookup q=some B0∧B1.sz=B0.sz∧B1.cs.len=B0.cs.len:=by
 rcases mat1_keys h2 (show (mat1 s m').lookup q≠none by rw [h]; simp) with rfl | ⟨q,_,rfl⟩
 ·rw [hdL] at h
  injection h with h
  subst h
  exact ⟨hdB s m,hdL,rfl,by simp [Cells.len,hl]⟩
 ·simp only [rowN] at hq; omega
theorem whole_app {bx T:List (Nat×Blk)}(hb:(bx.all fun p=>p.2.cs.only [])=true)(hT:Whole T)(hd:∀ k B,T.lookup k=some B→bx.lookup k=none):Whole (bx++T):=by
 intro j B hj i x hx q hq
 rw [lookup_append] at hj ⊢
 cases e:bx.lookup j with
 | some C =>
  rw [e,Option.some_or] at hj
  injection hj with hj
  subst hj
  rw [List.all_eq_true] at hb
  have:=PV.only_mem (Cells.only_get (hb _ (lookup_mem e)) hx) hq
  simp at this
 | none =>
  rw [e,Option.none_or] at hj
  have:=hT j B hj i x hx q hq
  intro hn
  cases e2:T.lookup q with
  | none=>exact this e2
  | some C=>rw [hd q C e2,Option.none_or,e2] at hn; cases hn
theorem ncM {F:Fr}{n:Nat}{sl:List (Nat×PV)}{bx:List (Nat×Blk)}{s:Nat}{m m':List (List Rat)}(h2:s<9)(hl:m'.length=m.length)(G:GFr E st11 (bx++mat1 s m) n F)(hp:blt10 bx=true)(hb:(bx.all fun p=>p.2.cs.only [])=true) :
  NCall st11 F ⟨sl,bx++mat1 s m⟩ (mat1 s m) (mat1 s m') [] (bx++mat1 s m') :=
 ncT (bx:=[]) (T:=mat1 s m) (T':=mat1 s m') (U:=mat1 s m) (U':=mat1 s m') [] rfl hp (fun k B h=>by cases h) (fun k B h=>h) (fun k B h=>⟨h,mat1_hi h2 h⟩) (fun k B h=>mat1_hi h2 h) (fun k B h=>.inl h) (fun q B1 hq h=>mat1_fix h2 hl hq h) hb rfl trivial
  (fun j hj h=>by
   rw [G.lo,lookup_append,blt10_none hp oM,Option.none_or]
   cases e:(mat1 s m).lookup j with
   | none=>exact absurd e h
   | some B=>rfl) G.ps (mat1_ok h2 m').whole
theorem ech2_says (s:Nat)(m:List (List Rat))(i p:Nat)(h2:s<9)(hi:i<m.length)(hp:p<m.length)(hne:i≠p):SaysG E st11 93 [.ref (s+1001) 0 m.length m.length,.at_ 6 0 1,.at_ 5 0 1] ([bxI 5 p,bxI 6 i]++mat1 s m) ([bxI 5 p,bxI 6 i]++mat1 s (swapL m i p)) (.p (.tup [])):=by
 refine saysG_dat (xs:=[]) Tryz.func93 rfl Tryz.ntmps93 Tryz.results93 sM fun F G=>?_
 have L:=@lti _ _ G.nt
 have hG:=G.g
 have hX:=G.x
 have hN:=ng_le hG
 refine exr0N (nsw (c_m L) t1 t0 (nsw (c_l1 ag3 rF rF L) t1 t1 ?_))
 refine nsw (c_l1 ag3 rF rF L) t1 t1 ?_
 refine nsI hG hX hN [] ([(5,_),(6,_)]++(mat1 s (swapL m i p))) (swap_says s m i p h2 hi hp hne) L (args_fn (ys:=[_,_,_]) cl94 rfl rfl) t3 (by exact ncM (bx:=[bxI 5 p,bxI 6 i]) h2 sM G rfl rfl) (fun q h=>by cases h) rfl ?_
 refine .nil ?_
 refine ⟨.inl rfl,ResVs.cast .nil ?_,⟨rfl,rfl,hbT [_,_] (mat1_ok h2 _) rfl⟩⟩
 rfl
@[reducible] def bxQ (k:Nat)(c:Rat):Nat×Blk:=(k,bQ c)
theorem ech3_says (s:Nat)(m:List (List Rat))(p:Nat)(c:Rat)(h2:s<9)(hp:p<m.length)(hl:(m.getD p []).length<1000000000)(hs:∀ a∈m.getD p [],qw a<1000000000)(hc:qw c<1000000000):SaysG E st11 95 [.ref (s+1001) 0 m.length m.length,.at_ 5 0 1,.at_ 8 0 4] ([bxI 5 p,bxQ 8 c]++mat1 s m) ([bxI 5 p,bxQ 8 c]++mat1 s (m.set p ((m.getD p []).map (· * c)))) (.p (.tup [])):=by
 refine saysG_dat (xs:=[]) Tryz.func95 rfl Tryz.ntmps95 Tryz.results95 sM fun F G=>?_
 have L:=@lti _ _ G.nt
 have hG:=G.g
 have hX:=G.x
 have hN:=ng_le hG
 refine exr0N (nsw (c_m L) t1 t0 (nsw (c_l1 ag3 rF rF L) t1 t1 ?_))
 refine nsw (c_lp ag47 sz47 rF (by exact al4) rfl L) t1 t1 ?_
 refine nsI hG hX hN [] ([(5,_),(8,_)]++(mat1 s (m.set p ((m.getD p []).map (· * c))))) (saysG_weak (scale_says s m p c h2 hp hl hs hc) (fun _ _=>rfl)) L (args_fn (ys:=[_,_,_]) cl96 rfl rfl) t3 (by exact ncM (bx:=[bxI 5 p,bxQ 8 c]) h2 sM G rfl rfl) (fun q h=>by cases h) rfl ?_
 refine .nil ?_
 refine ⟨.inl rfl,ResVs.cast .nil ?_,⟨rfl,rfl,hbT [_,_] (mat1_ok h2 _) rfl⟩⟩
 rfl
def sameR (m m':List (List Rat)):Prop:=m'.length=m.length∧∀ i,(m'.getD i []).length=(m.getD i []).length
theorem sameR_set {m:List (List Rat)}{i:Nat}{r:List Rat}(h:r.length=(m.getD i []).length):sameR m (m.set i r):=by
 refine ⟨by simp,fun j=>?_⟩
 rw [List.getD_eq_getElem?_getD,List.getElem?_set]
 by_cases e:i=j
 ·subst e
  rw [if_pos rfl]
  by_cases hi:i<m.length
  ·rw [if_pos hi]; exact h
  ·rw [if_neg hi,List.getD_eq_getElem?_getD,List.getElem?_eq_none oM]
 ·rw [if_neg e,List.getD_eq_getElem?_getD]
theorem mat1_fixA {s:Nat}{m m':List (List Rat)}(h2:s<9)(hl:sameR m m'){q:Nat}{B1:Blk}(h:(mat1 s m').lookup q=some B1):∃ B0,(mat1 s m).lookup q=some B0∧B1.sz=B0.sz∧B1.cs.len=B0.cs.len:=by
 rcases mat1_keys h2 (show (mat1 s m').lookup q≠none by rw [h]; simp) with rfl | ⟨q,hq,rfl⟩
 ·rw [hdL] at h
  injection h with h
  subst h
  exact ⟨hdB s m,hdL,rfl,by simp [Cells.len,hl.1]⟩
 ·rw [rwL h2 hq] at h
  injection h with h
  subst h
  exact ⟨_,rwL h2 (by rw [← hl.1]; exact hq),rfl,by simp only [Cells.len,encQ_length,hl.2 q]⟩
theorem ncMA {F:Fr}{n:Nat}{sl:List (Nat×PV)}{bx:List (Nat×Blk)}{s:Nat}{m m':List (List Rat)}(h2:s<9)(hl:sameR m m')(hp:blt10 bx=true) :
  NCall stA F ⟨sl,bx++mat1 s m⟩ (mat1 s m) (mat1 s m') [] (bx++mat1 s m') :=
 ncTA (bx:=[]) (T:=mat1 s m) (T':=mat1 s m') (U:=mat1 s m) (U':=mat1 s m') hp (fun k B h=>by cases h) (fun k B h=>h) (fun k B h=>⟨h,mat1_hi h2 h⟩) (fun k B h=>mat1_hi h2 h) (fun k B h=>.inl h) (fun q B1 h=>mat1_fixA h2 hl h) t0 (mat1_ok h2 m').whole
theorem takR_same {m:List (List Rat)}{i p:Nat}{c:Rat}(hlen:(m.getD p []).length=(m.getD i []).length):sameR m (takR m i p c):=sameR_set (by simp; simp at hlen; omega)
theorem ech4_says (s:Nat)(m:List (List Rat))(i p:Nat)(c:Rat)(B C D:Nat)(h2:s<9)(hi:i<m.length)(hp:p<m.length)(hne:i≠p)(hlen:(m.getD p []).length=(m.getD i []).length)(hl:(m.getD i []).length<1000000000)(hB:∀ a∈m.getD i [],qw a≤B)(hC:∀ a∈m.getD p [],qw a≤C)(hD:qw c≤D)(hb:B+(D+C)+1<1000000000):SaysG E stA 98 [.ref (s+1001) 0 m.length m.length,.at_ 10 0 1,.at_ 5 0 1,.at_ 11 0 4] ([bxI 5 p,bxI 10 i,bxQ 11 c]++mat1 s m) ([bxI 5 p,bxI 10 i,bxQ 11 c]++mat1 s (takR m i p c)) (.p (.tup [])):=by
 refine saysG_dat (xs:=[]) Tryz.func98 rfl Tryz.ntmps98 Tryz.results98 sM fun F G=>?_
 have L:=@lti _ _ G.nt
 have hG:=G.g
 have hX:=G.x
 have hN:=ng_le hG
 refine exr0N (nsw (c_m L) t1 t0 (nsw (c_l1 ag3 rF rF L) t1 t1 ?_))
 refine nsw (c_l1 ag3 rF rF L) t1 t1 ?_
 refine nsw (c_lp ag47 sz47 rF (by exact al4) rfl L) t1 t1 ?_
 refine nsI hG hX hN [] ([(5,_),(10,_),(11,_)]++(mat1 s (takR m i p c))) (saysG_weak (rtake_says s m i p c B C D h2 hi hp hne hlen hl hB hC hD hb) (fun _ _=>rfl)) L (args_fn (ys:=[_,_,_,_]) cl99 rfl rfl) t4 (by exact ncMA (n:=0) (bx:=[bxI 5 p,bxI 10 i,bxQ 11 c]) h2 (takR_same hlen) rfl) (fun q h=>by cases h) rfl ?_
 refine .nil ?_
 refine ⟨.inl rfl,ResVs.cast .nil ?_,⟨rfl,rfl,rfl,hbT [_,_,_] (mat1_ok h2 _) rfl⟩⟩
 rfl
@[reducible] def wB (c n:Nat):Option Nat→Blk
 | none=>⟨79,3,.mix [.ref 1001 0 n n,.p (vZ c),.p (.a (.slice none 0 0))]⟩
 | some k=>⟨79,3,.mix [.ref 1001 0 n n,.p (vZ c),.ref 1002 0 k k]⟩
theorem mat1_cell {s k i q:Nat}{m:List (List Rat)}{B:Blk}{x:PV}(h2:s<9)(h:(mat1 s m).lookup k=some B)(hx:B.cs.get i=some x)(hq:x.free q=false):∃ j,q=rowN s j:=by
 rcases mat1_keys h2 (show (mat1 s m).lookup k≠none by rw [h]; simp) with rfl | ⟨j,hj,rfl⟩
 ·rw [hdL] at h
  injection h with h
  subst h
  obtain ⟨v,_,e⟩:=refs_names hx hq
  exact ⟨_,e⟩
 ·rw [rwL h2 hj] at h
  injection h with h
  subst h
  simp only [Cells.get,Option.map_eq_some_iff] at hx
  obtain ⟨y,_,rfl⟩:=hx
  simp [PV.free] at hq
theorem mat1_dis {s s' k:Nat}{m b:List (List Rat)}(h2:s<2)(h2':s'<2)(hne:s≠s')(h:(mat1 s m).lookup k≠none):(mat1 s' b).lookup k=none:=by
 cases e:(mat1 s' b).lookup k with
 | none=>rfl
 | some B =>
  rcases mat1_keys oM h with rfl | ⟨q,_,rfl⟩ <;> rcases mat1_keys oM (show (mat1 s' b).lookup _≠none by rw [e]; simp) with h3 | ⟨q',_,h3⟩ <;> (try simp only [rowN] at h3) <;> omega
theorem mat1_same {s k:Nat}{m m':List (List Rat)}(h2:s<9)(hl:m'.length=m.length)(h:(mat1 s m).lookup k=none):(mat1 s m').lookup k=none:=by
 cases e:(mat1 s m').lookup k with
 | none=>rfl
 | some B =>
  rcases mat1_keys h2 (show (mat1 s m').lookup k≠none by rw [e]; simp) with rfl | ⟨q,hq,rfl⟩
  ·rw [hdL] at h; cases h
  ·exact absurd h (mat1_has h2 oM)
theorem mat2_ok (m b:List (List Rat)):TailOk (mat1 0 m++mat1 1 b):=by
 have h0:=mat1_ok (s:=0) dC m
 have h1:=mat1_ok (s:=1) dC b
 refine ⟨fun k hk=>by rw [lookup_append,h0.low k hk,h1.low k hk]; rfl,?_,fun k hk=>by rw [freeHb_append,h0.free k hk,h1.free k hk]; rfl,fun j B hj i x hx q hq=>?_⟩
 ·rw [List.map_append,List.nodup_append]
  refine ⟨h0.nd,h1.nd,fun a ha b' hb e=>?_⟩
  subst e
  obtain ⟨⟨a,A⟩,hA,rfl⟩:=List.mem_map.1 ha
  obtain ⟨⟨a',A'⟩,hA',e⟩:=List.mem_map.1 hb
  simp only at e
  subst e
  have:=mat1_dis (m:=m) (b:=b) (k:=a') (s:=0) (s':=1) dC dC dC (by rw [lookup_nd h0.nd hA]; simp)
  rw [lookup_nd h1.nd hA'] at this; cases this
 ·rw [lookup_append] at hj ⊢
  cases e:(mat1 0 m).lookup j with
  | some C =>
   rw [e,Option.some_or] at hj
   injection hj with hj
   subst hj
   have:=h0.whole j C e i x hx q hq
   obtain ⟨D,hD⟩:=Option.ne_none_iff_exists'.1 this
   rw [hD]; simp
  | none =>
   rw [e,Option.none_or] at hj
   have:=h1.whole j B hj i x hx q hq
   obtain ⟨D,hD⟩:=Option.ne_none_iff_exists'.1 this
   rw [hD]; simp
theorem hd2L {m b:List (List Rat)}:(mat1 0 m++mat1 1 b).lookup 1002=some (hdB 1 b):=by
 rw [lookup_append,mat1_dis (m:=b) (b:=m) (k:=1002) (s:=1) (s':=0) dC dC dC (by rw [show 1002=1+1001 from rfl,hdL]; simp),Option.none_or]; exact hdL
@[reducible] def ks8:List Nat:=[1,3,4,5,6,7,8,10,11,999,1001,1002,1003]
theorem lo_of {F:Fr}{n:Nat}{H0 pre T:List (Nat×Blk)}(G:GFr E st11 H0 n F)(h:∀ k,T.lookup k≠none→H0.lookup k≠none):∀ j,1100≤j→T.lookup j≠none→F.lo j=false:=fun j _ hj=>by
 rw [G.lo]
 cases e:H0.lookup j with
 | none=>exact absurd e (h j hj)
 | some B=>rfl
theorem lk_app {pre T:List (Nat×Blk)}{k:Nat}(h:T.lookup k≠none):(pre++T).lookup k≠none:=by
 rw [lookup_append]
 cases pre.lookup k with
 | none=>simpa using h
 | some B=>simp
theorem lk_app' {T U:List (Nat×Blk)}{k:Nat}(h:T.lookup k≠none):(T++U).lookup k≠none:=by
 rw [lookup_append]
 cases e:T.lookup k with
 | none=>exact absurd e h
 | some B=>simp
theorem lk_pre {bx r:List (Nat×Blk)}:∀ k B,bx.lookup k=some B→(bx++r).lookup k=some B:=fun k B h=>by rw [lookup_append,h]; rfl
theorem bx_w {bx T:List (Nat×Blk)}(hp:blt10 bx=true)(hT:∀ k B,T.lookup k=some B→1000≤k)(hb:(bx.all fun p=>p.2.cs.only [])=true)(hw:Whole T):Whole (bx++T) :=
 whole_app hb hw fun k B h=>blt10_none hp (hT k B h)
theorem nc1 {F:Fr}{n:Nat}{sl slR:List (Nat×PV)}{bx r:List (Nat×Blk)}{m m':List (List Rat)}(hl:m'.length=m.length)(G:GFr E st11 ((bx++r)++mat1 0 m) n F)(hp:blt10 (bx++r)=true)(hp':blt10 bx=true)(hb:(bx.all fun p=>p.2.cs.only [])=true)(hpo:((bx++r).all fun p=>p.2.cs.only ks8)=true)(hso:(slR.all fun p=>p.2.only ks8)=true)(hS:HasS ⟨sl,(bx++r)++mat1 0 m⟩ slR) :
  NCall st11 F ⟨sl,(bx++r)++mat1 0 m⟩ (bx++mat1 0 m) (bx++mat1 0 m') slR ((bx++r)++mat1 0 m') :=
 ncT (pre:=bx++r) (pre':=bx++r) ks8 rfl hp lk_pre (fun k B h=>h) (fun k B h=>⟨h,mat1_hi dC h⟩) (fun k B h=>mat1_hi dC h) (fun k B h=>.inl h) (fun q B1 hq h=>mat1_fix dC hl hq h) hpo hso hS
  (lo_of (pre:=[]) G fun k h=>lk_app h) G.ps (bx_w hp' (fun k B h=>mat1_hi dC h) hb (mat1_ok dC m').whole)
theorem nc2a {F:Fr}{n:Nat}{sl slR:List (Nat×PV)}{bx r:List (Nat×Blk)}{m m' b:List (List Rat)}(hl:m'.length=m.length)(G:GFr E st11 ((bx++r)++(mat1 0 m++mat1 1 b)) n F)(hp:blt10 (bx++r)=true)(hp':blt10 bx=true)(hb:(bx.all fun p=>p.2.cs.only [])=true)(hpo:((bx++r).all fun p=>p.2.cs.only ks8)=true)(hso:(slR.all fun p=>p.2.only ks8)=true)(hS:HasS ⟨sl,(bx++r)++(mat1 0 m++mat1 1 b)⟩ slR) :
  NCall st11 F ⟨sl,(bx++r)++(mat1 0 m++mat1 1 b)⟩ (bx++mat1 0 m) (bx++mat1 0 m') slR ((bx++r)++(mat1 0 m'++mat1 1 b)) :=
 ncT (pre:=bx++r) (pre':=bx++r) ks8 rfl hp lk_pre (fun k B h=>h) (fun k B h=>⟨by rw [lookup_append,h]; rfl,mat1_hi dC h⟩) (fun k B h=>mat1_hi dC h)
  (fun k B h=>by
   rw [lookup_append] at h
   cases e:(mat1 0 m').lookup k with
   | some C=>rw [e] at h; exact .inl h
   | none =>
    rw [e,Option.none_or] at h
    have h0:=mat1_dis (m:=b) (b:=m) (k:=k) (s:=1) (s':=0) dC dC dC (by rw [h]; simp)
    refine .inr ⟨mat1_hi dC h,by rw [lookup_append,h0,Option.none_or,h],h0,rfl,fun i x hx q hq _=>?_⟩
    obtain ⟨j,rfl⟩:=mat1_cell dC h hx hq
    cases e2:(mat1 0 m').lookup (rowN 1 j) with
    | none=>rfl
    | some C=>rcases mat1_keys dC (show (mat1 0 m').lookup _≠none by rw [e2]; simp) with h3 | ⟨q',_,h3⟩ <;> simp only [rowN] at h3 <;> omega)
  (fun q B1 hq h=>mat1_fix dC hl hq h) hpo hso hS (lo_of (pre:=[]) G fun k h=>lk_app (lk_app' h)) G.ps (bx_w hp' (fun k B h=>mat1_hi dC h) hb (mat1_ok dC m').whole)
theorem nc2b {F:Fr}{n:Nat}{sl slR:List (Nat×PV)}{bx r:List (Nat×Blk)}{m0 m b b':List (List Rat)}(hl:b'.length=b.length)(G:GFr E st11 ((bx++r)++(mat1 0 m0++mat1 1 b)) n F)(hp:blt10 (bx++r)=true)(hp':blt10 bx=true)(hb:(bx.all fun p=>p.2.cs.only [])=true)(hpo:((bx++r).all fun p=>p.2.cs.only ks8)=true)(hso:(slR.all fun p=>p.2.only ks8)=true)(hS:HasS ⟨sl,(bx++r)++(mat1 0 m++mat1 1 b)⟩ slR) :
  NCall st11 F ⟨sl,(bx++r)++(mat1 0 m++mat1 1 b)⟩ (bx++mat1 1 b) (bx++mat1 1 b') slR ((bx++r)++(mat1 0 m++mat1 1 b')):=by
 have hdd:∀ (b:List (List Rat)) k B,(mat1 1 b).lookup k=some B→(mat1 0 m).lookup k=none:=fun b k B h=>mat1_dis (m:=b) (b:=m) (k:=k) (s:=1) (s':=0) dC dC dC (by rw [h]; simp)
 have hdd':∀ (b:List (List Rat)) k B,(mat1 0 m).lookup k=some B→(mat1 1 b).lookup k=none:=fun b k B h=>mat1_dis (m:=m) (b:=b) (k:=k) (s:=0) (s':=1) dC dC dC (by rw [h]; simp)
 refine ncT (pre:=bx++r) (pre':=bx++r) ks8 rfl hp lk_pre (fun k B h=>h) (fun k B h=>⟨by rw [lookup_append,hdd b k B h,Option.none_or,h],mat1_hi dC h⟩) (fun k B h=>mat1_hi dC h)
  (fun k B h=>?_)
  (fun q B1 hq h=>mat1_fix dC hl hq h) hpo hso hS (lo_of (pre:=[]) G fun k h=>lk_app (lk_app h)) G.ps (bx_w hp' (fun k B h=>mat1_hi dC h) hb (mat1_ok dC b').whole)
 rw [lookup_append] at h
 cases e:(mat1 0 m).lookup k with
 | none=>rw [e,Option.none_or] at h; exact .inl h
 | some C =>
  rw [e,Option.some_or] at h
  injection h with h
  subst h
  refine .inr ⟨mat1_hi dC e,by rw [lookup_append,e]; rfl,hdd' b k C e,hdd' b' k C e,fun i x hx q hq _=>?_⟩
  obtain ⟨j,rfl⟩:=mat1_cell dC e hx hq
  cases e2:(mat1 1 b').lookup (rowN 0 j) with
  | none=>rfl
  | some D=>rcases mat1_keys dC (show (mat1 1 b').lookup _≠none by rw [e2]; simp) with h3 | ⟨q',_,h3⟩ <;> simp only [rowN] at h3 <;> omega
theorem nc1A {F:Fr}{sl slR:List (Nat×PV)}{bx r:List (Nat×Blk)}{m m':List (List Rat)}(hl:sameR m m')(hp:blt10 (bx++r)=true)(hp':blt10 bx=true)(hb:(bx.all fun p=>p.2.cs.only [])=true)(hS:HasS ⟨sl,(bx++r)++mat1 0 m⟩ slR) :
  NCall stA F ⟨sl,(bx++r)++mat1 0 m⟩ (bx++mat1 0 m) (bx++mat1 0 m') slR ((bx++r)++mat1 0 m') :=
 ncTA (pre:=bx++r) (pre':=bx++r) hp lk_pre (fun k B h=>h) (fun k B h=>⟨h,mat1_hi dC h⟩) (fun k B h=>mat1_hi dC h) (fun k B h=>.inl h) (fun q B1 h=>mat1_fixA dC hl h) hS (bx_w hp' (fun k B h=>mat1_hi dC h) hb (mat1_ok dC m').whole)
theorem nc2aA {F:Fr}{sl slR:List (Nat×PV)}{bx r:List (Nat×Blk)}{m m' b:List (List Rat)}(hl:sameR m m')(hp:blt10 (bx++r)=true)(hp':blt10 bx=true)(hb:(bx.all fun p=>p.2.cs.only [])=true)(hS:HasS ⟨sl,(bx++r)++(mat1 0 m++mat1 1 b)⟩ slR) :
  NCall stA F ⟨sl,(bx++r)++(mat1 0 m++mat1 1 b)⟩ (bx++mat1 0 m) (bx++mat1 0 m') slR ((bx++r)++(mat1 0 m'++mat1 1 b)) :=
 ncTA (pre:=bx++r) (pre':=bx++r) hp lk_pre (fun k B h=>h) (fun k B h=>⟨by rw [lookup_append,h]; rfl,mat1_hi dC h⟩) (fun k B h=>mat1_hi dC h)
  (fun k B h=>by
   rw [lookup_append] at h
   cases e:(mat1 0 m').lookup k with
   | some C=>rw [e] at h; exact .inl h
   | none =>
    rw [e,Option.none_or] at h
    have h0:=mat1_dis (m:=b) (b:=m) (k:=k) (s:=1) (s':=0) dC dC dC (by rw [h]; simp)
    exact .inr ⟨mat1_hi dC h,by rw [lookup_append,h0,Option.none_or,h],h0,rfl⟩)
  (fun q B1 h=>mat1_fixA dC hl h) hS (bx_w hp' (fun k B h=>mat1_hi dC h) hb (mat1_ok dC m').whole)
theorem nc2bA {F:Fr}{sl slR:List (Nat×PV)}{bx r:List (Nat×Blk)}{m b b':List (List Rat)}(hl:sameR b b')(hp:blt10 (bx++r)=true)(hp':blt10 bx=true)(hb:(bx.all fun p=>p.2.cs.only [])=true)(hS:HasS ⟨sl,(bx++r)++(mat1 0 m++mat1 1 b)⟩ slR) :
  NCall stA F ⟨sl,(bx++r)++(mat1 0 m++mat1 1 b)⟩ (bx++mat1 1 b) (bx++mat1 1 b') slR ((bx++r)++(mat1 0 m++mat1 1 b')):=by
 have hdd:∀ (b:List (List Rat)) k B,(mat1 1 b).lookup k=some B→(mat1 0 m).lookup k=none:=fun b k B h=>mat1_dis (m:=b) (b:=m) (k:=k) (s:=1) (s':=0) dC dC dC (by rw [h]; simp)
 have hdd':∀ (b:List (List Rat)) k B,(mat1 0 m).lookup k=some B→(mat1 1 b).lookup k=none:=fun b k B h=>mat1_dis (m:=m) (b:=b) (k:=k) (s:=0) (s':=1) dC dC dC (by rw [h]; simp)
 refine ncTA (pre:=bx++r) (pre':=bx++r) hp lk_pre (fun k B h=>h) (fun k B h=>⟨by rw [lookup_append,hdd b k B h,Option.none_or,h],mat1_hi dC h⟩) (fun k B h=>mat1_hi dC h)
  (fun k B h=>?_) (fun q B1 h=>mat1_fixA dC hl h) hS (bx_w hp' (fun k B h=>mat1_hi dC h) hb (mat1_ok dC b').whole)
 rw [lookup_append] at h
 cases e:(mat1 0 m).lookup k with
 | none=>rw [e,Option.none_or] at h; exact .inl h
 | some C =>
  rw [e,Option.some_or] at h
  injection h with h
  subst h
  exact .inr ⟨mat1_hi dC e,by rw [lookup_append,e]; rfl,hdd' b k C e,hdd' b' k C e⟩
theorem both2n (c:Nat)(m:List (List Rat))(i p:Nat)(hi:i<m.length)(hp:p<m.length)(hne:i≠p):SaysG E st11 92 [.at_ 999 0 3,.clo (.func 93) [] [.at_ 6 0 1,.at_ 5 0 1]] ([bxI 5 p,bxI 6 i,(999,wB c m.length none)]++mat1 0 m) ([bxI 5 p,bxI 6 i,(999,wB c m.length none)]++mat1 0 (swapL m i p)) (.p (.tup [])):=by
 refine saysG_dat (xs:=[]) Tryz.func92 rfl Tryz.ntmps92 Tryz.results92 sM fun F G=>?_
 have L:=@lti _ _ G.nt
 have hG:=G.g
 have hX:=G.x
 have hN:=ng_le hG
 refine exrN (nsw (c_m L) t1 t0 (nsw (c_m L) t1 t0 (nsw (core_nilCheck rX L) t1 t1 ?_)))
 refine nsw (c_fa un79 rfl sz77 dC rX L) t1 t1 ?_
 refine nsw (c_l1 ag77 rF rF L) t1 t1 ?_
 refine nsI hG hX hN [(0,.at_ 999 0 3),(1,.clo (.func 93) .nil [.at_ 6 0 1,.at_ 5 0 1])] ([(5,_),(6,_),(999,_)]++(mat1 0 (swapL m i p))) (ech2_says 0 m i p dC hi hp hne) L (args_clo (fst:=[]) (ys:=[_]) (cap:=[_,_]) cl93 rfl rfl) t2 (by exact nc1 (bx:=[bxI 5 p,bxI 6 i]) (r:=[_]) sM G rfl rfl rfl rfl rfl t2) (fun q h=>by cases h) rfl ?_
 refine .nil ⟨[(0,_),(1,_)],(5,_) :: (6,_) :: (999,_) :: mat1 0 (swapL m i p),t2,⟨rfl,rfl,rfl,(hbT [_,_,_] (mat1_ok dC (swapL m i p)) rfl)⟩,?_⟩
 refine exr (mV L rfl (sw (core_nilCheck rX L) t1 t1 ?_))
 refine sw (c_fa un79 rfl sz77 dC rX L) t1 t1 ?_
 refine sw (c_l1 ag77 rF rF L) t1 t1 ?_
 refine sw (core_neqN un77 L) t2 t0 ?_
 refine seq_nil ⟨[(0,_),(1,_),(14,_)],(5,_) :: (6,_) :: (999,_) :: (mat1 0 (swapL m i p)),t3,⟨rfl,rfl,rfl,(hbT [_,_,_] (mat1_ok dC (swapL m i p)) rfl)⟩,?_⟩
 refine ex_false rfl rfl (ex_skip ?_)
 refine ⟨.inl rfl,ResVs.cast .nil ?_,⟨rfl,rfl,rfl,(hbT [_,_,_] (mat1_ok dC (swapL m i p)) rfl)⟩⟩
 rfl
theorem both2s (c:Nat)(m b:List (List Rat))(i p:Nat)(hi:i<m.length)(hp:p<m.length)(hne:i≠p)(hib:i<b.length)(hpb:p<b.length):SaysG E st11 92 [.at_ 999 0 3,.clo (.func 93) [] [.at_ 6 0 1,.at_ 5 0 1]] ([bxI 5 p,bxI 6 i,(999,wB c m.length (some b.length))]++(mat1 0 m++mat1 1 b)) ([bxI 5 p,bxI 6 i,(999,wB c m.length (some b.length))]++(mat1 0 (swapL m i p)++mat1 1 (swapL b i p))) (.p (.tup [])):=by
 refine saysG_dat (xs:=[]) Tryz.func92 rfl Tryz.ntmps92 Tryz.results92 sM fun F G=>?_
 have L:=@lti _ _ G.nt
 have hG:=G.g
 have hX:=G.x
 have hN:=ng_le hG
 refine exrN (nsw (c_m L) t1 t0 (nsw (c_m L) t1 t0 (nsw (core_nilCheck rX L) t1 t1 ?_)))
 refine nsw (c_fa un79 rfl sz77 dC rX L) t1 t1 ?_
 refine nsw (c_l1 ag77 rF rF L) t1 t1 ?_
 refine nsI hG hX hN [(0,.at_ 999 0 3),(1,.clo (.func 93) .nil [.at_ 6 0 1,.at_ 5 0 1])] ([(5,_),(6,_),(999,_)]++(mat1 0 (swapL m i p)++mat1 1 b)) (ech2_says 0 m i p dC hi hp hne) L (args_clo (fst:=[]) (ys:=[_]) (cap:=[_,_]) cl93 rfl rfl) t2 (by exact nc2a (bx:=[bxI 5 p,bxI 6 i]) (r:=[_]) sM G rfl rfl rfl rfl rfl t2) (fun q h=>by cases h) rfl ?_
 refine .nil ⟨[(0,_),(1,_)],(5,_) :: (6,_) :: (999,_) :: mat1 0 (swapL m i p)++mat1 1 b,t2,⟨rfl,rfl,rfl,(hbT [_,_,_] (mat2_ok (swapL m i p) b) rfl)⟩,?_⟩
 refine exr (mV L rfl (sw (core_nilCheck rX L) t1 t1 ?_))
 refine sw (c_fa un79 rfl sz77 dC rX L) t1 t1 ?_
 refine sw (c_l1 ag77 rF rF L) t1 t1 ?_
 refine sw (core_neqR un77 (by first | exact refsB_length _ _ _ | exact (refsB_length _ _ _).trans sM) L) t2 ⟨rdT [_,_,_] (mat2_ok (swapL m i p) b) rfl hd2L,trivial⟩ ?_
 refine seq_nil ⟨[(0,_),(1,_),(14,_)],(5,_) :: (6,_) :: (999,_) :: (mat1 0 (swapL m i p)++mat1 1 b),t3,⟨rfl,rfl,rfl,(hbT [_,_,_] (mat2_ok (swapL m i p) b) rfl)⟩,?_⟩
 refine ex_true rfl rfl (exr0N (nsw (c_m L) t1 t0 (nsw (c_m L) t1 t0 (nsw (core_nilCheck rX L) t1 t1 ?_))))
 refine nsw (c_fa un79 rfl sz77 dC rX L) t1 t1 ?_
 refine nsw (c_l1 ag77 rF rF L) t1 t1 ?_
 refine nsI hG hX hN [] ([(5,_),(6,_),(999,_)]++(mat1 0 (swapL m i p)++mat1 1 (swapL b i p))) (ech2_says 1 b i p dC hib hpb hne) L (args_clo (fst:=[]) (ys:=[_]) (cap:=[_,_]) cl93 rfl rfl) t2 (by exact nc2b (bx:=[bxI 5 p,bxI 6 i]) (r:=[_]) sM G rfl rfl rfl rfl rfl trivial) (fun q h=>by cases h) rfl ?_
 refine .nil ?_
 refine ⟨.inl rfl,ResVs.cast .nil ?_,⟨rfl,rfl,rfl,(hbT [_,_,_] (mat2_ok (swapL m i p) (swapL b i p)) rfl)⟩⟩
 rfl
theorem both3n (c:Nat)(m:List (List Rat))(p:Nat)(q:Rat)(hp:p<m.length)(hl:(m.getD p []).length<1000000000)(hs:∀ a∈m.getD p [],qw a<1000000000)(hc:qw q<1000000000):SaysG E st11 92 [.at_ 999 0 3,.clo (.func 95) [] [.at_ 5 0 1,.at_ 8 0 4]] ([bxI 5 p,bxQ 8 q,(999,wB c m.length none)]++mat1 0 m) ([bxI 5 p,bxQ 8 q,(999,wB c m.length none)]++mat1 0 (m.set p ((m.getD p []).map (· * q)))) (.p (.tup [])):=by
 refine saysG_dat (xs:=[]) Tryz.func92 rfl Tryz.ntmps92 Tryz.results92 sM fun F G=>?_
 have L:=@lti _ _ G.nt
 have hG:=G.g
 have hX:=G.x
 have hN:=ng_le hG
 refine exrN (nsw (c_m L) t1 t0 (nsw (c_m L) t1 t0 (nsw (core_nilCheck rX L) t1 t1 ?_)))
 refine nsw (c_fa un79 rfl sz77 dC rX L) t1 t1 ?_
 refine nsw (c_l1 ag77 rF rF L) t1 t1 ?_
 refine nsI hG hX hN [(0,.at_ 999 0 3),(1,.clo (.func 95) .nil [.at_ 5 0 1,.at_ 8 0 4])] ([(5,_),(8,_),(999,_)]++(mat1 0 (m.set p ((m.getD p []).map (· * q))))) (ech3_says 0 m p q dC hp hl hs hc) L (args_clo (fst:=[]) (ys:=[_]) (cap:=[_,_]) cl95 rfl rfl) t2 (by exact nc1 (bx:=[bxI 5 p,bxQ 8 q]) (r:=[_]) sM G rfl rfl rfl rfl rfl t2) (fun q h=>by cases h) rfl ?_
 refine .nil ⟨[(0,_),(1,_)],(5,_) :: (8,_) :: (999,_) :: mat1 0 (m.set p ((m.getD p []).map (· * q))),t2,⟨rfl,rfl,rfl,(hbT [_,_,_] (mat1_ok dC (m.set p ((m.getD p []).map (· * q)))) rfl)⟩,?_⟩
 refine exr (mV L rfl (sw (core_nilCheck rX L) t1 t1 ?_))
 refine sw (c_fa un79 rfl sz77 dC rX L) t1 t1 ?_
 refine sw (c_l1 ag77 rF rF L) t1 t1 ?_
 refine sw (core_neqN un77 L) t2 t0 ?_
 refine seq_nil ⟨[(0,_),(1,_),(14,_)],(5,_) :: (8,_) :: (999,_) :: (mat1 0 (m.set p ((m.getD p []).map (· * q)))),t3,⟨rfl,rfl,rfl,(hbT [_,_,_] (mat1_ok dC (m.set p ((m.getD p []).map (· * q)))) rfl)⟩,?_⟩
 refine ex_false rfl rfl (ex_skip ?_)
 refine ⟨.inl rfl,ResVs.cast .nil ?_,⟨rfl,rfl,rfl,(hbT [_,_,_] (mat1_ok dC (m.set p ((m.getD p []).map (· * q)))) rfl)⟩⟩
 rfl
theorem both3s (c:Nat)(m b:List (List Rat))(p:Nat)(q:Rat)(hp:p<m.length)(hl:(m.getD p []).length<1000000000)(hs:∀ a∈m.getD p [],qw a<1000000000)(hc:qw q<1000000000)(hpb:p<b.length)(hlb:(b.getD p []).length<1000000000)(hsb:∀ a∈b.getD p [],qw a<1000000000):SaysG E st11 92 [.at_ 999 0 3,.clo (.func 95) [] [.at_ 5 0 1,.at_ 8 0 4]] ([bxI 5 p,bxQ 8 q,(999,wB c m.length (some b.length))]++(mat1 0 m++mat1 1 b)) ([bxI 5 p,bxQ 8 q,(999,wB c m.length (some b.length))]++(mat1 0 (m.set p ((m.getD p []).map (· * q)))++mat1 1 (b.set p ((b.getD p []).map (· * q))))) (.p (.tup [])):=by
 refine saysG_dat (xs:=[]) Tryz.func92 rfl Tryz.ntmps92 Tryz.results92 sM fun F G=>?_
 have L:=@lti _ _ G.nt
 have hG:=G.g
 have hX:=G.x
 have hN:=ng_le hG
 refine exrN (nsw (c_m L) t1 t0 (nsw (c_m L) t1 t0 (nsw (core_nilCheck rX L) t1 t1 ?_)))
 refine nsw (c_fa un79 rfl sz77 dC rX L) t1 t1 ?_
 refine nsw (c_l1 ag77 rF rF L) t1 t1 ?_
 refine nsI hG hX hN [(0,.at_ 999 0 3),(1,.clo (.func 95) .nil [.at_ 5 0 1,.at_ 8 0 4])] ([(5,_),(8,_),(999,_)]++(mat1 0 (m.set p ((m.getD p []).map (· * q)))++mat1 1 b)) (ech3_says 0 m p q dC hp hl hs hc) L (args_clo (fst:=[]) (ys:=[_]) (cap:=[_,_]) cl95 rfl rfl) t2 (by exact nc2a (bx:=[bxI 5 p,bxQ 8 q]) (r:=[_]) sM G rfl rfl rfl rfl rfl t2) (fun q h=>by cases h) rfl ?_
 refine .nil ⟨[(0,_),(1,_)],(5,_) :: (8,_) :: (999,_) :: mat1 0 (m.set p ((m.getD p []).map (· * q)))++mat1 1 b,t2,⟨rfl,rfl,rfl,(hbT [_,_,_] (mat2_ok (m.set p ((m.getD p []).map (· * q))) b) rfl)⟩,?_⟩
 refine exr (mV L rfl (sw (core_nilCheck rX L) t1 t1 ?_))
 refine sw (c_fa un79 rfl sz77 dC rX L) t1 t1 ?_
 refine sw (c_l1 ag77 rF rF L) t1 t1 ?_
 refine sw (core_neqR un77 (by first | exact refsB_length _ _ _ | exact (refsB_length _ _ _).trans sM) L) t2 ⟨rdT [_,_,_] (mat2_ok (m.set p ((m.getD p []).map (· * q))) b) rfl hd2L,trivial⟩ ?_
 refine seq_nil ⟨[(0,_),(1,_),(14,_)],(5,_) :: (8,_) :: (999,_) :: (mat1 0 (m.set p ((m.getD p []).map (· * q)))++mat1 1 b),t3,⟨rfl,rfl,rfl,(hbT [_,_,_] (mat2_ok (m.set p ((m.getD p []).map (· * q))) b) rfl)⟩,?_⟩
 refine ex_true rfl rfl (exr0N (nsw (c_m L) t1 t0 (nsw (c_m L) t1 t0 (nsw (core_nilCheck rX L) t1 t1 ?_))))
 refine nsw (c_fa un79 rfl sz77 dC rX L) t1 t1 ?_
 refine nsw (c_l1 ag77 rF rF L) t1 t1 ?_
 refine nsI hG hX hN [] ([(5,_),(8,_),(999,_)]++(mat1 0 (m.set p ((m.getD p []).map (· * q)))++mat1 1 (b.set p ((b.getD p []).map (· * q))))) (ech3_says 1 b p q dC hpb hlb hsb hc) L (args_clo (fst:=[]) (ys:=[_]) (cap:=[_,_]) cl95 rfl rfl) t2 (by exact nc2b (bx:=[bxI 5 p,bxQ 8 q]) (r:=[_]) sM G rfl rfl rfl rfl rfl trivial) (fun q h=>by cases h) rfl ?_
 refine .nil ?_
 refine ⟨.inl rfl,ResVs.cast .nil ?_,⟨rfl,rfl,rfl,(hbT [_,_,_] (mat2_ok (m.set p ((m.getD p []).map (· * q))) (b.set p ((b.getD p []).map (· * q)))) rfl)⟩⟩
 rfl
theorem both4n (c:Nat)(m:List (List Rat))(i p:Nat)(q:Rat)(B C D:Nat)(hi:i<m.length)(hp:p<m.length)(hne:i≠p)(hlen:(m.getD p []).length=(m.getD i []).length)(hl:(m.getD i []).length<1000000000)(hB:∀ a∈m.getD i [],qw a≤B)(hC:∀ a∈m.getD p [],qw a≤C)(hD:qw q≤D)(hb:B+(D+C)+1<1000000000):SaysG E stA 92 [.at_ 999 0 3,.clo (.func 98) [] [.at_ 10 0 1,.at_ 5 0 1,.at_ 11 0 4]] ([bxI 5 p,bxI 10 i,bxQ 11 q,(999,wB c m.length none)]++mat1 0 m) ([bxI 5 p,bxI 10 i,bxQ 11 q,(999,wB c m.length none)]++mat1 0 (takR m i p q)) (.p (.tup [])):=by
 refine saysG_dat (xs:=[]) Tryz.func92 rfl Tryz.ntmps92 Tryz.results92 sM fun F G=>?_
 have L:=@lti _ _ G.nt
 have hG:=G.g
 have hX:=G.x
 have hN:=ng_le hG
 refine exrN (nsw (c_m L) t1 t0 (nsw (c_m L) t1 t0 (nsw (core_nilCheck rX L) t1 t1 ?_)))
 refine nsw (c_fa un79 rfl sz77 dC rX L) t1 t1 ?_
 refine nsw (c_l1 ag77 rF rF L) t1 t1 ?_
 refine nsI hG hX hN [(0,.at_ 999 0 3),(1,.clo (.func 98) .nil [.at_ 10 0 1,.at_ 5 0 1,.at_ 11 0 4])] ([(5,_),(10,_),(11,_),(999,_)]++(mat1 0 (takR m i p q))) (ech4_says 0 m i p q B C D dC hi hp hne hlen hl hB hC hD hb) L (args_clo (fst:=[]) (ys:=[_]) (cap:=[_,_,_]) cl98 rfl rfl) t2 (by exact nc1A (bx:=[bxI 5 p,bxI 10 i,bxQ 11 q]) (r:=[_]) (takR_same hlen) rfl rfl rfl t2) (fun q h=>by cases h) rfl ?_
 refine .nil ⟨[(0,_),(1,_)],(5,_) :: (10,_) :: (11,_) :: (999,_) :: mat1 0 (takR m i p q),t2,⟨rfl,rfl,rfl,rfl,(hbT [_,_,_,_] (mat1_ok dC (takR m i p q)) rfl)⟩,?_⟩
 refine exr (mV L rfl (sw (core_nilCheck rX L) t1 t1 ?_))
 refine sw (c_fa un79 rfl sz77 dC rX L) t1 t1 ?_
 refine sw (c_l1 ag77 rF rF L) t1 t1 ?_
 refine sw (core_neqN un77 L) t2 t0 ?_
 refine seq_nil ⟨[(0,_),(1,_),(14,_)],(5,_) :: (10,_) :: (11,_) :: (999,_) :: (mat1 0 (takR m i p q)),t3,⟨rfl,rfl,rfl,rfl,(hbT [_,_,_,_] (mat1_ok dC (takR m i p q)) rfl)⟩,?_⟩
 refine ex_false rfl rfl (ex_skip ?_)
 refine ⟨.inl rfl,ResVs.cast .nil ?_,⟨rfl,rfl,rfl,rfl,(hbT [_,_,_,_] (mat1_ok dC (takR m i p q)) rfl)⟩⟩
 rfl
theorem both4s (c:Nat)(m b:List (List Rat))(i p:Nat)(q:Rat)(B C D:Nat)(hi:i<m.length)(hp:p<m.length)(hne:i≠p)(hlen:(m.getD p []).length=(m.getD i []).length)(hl:(m.getD i []).length<1000000000)(hB:∀ a∈m.getD i [],qw a≤B)(hC:∀ a∈m.getD p [],qw a≤C)(hD:qw q≤D)(hb:B+(D+C)+1<1000000000)(B' C':Nat)(hib:i<b.length)(hpb:p<b.length)(hlenb:(b.getD p []).length=(b.getD i []).length)(hlb:(b.getD i []).length<1000000000)(hBb:∀ a∈b.getD i [],qw a≤B')(hCb:∀ a∈b.getD p [],qw a≤C')(hbb:B'+(D+C')+1<1000000000):SaysG E stA 92 [.at_ 999 0 3,.clo (.func 98) [] [.at_ 10 0 1,.at_ 5 0 1,.at_ 11 0 4]] ([bxI 5 p,bxI 10 i,bxQ 11 q,(999,wB c m.length (some b.length))]++(mat1 0 m++mat1 1 b)) ([bxI 5 p,bxI 10 i,bxQ 11 q,(999,wB c m.length (some b.length))]++(mat1 0 (takR m i p q)++mat1 1 (takR b i p q))) (.p (.tup [])):=by
 refine saysG_dat (xs:=[]) Tryz.func92 rfl Tryz.ntmps92 Tryz.results92 sM fun F G=>?_
 have L:=@lti _ _ G.nt
 have hG:=G.g
 have hX:=G.x
 have hN:=ng_le hG
 refine exrN (nsw (c_m L) t1 t0 (nsw (c_m L) t1 t0 (nsw (core_nilCheck rX L) t1 t1 ?_)))
 refine nsw (c_fa un79 rfl sz77 dC rX L) t1 t1 ?_
 refine nsw (c_l1 ag77 rF rF L) t1 t1 ?_
 refine nsI hG hX hN [(0,.at_ 999 0 3),(1,.clo (.func 98) .nil [.at_ 10 0 1,.at_ 5 0 1,.at_ 11 0 4])] ([(5,_),(10,_),(11,_),(999,_)]++(mat1 0 (takR m i p q)++mat1 1 b)) (ech4_says 0 m i p q B C D dC hi hp hne hlen hl hB hC hD hb) L (args_clo (fst:=[]) (ys:=[_]) (cap:=[_,_,_]) cl98 rfl rfl) t2 (by exact nc2aA (bx:=[bxI 5 p,bxI 10 i,bxQ 11 q]) (r:=[_]) (takR_same hlen) rfl rfl rfl t2) (fun q h=>by cases h) rfl ?_
 refine .nil ⟨[(0,_),(1,_)],(5,_) :: (10,_) :: (11,_) :: (999,_) :: mat1 0 (takR m i p q)++mat1 1 b,t2,⟨rfl,rfl,rfl,rfl,(hbT [_,_,_,_] (mat2_ok (takR m i p q) b) rfl)⟩,?_⟩
 refine exr (mV L rfl (sw (core_nilCheck rX L) t1 t1 ?_))
 refine sw (c_fa un79 rfl sz77 dC rX L) t1 t1 ?_
 refine sw (c_l1 ag77 rF rF L) t1 t1 ?_
 refine sw (core_neqR un77 (by first | exact refsB_length _ _ _ | exact (refsB_length _ _ _).trans sM) L) t2 ⟨rdT [_,_,_,_] (mat2_ok (takR m i p q) b) rfl hd2L,trivial⟩ ?_
 refine seq_nil ⟨[(0,_),(1,_),(14,_)],(5,_) :: (10,_) :: (11,_) :: (999,_) :: (mat1 0 (takR m i p q)++mat1 1 b),t3,⟨rfl,rfl,rfl,rfl,(hbT [_,_,_,_] (mat2_ok (takR m i p q) b) rfl)⟩,?_⟩
 refine ex_true rfl rfl (exr0N (nsw (c_m L) t1 t0 (nsw (c_m L) t1 t0 (nsw (core_nilCheck rX L) t1 t1 ?_))))
 refine nsw (c_fa un79 rfl sz77 dC rX L) t1 t1 ?_
 refine nsw (c_l1 ag77 rF rF L) t1 t1 ?_
 refine nsI hG hX hN [] ([(5,_),(10,_),(11,_),(999,_)]++(mat1 0 (takR m i p q)++mat1 1 (takR b i p q))) (ech4_says 1 b i p q B' C' D dC hib hpb hne hlenb hlb hBb hCb hD hbb) L (args_clo (fst:=[]) (ys:=[_]) (cap:=[_,_,_]) cl98 rfl rfl) t2 (by exact nc2bA (bx:=[bxI 5 p,bxI 10 i,bxQ 11 q]) (r:=[_]) (takR_same hlenb) rfl rfl rfl trivial) (fun q h=>by cases h) rfl ?_
 refine .nil ?_
 refine ⟨.inl rfl,ResVs.cast .nil ?_,⟨rfl,rfl,rfl,rfl,(hbT [_,_,_,_] (mat2_ok (takR m i p q) (takR b i p q)) rfl)⟩⟩
 rfl
@[reducible] def wV (c n:Nat)(v:PV):Nat×Blk:=(999,⟨79,3,.mix [.ref 1001 0 n n,.p (vZ c),v]⟩)
@[reducible] def bxW:Nat×Blk:=(1,⟨73,1,.mix [.at_ 999 0 3]⟩)
theorem ech1_says (m:List (List Rat))(cols c i:Nat)(v:PV)(T:List (Nat×Blk))(hT:TailOk T)(hsub:∀ k B,(mat1 0 m).lookup k=some B→T.lookup k=some B)(hi:i<m.length)(hc:c<(m.getD i []).length)(hq:qw ((m.getD i []).getD c 0)<1000000000):SaysG E (fun _=>true) 90 [.p (vZ i),.at_ 1 0 1,.at_ 4 0 1] ([bxW,bxI 4 c,wV cols m.length v]++T) ([bxW,bxI 4 c,wV cols m.length v]++T) (.p (bZ (nzI m c i))):=by
 refine saysG_dat (xs:=[bZ (nzI m c i)]) Tryz.func90 rfl Tryz.ntmps90 Tryz.results90 sM fun F G=>?_
 have L:=@lti _ _ G.nt
 have hG:=G.g
 have hX:=G.x
 have hN:=ng_le hG
 refine exr (aV L rfl ?_)
 refine seq_nil ⟨[(0,_),(1,_),(2,_)],(1,_) :: (4,_) :: (999,_) :: T,t3,⟨rfl,rfl,rfl,(hbT [_,_,_] hT rfl)⟩,?_⟩
 refine exd rF ?_
 refine sw (c_l1 ag73 rF rF L) t1 t1 ?_
 refine sw (core_nilCheck rX L) t1 t1 ?_
 refine sw (c_fa un79 rfl sz77 dC rX L) t1 t1 ?_
 refine sw (c_l1 ag77 rF rF L) t1 t1 ?_
 refine mV L rfl (sw (c_l1 ag3 rF rF L) t1 t1 ?_)
 refine sw (core_callI hG hX hN (at_says 0 m i c dC hi hc) rfl L (args_fn (ys:=[_,_,_]) cl91 rfl rfl) (mat1_ok dC m).nd (mat1_ok dC m).whole (fun q h=>by cases h)) t3 (readsB_of (hasB_of (mat1_ok dC m).nd fun k B h=>rdT [_,_,_] hT rfl (hsub k B h))) ?_
 refine cK hG hX cl65 hN (zero_says ((m.getD i []).getD c 0) hq) L t1 (sw (c_no L) t1 t0 (aV L rfl ?_))
 refine seq_nil ⟨aokF [⟨[1],[1],[5],[]⟩,⟨[5],[999],[6],[]⟩,⟨[6],[999],[7],[]⟩,⟨[7],[999],[8],[]⟩,⟨[0],[],[9],[]⟩,⟨[2],[4],[10],[]⟩,⟨[8,9,10],[1000],[11],[]⟩,⟨[11],[],[12],[]⟩,⟨[12],[],[13],[]⟩,⟨[13],[],[4],[]⟩] (.cons (cf0 rfl) (.cons (cf0 rfl) (.cons (cf0 rfl) (.cons (cf0 rfl) (.cons (cf0 rfl) (.cons (cf0 rfl) (.cons (cfT rfl rfl (fun p hp=>by rw [cls_hi (tail_hi (mat1_ok dC m) p hp)]; exact List.mem_singleton.2 rfl) rfl (fun _ h=>by cases h)) (.cons (cf0 rfl) (.cons (cf0 rfl) (.cons (cf0 rfl)  .nil)))))))))) rfl (frS [] [_,_,_] hT rfl rfl) dC,[(4,_)],(1,_) :: (4,_) :: (999,_) :: T,t1,⟨rfl,rfl,rfl,(hbT [_,_,_] hT rfl)⟩,?_⟩
 refine ex_ret ?_
 refine ⟨.inr rfl,ResVs.cast (.cons (.tmp rfl) .nil) ?_,⟨rfl,rfl,rfl,(hbT [_,_,_] hT rfl)⟩⟩
 rfl
def stO (k:Nat):Bool:=!(k == 603 || k == 604 || k == 605)
theorem othersN_says (cols n p c:Nat)(T:List (Nat×Blk))(hT:TailOk T):SaysG E stO 97 [.at_ 999 0 3,.p (vZ p),.p (vZ c)] ([wV cols n (.p (.a (.slice none 0 0)))]++T) ([(603,⟨73,1,.mix [.at_ 999 0 3]⟩),bxI 604 p,bxI 605 c,wV cols n (.p (.a (.slice none 0 0)))]++T) (.clo (.func 126) [] [.at_ 603 0 1,.at_ 604 0 1,.at_ 605 0 1]):=by
 refine saysG_tmp Tryz.func97 rfl Tryz.ntmps97 Tryz.results97 sM fun F G=>?_
 have L:=@lti _ _ G.nt
 have hG:=G.g
 have hX:=G.x
 have hN:=ng_le hG
 have P0:=fun k (hk:(Nat.blt k 1000 && (List.lookup k _).isNone)=true)=>G.p0 k (p0T hT hk)
 refine exr (swb (core_boxAt (k:=603) rX rfl (P0 _ rfl) L) t1 t1 (frT [_] hT rfl rfl rfl) ?_)
 refine swb (c_bx (k:=604) (n:=1) (.atom rfl) rfl rfl (P0 _ rfl) L) t1 t0 (frT [_,_] hT rfl rfl rfl) (swb (c_bx (k:=605) (n:=1) (.atom rfl) rfl rfl (P0 _ rfl) L) t1 t0 (frT [_,_,_] hT rfl rfl rfl) (aV L rfl ?_))
 refine seq_nil ⟨[(3,_),(4,_),(5,_)],(603,_) :: (604,_) :: (605,_) :: (999,_) :: T,t3,⟨rfl,rfl,rfl,rfl,(hbT [_,_,_,_] hT rfl)⟩,?_⟩
 refine exr (sw (c_fn (vs:=[]) (us:=[_,_,_]) rfl rfl L) t3 t0 (aV L rfl ?_))
 refine seq_nil ⟨[(6,_)],(603,_) :: (604,_) :: (605,_) :: (999,_) :: T,t1,⟨rfl,rfl,rfl,rfl,(hbT [_,_,_,_] hT rfl)⟩,?_⟩
 refine ex_ret ?_
 refine ⟨.inr rfl,rfl,⟨rfl,rfl,rfl,rfl,hbT [_,_,_,_] hT rfl⟩⟩
theorem othersS_says (cols n nb p c:Nat)(T:List (Nat×Blk))(hT:TailOk T):SaysG E stO 97 [.at_ 999 0 3,.p (vZ p),.p (vZ c)] ([wV cols n (.ref 1002 0 nb nb)]++T) ([(603,⟨73,1,.mix [.at_ 999 0 3]⟩),bxI 604 p,bxI 605 c,wV cols n (.ref 1002 0 nb nb)]++T) (.clo (.func 126) [] [.at_ 603 0 1,.at_ 604 0 1,.at_ 605 0 1]):=by
 refine saysG_tmp Tryz.func97 rfl Tryz.ntmps97 Tryz.results97 sM fun F G=>?_
 have L:=@lti _ _ G.nt
 have hG:=G.g
 have hX:=G.x
 have hN:=ng_le hG
 have P0:=fun k (hk:(Nat.blt k 1000 && (List.lookup k _).isNone)=true)=>G.p0 k (p0T hT hk)
 refine exr (swb (core_boxAt (k:=603) rX rfl (P0 _ rfl) L) t1 t1 (frT [_] hT rfl rfl rfl) ?_)
 refine swb (c_bx (k:=604) (n:=1) (.atom rfl) rfl rfl (P0 _ rfl) L) t1 t0 (frT [_,_] hT rfl rfl rfl) (swb (c_bx (k:=605) (n:=1) (.atom rfl) rfl rfl (P0 _ rfl) L) t1 t0 (frT [_,_,_] hT rfl rfl rfl) (aV L rfl ?_))
 refine seq_nil ⟨[(3,_),(4,_),(5,_)],(603,_) :: (604,_) :: (605,_) :: (999,_) :: T,t3,⟨rfl,rfl,rfl,rfl,(hbT [_,_,_,_] hT rfl)⟩,?_⟩
 refine exr (sw (c_fn (vs:=[]) (us:=[_,_,_]) rfl rfl L) t3 t0 (aV L rfl ?_))
 refine seq_nil ⟨[(6,_)],(603,_) :: (604,_) :: (605,_) :: (999,_) :: T,t1,⟨rfl,rfl,rfl,rfl,(hbT [_,_,_,_] hT rfl)⟩,?_⟩
 refine ex_ret ?_
 refine ⟨.inr rfl,rfl,⟨rfl,rfl,rfl,rfl,hbT [_,_,_,_] hT rfl⟩⟩
end Go.Proofs.YtjagfionflbjbaaGreat.N
namespace Go.Proofs.YtjagfionflbjbaaGreat.SH
open Go Go.RowKit
theorem opokY {P : Program} {F : Fr} {ops : Array Oper} {d : Nat} {fo o1 o2 : Operand} {ts : Array TypeId} {T : TypeId} {pos : String} {aft : Array Edge} {j g : Nat} {want b : Bool} {l n k : Nat} {encs : Nat → Pure × Pure} {H : Nat → List (Nat × Blk)} (hY : Yields P F l n encs H) (hk : k < n) (hj : ((ops[j]?).bind (·.dst)) = some g) (hb : b = want) (hlt : d < F.nt) :
    OpOk P F ops ⟨some d,.call ⟨.value fo,#[o1,o2],ts⟩,T,pos,aft,some (j,want)⟩ ⟨[(.tmp g,.p (.a (.bool b))),(fo,.clo (.yield l) [] []),(o1,.p (encs k).1),(o2,.p (encs k).2)],H k,none,[(d,.p (.a (.bool true)))],H (k+1)⟩:=by
  intro S a w hS hh Q K hK
  have hr:=hh.rs (.tmp g,.p (.a (.bool b))) (by simp)
  obtain ⟨ρ,hS'⟩:=hS
  obtain ⟨u,hu,hru⟩:=hS'.slots g _ hr
  have:u = .bool b:=by simpa [RelV,Rel] using hru
  subst this
  have hw:Region.wanted ⟨some d,.call ⟨.value fo,#[o1,o2],ts⟩,T,pos,aft,some (j,want)⟩ (yielded ops a.tmps)=true:=by simp [Region.wanted,yielded,hj,hu,hb]
  rw [if_pos hw]
  exact .inr fun m=>hY k hk d fo o1 o2 ts T pos aft (some (j,want)) hlt S a w ⟨ρ,hS'⟩ ⟨fun q hq=>hh.rs q (List.mem_cons_of_mem _ hq),hh.rb,fun _ h=>by cases h⟩ Q K (fun a' w' hs=>hK a' w' hs) m
theorem swYg {P : Program} {F : Fr} {ops : Array Oper} {d : Nat} {fo o1 o2 : Operand} {ts : Array TypeId} {T : TypeId} {pos : String} {aft : Array Edge} {j g : Nat} {want b : Bool} {l n k : Nat} {encs : Nat → Pure × Pure} {H : Nat → List (Nat × Blk)} {os : List Oper} {sl : List (Nat × PV)} {hb : List (Nat × Blk)} {K : List Ann → St → Prop} (hY : Yields P F l n encs H) (hk : k < n) (hj : ((ops[j]?).bind (·.dst)) = some g) (hbw : b = want) (hlt : d < F.nt)
    (hgs:St.opd ⟨sl,hb⟩ (.tmp g)=some (.p (.a (.bool b)))) (h1:Reads ⟨sl,hb⟩ [(fo,.clo (.yield l) [] []),(o1,.p (encs k).1),(o2,.p (encs k).2)]) (h2:ReadsB ⟨sl,hb⟩ (H k))
    (hn:SeqK P F ops ⟨(d,.p (.a (.bool true))) :: sl,H (k+1)++hb⟩ os fun As S'=>K (⟨[(.tmp g,.p (.a (.bool b))),(fo,.clo (.yield l) [] []),(o1,.p (encs k).1),(o2,.p (encs k).2)],H k,none,[(d,.p (.a (.bool true)))],H (k+1)⟩ :: As) S') :
    SeqK P F ops ⟨sl,hb⟩ (⟨some d,.call ⟨.value fo,#[o1,o2],ts⟩,T,pos,aft,some (j,want)⟩ :: os) K :=
  let ⟨As,S',h,hK⟩:=hn
  ⟨_,S',.cons (opokY hY hk hj hbw hlt) (holds_of ⟨hgs,h1⟩ h2 trivial) h,hK⟩
theorem frS0 {S:St}{As:List Ann}(h:frNames As=[]):∀ k∈frNames As,S.free k=true:=fun k hk=>by rw [h] at hk; cases hk
theorem frAll_none:∀ {As done:List Ann},frNames As=[]→(∀ A∈done,A.fresh=none)→frAll As done=true
  | [],_,_,_=>rfl
  | B :: As,done,h,hd=>by
    simp only [frNames,List.append_eq_nil_iff,Option.toList_eq_nil_iff] at h
    simp only [frAll,Bool.and_eq_true,List.all_eq_true]
    refine ⟨fun A hA=>by simp [frPair,hd A hA,h.1],frAll_none h.2 fun A hA=>?_⟩
    rcases List.mem_append.1 hA with hA | hA
    · exact hd A hA
    · obtain rfl:=List.mem_singleton.1 hA; exact h.1
theorem aokFn (cf:Nat→Nat){os:List Oper}{As:List Ann}{S:St}(sks:List Sk)(h1:CovsF cf As sks)(hn:frNames As=[])(h2:anyOkS os sks [] []=true):(anyOk os As [] [] && freshAll S As)=true:=aokFc cf sks h1 (frAll_none hn fun _ h=>by cases h) (frS0 hn) h2
def cfI (ns:List Nat)(k:Nat):Nat:=if ns.contains k then k else 1000
structure TailI (ns:List Nat) (U:List (Nat×Blk)):Prop where
  no:∀ q,ns.contains q=true→U.lookup q=none
  nd:(U.map (·.1)).Nodup
theorem TailI.ne {ns:List Nat}{U:List (Nat×Blk)}(h:TailI ns U):∀ p∈U,cfI ns p.1=1000:=fun p hp=>by
  unfold cfI
  by_cases e:ns.contains p.1=true
  · have:=h.no p.1 e
    rw [lookup_nd h.nd hp] at this; cases this
  · rw [if_neg e]
theorem preI_none {ns:List Nat}{pre U:List (Nat×Blk)}(h:TailI ns U)(hp:(pre.all fun p=>ns.contains p.1)=true){k:Nat}{B:Blk}(hk:U.lookup k=some B):pre.lookup k=none:=by
  cases e:pre.lookup k with
  | none=>rfl
  | some C =>
    rw [List.all_eq_true] at hp
    have:=h.no k (hp _ (lookup_mem e))
    rw [hk] at this; cases this
theorem hbTI {ns:List Nat}{sl:List (Nat×PV)}{U:List (Nat×Blk)}(pre:List (Nat×Blk))(h:TailI ns U)(hp:(pre.all fun p=>ns.contains p.1)=true):HasB ⟨sl,pre++U⟩ U:=hasB_of h.nd fun k B hk=>by
  show (pre++U).lookup k=some B
  rw [lookup_append,preI_none h hp hk,Option.none_or,hk]
theorem hbTI2 {ns:List Nat}{sl:List (Nat×PV)}{U r:List (Nat×Blk)}(pre:List (Nat×Blk))(h:TailI ns U)(hp:(pre.all fun p=>ns.contains p.1)=true):HasB ⟨sl,(pre++U)++r⟩ U:=hasB_of h.nd fun k B hk=>by
  show ((pre++U)++r).lookup k=some B
  rw [lookup_append,lookup_append,preI_none h hp hk,Option.none_or,hk]; rfl
theorem rdTI {ns:List Nat}{sl:List (Nat×PV)}{U:List (Nat×Blk)}{k:Nat}{B:Blk}(pre:List (Nat×Blk))(h:TailI ns U)(hp:(pre.all fun p=>ns.contains p.1)=true)(hk:U.lookup k=some B):St.blk ⟨sl,pre++U⟩ k=some B:=by
  show (pre++U).lookup k=some B
  rw [lookup_append,preI_none h hp hk,Option.none_or,hk]
theorem cfI_app {ns:List Nat}{l r:List (Nat×Blk)}{ks:List Nat}(h1:(l.all fun p=>ks.contains (cfI ns p.1))=true)(h2:TailI ns r)(h3:ks.contains 1000=true):∀ p∈l++r,cfI ns p.1∈ks:=by
  intro p hp
  rcases List.mem_append.1 hp with hp | hp
  · rw [List.all_eq_true] at h1; simpa using h1 p hp
  · rw [h2.ne p hp]; simpa using h3
theorem cfI_sub {ns:List Nat}{l U:List (Nat×Blk)}(h2:TailI ns U)(hl:∀ k B,l.lookup k=some B→U.lookup k=some B)(hnd:(l.map (·.1)).Nodup):∀ p∈l,cfI ns p.1∈[1000]:=by
  intro p hp
  have h1:=hl p.1 p.2 (lookup_nd hnd hp)
  rw [h2.ne (p.1,p.2) (lookup_mem h1)]; exact List.mem_singleton.2 rfl
end Go.Proofs.YtjagfionflbjbaaGreat.SH
