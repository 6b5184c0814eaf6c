/- Part B of the proof: lemmas for the walks of the given functions. No statement of its own. -/
import Derived.Test.YtjagfionflbjbaaGreatProg
import Derived.Test.YtjagfionflbjbaaGreatPA
set_option linter.unusedVariables false
set_option linter.unusedSimpArgs false
set_option linter.deprecated false
namespace Go.Proofs.YtjagfionflbjbaaGreat.SH
open Go Go.RowKit
def SaysR (E:Env)(f:FuncId)(args:List PV)(H H':List (Nat×Blk))(r:PV):Prop :=
  ∀ (ok:Nat→Prop) (ρ:Nat→Nat) (w:World) (vals:List Value),E.G w →
    (∀ j B,H.lookup j=some B→BlkAt (lk H) ρ ok (hp w) j B∧E.ng≤ρ j∧¬ ok (ρ j)) →
    (∀ j j',H.lookup j≠none→H.lookup j'≠none→ρ j=ρ j'→j=j')→RelVL (lk H) ρ ok (hp w) args vals →
    Calls E.P f vals.toArray w fun e w'=>∃ v,e = .returned v∧RelV (lk H') ρ (fun b=>(ok b∨w.heap.size≤b)∧∀ j,H'.lookup j≠none→b≠ρ j) (hp w') r v ∧
      (∀ j B',H'.lookup j=some B'→BlkAt (lk H') ρ (fun b=>(ok b∨w.heap.size≤b)∧∀ j,H'.lookup j≠none→b≠ρ j) (hp w') j B' ∧
        ∀ c T,hp w (ρ j)=some (.cells c T (0,0))→∃ c' T',hp w' (ρ j)=some (.cells c' T' (0,0))∧c'.size=c.size) ∧
      w'.os=w.os∧w'.tape=w.tape∧w'.output=w.output∧w.heap.size≤w'.heap.size∧∀ b,b<w.heap.size→(∀ j,H.lookup j≠none→b≠ρ j)→w'.heap[b]? = w.heap[b]?
theorem saysR_of {E : Env} {f : FuncId} {fn : Func} {c : Code} {args : List PV} {H H' : List (Nat × Blk)} {r : PV} {t0 n : Nat} (hf : E.P.funcs[f]? = some fn) (hb : fn.body = some c) (hn : fn.ntmps = n) (hr : fn.results = #[.tmp t0]) (hle : args.length ≤ n)
    (hk:H.all (fun p=>decide (1000≤p.1))=true) (hk':∀ j B',H'.lookup j=some B'→∃ B,H.lookup j=some B)
    (h:∀ F:Fr,E.G F.w0→(∀ b,F.X b→E.ng≤b)→F.nt=n→F.df=[]→(∀ k,Nat.blt k 1000=true→F.pin k=none)→(∀ b,F.X b→∃ j n,F.pin j=some (b,n)∧H.lookup j≠none)→Exec E.P F c ⟨argSlotsV 0 args,H⟩ (fun e S=>(e = .normal∨e = .ret)∧S.slot t0=some r∧HasB S H')):SaysR E f args H H' r:=by
  intro ok ρ w vals hG hH hinj hrel
  have hvl:=relVL_length hrel
  let F:Fr:=⟨w,ok,fun b=>∃ j,H.lookup j≠none∧b=ρ j,n,[],fun j=>if H.lookup j≠none then match hp w (ρ j) with | some (.cells c _ _)=>some (ρ j,c.size) | _=>none else none,none,fun _ _=>False,fun k=>Nat.blt k 1000⟩
  have hblk:∀ j,H.lookup j≠none→∃ B,H.lookup j=some B:=fun j hj=>by cases e:H.lookup j with
    | none=>exact absurd e hj
    | some B=>exact ⟨B,rfl⟩
  have hpin:∀ j B c,H.lookup j=some B→hp w (ρ j)=some (.cells c B.T (0,0))→F.pin j=some (ρ j,c.size):=fun j B c hj hc=>by
    simp only [F]
    rw [if_pos (by simp [hj]),hc]
  have hcarry:Carry ok (okI F (lk H) ρ) (hp w) (hp w):=fun b hb _=>⟨⟨.inl hb,fun k hk e=>by obtain ⟨B,hB⟩:=hblk k hk; exact (hH k B hB).2.2 (e ▸ hb)⟩,rfl⟩
  have hkeep:Keep (fun _=>True) (lk H) (lk H) ρ ρ (hp w) (hp w):=fun k _ B hB=>⟨B,hB,rfl,Nat.le_refl _,fun _=>⟨rfl,fun c T fr hc=>⟨c,T,fr,hc,rfl⟩⟩⟩
  have hS:SatR F ρ ⟨argSlotsV 0 args,H⟩ { tmps:=vals.toArray++Array.replicate (fn.ntmps - vals.toArray.size) undef,defers:=[] } w:=by
    refine ⟨fun t v ht=>?_,fun k B hB=>?_,hinj,⟨rfl,rfl,rfl,Nat.le_refl _,fun _ _ _=>rfl⟩,?_,Marks.nil rfl,fun j b m hj hS=>?_⟩
    · obtain ⟨j,rfl,hx⟩:=argSlotsV_get ht
      obtain ⟨u,hu,hru⟩:=relVL_get hrel hx
      refine ⟨u,?_,RelV.mono hcarry hkeep v u (fun _ _=>trivial) hru⟩
      rw [Nat.zero_add,Array.getElem?_append_left (by have:=(List.getElem?_eq_some_iff.1 hu).1; simpa using this)]
      simpa using hu
    · obtain ⟨⟨c,h1,h2,h3⟩,h4,h5⟩:=hH k B hB
      refine ⟨c,h1,.inl ⟨⟨k,by simp only [St.blk] at hB; simp [hB],rfl⟩,by cases e:Nat.blt k 1000 with | false=>exact e | true=>exact absurd hB (by simp [St.blk,lookup_high hk e])⟩,h2,fun i x hx=>?_⟩
      obtain ⟨u,hu,ho,hru⟩:=h3 i x hx
      exact ⟨u,hu,ho,RelV.mono hcarry hkeep x u (fun _ _=>trivial) hru⟩
    · simp [F,hn]; omega
    · obtain ⟨B,hB⟩:=hblk j hS
      obtain ⟨⟨c,h1,_⟩,_⟩:=hH j B hB
      rw [hpin j B c hB h1] at hj
      injection hj with hj
      injection hj with hj1 hj2
      subst hj1 hj2
      exact ⟨rfl,c,B.T,h1,rfl⟩
  refine calls_exec hf hb rfl rfl (fun _ _ h=>h) ⟨ρ,hS⟩ (h F hG (fun b ⟨j,hj,e⟩=>by obtain ⟨B,hB⟩:=hblk j hj; subst e; exact (hH j B hB).2.1) rfl rfl (fun k hk2=>by simp only [F]; rw [if_neg (by simp [lookup_high hk hk2])]) (fun b ⟨j,hj,e⟩=>by obtain ⟨B,hB⟩:=hblk j hj; obtain ⟨⟨c,h1,_⟩,_⟩:=hH j B hB; subst e; exact ⟨j,_,hpin j B c hB h1,hj⟩)) fun e S' hq=>⟨hq.1,fun ρ' tmps w' hS'=>?_⟩
  obtain ⟨-,hres,hHB⟩:=hq
  obtain ⟨v,hu,hrv⟩:=hS'.slots t0 r hres
  have hv:(results fn tmps).run E.P w' = .ok v w':=by
    have e:results fn tmps=(do let vs ← [ResultVar.tmp t0].toArray.mapM (resRun tmps); pure (if h:vs.size=1 then vs[0] else .tuple vs)):=by
      unfold results
      rw [hr]
      rfl
    have hm:([ResultVar.tmp t0].toArray.mapM (resRun tmps)).run E.P w' = .ok #[v] w':=by
      rw [List.mapM_toArray]
      simp [List.mapM_cons,resRun,Array.getD_eq_getD_getElem?,hu]
    rw [e]
    simp only [Sem.run_bind,hm,Result.andThen_ok,Sem.run_pure]
    rfl
  have hpin':∀ j B',H'.lookup j=some B'→ρ' j=ρ j∧S'.blk j=some B'∧∀ c T,hp w (ρ j)=some (.cells c T (0,0))→∃ c' T',hp w' (ρ j)=some (.cells c' T' (0,0))∧c'.size=c.size:=fun j B' hj=>by
    have hsb:=hHB.all j B' hj
    obtain ⟨B,hB⟩:=hk' j B' hj
    obtain ⟨⟨c,h1,_⟩,_⟩:=hH j B hB
    obtain ⟨e1,c',T',e2,e3⟩:=hS'.pin j _ _ (hpin j B c hB h1) (by simp [hsb])
    refine ⟨e1,hsb,fun c2 T2 hc2=>⟨c',T',e2,?_⟩⟩
    rw [h1] at hc2
    injection hc2 with hc2
    injection hc2 with hc2
    rw [e3,hc2]
  have hcar:Carry (okI F S'.blk ρ') (fun b=>(ok b∨w.heap.size≤b)∧∀ j,H'.lookup j≠none→b≠ρ j) (hp w') (hp w'):=fun b hb _=>⟨⟨hb.1,fun j hj e=>by
    cases hj':H'.lookup j with
    | none=>exact hj hj'
    | some B' =>
      obtain ⟨e1,e2,_⟩:=hpin' j B' hj'
      exact hb.2 j (by simp [e2]) (by rw [e1]; exact e)⟩,rfl⟩
  have hfin : ∃ v0, Ending.returned v = .returned v0 ∧ RelV (lk H') ρ (fun b => (ok b ∨ w.heap.size ≤ b) ∧ ∀ j, H'.lookup j ≠ none → b ≠ ρ j) (hp w') r v0 ∧
      (∀ j B',H'.lookup j=some B'→BlkAt (lk H') ρ (fun b=>(ok b∨w.heap.size≤b)∧∀ j,H'.lookup j≠none→b≠ρ j) (hp w') j B' ∧
        ∀ c T,hp w (ρ j)=some (.cells c T (0,0))→∃ c' T',hp w' (ρ j)=some (.cells c' T' (0,0))∧c'.size=c.size) ∧
      w'.os=w.os∧w'.tape=w.tape∧w'.output=w.output∧w.heap.size≤w'.heap.size∧∀ b,b<w.heap.size→(∀ j,H.lookup j≠none→b≠ρ j)→w'.heap[b]? = w.heap[b]?:=by
    refine ⟨v,rfl,RelV.mono (K:=fun _=>True) hcar (fun k _ B hB=>by obtain ⟨g1,g2,_⟩:=hpin' k B hB; exact ⟨B,g2,rfl,Nat.le_refl _,fun _=>⟨g1.symm,fun c T fr hc=>⟨c,T,fr,hc,rfl⟩⟩⟩) r v (fun _ _=>trivial) hrv,fun j B' hj=>?_,hS'.frame.os,hS'.frame.tape,hS'.frame.output,hS'.frame.size,fun b hb hx=>hS'.frame.block b hb (fun ⟨j,hj,e⟩=>hx j hj e)⟩
    obtain ⟨e1,e2,e3⟩:=hpin' j B' hj
    obtain ⟨c',f1,_,f3,f4⟩:=hS'.blks j B' e2
    refine ⟨⟨c',by rw [← e1]; exact f1,f3,fun i x hx=>?_⟩,e3⟩
    obtain ⟨u,hu,ho,hru⟩:=f4 i x hx
    refine ⟨u,hu,ho,RelV.mono (K:=fun _=>True) hcar (fun k _ B hB=>?_) x u (fun _ _=>trivial) hru⟩
    obtain ⟨g1,g2,_⟩:=hpin' k B hB
    exact ⟨B,g2,rfl,Nat.le_refl _,fun _=>⟨g1.symm,fun c T fr hc=>⟨c,T,fr,hc,rfl⟩⟩⟩
  exact ⟨v,hv,hfin⟩
theorem List.map_map_fst {κ:Nat→Nat}{H H':List (Nat×Blk)}(h:H'.map (·.1)=H.map (·.1)):(H.map fun p=>κ p.1)=(H'.map fun p=>κ p.1):=by
  have e:∀ l:List (Nat×Blk),(l.map fun p=>κ p.1)=(l.map (·.1)).map κ:=fun l=>by simp
  rw [e,e,h]
theorem c_cr {E : Env} {F : Fr} (hG : E.G F.w0) (hX : ∀ b, F.X b → E.ng ≤ b) {d : Nat} {f : FuncId} {o : Oper} {rs : List (Operand × PV)} {xs : List PV} {H H' : List (Nat × Blk)} {k0 o0 n0 t0 : Nat} (ks : List Nat) (hng : E.ng ≤ F.w0.heap.size) (hs : SaysR E f xs H H' (.ref k0 o0 n0 t0)) (hk0 : (H'.lookup k0).isSome = true) (hd : o.dst = some d)
    (hargs:∀ ρ S a w,SatR F ρ S a w→(∀ p∈rs,S.opd p.1=some p.2)→∃ vals:List Value,(execOp a.eval o).run E.P w = .ok (.enter f vals.toArray) w∧RelVL S.blk ρ (okI F S.blk ρ) (hp w) (xs.map (PV.ren fun j=>ks.getD (j - 1000) 0)) vals)
    (hn:nodupB (H.map fun p=>ks.getD (p.1 - 1000) 0)=true) (hn2:nodupB (H'.map (·.1))=true) (hn3:nodupB (H.map (·.1))=true) (hk:H'.map (·.1)=H.map (·.1)) (hsame:∀ j B B',H.lookup j=some B→H'.lookup j=some B'→B'.T=B.T∧B'.sz=B.sz∧B'.cs.len=B.cs.len) (hdata0:H.all (fun p=>p.2.cs.data)=true) (hdata:H'.all (fun p=>p.2.cs.data)=true) (hlt:d<F.nt) :
    CoreOk E.P F o ⟨rs,H.map (fun p=>(ks.getD (p.1 - 1000) 0,p.2)),none,[(d,.ref (ks.getD (k0 - 1000) 0) o0 n0 t0)],H'.map (fun p=>(ks.getD (p.1 - 1000) 0,p.2))⟩:=by
  intro S a w ⟨ρ,h⟩ hA Q K hK
  let κ:Nat→Nat:=fun j=>ks.getD (j - 1000) 0
  obtain ⟨vals,hrun,hvals⟩:=hargs ρ S a w h hA.rs
  unfold Oper.wp
  rw [hrun]
  simp only [Oper.upon]
  have hne:∀ k,S.blk k≠none→ρ k<w.heap.size:=fun k hk=>by
    cases hB:S.blk k with
    | none=>exact absurd hB hk
    | some B=>obtain ⟨c,e1,_⟩:=h.blks k B hB; exact World.size_lt e1
  have hmemH:∀ j B,H.lookup j=some B→(j,B)∈H:=fun j B hj=>by
    have:∀ l:List (Nat×Blk),l.lookup j=some B→(j,B)∈l:=by
      intro l
      induction l with
      | nil=>simp
      | cons p l ih =>
        obtain ⟨s,u⟩:=p
        intro h
        rw [List.lookup_cons] at h
        split at h
        · rename_i e; injection h with h; subst h; simp [beq_iff_eq.1 e]
        · simp [ih h]
    exact this H hj
  have hSH:∀ j B,H.lookup j=some B→S.blk (κ j)=some B:=fun j B hj=>hA.rb (κ j,B) (List.mem_map.2 ⟨(j,B),hmemH j B hj,rfl⟩)
  have hrel:RelVL (lk H) (fun j=>ρ (κ j)) (okI F S.blk ρ) (hp w) xs vals:=renL_rel (κ:=κ) hSH xs _ (by rw [renL_map]; exact hvals)
  have hGw:E.G w:=E.stab F.w0 w hG fun b hb=>h.frame.block b (by omega) (fun hx=>by have:=hX b hx; omega)
  have hpre:∀ j B,H.lookup j=some B→BlkAt (lk H) (fun j=>ρ (κ j)) (okI F S.blk ρ) (hp w) j B∧E.ng≤ρ (κ j)∧¬ okI F S.blk ρ (ρ (κ j)):=fun j B hj=>by
    have hB:=hSH j B hj
    obtain ⟨c,e1,e2,e3,e4⟩:=h.blks (κ j) B hB
    refine ⟨⟨c,e1,e3,fun i x hx=>?_⟩,?_,fun hok=>hok.2 (κ j) (by simp [hB]) rfl⟩
    · rw [List.all_eq_true] at hdata0
      obtain ⟨y,rfl⟩:=Cells.data_get (hdata0 _ (hmemH j B hj)) hx
      obtain ⟨u,hu,ho,hru⟩:=e4 i _ hx
      exact ⟨u,hu,ho,by simpa only [RelV] using hru⟩
    · rcases e2 with e2 | e2
      · exact hX _ e2.1
      · omega
  refine Calls.mono (hs (okI F S.blk ρ) (fun j=>ρ (κ j)) w _ hGw hpre (fun j j' hj hj' e=>?_) hrel) fun e w' ⟨vr,he,hrv,hHB,ho,ht,hou,hsz,hfr⟩=>?_
  · have : ∀ i, H.lookup i ≠ none → S.blk (κ i) ≠ none := fun i hi => by
      cases hB:H.lookup i with
      | none=>exact absurd hB hi
      | some B=>rw [hSH i B hB]; simp
    exact nodupB_inj (κ:=κ) hn j j' hj hj' (h.inj _ _ (this j hj) (this j' hj') e)
  subst he
  let S':St:=⟨(d,.ref (ks.getD (k0 - 1000) 0) o0 n0 t0) :: S.sl,H'.map (fun p=>(κ p.1,p.2))++S.hb⟩
  have happ:S.app ⟨rs,H.map (fun p=>(ks.getD (p.1 - 1000) 0,p.2)),none,[(d,.ref (ks.getD (k0 - 1000) 0) o0 n0 t0)],H'.map (fun p=>(ks.getD (p.1 - 1000) 0,p.2))⟩=S':=rfl
  have hmemH':∀ j B,(j,B)∈H'→H'.lookup j=some B:=fun j B hj=>lookup_of_mem hn2 hj
  have hkeys:∀ j,H'.lookup j≠none↔H.lookup j≠none:=fun j=>by
    have:∀ l:List (Nat×Blk),l.lookup j≠none↔j∈l.map (·.1):=by
      intro l
      induction l with
      | nil=>simp
      | cons p l ih =>
        obtain ⟨s,u⟩:=p
        rw [List.lookup_cons]
        by_cases e:j=s
        · simp [e]
        · rw [show (j == s)=false by simpa using e]
          simp only [List.map_cons,List.mem_cons,e,false_or]
          exact ih
    rw [this,this,hk]
  have hsome:∀ {l:List (Nat×Blk)} {j},l.lookup j≠none→∃ B,l.lookup j=some B:=fun {l j} hj=>by
    cases e:l.lookup j with
    | none=>exact absurd e hj
    | some B=>exact ⟨B,rfl⟩
  have hS'blk:∀ k B,S'.blk k=some B→(∃ j,κ j=k∧H'.lookup j=some B)∨(S.blk k=some B∧∀ j,H'.lookup j≠none→κ j≠k):=fun k B hB=>by
    simp only [S',St.blk,lookup_append] at hB
    cases hl:(H'.map fun p=>(κ p.1,p.2)).lookup k with
    | some C =>
      rw [hl,Option.some_or] at hB
      injection hB with hB
      subst hB
      obtain ⟨j,h1,h2⟩:=lookup_map_inj hl
      exact .inl ⟨j,h1,hmemH' j _ h2⟩
    | none =>
      rw [hl,Option.none_or] at hB
      refine .inr ⟨hB,fun j hj e=>?_⟩
      obtain ⟨C,hC⟩:=hsome hj
      have hmem:(j,C)∈H':=by
        have:∀ l:List (Nat×Blk),l.lookup j=some C→(j,C)∈l:=by
          intro l
          induction l with
          | nil=>simp
          | cons p l ih =>
            obtain ⟨s,u⟩:=p
            intro h
            rw [List.lookup_cons] at h
            split at h
            · rename_i e; injection h with h; subst h; simp [beq_iff_eq.1 e]
            · simp [ih h]
        exact this H' hC
      have:(H'.map fun p=>(κ p.1,p.2)).lookup k≠none:=by
        have gen:∀ l:List (Nat×Blk),(j,C)∈l→(l.map fun p=>(κ p.1,p.2)).lookup k≠none:=by
          intro l
          induction l with
          | nil=>simp
          | cons p l ih =>
            intro hm
            simp only [List.map_cons,List.lookup_cons]
            split
            · simp
            · rename_i e'
              rcases List.mem_cons.1 hm with hm | hm
              · subst hm; simp [e] at e'
              · exact ih hm
        exact gen H' hmem
      exact this hl
  have hown:∀ k,S'.blk k≠none→S.blk k≠none:=fun k hk'=>by
    obtain ⟨B,hB⟩:∃ B,S'.blk k=some B:=by cases e:S'.blk k with
      | none=>exact absurd e hk'
      | some B=>exact ⟨B,rfl⟩
    rcases hS'blk k B hB with ⟨j,rfl,hj⟩ | ⟨hB',_⟩
    · obtain ⟨C,hC⟩:=hsome ((hkeys j).1 (by simp [hj]))
      rw [hSH j C hC]; simp
    · simp [hB']
  have hsizes:∀ j,H'.lookup j≠none→∀ c T,hp w (ρ (κ j))=some (.cells c T (0,0))→∃ c' T',hp w' (ρ (κ j))=some (.cells c' T' (0,0))∧c'.size=c.size:=fun j hj=>by
    obtain ⟨B',hB'⟩:=hsome hj
    exact (hHB j B' hB').2
  have hother:∀ k B,S.blk k=some B→(∀ j,H'.lookup j≠none→κ j≠k)→hp w' (ρ k)=hp w (ρ k):=fun k B hB hno=>by
    refine hfr (ρ k) (hne k (by simp [hB])) fun j hj e=>?_
    obtain ⟨C,hC⟩:=hsome hj
    exact hno j ((hkeys j).2 hj) (h.inj _ _ (by rw [hSH j C hC]; simp) (by simp [hB]) e.symm)
  have hcar:Carry (okI F S.blk ρ) (okI F S'.blk ρ) (hp w) (hp w'):=fun b hb hne'=>by
    refine ⟨⟨hb.1,fun k hk'=>hb.2 k (hown k hk')⟩,?_⟩
    have hbs:b<w.heap.size:=by
      cases e:hp w b with
      | none=>exact absurd e hne'
      | some o=>exact World.size_lt e
    exact hfr b hbs fun j hj e=>by
      obtain ⟨C,hC⟩:=hsome hj
      exact hb.2 (κ j) (by rw [hSH j C hC]; simp) e
  have hcar2:Carry (fun b=>(okI F S.blk ρ b∨w.heap.size≤b)∧∀ j,H'.lookup j≠none→b≠ρ (κ j)) (okI F S'.blk ρ) (hp w') (hp w'):=fun b hb _=>by
    refine ⟨?_,rfl⟩
    rcases hb.1 with hb1 | hb1
    · exact ⟨hb1.1,fun k hk'=>hb1.2 k (hown k hk')⟩
    · exact ⟨.inr (Nat.le_trans h.frame.size hb1),fun k hk'=>by have:=hne k (hown k hk'); omega⟩
  show K (a.put o.dst vr) w'
  refine hK _ _ ?_
  rw [happ]
  refine ⟨ρ,h.upd (S':=S') (Kp:=fun _=>True) ⟨ho.trans h.frame.os,ht.trans h.frame.tape,hou.trans h.frame.output,Nat.le_trans h.frame.size hsz,fun b hb hx=>?_⟩ (by simp [hd,Act.put,h.nt]) (by simp [hd,Act.put]) hcar (fun k _ B' hB'=>?_)
    (fun k k' h1 h2 e=>h.inj k k' (hown k h1) (hown k' h2) e) (fun j b n hj hS=>⟨hown j hS,rfl,fun c T hc=>?_⟩) (fun t v ht=>?_) (fun k B' hB'=>?_)⟩
  · rw [hfr b (Nat.lt_of_lt_of_le hb h.frame.size) fun j hj e=>?_]
    · exact h.frame.block b hb hx
    · obtain ⟨C,hC⟩:=hsome hj
      obtain ⟨_,_,e2,_⟩:=h.blks (κ j) C (hSH j C hC)
      subst e
      rcases e2 with e2 | e2
      · exact hx e2.1
      · omega
  · rcases hS'blk k B' hB' with ⟨j,rfl,hj⟩ | ⟨hB,hno⟩
    · obtain ⟨C,hC⟩:=hsome ((hkeys j).1 (by simp [hj]))
      obtain ⟨t1,t2,t3⟩:=hsame j C B' hC hj
      refine ⟨C,hSH j C hC,t2,by omega,fun _=>⟨rfl,fun c T fr hc=>?_⟩⟩
      obtain ⟨c0,e1,_⟩:=h.blks (κ j) C (hSH j C hC)
      have hc':=hc
      rw [e1] at hc'
      injection hc' with hc'
      injection hc' with h1 h2 h3
      subst h1
      obtain ⟨c',T',g1,g2⟩:=hsizes j (by simp [hj]) _ _ e1
      exact ⟨c',T',(0,0),g1,g2⟩
    · exact ⟨B',hB,rfl,Nat.le_refl _,fun _=>⟨rfl,fun c T fr hc=>⟨c,T,fr,by rw [hother k B' hB hno]; exact hc,rfl⟩⟩⟩
  · obtain ⟨B', hB'⟩ : ∃ B, S'.blk j = some B := by cases e : S'.blk j with
      | none=>exact absurd e hS
      | some B=>exact ⟨B,rfl⟩
    rcases hS'blk j B' hB' with ⟨i,rfl,hi⟩ | ⟨hB,hno⟩
    · exact hsizes i (by simp [hi]) c T hc
    · exact ⟨c,T,by rw [hother j B' hB hno]; exact hc,rfl⟩
  · rw [hd,put_get (by rw [h.nt]; exact hlt)]
    simp only [S',St.slot,List.lookup_cons] at ht
    by_cases ed:t=d
    · subst ed
      simp only [BEq.rfl,Option.some.injEq] at ht
      subst ht
      refine .inr ⟨vr,by simp,?_⟩
      simp only [RelV] at hrv ⊢
      refine ⟨hrv.1,fun B hB=>?_⟩
      obtain ⟨B',hB'⟩:=Option.isSome_iff_exists.1 hk0
      rcases hS'blk _ B hB with ⟨j,e1,hj⟩ | ⟨_,hno⟩
      · have hjk:j=k0:=nodupB_inj (κ:=κ) (H:=H') (by rw [← List.map_map_fst hk]; exact hn) j k0 (by simp [hj]) (by simp [hB']) e1
        subst hjk
        exact hrv.2 B hj
      · exact absurd rfl (hno k0 (by simp [hB']))
    · rw [show (t == d)=false by simpa using ed] at ht
      exact .inl ⟨ht,by rw [if_neg ed],fun _ _=>trivial⟩
  · rcases hS'blk k B' hB' with ⟨j,rfl,hj⟩ | ⟨hB,hno⟩
    · obtain ⟨⟨c,f1,f2,f3⟩,_⟩:=hHB j B' hj
      obtain ⟨C,hC⟩:=hsome ((hkeys j).1 (by simp [hj]))
      obtain ⟨_,_,e2,_⟩:=h.blks (κ j) C (hSH j C hC)
      refine .inr ⟨c,f1,e2,f2,fun i x hx=>?_⟩
      obtain ⟨u,hu,ho',hru⟩:=f3 i x hx
      rw [List.all_eq_true] at hdata
      have hmem:(j,B')∈H':=by
        have:∀ l:List (Nat×Blk),l.lookup j=some B'→(j,B')∈l:=by
          intro l
          induction l with
          | nil=>simp
          | cons p l ih =>
            obtain ⟨s,u⟩:=p
            intro h
            rw [List.lookup_cons] at h
            split at h
            · rename_i e; injection h with h; subst h; simp [beq_iff_eq.1 e]
            · simp [ih h]
        exact this H' hj
      obtain ⟨y,rfl⟩:=Cells.data_get (hdata _ hmem) hx
      exact ⟨u,hu,ho',by simp only [RelV] at hru ⊢; exact Rel.mono hcar2 _ _ hru⟩
    · exact .inl ⟨hB,rfl,hother k B' hB hno,fun _ _ _ _ _=>trivial⟩
end Go.Proofs.YtjagfionflbjbaaGreat.SH
namespace Go.Proofs.YtjagfionflbjbaaGreat.SH
open Go
theorem t0:True:=trivial
theorem t1 {A0:Type}{a0:A0}:a0=a0∧True:=⟨rfl,trivial⟩
theorem t2 {A0 A1:Type}{a0:A0}{a1:A1}:a0=a0∧a1=a1∧True:=⟨rfl,rfl,trivial⟩
theorem t3 {A0 A1 A2:Type}{a0:A0}{a1:A1}{a2:A2}:a0=a0∧a1=a1∧a2=a2∧True:=⟨rfl,rfl,rfl,trivial⟩
theorem t4 {A0 A1 A2 A3:Type}{a0:A0}{a1:A1}{a2:A2}{a3:A3}:a0=a0∧a1=a1∧a2=a2∧a3=a3∧True:=⟨rfl,rfl,rfl,rfl,trivial⟩
theorem t5 {A0 A1 A2 A3 A4:Type}{a0:A0}{a1:A1}{a2:A2}{a3:A3}{a4:A4}:a0=a0∧a1=a1∧a2=a2∧a3=a3∧a4=a4∧True:=⟨rfl,rfl,rfl,rfl,rfl,trivial⟩
theorem t6 {A0 A1 A2 A3 A4 A5:Type}{a0:A0}{a1:A1}{a2:A2}{a3:A3}{a4:A4}{a5:A5}:a0=a0∧a1=a1∧a2=a2∧a3=a3∧a4=a4∧a5=a5∧True:=⟨rfl,rfl,rfl,rfl,rfl,rfl,trivial⟩
theorem t7 {A0 A1 A2 A3 A4 A5 A6:Type}{a0:A0}{a1:A1}{a2:A2}{a3:A3}{a4:A4}{a5:A5}{a6:A6}:a0=a0∧a1=a1∧a2=a2∧a3=a3∧a4=a4∧a5=a5∧a6=a6∧True:=⟨rfl,rfl,rfl,rfl,rfl,rfl,rfl,trivial⟩
theorem t8 {A0 A1 A2 A3 A4 A5 A6 A7:Type}{a0:A0}{a1:A1}{a2:A2}{a3:A3}{a4:A4}{a5:A5}{a6:A6}{a7:A7}:a0=a0∧a1=a1∧a2=a2∧a3=a3∧a4=a4∧a5=a5∧a6=a6∧a7=a7∧True:=⟨rfl,rfl,rfl,rfl,rfl,rfl,rfl,rfl,trivial⟩
theorem t9 {A0 A1 A2 A3 A4 A5 A6 A7 A8:Type}{a0:A0}{a1:A1}{a2:A2}{a3:A3}{a4:A4}{a5:A5}{a6:A6}{a7:A7}{a8:A8}:a0=a0∧a1=a1∧a2=a2∧a3=a3∧a4=a4∧a5=a5∧a6=a6∧a7=a7∧a8=a8∧True:=⟨rfl,rfl,rfl,rfl,rfl,rfl,rfl,rfl,rfl,trivial⟩
theorem t10 {A0 A1 A2 A3 A4 A5 A6 A7 A8 A9:Type}{a0:A0}{a1:A1}{a2:A2}{a3:A3}{a4:A4}{a5:A5}{a6:A6}{a7:A7}{a8:A8}{a9:A9}:a0=a0∧a1=a1∧a2=a2∧a3=a3∧a4=a4∧a5=a5∧a6=a6∧a7=a7∧a8=a8∧a9=a9∧True:=⟨rfl,rfl,rfl,rfl,rfl,rfl,rfl,rfl,rfl,rfl,trivial⟩
theorem t11 {A0 A1 A2 A3 A4 A5 A6 A7 A8 A9 A10:Type}{a0:A0}{a1:A1}{a2:A2}{a3:A3}{a4:A4}{a5:A5}{a6:A6}{a7:A7}{a8:A8}{a9:A9}{a10:A10}:a0=a0∧a1=a1∧a2=a2∧a3=a3∧a4=a4∧a5=a5∧a6=a6∧a7=a7∧a8=a8∧a9=a9∧a10=a10∧True:=⟨rfl,rfl,rfl,rfl,rfl,rfl,rfl,rfl,rfl,rfl,rfl,trivial⟩
theorem t12 {A0 A1 A2 A3 A4 A5 A6 A7 A8 A9 A10 A11:Type}{a0:A0}{a1:A1}{a2:A2}{a3:A3}{a4:A4}{a5:A5}{a6:A6}{a7:A7}{a8:A8}{a9:A9}{a10:A10}{a11:A11}:a0=a0∧a1=a1∧a2=a2∧a3=a3∧a4=a4∧a5=a5∧a6=a6∧a7=a7∧a8=a8∧a9=a9∧a10=a10∧a11=a11∧True:=⟨rfl,rfl,rfl,rfl,rfl,rfl,rfl,rfl,rfl,rfl,rfl,rfl,trivial⟩
theorem t13 {A0 A1 A2 A3 A4 A5 A6 A7 A8 A9 A10 A11 A12:Type}{a0:A0}{a1:A1}{a2:A2}{a3:A3}{a4:A4}{a5:A5}{a6:A6}{a7:A7}{a8:A8}{a9:A9}{a10:A10}{a11:A11}{a12:A12}:a0=a0∧a1=a1∧a2=a2∧a3=a3∧a4=a4∧a5=a5∧a6=a6∧a7=a7∧a8=a8∧a9=a9∧a10=a10∧a11=a11∧a12=a12∧True:=⟨rfl,rfl,rfl,rfl,rfl,rfl,rfl,rfl,rfl,rfl,rfl,rfl,rfl,trivial⟩
theorem t14 {A0 A1 A2 A3 A4 A5 A6 A7 A8 A9 A10 A11 A12 A13:Type}{a0:A0}{a1:A1}{a2:A2}{a3:A3}{a4:A4}{a5:A5}{a6:A6}{a7:A7}{a8:A8}{a9:A9}{a10:A10}{a11:A11}{a12:A12}{a13:A13}:a0=a0∧a1=a1∧a2=a2∧a3=a3∧a4=a4∧a5=a5∧a6=a6∧a7=a7∧a8=a8∧a9=a9∧a10=a10∧a11=a11∧a12=a12∧a13=a13∧True:=⟨rfl,rfl,rfl,rfl,rfl,rfl,rfl,rfl,rfl,rfl,rfl,rfl,rfl,rfl,trivial⟩
theorem t15 {A0 A1 A2 A3 A4 A5 A6 A7 A8 A9 A10 A11 A12 A13 A14:Type}{a0:A0}{a1:A1}{a2:A2}{a3:A3}{a4:A4}{a5:A5}{a6:A6}{a7:A7}{a8:A8}{a9:A9}{a10:A10}{a11:A11}{a12:A12}{a13:A13}{a14:A14}:a0=a0∧a1=a1∧a2=a2∧a3=a3∧a4=a4∧a5=a5∧a6=a6∧a7=a7∧a8=a8∧a9=a9∧a10=a10∧a11=a11∧a12=a12∧a13=a13∧a14=a14∧True:=⟨rfl,rfl,rfl,rfl,rfl,rfl,rfl,rfl,rfl,rfl,rfl,rfl,rfl,rfl,rfl,trivial⟩
theorem t16 {A0 A1 A2 A3 A4 A5 A6 A7 A8 A9 A10 A11 A12 A13 A14 A15:Type}{a0:A0}{a1:A1}{a2:A2}{a3:A3}{a4:A4}{a5:A5}{a6:A6}{a7:A7}{a8:A8}{a9:A9}{a10:A10}{a11:A11}{a12:A12}{a13:A13}{a14:A14}{a15:A15}:a0=a0∧a1=a1∧a2=a2∧a3=a3∧a4=a4∧a5=a5∧a6=a6∧a7=a7∧a8=a8∧a9=a9∧a10=a10∧a11=a11∧a12=a12∧a13=a13∧a14=a14∧a15=a15∧True:=⟨rfl,rfl,rfl,rfl,rfl,rfl,rfl,rfl,rfl,rfl,rfl,rfl,rfl,rfl,rfl,rfl,trivial⟩
theorem t17 {A0 A1 A2 A3 A4 A5 A6 A7 A8 A9 A10 A11 A12 A13 A14 A15 A16:Type}{a0:A0}{a1:A1}{a2:A2}{a3:A3}{a4:A4}{a5:A5}{a6:A6}{a7:A7}{a8:A8}{a9:A9}{a10:A10}{a11:A11}{a12:A12}{a13:A13}{a14:A14}{a15:A15}{a16:A16}:a0=a0∧a1=a1∧a2=a2∧a3=a3∧a4=a4∧a5=a5∧a6=a6∧a7=a7∧a8=a8∧a9=a9∧a10=a10∧a11=a11∧a12=a12∧a13=a13∧a14=a14∧a15=a15∧a16=a16∧True:=⟨rfl,rfl,rfl,rfl,rfl,rfl,rfl,rfl,rfl,rfl,rfl,rfl,rfl,rfl,rfl,rfl,rfl,trivial⟩
theorem t18 {A0 A1 A2 A3 A4 A5 A6 A7 A8 A9 A10 A11 A12 A13 A14 A15 A16 A17:Type}{a0:A0}{a1:A1}{a2:A2}{a3:A3}{a4:A4}{a5:A5}{a6:A6}{a7:A7}{a8:A8}{a9:A9}{a10:A10}{a11:A11}{a12:A12}{a13:A13}{a14:A14}{a15:A15}{a16:A16}{a17:A17}:a0=a0∧a1=a1∧a2=a2∧a3=a3∧a4=a4∧a5=a5∧a6=a6∧a7=a7∧a8=a8∧a9=a9∧a10=a10∧a11=a11∧a12=a12∧a13=a13∧a14=a14∧a15=a15∧a16=a16∧a17=a17∧True:=⟨rfl,rfl,rfl,rfl,rfl,rfl,rfl,rfl,rfl,rfl,rfl,rfl,rfl,rfl,rfl,rfl,rfl,rfl,trivial⟩
theorem t19 {A0 A1 A2 A3 A4 A5 A6 A7 A8 A9 A10 A11 A12 A13 A14 A15 A16 A17 A18:Type}{a0:A0}{a1:A1}{a2:A2}{a3:A3}{a4:A4}{a5:A5}{a6:A6}{a7:A7}{a8:A8}{a9:A9}{a10:A10}{a11:A11}{a12:A12}{a13:A13}{a14:A14}{a15:A15}{a16:A16}{a17:A17}{a18:A18}:a0=a0∧a1=a1∧a2=a2∧a3=a3∧a4=a4∧a5=a5∧a6=a6∧a7=a7∧a8=a8∧a9=a9∧a10=a10∧a11=a11∧a12=a12∧a13=a13∧a14=a14∧a15=a15∧a16=a16∧a17=a17∧a18=a18∧True:=⟨rfl,rfl,rfl,rfl,rfl,rfl,rfl,rfl,rfl,rfl,rfl,rfl,rfl,rfl,rfl,rfl,rfl,rfl,rfl,trivial⟩
theorem t20 {A0 A1 A2 A3 A4 A5 A6 A7 A8 A9 A10 A11 A12 A13 A14 A15 A16 A17 A18 A19:Type}{a0:A0}{a1:A1}{a2:A2}{a3:A3}{a4:A4}{a5:A5}{a6:A6}{a7:A7}{a8:A8}{a9:A9}{a10:A10}{a11:A11}{a12:A12}{a13:A13}{a14:A14}{a15:A15}{a16:A16}{a17:A17}{a18:A18}{a19:A19}:a0=a0∧a1=a1∧a2=a2∧a3=a3∧a4=a4∧a5=a5∧a6=a6∧a7=a7∧a8=a8∧a9=a9∧a10=a10∧a11=a11∧a12=a12∧a13=a13∧a14=a14∧a15=a15∧a16=a16∧a17=a17∧a18=a18∧a19=a19∧True:=⟨rfl,rfl,rfl,rfl,rfl,rfl,rfl,rfl,rfl,rfl,rfl,rfl,rfl,rfl,rfl,rfl,rfl,rfl,rfl,rfl,trivial⟩
theorem t21 {A0 A1 A2 A3 A4 A5 A6 A7 A8 A9 A10 A11 A12 A13 A14 A15 A16 A17 A18 A19 A20:Type}{a0:A0}{a1:A1}{a2:A2}{a3:A3}{a4:A4}{a5:A5}{a6:A6}{a7:A7}{a8:A8}{a9:A9}{a10:A10}{a11:A11}{a12:A12}{a13:A13}{a14:A14}{a15:A15}{a16:A16}{a17:A17}{a18:A18}{a19:A19}{a20:A20}:a0=a0∧a1=a1∧a2=a2∧a3=a3∧a4=a4∧a5=a5∧a6=a6∧a7=a7∧a8=a8∧a9=a9∧a10=a10∧a11=a11∧a12=a12∧a13=a13∧a14=a14∧a15=a15∧a16=a16∧a17=a17∧a18=a18∧a19=a19∧a20=a20∧True:=⟨rfl,rfl,rfl,rfl,rfl,rfl,rfl,rfl,rfl,rfl,rfl,rfl,rfl,rfl,rfl,rfl,rfl,rfl,rfl,rfl,rfl,trivial⟩
theorem t22 {A0 A1 A2 A3 A4 A5 A6 A7 A8 A9 A10 A11 A12 A13 A14 A15 A16 A17 A18 A19 A20 A21:Type}{a0:A0}{a1:A1}{a2:A2}{a3:A3}{a4:A4}{a5:A5}{a6:A6}{a7:A7}{a8:A8}{a9:A9}{a10:A10}{a11:A11}{a12:A12}{a13:A13}{a14:A14}{a15:A15}{a16:A16}{a17:A17}{a18:A18}{a19:A19}{a20:A20}{a21:A21}:a0=a0∧a1=a1∧a2=a2∧a3=a3∧a4=a4∧a5=a5∧a6=a6∧a7=a7∧a8=a8∧a9=a9∧a10=a10∧a11=a11∧a12=a12∧a13=a13∧a14=a14∧a15=a15∧a16=a16∧a17=a17∧a18=a18∧a19=a19∧a20=a20∧a21=a21∧True:=⟨rfl,rfl,rfl,rfl,rfl,rfl,rfl,rfl,rfl,rfl,rfl,rfl,rfl,rfl,rfl,rfl,rfl,rfl,rfl,rfl,rfl,rfl,trivial⟩
theorem t23 {A0 A1 A2 A3 A4 A5 A6 A7 A8 A9 A10 A11 A12 A13 A14 A15 A16 A17 A18 A19 A20 A21 A22:Type}{a0:A0}{a1:A1}{a2:A2}{a3:A3}{a4:A4}{a5:A5}{a6:A6}{a7:A7}{a8:A8}{a9:A9}{a10:A10}{a11:A11}{a12:A12}{a13:A13}{a14:A14}{a15:A15}{a16:A16}{a17:A17}{a18:A18}{a19:A19}{a20:A20}{a21:A21}{a22:A22}:a0=a0∧a1=a1∧a2=a2∧a3=a3∧a4=a4∧a5=a5∧a6=a6∧a7=a7∧a8=a8∧a9=a9∧a10=a10∧a11=a11∧a12=a12∧a13=a13∧a14=a14∧a15=a15∧a16=a16∧a17=a17∧a18=a18∧a19=a19∧a20=a20∧a21=a21∧a22=a22∧True:=⟨rfl,rfl,rfl,rfl,rfl,rfl,rfl,rfl,rfl,rfl,rfl,rfl,rfl,rfl,rfl,rfl,rfl,rfl,rfl,rfl,rfl,rfl,rfl,trivial⟩
theorem t24 {A0 A1 A2 A3 A4 A5 A6 A7 A8 A9 A10 A11 A12 A13 A14 A15 A16 A17 A18 A19 A20 A21 A22 A23:Type}{a0:A0}{a1:A1}{a2:A2}{a3:A3}{a4:A4}{a5:A5}{a6:A6}{a7:A7}{a8:A8}{a9:A9}{a10:A10}{a11:A11}{a12:A12}{a13:A13}{a14:A14}{a15:A15}{a16:A16}{a17:A17}{a18:A18}{a19:A19}{a20:A20}{a21:A21}{a22:A22}{a23:A23}:a0=a0∧a1=a1∧a2=a2∧a3=a3∧a4=a4∧a5=a5∧a6=a6∧a7=a7∧a8=a8∧a9=a9∧a10=a10∧a11=a11∧a12=a12∧a13=a13∧a14=a14∧a15=a15∧a16=a16∧a17=a17∧a18=a18∧a19=a19∧a20=a20∧a21=a21∧a22=a22∧a23=a23∧True:=⟨rfl,rfl,rfl,rfl,rfl,rfl,rfl,rfl,rfl,rfl,rfl,rfl,rfl,rfl,rfl,rfl,rfl,rfl,rfl,rfl,rfl,rfl,rfl,rfl,trivial⟩
theorem al1 {x0:Pure}:AllP [.p x0] [x0]:=(.cons .nil)
theorem pa1 {x0:Pure}:CellsOf (.p (.agg [x0])) [.p x0]:=.pagg al1
theorem al2 {x0 x1:Pure}:AllP [.p x0,.p x1] [x0,x1]:=(.cons (.cons .nil))
theorem pa2 {x0 x1:Pure}:CellsOf (.p (.agg [x0,x1])) [.p x0,.p x1]:=.pagg al2
theorem al3 {x0 x1 x2:Pure}:AllP [.p x0,.p x1,.p x2] [x0,x1,x2]:=(.cons (.cons (.cons .nil)))
theorem pa3 {x0 x1 x2:Pure}:CellsOf (.p (.agg [x0,x1,x2])) [.p x0,.p x1,.p x2]:=.pagg al3
theorem al4 {x0 x1 x2 x3:Pure}:AllP [.p x0,.p x1,.p x2,.p x3] [x0,x1,x2,x3]:=(.cons (.cons (.cons (.cons .nil))))
theorem pa4 {x0 x1 x2 x3:Pure}:CellsOf (.p (.agg [x0,x1,x2,x3])) [.p x0,.p x1,.p x2,.p x3]:=.pagg al4
theorem al5 {x0 x1 x2 x3 x4:Pure}:AllP [.p x0,.p x1,.p x2,.p x3,.p x4] [x0,x1,x2,x3,x4]:=(.cons (.cons (.cons (.cons (.cons .nil)))))
theorem pa5 {x0 x1 x2 x3 x4:Pure}:CellsOf (.p (.agg [x0,x1,x2,x3,x4])) [.p x0,.p x1,.p x2,.p x3,.p x4]:=.pagg al5
theorem al6 {x0 x1 x2 x3 x4 x5:Pure}:AllP [.p x0,.p x1,.p x2,.p x3,.p x4,.p x5] [x0,x1,x2,x3,x4,x5]:=(.cons (.cons (.cons (.cons (.cons (.cons .nil))))))
theorem pa6 {x0 x1 x2 x3 x4 x5:Pure}:CellsOf (.p (.agg [x0,x1,x2,x3,x4,x5])) [.p x0,.p x1,.p x2,.p x3,.p x4,.p x5]:=.pagg al6
theorem al7 {x0 x1 x2 x3 x4 x5 x6:Pure}:AllP [.p x0,.p x1,.p x2,.p x3,.p x4,.p x5,.p x6] [x0,x1,x2,x3,x4,x5,x6]:=(.cons (.cons (.cons (.cons (.cons (.cons (.cons .nil)))))))
theorem pa7 {x0 x1 x2 x3 x4 x5 x6:Pure}:CellsOf (.p (.agg [x0,x1,x2,x3,x4,x5,x6])) [.p x0,.p x1,.p x2,.p x3,.p x4,.p x5,.p x6]:=.pagg al7
theorem al8 {x0 x1 x2 x3 x4 x5 x6 x7:Pure}:AllP [.p x0,.p x1,.p x2,.p x3,.p x4,.p x5,.p x6,.p x7] [x0,x1,x2,x3,x4,x5,x6,x7]:=(.cons (.cons (.cons (.cons (.cons (.cons (.cons (.cons .nil))))))))
theorem pa8 {x0 x1 x2 x3 x4 x5 x6 x7:Pure}:CellsOf (.p (.agg [x0,x1,x2,x3,x4,x5,x6,x7])) [.p x0,.p x1,.p x2,.p x3,.p x4,.p x5,.p x6,.p x7]:=.pagg al8
theorem al9 {x0 x1 x2 x3 x4 x5 x6 x7 x8:Pure}:AllP [.p x0,.p x1,.p x2,.p x3,.p x4,.p x5,.p x6,.p x7,.p x8] [x0,x1,x2,x3,x4,x5,x6,x7,x8]:=(.cons (.cons (.cons (.cons (.cons (.cons (.cons (.cons (.cons .nil)))))))))
theorem pa9 {x0 x1 x2 x3 x4 x5 x6 x7 x8:Pure}:CellsOf (.p (.agg [x0,x1,x2,x3,x4,x5,x6,x7,x8])) [.p x0,.p x1,.p x2,.p x3,.p x4,.p x5,.p x6,.p x7,.p x8]:=.pagg al9
theorem al10 {x0 x1 x2 x3 x4 x5 x6 x7 x8 x9:Pure}:AllP [.p x0,.p x1,.p x2,.p x3,.p x4,.p x5,.p x6,.p x7,.p x8,.p x9] [x0,x1,x2,x3,x4,x5,x6,x7,x8,x9]:=(.cons (.cons (.cons (.cons (.cons (.cons (.cons (.cons (.cons (.cons .nil))))))))))
theorem pa10 {x0 x1 x2 x3 x4 x5 x6 x7 x8 x9:Pure}:CellsOf (.p (.agg [x0,x1,x2,x3,x4,x5,x6,x7,x8,x9])) [.p x0,.p x1,.p x2,.p x3,.p x4,.p x5,.p x6,.p x7,.p x8,.p x9]:=.pagg al10
theorem al11 {x0 x1 x2 x3 x4 x5 x6 x7 x8 x9 x10:Pure}:AllP [.p x0,.p x1,.p x2,.p x3,.p x4,.p x5,.p x6,.p x7,.p x8,.p x9,.p x10] [x0,x1,x2,x3,x4,x5,x6,x7,x8,x9,x10]:=(.cons (.cons (.cons (.cons (.cons (.cons (.cons (.cons (.cons (.cons (.cons .nil)))))))))))
theorem pa11 {x0 x1 x2 x3 x4 x5 x6 x7 x8 x9 x10:Pure}:CellsOf (.p (.agg [x0,x1,x2,x3,x4,x5,x6,x7,x8,x9,x10])) [.p x0,.p x1,.p x2,.p x3,.p x4,.p x5,.p x6,.p x7,.p x8,.p x9,.p x10]:=.pagg al11
theorem al12 {x0 x1 x2 x3 x4 x5 x6 x7 x8 x9 x10 x11:Pure}:AllP [.p x0,.p x1,.p x2,.p x3,.p x4,.p x5,.p x6,.p x7,.p x8,.p x9,.p x10,.p x11] [x0,x1,x2,x3,x4,x5,x6,x7,x8,x9,x10,x11]:=(.cons (.cons (.cons (.cons (.cons (.cons (.cons (.cons (.cons (.cons (.cons (.cons .nil))))))))))))
theorem pa12 {x0 x1 x2 x3 x4 x5 x6 x7 x8 x9 x10 x11:Pure}:CellsOf (.p (.agg [x0,x1,x2,x3,x4,x5,x6,x7,x8,x9,x10,x11])) [.p x0,.p x1,.p x2,.p x3,.p x4,.p x5,.p x6,.p x7,.p x8,.p x9,.p x10,.p x11]:=.pagg al12
theorem pu1 {α:Type}{x0 n0:α}{r:List α}:UpdL (x0 :: r) 0 [n0] (n0 :: r):=(.put .here)
theorem pu2 {α:Type}{x0 n0 x1 n1:α}{r:List α}:UpdL (x0 :: x1 :: r) 0 [n0,n1] (n0 :: n1 :: r):=(.put (.put .here))
theorem pu3 {α:Type}{x0 n0 x1 n1 x2 n2:α}{r:List α}:UpdL (x0 :: x1 :: x2 :: r) 0 [n0,n1,n2] (n0 :: n1 :: n2 :: r):=(.put (.put (.put .here)))
theorem pu4 {α:Type}{x0 n0 x1 n1 x2 n2 x3 n3:α}{r:List α}:UpdL (x0 :: x1 :: x2 :: x3 :: r) 0 [n0,n1,n2,n3] (n0 :: n1 :: n2 :: n3 :: r):=(.put (.put (.put (.put .here))))
theorem pu5 {α:Type}{x0 n0 x1 n1 x2 n2 x3 n3 x4 n4:α}{r:List α}:UpdL (x0 :: x1 :: x2 :: x3 :: x4 :: r) 0 [n0,n1,n2,n3,n4] (n0 :: n1 :: n2 :: n3 :: n4 :: r):=(.put (.put (.put (.put (.put .here)))))
theorem pu6 {α:Type}{x0 n0 x1 n1 x2 n2 x3 n3 x4 n4 x5 n5:α}{r:List α}:UpdL (x0 :: x1 :: x2 :: x3 :: x4 :: x5 :: r) 0 [n0,n1,n2,n3,n4,n5] (n0 :: n1 :: n2 :: n3 :: n4 :: n5 :: r):=(.put (.put (.put (.put (.put (.put .here))))))
theorem pu7 {α:Type}{x0 n0 x1 n1 x2 n2 x3 n3 x4 n4 x5 n5 x6 n6:α}{r:List α}:UpdL (x0 :: x1 :: x2 :: x3 :: x4 :: x5 :: x6 :: r) 0 [n0,n1,n2,n3,n4,n5,n6] (n0 :: n1 :: n2 :: n3 :: n4 :: n5 :: n6 :: r):=(.put (.put (.put (.put (.put (.put (.put .here)))))))
theorem pu8 {α:Type}{x0 n0 x1 n1 x2 n2 x3 n3 x4 n4 x5 n5 x6 n6 x7 n7:α}{r:List α}:UpdL (x0 :: x1 :: x2 :: x3 :: x4 :: x5 :: x6 :: x7 :: r) 0 [n0,n1,n2,n3,n4,n5,n6,n7] (n0 :: n1 :: n2 :: n3 :: n4 :: n5 :: n6 :: n7 :: r):=(.put (.put (.put (.put (.put (.put (.put (.put .here))))))))
theorem pu9 {α:Type}{x0 n0 x1 n1 x2 n2 x3 n3 x4 n4 x5 n5 x6 n6 x7 n7 x8 n8:α}{r:List α}:UpdL (x0 :: x1 :: x2 :: x3 :: x4 :: x5 :: x6 :: x7 :: x8 :: r) 0 [n0,n1,n2,n3,n4,n5,n6,n7,n8] (n0 :: n1 :: n2 :: n3 :: n4 :: n5 :: n6 :: n7 :: n8 :: r):=(.put (.put (.put (.put (.put (.put (.put (.put (.put .here)))))))))
theorem pu10 {α:Type}{x0 n0 x1 n1 x2 n2 x3 n3 x4 n4 x5 n5 x6 n6 x7 n7 x8 n8 x9 n9:α}{r:List α}:UpdL (x0 :: x1 :: x2 :: x3 :: x4 :: x5 :: x6 :: x7 :: x8 :: x9 :: r) 0 [n0,n1,n2,n3,n4,n5,n6,n7,n8,n9] (n0 :: n1 :: n2 :: n3 :: n4 :: n5 :: n6 :: n7 :: n8 :: n9 :: r):=(.put (.put (.put (.put (.put (.put (.put (.put (.put (.put .here))))))))))
theorem pu11 {α:Type}{x0 n0 x1 n1 x2 n2 x3 n3 x4 n4 x5 n5 x6 n6 x7 n7 x8 n8 x9 n9 x10 n10:α}{r:List α}:UpdL (x0 :: x1 :: x2 :: x3 :: x4 :: x5 :: x6 :: x7 :: x8 :: x9 :: x10 :: r) 0 [n0,n1,n2,n3,n4,n5,n6,n7,n8,n9,n10] (n0 :: n1 :: n2 :: n3 :: n4 :: n5 :: n6 :: n7 :: n8 :: n9 :: n10 :: r):=(.put (.put (.put (.put (.put (.put (.put (.put (.put (.put (.put .here)))))))))))
theorem pu12 {α:Type}{x0 n0 x1 n1 x2 n2 x3 n3 x4 n4 x5 n5 x6 n6 x7 n7 x8 n8 x9 n9 x10 n10 x11 n11:α}{r:List α}:UpdL (x0 :: x1 :: x2 :: x3 :: x4 :: x5 :: x6 :: x7 :: x8 :: x9 :: x10 :: x11 :: r) 0 [n0,n1,n2,n3,n4,n5,n6,n7,n8,n9,n10,n11] (n0 :: n1 :: n2 :: n3 :: n4 :: n5 :: n6 :: n7 :: n8 :: n9 :: n10 :: n11 :: r):=(.put (.put (.put (.put (.put (.put (.put (.put (.put (.put (.put (.put .here))))))))))))
theorem xq {P:Program}{F:Fr}{c:Code}{S:St}{Q:Exit→St→Prop}(h:Exec P F c S Q):Exec P F c S Q:=h
theorem oR {p:Prop}(h:p:=by first | exact rfl | exact oi (by omega) rfl):p:=h
theorem rO {p:Prop}(h:p:=by first | exact rfl | omega):p:=h
theorem oF {p:Prop}(h:p:=by first | omega | rfl):p:=h
theorem sO {p:Prop}(h:p:=by simp; omega):p:=h
theorem oM {p:Prop}(h:p:=by omega):p:=h
theorem rX {p:Prop}(h:p:=by exact rfl):p:=h
theorem rF {p:Prop}(h:p:=by rfl):p:=h
theorem sM {p:Prop}(h:p:=by simp):p:=h
theorem dC {p:Prop}(h:p:=by decide):p:=h
theorem lti {F:Fr}{n:Nat}(h:F.nt=n):∀ {d},(k:Nat.blt d n=true:=by rfl)→d<F.nt:=fun {_} k=>ltn h _ k
section
variable {P:Program} {F:Fr} {ops:Array Oper} {sl:List (Nat×PV)} {hb:List (Nat×Blk)} {T:TypeId} {pos:String} {aft:Array Edge} {os:List Oper} {K:List Ann→St→Prop} {d:Nat} {x:Operand} {v:PV}
theorem mV (hl:d<F.nt)(h:St.opd ⟨sl,hb⟩ x=some v)(hn:SeqK P F ops ⟨(d,v) :: sl,hb⟩ os fun As S'=>K (⟨[(x,v)],[],none,[(d,v)],[]⟩ :: As) S'):SeqK P F ops ⟨sl,hb⟩ (⟨some d,.move x,T,pos,aft,none⟩ :: os) K:=sw (c_m hl) ⟨h,trivial⟩ trivial hn
theorem aV (hl:d<F.nt)(h:St.opd ⟨sl,hb⟩ x=some v)(hn:SeqK P F ops ⟨(d,v) :: sl,hb⟩ os fun As S'=>K (⟨[(x,v)],[],none,[(d,v)],[]⟩ :: As) S'):SeqK P F ops ⟨sl,hb⟩ (⟨some d,.assign x,T,pos,aft,none⟩ :: os) K:=sw (c_a hl) ⟨h,trivial⟩ trivial hn
theorem zn {S:St}{y:Code}{Q:Exit→St→Prop}(l:List (Nat×PV))(b:List (Nat×Blk))(h1:HasS S l)(h2:HasB S b)(hn:Exec P F y ⟨l,b⟩ Q):SeqK P F ops S [] fun _ S1=>∃ sl hb,HasS S1 sl∧HasB S1 hb∧Exec P F y ⟨sl,hb⟩ Q:=seq_nil ⟨l,b,h1,h2,hn⟩
theorem gV {j g:Nat}{want b:Bool}(hj:((ops[j]?).bind (·.dst))=some g)(hbw:b=want)(hl:d<F.nt)(hgs:St.opd ⟨sl,hb⟩ (.tmp g)=some (.p (.a (.bool b))))(h:St.opd ⟨sl,hb⟩ x=some v)(hn:SeqK P F ops ⟨(d,v) :: sl,hb⟩ os fun As S'=>K (⟨(.tmp g,.p (.a (.bool b))) :: [(x,v)],[],none,[(d,v)],[]⟩ :: As) S'):SeqK P F ops ⟨sl,hb⟩ (⟨some d,.move x,T,pos,aft,some (j,want)⟩ :: os) K:=swg hj hbw (c_m hl) hgs ⟨h,trivial⟩ trivial hn
theorem lp2 {t:TypeId}{k off tot:Nat}{B:Blk}{x0 x1:Pure}(hag:∀ w,(isAgg t).run P w = .ok true w)(hsz:∀ w,(sizeOf t).run P w = .ok 2 w)(hlt:d<F.nt)(h:St.opd ⟨sl,hb⟩ x=some (.at_ k off tot))(hB:St.blk ⟨sl,hb⟩ k=some B)(hn:SeqK P F ops ⟨(d,.p (.agg [x0,x1])) :: sl,hb⟩ os fun As S'=>K (⟨[(x,.at_ k off tot)],[(k,B)],none,[(d,.p (.agg [x0,x1]))],[]⟩ :: As) S')(hl:B.cs.len=tot:=by rfl)(hv:B.cs.sub off 2=[.p x0,.p x1]:=by rfl):SeqK P F ops ⟨sl,hb⟩ (⟨some d,.load t x,T,pos,aft,none⟩ :: os) K:=sw (c_lp hag hsz hl (hv ▸ al2) rfl hlt) ⟨h,trivial⟩ ⟨hB,trivial⟩ hn
theorem lp4 {t:TypeId}{k off tot:Nat}{B:Blk}{x0 x1 x2 x3:Pure}(hag:∀ w,(isAgg t).run P w = .ok true w)(hsz:∀ w,(sizeOf t).run P w = .ok 4 w)(hlt:d<F.nt)(h:St.opd ⟨sl,hb⟩ x=some (.at_ k off tot))(hB:St.blk ⟨sl,hb⟩ k=some B)(hn:SeqK P F ops ⟨(d,.p (.agg [x0,x1,x2,x3])) :: sl,hb⟩ os fun As S'=>K (⟨[(x,.at_ k off tot)],[(k,B)],none,[(d,.p (.agg [x0,x1,x2,x3]))],[]⟩ :: As) S')(hl:B.cs.len=tot:=by rfl)(hv:B.cs.sub off 4=[.p x0,.p x1,.p x2,.p x3]:=by rfl):SeqK P F ops ⟨sl,hb⟩ (⟨some d,.load t x,T,pos,aft,none⟩ :: os) K:=sw (c_lp hag hsz hl (hv ▸ al4) rfl hlt) ⟨h,trivial⟩ ⟨hB,trivial⟩ hn
theorem cK {E:Env}{f:FuncId}{ops':Array Oper}{os':List Operand}{xs:List Pure}{r:Pure}{ts:Array TypeId}(hG:E.G F.w0)(hX:∀ b,F.X b→E.ng≤b)(hcall:∀ args w,(callFunc f args).run E.P w = .ok (.enter f args) w)(hng:E.ng≤F.w0.heap.size)(hs:Says E f xs r)(hlt:d<F.nt)(h1:Reads ⟨sl,hb⟩ (os'.zip (xs.map .p)))(hn:SeqK E.P F ops' ⟨(d,.p r) :: sl,hb⟩ os fun As S'=>K (⟨os'.zip (xs.map .p),[],none,[(d,.p r)],[]⟩ :: As) S')(hlen:os'.length=xs.length:=by rfl):SeqK E.P F ops' ⟨sl,hb⟩ (⟨some d,.call ⟨.value (.func f),os'.toArray,ts⟩,T,pos,aft,none⟩ :: os) K:=sw (c_c hG hX hcall hlen hng hs hlt) h1 trivial hn
end
end Go.Proofs.YtjagfionflbjbaaGreat.SH
namespace Go.Proofs.YtjagfionflbjbaaGreat.NumA
def trimN (ws:List Int):Nat→Nat
  | 0=>0
  | n+1=>if ws.getD n 0=0 then trimN ws n else n+1
def trim (ws:List Int):List Int:=ws.take (trimN ws ws.length)
theorem trimN_le (ws:List Int):∀ n,trimN ws n≤n
  | 0=>Nat.le_refl _
  | n+1=>by
    simp only [trimN]
    split
    · exact Nat.le_succ_of_le (trimN_le ws n)
    · exact Nat.le_refl _
def Wd (ws:List Int):Prop:=∀ w∈ws,0≤w∧w<4294967296
def val:List Int→Int
  | []=>0
  | w :: ws=>w+4294967296*val ws
theorem Wd.get {ws:List Int}(h:Wd ws){i:Nat}(hi:i<ws.length):0≤ws.getD i 0∧ws.getD i 0<4294967296:=by
  have:ws.getD i 0=ws[i]:=by simp [List.getD_eq_getElem?_getD,hi]
  rw [this]; exact h _ (List.getElem_mem hi)
theorem Wd.getD {ws:List Int}(h:Wd ws)(i:Nat):0≤ws.getD i 0∧ws.getD i 0<4294967296:=by
  by_cases hi:i<ws.length
  · exact h.get hi
  · rw [List.getD_eq_getElem?_getD,List.getElem?_eq_none (by omega)]; simp
theorem Wd.nil:Wd []:=fun _ h=>by cases h
theorem Wd.cons {w:Int}{ws:List Int}:Wd (w :: ws)↔(0≤w∧w<4294967296)∧Wd ws:=by simp [Wd]
theorem Wd.take {ws:List Int}(h:Wd ws)(n:Nat):Wd (ws.take n):=fun w hw=>h w (List.mem_of_mem_take hw)
theorem Wd.drop {ws:List Int}(h:Wd ws)(n:Nat):Wd (ws.drop n):=fun w hw=>h w (List.mem_of_mem_drop hw)
theorem Wd.append {ws vs:List Int}(h:Wd ws)(h2:Wd vs):Wd (ws++vs):=fun w hw=>by
  rcases List.mem_append.1 hw with hw | hw
  · exact h w hw
  · exact h2 w hw
theorem Wd.set {ws:List Int}(h:Wd ws)(i:Nat){v:Int}(h0:0≤v)(h1:v<4294967296):Wd (ws.set i v):=fun w hw=>by
  rcases List.mem_or_eq_of_mem_set hw with hw | hw
  · exact h w hw
  · subst hw; exact ⟨h0,h1⟩
theorem Wd.rep (n:Nat):Wd (List.replicate n 0):=fun w hw=>by
  have:=(List.mem_replicate.1 hw).2; subst this; decide
theorem Wd.trim {ws:List Int}(h:Wd ws):Wd (trim ws):=h.take _
theorem val_nonneg:∀ {ws:List Int},Wd ws→0≤val ws
  | [],_=>by simp [val]
  | w :: ws,h=>by have:=val_nonneg (Wd.cons.1 h).2; have:=(Wd.cons.1 h).1; simp only [val]; omega
theorem val_append:∀ (ws vs:List Int),val (ws++vs)=val ws+4294967296 ^ ws.length*val vs
  | [],vs=>by simp [val]
  | w :: ws,vs=>by
    simp only [List.cons_append,val,List.length_cons,val_append ws vs,Int.pow_succ]
    rw [Int.mul_add,Int.add_assoc]
    congr 2
    rw [← Int.mul_assoc,Int.mul_comm (4294967296 ^ ws.length)]
theorem val_lt:∀ {ws:List Int},Wd ws→val ws<4294967296 ^ ws.length
  | [],_=>by simp [val]
  | w :: ws,h=>by
    have h1:=val_lt (Wd.cons.1 h).2
    have h2:=(Wd.cons.1 h).1
    simp only [val,List.length_cons,Int.pow_succ]
    rw [Int.mul_comm (4294967296 ^ ws.length)]
    omega
theorem val_take_succ {ws:List Int}{n:Nat}(h:n<ws.length):val (ws.take (n+1))=val (ws.take n)+4294967296 ^ n*ws.getD n 0:=by
  rw [List.take_add_one,List.getElem?_eq_getElem h,Option.toList_some,val_append,List.length_take,Nat.min_eq_left (by omega)]
  simp [val,List.getD_eq_getElem?_getD,h]
theorem val_trimN (ws:List Int):∀ n,n≤ws.length→val (ws.take (trimN ws n))=val (ws.take n)
  | 0,_=>rfl
  | n+1,h=>by
    simp only [trimN]
    split
    · rename_i e
      rw [val_trimN ws n (by omega),val_take_succ (by omega),e]; simp
    · rfl
theorem val_trim (ws:List Int):val (trim ws)=val ws:=by rw [trim,val_trimN _ _ (Nat.le_refl _),List.take_length]
def Tr (ws:List Int):Prop:=ws.length=0∨ws.getD (ws.length - 1) 0≠0
theorem trimN_last (ws:List Int):∀ n,trimN ws n=0∨ws.getD (trimN ws n - 1) 0≠0
  | 0=>.inl rfl
  | n+1=>by
    simp only [trimN]
    split
    · exact trimN_last ws n
    · rename_i h; exact .inr (by simpa using h)
theorem trim_length (ws:List Int):(trim ws).length=trimN ws ws.length:=by
  rw [trim,List.length_take,Nat.min_eq_left (trimN_le _ _)]
theorem trim_tr (ws:List Int):Tr (trim ws):=by
  rcases trimN_last ws ws.length with h | h
  · exact .inl (by rw [trim_length,h])
  · by_cases h0:trimN ws ws.length=0
    · exact .inl (by rw [trim_length,h0])
    · refine .inr ?_
      rw [trim_length,trim,List.getD_eq_getElem?_getD,List.getElem?_take,if_pos (by omega),← List.getD_eq_getElem?_getD]
      exact h
theorem Tr.tail {w:Int}{ws:List Int}(h:Tr (w :: ws))(hn:ws≠[]):Tr ws:=by
  rcases h with h | h
  · cases h
  · refine .inr ?_
    obtain ⟨v,vs,rfl⟩:=List.exists_cons_of_ne_nil hn
    simpa using h
def digs (n:Nat):List Int:=if h:n=0 then [] else ((n % 4294967296:Nat):Int) :: digs (n / 4294967296)
  termination_by n
  decreasing_by exact Nat.div_lt_self (Nat.pos_of_ne_zero h) (by decide)
theorem digs_zero:digs 0=[]:=by rw [digs]; simp
theorem digs_pos {n:Nat}(h:n≠0):digs n=((n % 4294967296:Nat):Int) :: digs (n / 4294967296):=by rw [digs]; simp [h]
theorem wd_digs (n:Nat):Wd (digs n):=by
  induction n using Nat.strongRecOn with
  | ind n ih =>
    by_cases h:n=0
    · rw [h,digs_zero]; exact Wd.nil
    · rw [digs_pos h]
      refine Wd.cons.2 ⟨?_,ih _ (Nat.div_lt_self (Nat.pos_of_ne_zero h) (by decide))⟩
      omega
theorem val_digs (n:Nat):val (digs n)=n:=by
  induction n using Nat.strongRecOn with
  | ind n ih =>
    by_cases h:n=0
    · rw [h,digs_zero]; rfl
    · rw [digs_pos h,val,ih _ (Nat.div_lt_self (Nat.pos_of_ne_zero h) (by decide))]
      omega
theorem digs_val:∀ {ws:List Int},Wd ws→Tr ws→digs (val ws).toNat=ws
  | [],_,_=>by simp [val,digs_zero]
  | w :: ws,h,ht=>by
    have h1:=(Wd.cons.1 h).1
    have h2:=val_nonneg (Wd.cons.1 h).2
    have hne:(val (w :: ws)).toNat≠0:=by
      intro e
      simp only [val] at e
      have hv:val ws=0:=by omega
      have hw:w=0:=by omega
      by_cases hn:ws=[]
      · subst hn; subst hw; rcases ht with ht | ht
        · cases ht
        · simp at ht
      · have:=digs_val (Wd.cons.1 h).2 (ht.tail hn)
        rw [hv] at this
        simp [digs_zero] at this
        exact hn this
    rw [digs_pos hne]
    have e1:(((val (w :: ws)).toNat % 4294967296:Nat):Int)=w:=by simp only [val]; omega
    have e2:(val (w :: ws)).toNat / 4294967296=(val ws).toNat:=by simp only [val]; omega
    rw [e1,e2]
    by_cases hn:ws=[]
    · subst hn; simp [val,digs_zero]
    · rw [digs_val (Wd.cons.1 h).2 (ht.tail hn)]
theorem digs_tr (n:Nat):Tr (digs n):=by
  have h:=digs_val (Wd.trim (wd_digs n)) (trim_tr _)
  rw [val_trim,val_digs,Int.toNat_natCast] at h
  rw [h]
  exact trim_tr _
theorem trim_eq_digs {ws:List Int}(h:Wd ws):trim ws=digs (val ws).toNat:=by
  rw [← val_trim,digs_val h.trim (trim_tr ws)]
theorem digs_nil {n:Nat}:digs n=[]↔n=0:=by
  constructor
  · intro h
    have:=val_digs n
    rw [h] at this
    simp [val] at this
    omega
  · rintro rfl; exact digs_zero
theorem digs_len {n k:Nat}(h:n<4294967296 ^ k):(digs n).length≤k:=by
  induction k generalizing n with
  | zero => have : n = 0 := by rw [Nat.pow_zero] at h; omega
            rw [this,digs_zero]; simp
  | succ k ih =>
    by_cases h0:n=0
    · rw [h0,digs_zero]; simp
    · rw [digs_pos h0,List.length_cons]
      have:=ih (n:=n / 4294967296) (by rw [Nat.pow_succ] at h; exact Nat.div_lt_of_lt_mul (by rw [Nat.mul_comm]; exact h))
      omega
def sg (neg:Bool)(n:Int):Int:=if neg then -n else n
def canon (neg:Bool)(ws:List Int):Bool:=if ws.length=0 then !neg else !decide (ws.getD (ws.length - 1) 0=0)
theorem canon_tr {neg:Bool}{ws:List Int}(h:canon neg ws=true):Tr ws∧(ws=[]→neg=false):=by
  unfold canon at h
  split at h
  · rename_i e; exact ⟨.inl e,fun _=>by simpa using h⟩
  · rename_i e; refine ⟨.inr (by simpa using h),fun h=>by subst h; simp at e⟩
theorem val_eq_zero {ws:List Int}(h:Wd ws)(ht:Tr ws)(h0:val ws=0):ws=[]:=by
  have:=digs_val h ht
  rw [h0] at this
  simpa [digs_zero] using this.symm
theorem canon_eq {neg:Bool}{ws:List Int}(h:Wd ws)(hc:canon neg ws=true):decide (sg neg (val ws)<0)=neg∧digs (sg neg (val ws)).natAbs=ws:=by
  obtain ⟨ht,hn⟩:=canon_tr hc
  have hv:=val_nonneg h
  constructor
  · cases neg with
    | false=>simp [sg]; omega
    | true =>
      have:val ws≠0:=fun e=>by have:=hn (val_eq_zero h ht e); cases this
      simp [sg]; omega
  · have:(sg neg (val ws)).natAbs=(val ws).toNat:=by cases neg <;> simp [sg] <;> omega
    rw [this,digs_val h ht]
theorem canon_digs (n:Int):canon (decide (n<0)) (digs n.natAbs)=true:=by
  unfold canon
  split
  · rename_i e
    have:=List.eq_nil_of_length_eq_zero e
    rw [digs_nil] at this
    simp; omega
  · rename_i e
    rcases digs_tr n.natAbs with h | h
    · exact absurd h e
    · simpa using h
theorem sg_digs (n:Int):sg (decide (n<0)) (val (digs n.natAbs))=n:=by
  rw [val_digs]
  by_cases h:n<0
  · simp [sg,h]; omega
  · simp [sg,h]; omega
end Go.Proofs.YtjagfionflbjbaaGreat.NumA
namespace Go.Proofs.YtjagfionflbjbaaGreat.NumA
def bl (n:Nat):Nat:=if n=0 then 0 else n.log2+1
theorem bl_div {n k:Nat}(h:2 ^ k≤n):bl n=k+bl (n / 2 ^ k):=by
  have hp:0<2 ^ k:=Nat.pow_pos (by decide)
  have hn:n≠0:=by omega
  have hd:n / 2 ^ k≠0:=by
    have:=Nat.div_pos h hp
    omega
  unfold bl
  rw [if_neg hn,if_neg hd]
  have e:n.log2=k+(n / 2 ^ k).log2:=by
    apply (Nat.log2_eq_iff hn).2
    have h1:=(Nat.log2_eq_iff hd).1 rfl
    constructor
    · rw [Nat.pow_add]
      exact Nat.le_trans (Nat.mul_le_mul_left _ h1.1) (Nat.mul_div_le _ _)
    · rw [Nat.add_assoc,Nat.pow_add]
      have:=Nat.lt_mul_of_div_lt h1.2 hp
      rwa [Nat.mul_comm] at this
  omega
theorem bl_spec {n k:Nat}:bl n≤k↔n<2 ^ k:=by
  unfold bl
  split
  · rename_i e; subst e; simp [Nat.pow_pos]
  · rename_i e
    have:=Nat.log2_lt (n:=n) (k:=k) e
    omega
def cmpI (a b:Int):Int:=if a<b then -1 else if b<a then 1 else 0
theorem drop_getD {ws:List Int}{n:Nat}(h:n<ws.length):ws.drop n=ws.getD n 0 :: ws.drop (n+1):=by
  rw [List.drop_eq_getElem_cons h]; simp [List.getD_eq_getElem?_getD,h]
theorem val_lt_len {ws vs:List Int}(h:Wd ws)(h2:Wd vs)(ht:Tr vs)(hl:ws.length<vs.length):val ws<val vs:=by
  have h1:=val_lt h
  rcases ht with ht | ht
  · omega
  · have e : vs = vs.take (vs.length - 1) ++ [vs.getD (vs.length - 1) 0] := by
      have h3:=drop_getD (ws:=vs) (n:=vs.length - 1) (by omega)
      rw [show vs.length - 1+1=vs.length by omega,List.drop_length] at h3
      rw [← h3,List.take_append_drop]
    have hv:=val_append (vs.take (vs.length - 1)) [vs.getD (vs.length - 1) 0]
    rw [← e] at hv
    have h3:=val_nonneg (h2.take (vs.length - 1))
    have h4:=h2.getD (vs.length - 1)
    simp only [val,List.length_take] at hv
    rw [Nat.min_eq_left (by omega)] at hv
    have h5:(4294967296:Int) ^ ws.length≤4294967296 ^ (vs.length - 1):=by
      have:=Nat.pow_le_pow_right (n:=4294967296) (by decide) (show ws.length≤vs.length - 1 by omega)
      rw [show (4294967296:Int)=((4294967296:Nat):Int) from rfl,← Int.natCast_pow,← Int.natCast_pow]
      exact Int.ofNat_le.2 this
    have h6:(4294967296:Int) ^ (vs.length - 1)*1≤4294967296 ^ (vs.length - 1)*(vs.getD (vs.length - 1) 0+4294967296*0) :=
      Int.mul_le_mul_of_nonneg_left (by omega) (Int.le_of_lt (Int.pow_pos (by decide)))
    omega
theorem val_drop (ws:List Int)(n:Nat):val ws=val (ws.take n)+4294967296 ^ (min n ws.length)*val (ws.drop n):=by
  conv=>lhs; rw [← List.take_append_drop n ws,val_append,List.length_take]
theorem cmp_drop {ws vs:List Int}(h:Wd ws)(h2:Wd vs)(hl:ws.length=vs.length){i:Nat}(hi:i<ws.length)(hd:ws.drop (i+1)=vs.drop (i+1))(hlt:ws.getD i 0<vs.getD i 0):val ws<val vs:=by
  rw [val_drop ws i,val_drop vs i,Nat.min_eq_left (by omega),Nat.min_eq_left (by omega),drop_getD hi,drop_getD (ws:=vs) (n:=i) (by omega),hd]
  simp only [val]
  have h1:=val_lt (h.take i)
  rw [List.length_take,Nat.min_eq_left (by omega)] at h1
  have h3:=val_nonneg (h2.take i)
  have hp:(0:Int)<4294967296 ^ i:=Int.pow_pos (by decide)
  generalize val (vs.drop (i+1))=r at *
  have h6:(4294967296:Int) ^ i*(ws.getD i 0+1+4294967296*r)≤4294967296 ^ i*(vs.getD i 0+4294967296*r):=Int.mul_le_mul_of_nonneg_left (by omega) (Int.le_of_lt hp)
  have h7:(4294967296:Int) ^ i*(ws.getD i 0+1+4294967296*r)=4294967296 ^ i*(ws.getD i 0+4294967296*r)+4294967296 ^ i:=by
    rw [show ws.getD i 0+1+4294967296*r=(ws.getD i 0+4294967296*r)+1 by omega,Int.mul_add,Int.mul_one]
  omega
end Go.Proofs.YtjagfionflbjbaaGreat.NumA
namespace Go.Proofs.YtjagfionflbjbaaGreat.NumA
theorem all_take_succ {α:Type}{p:α→Bool}{l:List α}{i:Nat}(h:i<l.length)(ht:(l.take i).all p=true)(hp:p l[i]=true):(l.take (i+1)).all p=true:=by
  rw [List.take_add_one,List.getElem?_eq_getElem h,Option.toList_some,List.all_append,ht]
  simp [hp]
end Go.Proofs.YtjagfionflbjbaaGreat.NumA
namespace Go.Proofs.YtjagfionflbjbaaGreat.NumA
theorem cmpI_len {ws vs:List Int}(h:Wd ws)(h2:Wd vs)(ht:Tr ws)(ht2:Tr vs)(hl:ws.length≠vs.length):cmpI (val ws) (val vs)=if ws.length<vs.length then -1 else 1:=by
  unfold cmpI
  by_cases e:ws.length<vs.length
  · rw [if_pos e,if_pos (val_lt_len h h2 ht2 e)]
  · have:=val_lt_len h2 h ht (by omega)
    rw [if_neg e,if_neg (by omega),if_pos this]
theorem cmpI_drop {ws vs:List Int}(h:Wd ws)(h2:Wd vs)(hl:ws.length=vs.length){i:Nat}(hi:i<ws.length)(hd:ws.drop (i+1)=vs.drop (i+1))(hne:ws.getD i 0≠vs.getD i 0):cmpI (val ws) (val vs)=if ws.getD i 0<vs.getD i 0 then -1 else 1:=by
  unfold cmpI
  by_cases e:ws.getD i 0<vs.getD i 0
  · rw [if_pos e,if_pos (cmp_drop h h2 hl hi hd e)]
  · have:=cmp_drop h2 h hl.symm (by omega) hd.symm (i:=i) (by omega)
    rw [if_neg e,if_neg (by omega),if_pos this]
theorem drop_eq_succ {ws vs:List Int}{i:Nat}(hi:i<ws.length)(hl:ws.length=vs.length)(hd:ws.drop (i+1)=vs.drop (i+1))(he:ws.getD i 0=vs.getD i 0):ws.drop i=vs.drop i:=by
  rw [drop_getD hi,drop_getD (ws:=vs) (n:=i) (by omega),hd,he]
theorem cmpI_self (a:Int):cmpI a a=0:=by simp [cmpI]
theorem bl_val {ws:List Int}(h:Wd ws)(ht:Tr ws)(hn:ws≠[]):(bl (val ws).toNat:Int)=32*((ws.length:Int) - 1)+bl (ws.getD (ws.length - 1) 0).toNat:=by
  have h0:0<ws.length:=List.length_pos_iff.2 hn
  rcases ht with ht | ht
  · omega
  have hv:=val_drop ws (ws.length - 1)
  rw [Nat.min_eq_left (by omega),drop_getD (ws:=ws) (n:=ws.length - 1) (by omega),show ws.length - 1+1=ws.length by omega,List.drop_length] at hv
  simp only [val,Int.mul_zero,Int.add_zero] at hv
  have h1:=val_lt (h.take (ws.length - 1))
  have h2:=val_nonneg (h.take (ws.length - 1))
  rw [List.length_take,Nat.min_eq_left (by omega)] at h1
  have h3:=h.getD (ws.length - 1)
  obtain ⟨x,hx⟩:=Int.eq_ofNat_of_zero_le h2
  obtain ⟨y,hy⟩:=Int.eq_ofNat_of_zero_le h3.1
  have hp:(4294967296:Int) ^ (ws.length - 1)=((2 ^ (32*(ws.length - 1)):Nat):Int):=by
    rw [Nat.pow_mul,Int.natCast_pow]; rfl
  rw [hp] at hv h1
  rw [hx] at hv h1
  rw [hy] at hv ⊢
  have hy0:0<y:=by omega
  have e:(val ws).toNat=x+2 ^ (32*(ws.length - 1))*y:=by
    rw [hv]
    have:((x:Int)+((2 ^ (32*(ws.length - 1)):Nat):Int)*(y:Int))=((x+2 ^ (32*(ws.length - 1))*y:Nat):Int):=by push_cast; rfl
    rw [this,Int.toNat_natCast]
  have hx':x<2 ^ (32*(ws.length - 1)):=by exact Int.ofNat_lt.1 h1
  have hdiv:(x+2 ^ (32*(ws.length - 1))*y) / 2 ^ (32*(ws.length - 1))=y:=by
    rw [Nat.add_mul_div_left _ _ (Nat.pow_pos (by decide)),Nat.div_eq_of_lt hx',Nat.zero_add]
  rw [e,bl_div (k:=32*(ws.length - 1)) (by have:=Nat.mul_le_mul_left (2 ^ (32*(ws.length - 1))) hy0; omega),hdiv]
  rw [Int.toNat_natCast]
  omega
end Go.Proofs.YtjagfionflbjbaaGreat.NumA
namespace Go.Proofs.YtjagfionflbjbaaGreat.NumA
theorem cmp_sg {m n:Bool}{ws vs:List Int}(h:Wd ws)(h2:Wd vs)(hc:canon m ws=true)(hc2:canon n vs=true):cmpI (sg m (val ws)) (sg n (val vs))=if m≠n then (if m then -1 else 1) else if m then -cmpI (val ws) (val vs) else cmpI (val ws) (val vs):=by
  have hv:=val_nonneg h
  have hv2:=val_nonneg h2
  have z:m=true→val ws≠0:=fun hm e=>by have:=(canon_tr hc).2 (val_eq_zero h (canon_tr hc).1 e); rw [hm] at this; cases this
  have z2:n=true→val vs≠0:=fun hm e=>by have:=(canon_tr hc2).2 (val_eq_zero h2 (canon_tr hc2).1 e); rw [hm] at this; cases this
  unfold cmpI sg
  cases m <;> cases n <;> simp only [Bool.false_eq_true,if_false,if_true,ne_eq,not_true,not_false_eq_true,reduceCtorEq,true_implies,false_implies] at z z2 ⊢ <;> (repeat' split) <;> omega
end Go.Proofs.YtjagfionflbjbaaGreat.NumA
namespace Go.Proofs.YtjagfionflbjbaaGreat.NumA
theorem big2 {ws:List Int}(h:Wd ws)(ht:Tr ws)(hl:2<ws.length):18446744073709551616≤val ws:=by
  match ws,h,ht,hl with
  | a :: b :: c :: r,h,ht,_ =>
    have h1:=Wd.cons.1 h
    have h2:=Wd.cons.1 h1.2
    have hv:=val_nonneg h2.2
    have:val (c :: r)≠0:=fun e=>by
      have:=val_eq_zero h2.2 ((ht.tail (by simp)).tail (by simp)) e
      cases this
    simp only [val] at this hv ⊢
    omega
theorem small2 {ws:List Int}(h:Wd ws)(hl:ws.length≤2):val ws<18446744073709551616:=by
  have h1:=val_lt h
  rcases (show ws.length=0∨ws.length=1∨ws.length=2 by omega) with e | e | e <;> rw [e] at h1 <;> simp at h1 <;> omega
end Go.Proofs.YtjagfionflbjbaaGreat.NumA
namespace Go.Proofs.YtjagfionflbjbaaGreat.NumA
theorem take_succ_eq {ws vs:List Int}{i:Nat}(hi:i<ws.length)(hl:ws.length=vs.length)(hd:ws.take i=vs.take i)(he:ws.getD i 0=vs.getD i 0):ws.take (i+1)=vs.take (i+1):=by
  rw [List.take_add_one,List.take_add_one,hd,List.getElem?_eq_getElem hi,List.getElem?_eq_getElem (show i<vs.length by omega)]
  simp only [List.getD_eq_getElem?_getD,List.getElem?_eq_getElem hi,List.getElem?_eq_getElem (show i<vs.length by omega),Option.getD_some] at he
  rw [he]
theorem bl_half {n:Nat}(h:n≠0):bl n=1+bl (n / 2):=by
  by_cases h1:n=1
  · subst h1; decide
  · exact bl_div (k:=1) (by rw [Nat.pow_one]; omega)
end Go.Proofs.YtjagfionflbjbaaGreat.NumA
namespace Go.Proofs.YtjagfionflbjbaaGreat.NumA
theorem val_take_succ' {ws:List Int}(n:Nat):val (ws.take (n+1))=val (ws.take n)+4294967296 ^ n*ws.getD n 0:=by
  by_cases h:n<ws.length
  · exact val_take_succ h
  · rw [List.take_of_length_le (by omega),List.take_of_length_le (by omega),List.getD_eq_getElem?_getD,List.getElem?_eq_none (by omega)]; simp
theorem val_snoc (ws:List Int)(v:Int):val (ws++[v])=val ws+4294967296 ^ ws.length*v:=by rw [val_append]; simp [val]
theorem add_step {ws vs ys : List Int} {i : Nat} {c : Int} (hl : ys.length = i) (hv : val ys + 4294967296 ^ i * c = val (ws.take i) + val (vs.take i)) {s d c' : Int} (hs : s = ws.getD i 0 + vs.getD i 0 + c) (hd : d + 4294967296 * c' = s) :
    val (ys++[d])+4294967296 ^ (i+1)*c'=val (ws.take (i+1))+val (vs.take (i+1)):=by
  rw [val_snoc,val_take_succ',val_take_succ',hl,Int.pow_succ]
  have e:(4294967296:Int) ^ i*s=4294967296 ^ i*ws.getD i 0+4294967296 ^ i*vs.getD i 0+4294967296 ^ i*c:=by rw [hs,Int.mul_add,Int.mul_add]
  have e2:(4294967296:Int) ^ i*s=4294967296 ^ i*d+4294967296 ^ i*4294967296*c':=by rw [← hd,Int.mul_add,Int.mul_assoc]
  omega
theorem sub_step {ws vs ys : List Int} {i : Nat} {c : Int} (hl : ys.length = i) (hv : val ys - 4294967296 ^ i * c = val (ws.take i) - val (vs.take i)) {s d c' : Int} (hs : s = ws.getD i 0 - vs.getD i 0 - c) (hd : d - 4294967296 * c' = s) :
    val (ys++[d]) - 4294967296 ^ (i+1)*c'=val (ws.take (i+1)) - val (vs.take (i+1)):=by
  rw [val_snoc,val_take_succ',val_take_succ',hl,Int.pow_succ]
  have e:(4294967296:Int) ^ i*s=4294967296 ^ i*ws.getD i 0 - 4294967296 ^ i*vs.getD i 0 - 4294967296 ^ i*c:=by rw [hs,Int.mul_sub,Int.mul_sub]
  have e2:(4294967296:Int) ^ i*s=4294967296 ^ i*d - 4294967296 ^ i*4294967296*c':=by rw [← hd,Int.mul_sub,Int.mul_assoc]
  omega
theorem take_all {ws:List Int}{n:Nat}(h:ws.length≤n):ws.take n=ws:=List.take_of_length_le h
end Go.Proofs.YtjagfionflbjbaaGreat.NumA
namespace Go.Proofs.YtjagfionflbjbaaGreat.NumA
theorem val_one {ws:List Int}(h:ws.length=1):ws.getD 0 0=val ws:=by
  match ws,h with
  | [a],_=>simp [val]
theorem val_lt1 {ws:List Int}(h:Wd ws)(hl:ws.length≤1):val ws<4294967296:=by
  have h1:=val_lt h
  rcases (show ws.length=0∨ws.length=1 by omega) with e | e <;> rw [e] at h1 <;> simp at h1 <;> omega
end Go.Proofs.YtjagfionflbjbaaGreat.NumA
namespace Go.Proofs.YtjagfionflbjbaaGreat.NumA
def digN:Nat→Int→List Int
  | 0,_=>[]
  | n+1,m=>m % 4294967296 :: digN n (m / 4294967296)
theorem digN_length:∀ (n:Nat)(m:Int),(digN n m).length=n
  | 0,_=>rfl
  | n+1,m=>by simp [digN,digN_length n]
theorem digN_wd:∀ (n:Nat)(m:Int),Wd (digN n m)
  | 0,_=>Wd.nil
  | n+1,m=>Wd.cons.2 ⟨by omega,digN_wd n _⟩
theorem digN_val:∀ {ys:List Int},Wd ys→digN ys.length (val ys)=ys
  | [],_=>rfl
  | y :: ys,h=>by
    have h1:=(Wd.cons.1 h).1
    simp only [List.length_cons,digN,val]
    rw [show (y+4294967296*val ys) % 4294967296=y by omega,show (y+4294967296*val ys) / 4294967296=val ys by omega,digN_val (Wd.cons.1 h).2]
theorem val_digN {n:Nat}{m:Int}(h0:0≤m)(h1:m<4294967296 ^ n):val (digN n m)=m:=by
  induction n generalizing m with
  | zero=>simp at h1; simp [digN,val]; omega
  | succ n ih =>
    simp only [digN,val]
    rw [ih (by omega) (by rw [Int.pow_succ] at h1; omega)]
    omega
theorem pow_max_lt {ws vs:List Int}(h:Wd ws)(h2:Wd vs):val ws+val vs<4294967296 ^ (max ws.length vs.length+1):=by
  have h3:=val_lt h
  have h4:=val_lt h2
  have mono:∀ {a b:Nat},a≤b→(4294967296:Int) ^ a≤4294967296 ^ b:=fun {a b} hab=>by
    have:=Nat.pow_le_pow_right (n:=4294967296) (by decide) hab
    rw [show (4294967296:Int)=((4294967296:Nat):Int) from rfl,← Int.natCast_pow,← Int.natCast_pow]
    exact Int.ofNat_le.2 this
  have h5:=mono (Nat.le_max_left ws.length vs.length)
  have h6:=mono (Nat.le_max_right ws.length vs.length)
  rw [Int.pow_succ]
  have:(0:Int)<4294967296 ^ (max ws.length vs.length):=Int.pow_pos (by decide)
  omega
theorem set_fill {ys:List Int}{i n:Nat}(hl:ys.length=i)(hi:i<n)(d:Int):(ys++List.replicate (n - i) 0).set i d=(ys++[d])++List.replicate (n - (i+1)) 0:=by
  subst hl
  rw [List.set_append_right _ _ (Nat.le_refl _),Nat.sub_self,show n - ys.length=(n - (ys.length+1))+1 by omega,List.replicate_succ,List.set_cons_zero,List.append_assoc]
  rfl
theorem Wd.snoc {ys:List Int}{d:Int}(h:Wd ys)(h0:0≤d)(h1:d<4294967296):Wd (ys++[d]):=h.append (Wd.cons.2 ⟨⟨h0,h1⟩,Wd.nil⟩)
theorem add_end {ws vs ys:List Int}{n:Nat}{c:Int}(h:Wd ws)(h2:Wd vs)(hy:Wd ys)(hl:ys.length=n)(hn:n=max ws.length vs.length+1)(hc:0≤c)(hv:val ys+4294967296 ^ n*c=val (ws.take n)+val (vs.take n)):c=0∧ys=digN n (val ws+val vs):=by
  rw [take_all (by omega),take_all (by omega)] at hv
  have h3:=pow_max_lt h h2
  rw [← hn] at h3
  have h4:=val_nonneg hy
  have h5:c=0:=by
    by_cases e:c=0
    · exact e
    · have h6:(4294967296:Int) ^ n*1≤4294967296 ^ n*c:=Int.mul_le_mul_of_nonneg_left (by omega) (Int.le_of_lt (Int.pow_pos (by decide)))
      omega
  refine ⟨h5,?_⟩
  rw [h5,Int.mul_zero,Int.add_zero] at hv
  rw [← hv,← hl,digN_val hy]
end Go.Proofs.YtjagfionflbjbaaGreat.NumA
namespace Go.Proofs.YtjagfionflbjbaaGreat.NumA
structure AddAt (ws vs:List Int) (n:Nat) (x:Nat×List Int×Int):Prop where
  le:x.1≤n
  len:x.2.1.length=x.1
  wd:Wd x.2.1
  c0:0≤x.2.2
  c1:x.2.2≤1
  eq:val x.2.1+4294967296 ^ x.1*x.2.2=val (ws.take x.1)+val (vs.take x.1)
theorem AddAt.zero (ws vs:List Int)(n:Nat):AddAt ws vs n (0,[],0):=⟨Nat.zero_le _,rfl,Wd.nil,Int.le_refl _,by decide,by simp [val]⟩
theorem AddAt.next {ws vs : List Int} (h : Wd ws) (h2 : Wd vs) {n i : Nat} {ys : List Int} {c : Int} (ha : AddAt ws vs n (i, ys, c)) (hi : i < n) :
    AddAt ws vs n (i+1,ys++[(ws.getD i 0+vs.getD i 0+c) % 4294967296],(ws.getD i 0+vs.getD i 0+c) / 4294967296):=by
  have hw:=h.getD i
  have hv:=h2.getD i
  have h3:=ha.c0
  have h4:=ha.c1
  simp only at h3 h4
  exact ⟨hi,by simp [ha.len],ha.wd.snoc (by omega) (by omega),by simp only; omega,by simp only; omega,add_step (ws:=ws) (vs:=vs) (ys:=ys) (i:=i) (c:=c) (d:=(ws.getD i 0+vs.getD i 0+c) % 4294967296) (c':=(ws.getD i 0+vs.getD i 0+c) / 4294967296) ha.len ha.eq rfl (by omega)⟩
structure SubAt (ws vs:List Int) (n:Nat) (x:Nat×List Int×Int):Prop where
  le:x.1≤n
  len:x.2.1.length=x.1
  wd:Wd x.2.1
  c0:0≤x.2.2
  c1:x.2.2≤1
  eq:val x.2.1 - 4294967296 ^ x.1*x.2.2=val (ws.take x.1) - val (vs.take x.1)
theorem SubAt.zero (ws vs:List Int)(n:Nat):SubAt ws vs n (0,[],0):=⟨Nat.zero_le _,rfl,Wd.nil,Int.le_refl _,by decide,by simp [val]⟩
theorem SubAt.next {ws vs : List Int} (h : Wd ws) (h2 : Wd vs) {n i : Nat} {ys : List Int} {c : Int} (ha : SubAt ws vs n (i, ys, c)) (hi : i < n) :
    SubAt ws vs n (i+1,ys++[(ws.getD i 0 - vs.getD i 0 - c) % 4294967296],if ws.getD i 0<vs.getD i 0+c then 1 else 0):=by
  have hw:=h.getD i
  have hv:=h2.getD i
  have h3:=ha.c0
  have h4:=ha.c1
  simp only at h3 h4
  exact ⟨hi,by simp [ha.len],ha.wd.snoc (by omega) (by omega),by simp only; split <;> omega,by simp only; split <;> omega,sub_step (ws:=ws) (vs:=vs) (ys:=ys) (i:=i) (c:=c) (d:=(ws.getD i 0 - vs.getD i 0 - c) % 4294967296) (c':=if ws.getD i 0<vs.getD i 0+c then 1 else 0) ha.len ha.eq rfl (by split <;> omega)⟩
theorem sub_end {ws vs ys:List Int}{n:Nat}{c:Int}(h:Wd ws)(h2:Wd vs)(hle:val vs≤val ws)(hn:ws.length≤n)(hn2:vs.length≤n)(ha:SubAt ws vs n (n,ys,c)):c=0∧ys=digN n (val ws - val vs):=by
  have hv:=ha.eq
  simp only at hv
  rw [take_all hn,take_all hn2] at hv
  have h4:=val_lt ha.wd
  simp only [ha.len] at h4
  have h3:=ha.c0
  simp only at h3
  have h5:c=0:=by
    by_cases e:c=0
    · exact e
    · have h6:(4294967296:Int) ^ n*1≤4294967296 ^ n*c:=Int.mul_le_mul_of_nonneg_left (by omega) (Int.le_of_lt (Int.pow_pos (by decide)))
      omega
  refine ⟨h5,?_⟩
  rw [h5,Int.mul_zero,Int.sub_zero] at hv
  have hal:ys.length=n:=ha.len
  rw [← hv,← hal]
  exact (digN_val ha.wd).symm
end Go.Proofs.YtjagfionflbjbaaGreat.NumA
namespace Go.Proofs.YtjagfionflbjbaaGreat.NumA
theorem getD_out {ws:List Int}{i:Nat}(h:ws.length≤i):ws.getD i 0=0:=by rw [List.getD_eq_getElem?_getD,List.getElem?_eq_none h]; rfl
end Go.Proofs.YtjagfionflbjbaaGreat.NumA
namespace Go.Proofs.YtjagfionflbjbaaGreat.NumA
theorem sg_bd {n x:Int}(m:Bool)(h:0≤x)(h1:x<n) : -n<sg m x∧sg m x<n:=by cases m <;> simp [sg] <;> omega
theorem sg_add (m:Bool)(x y:Int):sg m (x+y)=sg m x+sg m y:=by cases m <;> simp [sg]; omega
theorem sg_sub {m n:Bool}(h:m≠n){x y:Int}:sg m (x - y)=sg m x+sg n y:=by cases m <;> cases n <;> simp [sg] at h ⊢ <;> omega
theorem sg_not (m:Bool)(x:Int):sg (!m) x = -sg m x:=by cases m <;> simp [sg]
theorem cmpI_ge {x y:Int}(h:0≤cmpI x y):y≤x:=by unfold cmpI at h; split at h <;> omega
theorem cmpI_lt {x y:Int}(h:¬ 0≤cmpI x y):x<y:=by
  unfold cmpI at h
  split at h
  · assumption
  · split at h <;> omega
end Go.Proofs.YtjagfionflbjbaaGreat.NumA
namespace Go.Proofs.YtjagfionflbjbaaGreat.NumA
theorem val_set {ws:List Int}:∀ {i:Nat},i<ws.length→∀ v:Int,val (ws.set i v)=val ws+4294967296 ^ i*(v - ws.getD i 0):=by
  induction ws with
  | nil=>intro i h; simp at h
  | cons w ws ih =>
    intro i h v
    cases i with
    | zero=>simp [val]; omega
    | succ i =>
      simp only [List.set_cons_succ,val,List.getD_cons_succ,Int.pow_succ]
      rw [ih (by simpa using h) v]
      grind
theorem mul_bd {x y:Int}(hx:0≤x∧x<4294967296)(hy:0≤y∧y<4294967296):0≤x*y∧x*y≤18446744065119617025:=by
  constructor
  · exact Int.mul_nonneg hx.1 hy.1
  · have h1:x*y≤x*4294967295:=Int.mul_le_mul_of_nonneg_left (by omega) hx.1
    omega
theorem val_zero_get {ws:List Int}(h:Wd ws)(h0:val ws=0)(i:Nat):ws.getD i 0=0:=by
  induction ws generalizing i with
  | nil=>rfl
  | cons w ws ih =>
    have h1:=Wd.cons.1 h
    have h2:=val_nonneg h1.2
    simp only [val] at h0
    cases i with
    | zero=>simp; omega
    | succ i=>simpa using ih h1.2 (by omega) i
theorem high_zero {ws:List Int}(h:Wd ws){k i:Nat}(hv:val ws<4294967296 ^ k)(hi:k≤i):ws.getD i 0=0:=by
  by_cases hk:ws.length≤k
  · exact getD_out (by omega)
  · have h1:=val_drop ws k
    rw [Nat.min_eq_left (by omega)] at h1
    have h2:=val_nonneg (h.take k)
    have h3:=val_nonneg (h.drop k)
    have hp:(0:Int)<4294967296 ^ k:=Int.pow_pos (by decide)
    have h4:val (ws.drop k)=0:=by
      by_cases e:val (ws.drop k)=0
      · exact e
      · have h6:(4294967296:Int) ^ k*1≤4294967296 ^ k*val (ws.drop k):=Int.mul_le_mul_of_nonneg_left (by omega) (Int.le_of_lt hp)
        omega
    have h5:=val_zero_get (h.drop k) h4 (i - k)
    rw [List.getD_eq_getElem?_getD,List.getElem?_drop,show k+(i - k)=i by omega,← List.getD_eq_getElem?_getD] at h5
    exact h5
structure MulAt (ws vs:List Int) (x:Nat×List Int):Prop where
  le:x.1≤ws.length
  len:x.2.length=ws.length+vs.length
  wd:Wd x.2
  eq:val x.2=val (ws.take x.1)*val vs
structure MulIn (ws vs:List Int) (i:Nat) (x:Nat×List Int×Int):Prop where
  le:x.1≤vs.length
  len:x.2.1.length=ws.length+vs.length
  wd:Wd x.2.1
  c0:0≤x.2.2
  c1:x.2.2<4294967296
  top:x.2.1.getD (i+vs.length) 0=0
  eq:val x.2.1+4294967296 ^ (i+x.1)*x.2.2=val (ws.take i)*val vs+4294967296 ^ i*(ws.getD i 0*val (vs.take x.1))
theorem val_rep (n:Nat):val (List.replicate n 0)=0:=by
  induction n with
  | zero=>rfl
  | succ n ih=>rw [List.replicate_succ,val,ih]; rfl
theorem MulAt.zero (ws vs:List Int):MulAt ws vs (0,List.replicate (ws.length+vs.length) 0):=⟨Nat.zero_le _,by simp,Wd.rep _,by simp [val,val_rep]⟩
theorem take_mul_lt {ws vs:List Int}(h:Wd ws)(h2:Wd vs){i:Nat}(hi:i≤ws.length):val (ws.take i)*val vs<4294967296 ^ (i+vs.length):=by
  have h3:=val_lt (h.take i)
  rw [List.length_take,Nat.min_eq_left hi] at h3
  have h4:=val_lt h2
  have h5:=val_nonneg (h.take i)
  have h6:=val_nonneg h2
  rw [Int.pow_add]
  have hp:(0:Int)<4294967296 ^ i:=Int.pow_pos (by decide)
  have hp2:(0:Int)<4294967296 ^ vs.length:=Int.pow_pos (by decide)
  have e1:val (ws.take i)*val vs≤val (ws.take i)*4294967296 ^ vs.length:=Int.mul_le_mul_of_nonneg_left (by omega) h5
  have e2:val (ws.take i)*4294967296 ^ vs.length<4294967296 ^ i*4294967296 ^ vs.length:=Int.mul_lt_mul_of_pos_right h3 hp2
  omega
theorem MulIn.zero {ws vs:List Int}(h:Wd ws)(h2:Wd vs){i:Nat}{r:List Int}(ha:MulAt ws vs (i,r))(hi:i<ws.length):MulIn ws vs i (0,r,0) :=
  ⟨Nat.zero_le _,ha.len,ha.wd,Int.le_refl _,by show (0:Int)<4294967296; decide,high_zero ha.wd (by have:=ha.eq; simp only at this; rw [this]; exact take_mul_lt h h2 (by omega)) (Nat.le_refl _),by have:=ha.eq; simp only at this; simp [val,this]⟩
theorem MulIn.next {ws vs : List Int} (h : Wd ws) (h2 : Wd vs) {i j : Nat} {r : List Int} {c : Int} (ha : MulIn ws vs i (j, r, c)) (hi : i < ws.length) (hj : j < vs.length) {t : Int} (ht : t = ws.getD i 0 * vs.getD j 0 + r.getD (i + j) 0 + c) :
    MulIn ws vs i (j+1,r.set (i+j) (t % 4294967296),t / 4294967296)∧0≤t∧t<18446744073709551616:=by
  have hw:=h.getD i
  have hv:=h2.getD j
  have hb:=mul_bd hw hv
  have hr:=ha.wd.getD (i+j)
  have hc0:=ha.c0
  have hc1:=ha.c1
  have hl:=ha.len
  have heq:=ha.eq
  have htop:=ha.top
  simp only at hr hc0 hc1 hl heq htop
  refine ⟨⟨hj,by simp [hl],ha.wd.set _ (by omega) (by omega),by simp only; omega,by simp only; omega,?_,?_⟩,by omega,by omega⟩
  · simp only
    rw [List.getD_eq_getElem?_getD,List.getElem?_set_ne (by omega),← List.getD_eq_getElem?_getD]
    exact htop
  · simp only
    rw [val_set (by omega),val_take_succ' (ws:=vs) j,← Nat.add_assoc,Int.pow_succ,Int.pow_add]
    rw [Int.pow_add] at heq
    have e:t % 4294967296+4294967296*(t / 4294967296)=t:=by omega
    generalize (4294967296:Int) ^ i=A at *
    generalize (4294967296:Int) ^ j=B at *
    generalize t % 4294967296=d at *
    generalize t / 4294967296=q at *
    subst ht
    grind
theorem MulIn.done {ws vs:List Int}{i:Nat}{r:List Int}{c:Int}(ha:MulIn ws vs i (vs.length,r,c))(hi:i<ws.length):MulAt ws vs (i+1,r.set (i+vs.length) c):=by
  have hl:=ha.len
  have heq:=ha.eq
  have htop:=ha.top
  simp only at hl heq htop
  refine ⟨hi,by simp [hl],ha.wd.set _ ha.c0 ha.c1,?_⟩
  simp only
  rw [val_set (by omega),htop,val_take_succ' (ws:=ws) i]
  rw [List.take_length] at heq
  grind
end Go.Proofs.YtjagfionflbjbaaGreat.NumA
namespace Go.Proofs.YtjagfionflbjbaaGreat.NumA
theorem two_words {ws:List Int}(_h:Wd ws)(hl:ws.length≤2):ws.getD 0 0+ws.getD 1 0*4294967296=val ws:=by
  match ws,hl with
  | [],_=>simp [val]
  | [a],_=>simp [val]
  | [a,b],_=>simp [val]; omega
theorem len_two {ws:List Int}(h:Wd ws)(ht:Tr ws)(hv:val ws<4611686018427387904):ws.length≤2:=by
  by_cases e:ws.length≤2
  · exact e
  · have:=big2 h ht (by omega); omega
end Go.Proofs.YtjagfionflbjbaaGreat.NumA
namespace Go.Proofs.YtjagfionflbjbaaGreat.NumA
theorem sub_word {x y c:Int}:(x+4294967296 - y - c) % 4294967296=(x - y - c) % 4294967296:=by omega
end Go.Proofs.YtjagfionflbjbaaGreat.NumA
namespace Go.Proofs.YtjagfionflbjbaaGreat.NumA
theorem dlen {m:Int}{k:Nat}(h0:0≤m)(h:m<4294967296 ^ k):(digs m.toNat).length≤k:=by
  refine digs_len ?_
  obtain ⟨x,rfl⟩:=Int.eq_ofNat_of_zero_le h0
  rw [show (4294967296:Int)=((4294967296:Nat):Int) from rfl,← Int.natCast_pow] at h
  rw [Int.toNat_natCast]
  exact Int.ofNat_lt.1 h
theorem val_digs_int {m:Int}(h0:0≤m):val (digs m.toNat)=m:=by rw [val_digs]; omega
theorem len_le {ws vs:List Int}(h:Wd ws)(h2:Wd vs)(ht2:Tr vs)(hle:val vs≤val ws):vs.length≤ws.length:=by
  by_cases e:vs.length≤ws.length
  · exact e
  · have:=val_lt_len h h2 ht2 (by omega); omega
theorem add_len {ws vs:List Int}(h:Wd ws)(h2:Wd vs):(digs (val ws+val vs).toNat).length≤max ws.length vs.length+1:=dlen (by have:=val_nonneg h; have:=val_nonneg h2; omega) (pow_max_lt h h2)
theorem sub_len {ws vs:List Int}(h:Wd ws)(h2:Wd vs)(hle:val vs≤val ws):(digs (val ws - val vs).toNat).length≤ws.length:=dlen (by omega) (by have:=val_lt h; have:=val_nonneg h2; omega)
theorem mul_len {ws vs:List Int}(h:Wd ws)(h2:Wd vs):(digs (val ws*val vs).toNat).length≤ws.length+vs.length:=dlen (Int.mul_nonneg (val_nonneg h) (val_nonneg h2)) (by have:=take_mul_lt h h2 (i:=ws.length) (Nat.le_refl _); rwa [List.take_length] at this)
end Go.Proofs.YtjagfionflbjbaaGreat.NumA
namespace Go.Proofs.YtjagfionflbjbaaGreat.NumA
theorem short_step {w V d : Int} (hd : 0 < d) (hw : 0 ≤ w ∧ w < 4294967296) (hV : 0 ≤ V) :
    (w+4294967296*V) / d=(V % d*4294967296+w) / d+4294967296*(V / d)∧(w+4294967296*V) % d=(V % d*4294967296+w) % d∧0≤(V % d*4294967296+w) / d∧(V % d*4294967296+w) / d<4294967296:=by
  have h1:=Int.emod_nonneg V (show d≠0 by omega)
  have h2:=Int.emod_lt_of_pos V hd
  have h3:=Int.mul_ediv_add_emod V d
  have e:w+4294967296*V=(V % d*4294967296+w)+d*(4294967296*(V / d)):=by
    conv=>lhs; rw [← h3]
    grind
  refine ⟨?_,?_,?_,?_⟩
  · rw [e,Int.add_mul_ediv_left _ _ (by omega)]
  · rw [e,Int.add_mul_emod_self_left]
  · exact Int.ediv_nonneg (by omega) (by omega)
  · refine Int.ediv_lt_of_lt_mul hd ?_
    have:(V % d+1)*4294967296≤d*4294967296:=Int.mul_le_mul_of_nonneg_right (by omega) (by decide)
    omega
theorem digN_cons {k:Nat}{q Q:Int}(hq:0≤q∧q<4294967296):digN (k+1) (q+4294967296*Q)=q :: digN k Q:=by
  simp only [digN]
  rw [show (q+4294967296*Q) % 4294967296=q by omega,show (q+4294967296*Q) / 4294967296=Q by omega]
theorem set_last {xs qs:List Int}{n:Nat}(hl:xs.length=n+1)(q:Int):(xs++qs).set n q=xs.take n++q :: qs:=by
  rw [List.set_append_left _ _ (by omega)]
  have:xs.set n q=xs.take n++[q]:=by
    apply List.ext_getElem?
    intro i
    rw [List.getElem?_set]
    by_cases e:n=i
    · subst e; simp [hl]
    · rw [if_neg e,List.getElem?_append]
      simp only [List.length_take,hl,Nat.min_eq_left (Nat.le_succ n)]
      by_cases e2:i<n
      · rw [if_pos e2,List.getElem?_take,if_pos e2]
      · rw [if_neg e2,List.getElem?_eq_none (by omega),List.getElem?_eq_none (by simp; omega)]
  rw [this,List.append_assoc]; rfl
structure ShortAt (ws:List Int) (d:Int) (x:Nat×List Int×Int):Prop where
  le:x.1≤ws.length
  q:x.2.1=digN (ws.length - x.1) (val (ws.drop x.1) / d)
  r:x.2.2=val (ws.drop x.1) % d
theorem ShortAt.start (ws:List Int)(d:Int):ShortAt ws d (ws.length,[],0):=⟨Nat.le_refl _,by simp [digN],by simp [val]⟩
theorem ShortAt.next {ws : List Int} {d : Int} (h : Wd ws) (hd : 0 < d) {n : Nat} {qs : List Int} {r : Int} (ha : ShortAt ws d (n, qs, r)) (hn : 0 < n) :
    ShortAt ws d (n - 1,(r*4294967296+ws.getD (n - 1) 0) / d :: qs,(r*4294967296+ws.getD (n - 1) 0) % d)∧0≤(r*4294967296+ws.getD (n - 1) 0) / d∧(r*4294967296+ws.getD (n - 1) 0) / d<4294967296:=by
  have hle:=ha.le
  have hq:=ha.q
  have hr:=ha.r
  simp only at hle hq hr
  have hs:=short_step (V:=val (ws.drop n)) hd (h.getD (n - 1)) (val_nonneg (h.drop n))
  have hdr:=drop_getD (ws:=ws) (n:=n - 1) (by omega)
  rw [show n - 1+1=n by omega] at hdr
  rw [← hr] at hs
  refine ⟨⟨by simp only; omega,?_,?_⟩,hs.2.2.1,hs.2.2.2⟩
  · simp only
    rw [hdr,val,hs.1,show ws.length - (n - 1)=(ws.length - n)+1 by omega,digN_cons ⟨hs.2.2.1,hs.2.2.2⟩,hq]
  · simp only
    rw [hdr,val,hs.2.1]
end Go.Proofs.YtjagfionflbjbaaGreat.NumA
namespace Go.Proofs.YtjagfionflbjbaaGreat.NumA
theorem getD_head {ws qs:List Int}{n i:Nat}(hi:i<n)(hl:n≤ws.length):(ws.take n++qs).getD i 0=ws.getD i 0:=by
  rw [List.getD_eq_getElem?_getD,List.getElem?_append_left (by simp; omega),List.getElem?_take,if_pos hi,← List.getD_eq_getElem?_getD]
end Go.Proofs.YtjagfionflbjbaaGreat.NumA
namespace Go.Proofs.YtjagfionflbjbaaGreat.NumA
structure ShiftAt (ws:List Int) (k:Nat) (x:Nat×List Int×Int):Prop where
  le:x.1≤ws.length
  len:x.2.1.length=x.1
  wd:Wd x.2.1
  h0:0≤x.2.2
  h1:x.2.2<2 ^ k
  eq:val x.2.1+4294967296 ^ x.1*x.2.2=val (ws.take x.1)*2 ^ k
theorem ShiftAt.zero (ws:List Int)(k:Nat):ShiftAt ws k (0,[],0):=⟨Nat.zero_le _,rfl,Wd.nil,Int.le_refl _,by show (0:Int)<2 ^ k; exact Int.pow_pos (by decide),by simp [val]⟩
theorem ShiftAt.next {ws : List Int} {k : Nat} (h : Wd ws) {i : Nat} {ys : List Int} {c : Int} (ha : ShiftAt ws k (i, ys, c)) (hi : i < ws.length) :
    ShiftAt ws k (i+1,ys++[(ws.getD i 0*2 ^ k+c) % 4294967296],(ws.getD i 0*2 ^ k+c) / 4294967296):=by
  have hw:=h.getD i
  have h0:=ha.h0
  have h1:=ha.h1
  have hl:=ha.len
  have heq:=ha.eq
  simp only at h0 h1 hl heq
  have hp:(0:Int)<2 ^ k:=Int.pow_pos (by decide)
  have hs0:0≤ws.getD i 0*2 ^ k:=Int.mul_nonneg hw.1 (Int.le_of_lt hp)
  have hs:ws.getD i 0*2 ^ k+c<2 ^ k*4294967296:=by
    have:(ws.getD i 0+1)*2 ^ k≤4294967296*2 ^ k:=Int.mul_le_mul_of_nonneg_right (by omega) (Int.le_of_lt hp)
    rw [Int.add_mul,Int.one_mul] at this
    rw [Int.mul_comm (2 ^ k)]
    omega
  refine ⟨hi,by simp [hl],ha.wd.snoc (by omega) (by omega),Int.ediv_nonneg (by omega) (by decide),Int.ediv_lt_of_lt_mul (by decide) hs,?_⟩
  simp only
  rw [val_snoc,hl,val_take_succ hi,Int.pow_succ]
  have e:(ws.getD i 0*2 ^ k+c) % 4294967296+4294967296*((ws.getD i 0*2 ^ k+c) / 4294967296)=ws.getD i 0*2 ^ k+c:=by omega
  generalize (4294967296:Int) ^ i=A at *
  generalize (ws.getD i 0*2 ^ k+c) % 4294967296=d at *
  generalize (ws.getD i 0*2 ^ k+c) / 4294967296=q at *
  grind
theorem ShiftAt.end_ {ws:List Int}{k:Nat}{ys:List Int}{c:Int}(ha:ShiftAt ws k (ws.length,ys,c))(hk:k≤32):ys++[c]=digN (ws.length+1) (val ws*2 ^ k)∧Wd (ys++[c]):=by
  have h0:=ha.h0
  have h1:=ha.h1
  have hl:=ha.len
  have heq:=ha.eq
  simp only at h0 h1 hl heq
  have hp:(2:Int) ^ k≤4294967296:=by
    have:=Nat.pow_le_pow_right (n:=2) (by decide) hk
    have h2:((2 ^ k:Nat):Int)≤((2 ^ 32:Nat):Int):=Int.ofNat_le.2 this
    rw [Int.natCast_pow] at h2
    exact h2
  have hwd:Wd (ys++[c]):=ha.wd.snoc h0 (by omega)
  refine ⟨?_,hwd⟩
  rw [List.take_length] at heq
  rw [← heq,← hl,← val_snoc]
  have:=digN_val hwd
  rw [List.length_append] at this
  exact this.symm
end Go.Proofs.YtjagfionflbjbaaGreat.NumA
namespace Go.Proofs.YtjagfionflbjbaaGreat.NumA
open Go Go.Proofs.YtjagfionflbjbaaGreat.SH
theorem pow_split {k:Nat}(hk:k≤32):(4294967296:Int)=2 ^ (32 - k)*2 ^ k:=by
  rw [← Int.pow_add,Nat.sub_add_cancel hk]; rfl
theorem shl_mod {k:Nat}(hk:k≤32)(w:Int):w*2 ^ k % 4294967296=(w % 2 ^ (32 - k))*2 ^ k:=by
  rw [pow_split hk,Int.mul_comm w,Int.mul_comm (2 ^ (32 - k)),Int.mul_emod_mul_of_pos _ _ (Int.pow_pos (by decide)),Int.mul_comm]
theorem shl_div {k:Nat}(hk:k≤32)(w:Int){c:Int}(h0:0≤c)(h1:c<2 ^ k):(w*2 ^ k+c) / 4294967296=w / 2 ^ (32 - k):=by
  rw [pow_split hk,Int.mul_comm (2 ^ (32 - k)),← Int.ediv_ediv_of_nonneg (Int.le_of_lt (Int.pow_pos (by decide)))]
  rw [Int.add_comm,Int.add_mul_ediv_right _ _ (by have:(0:Int)<2 ^ k:=Int.pow_pos (by decide); omega),Int.ediv_eq_zero_of_lt h0 h1,Int.zero_add]
theorem shl_add {k:Nat}(hk:k≤32)(w:Int){c:Int}(h0:0≤c)(h1:c<2 ^ k):(w*2 ^ k+c) % 4294967296=c+(w % 2 ^ (32 - k))*2 ^ k∧c+(w % 2 ^ (32 - k))*2 ^ k<4294967296∧0≤(w % 2 ^ (32 - k))∧(w % 2 ^ (32 - k))*2 ^ k<4294967296:=by
  have hp:(0:Int)<2 ^ k:=Int.pow_pos (by decide)
  have hp2:(0:Int)<2 ^ (32 - k):=Int.pow_pos (by decide)
  have hm:=shl_mod hk w
  have h2:=Int.emod_lt_of_pos w hp2
  have h3:=Int.emod_nonneg w (show (2:Int) ^ (32 - k)≠0 by omega)
  have h4:(w % 2 ^ (32 - k)+1)*2 ^ k≤2 ^ (32 - k)*2 ^ k:=Int.mul_le_mul_of_nonneg_right (by omega) (Int.le_of_lt hp)
  rw [Int.add_mul,Int.one_mul,← pow_split hk] at h4
  have h5:0≤w % 2 ^ (32 - k)*2 ^ k:=Int.mul_nonneg h3 (Int.le_of_lt hp)
  refine ⟨?_,by omega,h3,by omega⟩
  rw [Int.add_emod,hm,Int.emod_eq_of_lt h0 (by omega),Int.emod_eq_of_lt (by omega) (by omega)]
  omega
theorem shl32k {k:Nat}(hk:k≤32){m:Int}:IntKind.u32.wrap (m*2 ^ (min ((k:Int)).toNat IntKind.u32.bits))=(m % 2 ^ (32 - k))*2 ^ k:=by
  rw [wu32,Int.toNat_natCast,show min k IntKind.u32.bits=k from Nat.min_eq_left hk,shl_mod hk]
theorem shr64k {k:Nat}(hk:k≤64){m:Int}:m.fdiv (2 ^ (min ((k:Int)).toNat IntKind.u64.bits))=m / 2 ^ k:=by
  rw [Int.toNat_natCast,show min k IntKind.u64.bits=k from Nat.min_eq_left hk,Int.fdiv_eq_ediv_of_nonneg _ (Int.le_of_lt (Int.pow_pos (by decide)))]
end Go.Proofs.YtjagfionflbjbaaGreat.NumA
namespace Go.Proofs.YtjagfionflbjbaaGreat.NumA
open Go Go.Proofs.YtjagfionflbjbaaGreat.SH
theorem shr64s {k:Nat}(hk:k<32){m:Int}:m.fdiv (2 ^ (min ((32:Int) - (k:Int)).toNat IntKind.u64.bits))=m / 2 ^ (32 - k):=by
  have:((32:Int) - (k:Int)).toNat=32 - k:=by omega
  rw [this,show min (32 - k) IntKind.u64.bits=32 - k from Nat.min_eq_left (by show 32 - k≤64; omega),Int.fdiv_eq_ediv_of_nonneg _ (Int.le_of_lt (Int.pow_pos (by decide)))]
theorem shift_fill {ys:List Int}{c d q:Int}{i n:Nat}(hl:ys.length=i)(hi:i<n):((ys++c :: List.replicate (n - i) 0).set i d).set (i+1) q=(ys++[d])++q :: List.replicate (n - (i+1)) 0:=by
  subst hl
  rw [List.set_append_right _ _ (Nat.le_refl _),Nat.sub_self,List.set_cons_zero,List.set_append_right _ _ (Nat.le_succ _),show ys.length.succ - ys.length=1 by omega,List.set_cons_succ,show n - ys.length=(n - (ys.length+1))+1 by omega,List.replicate_succ,List.set_cons_zero,List.append_assoc]
  rfl
end Go.Proofs.YtjagfionflbjbaaGreat.NumA
namespace Go.Proofs.YtjagfionflbjbaaGreat.NumA
theorem pow32 {k:Nat}(hk:k≤32):(2:Int) ^ k≤4294967296:=by
  have h2:((2 ^ k:Nat):Int)≤((2 ^ 32:Nat):Int):=Int.ofNat_le.2 (Nat.pow_le_pow_right (by decide) hk)
  rw [Int.natCast_pow] at h2
  exact h2
end Go.Proofs.YtjagfionflbjbaaGreat.NumA
namespace Go.Proofs.YtjagfionflbjbaaGreat.NumA
end Go.Proofs.YtjagfionflbjbaaGreat.NumA
namespace Go.Proofs.YtjagfionflbjbaaGreat.NumA
end Go.Proofs.YtjagfionflbjbaaGreat.NumA
namespace Go.Proofs.YtjagfionflbjbaaGreat.NumA
theorem unshift_digit {w0 w1 V2 : Int} {s : Nat} (hs : s ≤ 32) (h0 : 0 ≤ w0 ∧ w0 < 4294967296) (h1 : 0 ≤ w1) (h2 : 0 ≤ V2) :
    (w0+w1*4294967296) / 2 ^ s % 4294967296=(w0+4294967296*(w1+4294967296*V2)) / 2 ^ s % 4294967296∧(w0+4294967296*(w1+4294967296*V2)) / 2 ^ s / 4294967296=(w1+4294967296*V2) / 2 ^ s:=by
  have hp:(0:Int)<2 ^ s:=Int.pow_pos (by decide)
  have e:=pow_split hs
  constructor
  · have : w0 + 4294967296 * (w1 + 4294967296 * V2) = (w0 + w1 * 4294967296) + 2 ^ s * (2 ^ (32 - s) * (4294967296 * V2)) := by
      have e2:(2:Int) ^ s*(2 ^ (32 - s)*(4294967296*V2))=4294967296*(4294967296*V2):=by
        rw [← Int.mul_assoc,Int.mul_comm (2 ^ s),← e]
      rw [e2]; omega
    rw [this,Int.add_mul_ediv_left _ _ (by omega),show (2:Int) ^ (32 - s)*(4294967296*V2)=4294967296*(2 ^ (32 - s)*V2) by grind,Int.add_mul_emod_self_left]
  · rw [Int.ediv_ediv_of_nonneg (by omega),Int.mul_comm (2 ^ s),← Int.ediv_ediv_of_nonneg (by decide),show (w0+4294967296*(w1+4294967296*V2)) / 4294967296=w1+4294967296*V2 by omega]
theorem drop_val (ws:List Int)(i:Nat):val (ws.drop i)=ws.getD i 0+4294967296*val (ws.drop (i+1)):=by
  by_cases h:i<ws.length
  · rw [drop_getD h,val]
  · rw [List.drop_of_length_le (by omega),List.drop_of_length_le (by omega),getD_out (by omega)]; rfl
theorem unshift_next {ws ys : List Int} {s i : Nat} (h : Wd ws) (hs : s ≤ 32) (hl : ys.length = i) (hv : val ys + 4294967296 ^ i * (val (ws.drop i) / 2 ^ s) = val ws / 2 ^ s) :
    val (ys++[(ws.getD i 0+ws.getD (i+1) 0*4294967296) / 2 ^ s % 4294967296])+4294967296 ^ (i+1)*(val (ws.drop (i+1)) / 2 ^ s)=val ws / 2 ^ s:=by
  have h1:=drop_val ws i
  have h2:=drop_val ws (i+1)
  have hd:=unshift_digit (V2:=val (ws.drop (i+1+1))) hs (h.getD i) (h.getD (i+1)).1 (val_nonneg (h.drop _))
  rw [← h2,← h1] at hd
  rw [val_snoc,hl,hd.1,Int.pow_succ,← hd.2,← hv]
  have e:val (ws.drop i) / 2 ^ s % 4294967296+4294967296*(val (ws.drop i) / 2 ^ s / 4294967296)=val (ws.drop i) / 2 ^ s:=by omega
  generalize val (ws.drop i) / 2 ^ s=M at *
  generalize M % 4294967296=a at *
  generalize M / 4294967296=b at *
  rw [← e]
  grind
end Go.Proofs.YtjagfionflbjbaaGreat.NumA
namespace Go.Proofs.YtjagfionflbjbaaGreat.NumA
structure UnAt (ws:List Int) (s:Nat) (x:Nat×List Int):Prop where
  le:x.1≤ws.length
  len:x.2.length=x.1
  wd:Wd x.2
  eq:val x.2+4294967296 ^ x.1*(val (ws.drop x.1) / 2 ^ s)=val ws / 2 ^ s
theorem UnAt.zero (ws:List Int)(s:Nat):UnAt ws s (0,[]):=⟨Nat.zero_le _,rfl,Wd.nil,by simp [val]⟩
theorem UnAt.next {ws ys:List Int}{s i:Nat}(h:Wd ws)(hs:s≤32)(ha:UnAt ws s (i,ys))(hi:i<ws.length):UnAt ws s (i+1,ys++[(ws.getD i 0+ws.getD (i+1) 0*4294967296) / 2 ^ s % 4294967296]) :=
  ⟨hi,by simp [ha.len],ha.wd.snoc (by omega) (by omega),unshift_next h hs ha.len ha.eq⟩
theorem UnAt.end_ {ws ys:List Int}{s:Nat}(ha:UnAt ws s (ws.length,ys)):val ys=val ws / 2 ^ s:=by
  have:=ha.eq
  simp only [List.drop_length] at this
  rw [← this]; simp [val]
theorem shr_bd {a:Int}{s:Nat}(h0:0≤a)(h1:a<18446744073709551616):0≤a / 2 ^ s∧a / 2 ^ s<18446744073709551616:=by
  have hp:(0:Int)<2 ^ s:=Int.pow_pos (by decide)
  exact ⟨Int.ediv_nonneg h0 (by omega),by have:=Int.ediv_le_self (2 ^ s) h0; omega⟩
end Go.Proofs.YtjagfionflbjbaaGreat.NumA
namespace Go.Proofs.YtjagfionflbjbaaGreat.NumA
open Go Go.Proofs.YtjagfionflbjbaaGreat.SH
theorem tdiv64 {m n r:Int}(h:m / n=r)(h0:0≤m:=by omega)(hr : -9223372036854775808≤r∧r<9223372036854775808:=by omega):IntKind.i64.wrap (m.tdiv n)=r:=by
  rw [Int.tdiv_eq_ediv_of_nonneg h0,h]; exact w64 hr.1 hr.2
theorem shift_start (q n:Nat):List.replicate (q+n+1) (0:Int)=List.replicate q 0++([]++0 :: List.replicate (n - 0) 0):=by
  rw [List.nil_append,Nat.sub_zero,← List.replicate_succ,List.replicate_append_replicate,Nat.add_assoc]
end Go.Proofs.YtjagfionflbjbaaGreat.NumA
namespace Go.Proofs.YtjagfionflbjbaaGreat.NumA
open Go Go.Proofs.YtjagfionflbjbaaGreat.SH
theorem shl_bd {s:Nat}(hs:s<32){w:Int}(hw:0≤w∧w<4294967296):0≤w*2 ^ s∧w*2 ^ s<18446744073709551616:=by
  have hp:(0:Int)<2 ^ s:=Int.pow_pos (by decide)
  have h2:=pow32 (Nat.le_of_lt hs)
  refine ⟨Int.mul_nonneg hw.1 (Int.le_of_lt hp),?_⟩
  have h3:w*2 ^ s≤4294967295*2 ^ s:=Int.mul_le_mul_of_nonneg_right (by omega) (Int.le_of_lt hp)
  omega
theorem shl64k {s:Nat}(hs:s≤64){m:Int}(hb:0≤m*2 ^ s∧m*2 ^ s<18446744073709551616):IntKind.u64.wrap (m*2 ^ (min ((s:Int)).toNat IntKind.u64.bits))=m*2 ^ s:=by
  rw [Int.toNat_natCast,show min s IntKind.u64.bits=s from Nat.min_eq_left hs,wu64,Int.emod_eq_of_lt hb.1 hb.2]
theorem shift_get {q i n:Nat}{ys:List Int}{c:Int}(hl:ys.length=i):(List.replicate q 0++(ys++c :: List.replicate n 0)).getD (i+q) 0=c:=by
  rw [List.getD_eq_getElem?_getD,List.getElem?_append_right (by simp),List.length_replicate,Nat.add_sub_cancel,List.getElem?_append_right (by omega),hl,Nat.sub_self]; rfl
theorem shift_fill2 {ys:List Int}{c d x:Int}{q i n:Nat}(hl:ys.length=i)(hi:i<n):((List.replicate q 0++(ys++c :: List.replicate (n - i) 0)).set (i+q) d).set (i+q+1) x=List.replicate q 0++((ys++[d])++x :: List.replicate (n - (i+1)) 0):=by
  rw [List.set_append_right _ _ (by simp),List.length_replicate,Nat.add_sub_cancel,List.set_append_right _ _ (by simp; omega),List.length_replicate,show i+q+1 - q=i+1 by omega,shift_fill hl hi]
end Go.Proofs.YtjagfionflbjbaaGreat.NumA
namespace Go.Proofs.YtjagfionflbjbaaGreat.NumA
theorem shift_end {ws:List Int}{s q k:Nat}{ys X:List Int}{c:Int}(ha:ShiftAt ws s (ws.length,ys,c))(hs:s≤32)(hX:X=List.replicate q 0++(ys++[c]))(hk:k=32*q+s):trim X=digs (val ws*2 ^ k).toNat∧(digs (val ws*2 ^ k).toNat).length=trimN X X.length:=by
  obtain ⟨e1,e2⟩:=ha.end_ hs
  have hl:=ha.len
  have heq:=ha.eq
  simp only at hl heq
  have hwd:Wd X:=by rw [hX]; exact (Wd.rep q).append e2
  have hv:val X=val ws*2 ^ k:=by
    rw [hX,val_append,val_rep,List.length_replicate,Int.zero_add,val_snoc,hl]
    rw [List.take_length] at heq
    rw [heq,hk,Int.pow_add,Int.pow_mul]
    have:(2:Int) ^ 32=4294967296:=by rfl
    rw [this]
    grind
  have ht:=trim_eq_digs hwd
  rw [hv] at ht
  exact ⟨ht,by rw [← ht,trim_length]⟩
end Go.Proofs.YtjagfionflbjbaaGreat.NumA
set_option maxRecDepth 100000
set_option maxHeartbeats 4000000
namespace Go.Proofs.YtjagfionflbjbaaGreat.N
open Go Go.Proofs.YtjagfionflbjbaaGreat.SH Go.Proofs.YtjagfionflbjbaaGreat.NumA
noncomputable abbrev E:Env:={ P:=Tryz.prog,G:=fun _=>True,ng:=0,stab:=fun _ _ _ _=>trivial }
theorem ng_le {w:World}(_:E.G w):E.ng≤w.heap.size:=Nat.zero_le _
theorem pro {F:Fr}{n:Nat}(h:F.nt=n)(h0:∀ b,¬ F.X b)(hG:E.G F.w0):(∀ {d},(k:Nat.blt d n=true:=by rfl)→d<F.nt)∧(∀ b,F.X b→E.ng≤b)∧E.ng≤F.w0.heap.size:=⟨fun {_} k=>ltn h _ k,fun b h=>absurd h (h0 b),ng_le hG⟩
theorem s64:∀ (u v c:Nat)(w:World),c≤1→(callFunc 170 #[.int .u64 u,.int .u64 v,.int .u64 c]).run Tryz.prog w = .ok (.value (.tuple #[.int .u64 (((u+18446744073709551616 - v - c) % 18446744073709551616:Nat):Int),.int .u64 ((if u<v+c then 1 else 0:Nat):Int)])) w :=
 sub64_run Tryz.func170 rF rF rF rF (fun _ _ _=>rfl) (fun _ _ _=>rfl)
def encW (ws:List Int):List Pure:=ws.map fun n=>.a (.int .u32 n)
@[reducible] def pW (ws:List Int):Pure:=.sl ws.length (encW ws)
@[reducible] def pI (neg:Bool)(ws:List Int):Pure:=.agg [.a (.bool neg),.sl ws.length (encW ws)]
@[reducible] def pZ (n:Int):Pure:=pI (decide (n<0)) (digs n.natAbs)
@[reducible] def vZ (n:Int):Pure:=.a (.int .i64 n)
@[reducible] def uZ (n:Int):Pure:=.a (.int .u64 n)
@[reducible] def oZ (n:Int):Pure:=.a (.int .u32 n)
@[reducible] def bZ (b:Bool):Pure:=.a (.bool b)
@[simp] theorem encW_length (ws:List Int):(encW ws).length=ws.length:=by simp [encW]
theorem getW {ws:List Int}{i:Nat}(h:i<ws.length):(encW ws)[i]? = some (.a (.int .u32 (ws.getD i 0))):=by
 simp [encW,h,List.getD_eq_getElem?_getD]
theorem encW_set (ws:List Int)(i:Nat)(v:Int):(encW ws).set i (.a (.int .u32 v))=encW (ws.set i v):=by simp [encW,List.map_set]
theorem encW_app (ws:List Int)(v:Int):encW ws++[.a (.int .u32 v)]=encW (ws++[v]):=by simp [encW]
theorem encW_take (ws:List Int)(n:Nat):(encW ws).take n=encW (ws.take n):=by simp [encW]
theorem encW_rep (n:Nat):List.replicate n (.a (.int .u32 0))=encW (List.replicate n 0):=by simp [encW]
theorem dec_eq {p q:Prop}[Decidable p][Decidable q](h:p↔q):decide p=decide q:=by simp [h]
theorem vcong {a b:Int}(h:a=b):[vZ a]=[vZ b]:=by rw [h]
theorem dt {p:Prop}[Decidable p](h:decide p=true):p:=of_decide_eq_true h
theorem df {p:Prop}[Decidable p](h:decide p=false):¬ p:=of_decide_eq_false h
theorem ndt {p:Prop}[Decidable p](h:(!decide p)=true):¬ p:=by simpa using h
theorem ndf {p:Prop}[Decidable p](h:(!decide p)=false):p:=by simpa using h
def madeR (neg:Bool)(ws:List Int):Pure:=if trim ws=[] then pI false [] else pI neg (trim ws)
theorem pZ_zero:pZ 0=pI false []:=by simp [pZ,digs_zero]
theorem madeR_eq {neg:Bool}{ws:List Int}(h:Wd ws):madeR neg ws=pZ (sg neg (val ws)):=by
 have hv:=val_nonneg h
 unfold madeR
 rw [trim_eq_digs h]
 split
 ·rename_i e
  rw [digs_nil] at e
  have:val ws=0:=by omega
  rw [this]; cases neg <;> simp [sg,pZ,digs_zero]
 ·rename_i e
  rw [digs_nil] at e
  cases neg with
  | false =>
   have e1:decide (sg false (val ws)<0)=false:=by simp [sg]; omega
   have e2:(sg false (val ws)).natAbs=(val ws).toNat:=by simp [sg]; omega
   rw [pZ,e1,e2]
  | true =>
   have e1:decide (sg true (val ws)<0)=true:=by simp [sg]; omega
   have e2:(sg true (val ws)).natAbs=(val ws).toNat:=by simp [sg]; omega
   rw [pZ,e1,e2]
def encI (l:List (Bool×List Int)):List Pure:=l.flatMap fun p=>[.a (.bool p.1),.sl p.2.length (encW p.2)]
theorem encI_length (l:List (Bool×List Int)):(encI l).length=l.length*2:=by
 induction l with
 | nil=>rfl
 | cons p l ih=>simp only [encI,List.flatMap_cons,List.length_append,List.length_cons,List.length_nil] at ih ⊢; omega
theorem getI:∀ {l:List (Bool×List Int)}{i:Nat},i<l.length→((encI l).drop (i*2)).take 2=[.a (.bool (l.getD i (false,[])).1),.sl (l.getD i (false,[])).2.length (encW (l.getD i (false,[])).2)]
 | [],i,h=>by simp at h
 | p :: l,0,_=>by simp [encI]
 | p :: l,i+1,h=>by
  have:=getI (l:=l) (i:=i) (by simpa using h)
  rw [show (i+1)*2=i*2+2 by omega]
  simpa [encI] using this
end Go.Proofs.YtjagfionflbjbaaGreat.N
namespace Go.Proofs.YtjagfionflbjbaaGreat.N
open Go Go.Proofs.YtjagfionflbjbaaGreat.SH Go.Proofs.YtjagfionflbjbaaGreat.NumA
end Go.Proofs.YtjagfionflbjbaaGreat.N
set_option maxRecDepth 100000
set_option maxHeartbeats 4000000
namespace Go.Proofs.YtjagfionflbjbaaGreat.N
open Go Go.Proofs.YtjagfionflbjbaaGreat.SH Go.Proofs.YtjagfionflbjbaaGreat.NumA
open Go.Proofs.Tryz renaming call101→cl101,call118→cl118,call119→cl119,call122→cl122,call123→cl123,call129→cl129,call130→cl130,call131→cl131,call138→cl138,call139→cl139,call141→cl141,call142→cl142,call143→cl143,call144→cl144,call145→cl145,call147→cl147,call153→cl153,call162→cl162,call163→cl163,call164→cl164,call169→cl169,call171→cl171,call172→cl172,call173→cl173,call174→cl174,call175→cl175,call77→cl77,isAgg119→ag119,isAgg43→ag43,isAgg45→ag45,isAgg4→ag4,sizeOf119→sz119,sizeOf43→sz43,sizeOf45→sz45,sizeOf4→sz4,typeInfo119→ti119,typeInfo45→ti45,underlying119→un119,underlying127→un127,underlying139→un139,underlying2→un2,underlying3→un3,underlying43→un43,underlying45→un45,underlying4→un4,underlying5→un5,underlying9→un9,zeroValue119→zv119,zeroValue45→zv45
theorem is_says (neg:Bool)(ws:List Int)(hl:ws.length<10000000000000):Says E 130 [pI neg ws] (bZ (canon neg ws)):=by
 refine says_of (xs:=[bZ (canon neg ws)]) Tryz.func130 rfl Tryz.ntmps130 Tryz.results130 sM fun F hG hX0 hnt hdf P0=>?_
 obtain ⟨L,hX,hN⟩:=pro hnt hX0 hG
 refine exr (swb (c_bx (k:=1) (n:=2) pa2 rfl rfl (P0 _ rfl) L) t1 t0 ⟨rfl,rfl⟩ (aV L rfl (zn [(1,_)] [(1,_)] t1 t1 (exr (sw (c_fa un45 rfl sz43 dC rX L) t1 t1 ?_)))))
 refine sw (c_l1 ag43 rF rF L) t1 t1 ?_
 refine sw (c_ln un43 L) t1 t0 (aV L rfl (zn [(1,_),(3,_)] [(1,_)] t2 t1 (ex_seq (exr (mV L rfl (sw (c_e L) t2 t0 (zn [(1,_),(3,_),(8,_)] [(1,_)] t3 t1 ?_)))))))
 refine ex_if rfl (fun h0=>?_) (fun h0=>?_)
 ·refine exr (sw (c_fa un45 rfl sz4 dC rX L) t1 t1 ?_)
  refine sw (c_l1 ag4 rF rF L) t1 t1 ?_
  refine sw (c_no L) t1 t0 (aV L rfl (zn [(2,_)] [] t1 trivial (ex_ret ?_)))
  refine ⟨.inr rfl,ResVs.cast (.cons (.tmp rfl) .nil) ?_⟩
  have h0:=dt h0; have h1:ws.length=0:=by omega
  simp only [canon,h1,if_true]
 ·have h0:=df h0
  refine ex_skip (xq ?_)
  refine exr (sw (c_fa un45 rfl sz43 dC rX L) t1 t1 ?_)
  refine sw (c_l1 ag43 rF rF L) t1 t1 ?_
  refine mV L rfl (sw (c_su L (w64 oM oM)) t2 t0 (sw (ixJ un43 sz119 (j:=ws.length - 1) rO oM sM L) t2 t0 ?_))
  refine sw (c_li ag119 (by first | exact getW oM | rfl) L) t1 t0 ?_
  refine sw (c_n L) t2 t0 (aV L rfl (zn [(2,_)] [] t1 trivial (ex_ret ?_)))
  refine ⟨.inr rfl,ResVs.cast (.cons (.tmp rfl) .nil) ?_⟩
  have h1:ws.length≠0:=by omega
  simp only [canon,h1,if_false]
theorem made_says0 (neg:Bool)(ws:List Int)(hl:ws.length<10000000000000):Says E 131 [.a (.bool neg),pW ws] (madeR neg ws):=by
 refine says_of (xs:=[madeR neg ws]) Tryz.func131 rfl Tryz.ntmps131 Tryz.results131 sM fun F hG hX0 hnt hdf P0=>?_
 obtain ⟨L,hX,hN⟩:=pro hnt hX0 hG
 refine exr (swb (c_al (k:=4) (n:=2) zv45 (.cons rfl (.cons rfl .nil)) rfl (P0 _ rfl) L) t0 t0 ⟨rfl,rfl⟩ (zn [(0,_),(1,_),(4,_)] [(4,_)] t3 t1 (exr (mV L rfl (sw (c_ln un43 L) t1 t0 (aV L rfl (zn [(0,_),(1,_),(4,_),(5,_)] [(4,_)] t4 t1 (ex_seq (ex_block ?_)))))))))
 refine exl (α:=Nat) (fun n=>[(5,vi (n:Int))]) (fun n=>[]) (fun n=>n≤ws.length∧trimN ws n=trimN ws ws.length) (fun n=>n) (ws.length) (sl:=[(0,_),(1,_),(4,_)]) (hb:=[(4,_)]) ?_ ⟨oR,rfl,rfl,rfl,trivial⟩ t1 ?_
 ·exact ⟨Nat.le_refl _,rfl⟩
 intro n hn
 refine ex_seq ?_
 refine exm (sl:=[(18,vb (decide (0<n∧ws.getD (n - 1) 0=0)))]) (sl0:=[(0,_),(1,_),(4,_),(5,_)]) (hb:=[]) (hb0:=[(4,_)]) t4 t1 ?_ ?_
 ·by_cases h:n=0
  ·refine mV L rfl (sw (c_gt L) t2 t0 (mV L rfl (swn (g:=11) rfl (by simp [h]) L rfl ?_)))
   refine swn (g:=11) rfl (by simp [h]) L rfl ?_
   refine swn (g:=11) rfl (by simp [h]) L rfl ?_
   refine swn (g:=11) rfl (by simp [h]) L rfl ?_
   refine swn (g:=11) rfl (by simp [h]) L rfl ?_
   refine swn (g:=11) rfl (by simp [h]) L rfl ?_
   refine sw (c_pf (by simp [h]) L) t2 t0 ?_
   exact seq_nil ⟨⟨ob rfl (by simp [h]),rfl,rfl,rfl,rfl,trivial⟩,t1⟩
  ·refine mV L rfl (sw (c_gt L) t2 t0 (mV L rfl (gV (g:=11) rfl sO L rfl rfl (gV (g:=11) rfl sO L rfl rfl (swg (g:=11) rfl sO (c_su L (w64 oM oM)) rfl t2 t0 (swg (g:=11) rfl sO (ixJ un43 sz119 (j:=n - 1) rO oM sM L) rfl t2 t0 ?_))))))
   refine swg (g:=11) rfl sO (c_li ag119 (by first | exact getW oM | rfl) L) rfl t1 t0 ?_
   refine swg (g:=11) rfl sO (c_e L) rfl t2 t0 (sw (c_pt sO L) t2 t0 ?_)
   exact seq_nil ⟨⟨ob rfl sO,rfl,rfl,rfl,rfl,trivial⟩,t1⟩
 refine ex_if rfl (fun hc=>?_) (fun hc=>?_)
 ·have hc:=dt hc
  refine ex_skip (xq ?_)
  refine ex_block (exr0 (mV L rfl (sw (c_su L (w64 oM oM)) t2 t0 (aV L rfl (seq_nil ?_)))))
  exact ⟨n - 1,⟨by omega,by rw [← hn.2]; conv=>rhs; rw [show n=(n - 1)+1 by omega]; simp only [trimN,hc.2,if_true]⟩,by omega,le_of ⟨oR,rfl,rfl,rfl,trivial⟩ t1⟩
 ·have hc:=df hc
  have e:trimN ws ws.length=n:=by
   rw [← hn.2]
   cases n with
   | zero=>rfl
   | succ n=>simp only [trimN]; rw [if_neg]; intro h; exact hc ⟨by omega,by simpa using h⟩
  have e1:trim ws=ws.take n:=by rw [trim,e]
  refine ex_exit (xq ?_)
  refine ex_seq (exr (mV L rfl (sw (c_e L) t2 t0 (zn [(0,_),(1,_),(4,_),(5,_),(22,_)] [(4,_)] t5 t1 ?_))))
  refine ex_if rfl (fun h0=>?_) (fun h0=>?_)
  ·have h0:=dt h0
   refine exr (sw (c_pc (c_bp (vs:=[]) un45 zv45 (.cons rfl (.cons rfl .nil)) ((Places.cons sz4 (Places.cons sz43 Places.nil))).to rfl .nil (.cons (.cons .nil)) L) (.agg (.cons .same (.cons .nil .nil)))) t0 t0 (sb (c_sm sz45 rF pa2 rfl pu2) t2 t1 ?_))
   refine zn [(4,_)] [(4,_)] t1 t1 (ex_ret ?_)
   refine ⟨.inr rfl,ResVs.cast (.cons (.agg rfl rfl rfl ag45 sz45 (.cons (.cons .nil))) .nil) ?_⟩
   have h1:n=0:=by omega
   simp [madeR,e1,h1,encW]
  ·have h0:=df h0
   refine ex_skip (xq ?_)
   refine exr (mV L rfl (swb (c_mk (k:=25) un43 ti119 rfl rfl rfl rfl rfl rfl (Nat.le_refl _) (by simp [Tryz.t119]; omega) oM (P0 _ rfl) L) t2 t0 ⟨rfl,rfl⟩ ?_))
   refine aV L rfl (zn [(0,_),(1,_),(4,_),(6,_)] [(4,_),(25,_)] t4 t2 (exr (mV L rfl (mV L rfl (swb (c_cp un43 ti119 (by exact List.length_replicate) rfl sM L) t2 t1 t0 ?_)))))
   refine zn [(0,_),(4,_),(6,_)] [(4,_),(25,_)] t3 t2 (exr (mV L rfl (mV L rfl (sw (core_buildA (vs:=[_,_]) un45 zv45 (.cons rfl (.cons rfl .nil)) ((Places.cons sz4 (Places.cons sz43 Places.nil))).to rfl (.cons rfl (.atom rfl) rfl pu1 (.cons rfl .ref rfl (.skip pu1) .nil)) L) t2 t0 (sb (c_sm sz45 rF .agg rfl pu2) t2 t1 ?_)))))
   refine zn [(4,_)] [(4,_),(25,_)] t1 t2 (ex_cv [25] (sl:=[(4,_)]) (hb:=[(4,_)]) (own_none hX0) ⟨⟨_,rfl,.same⟩,trivial⟩ ⟨⟨rfl,_,rfl,(.mix (.cons .same (.cons (.ref rfl rfl (by exact (by first | (simp; done) | (simp; omega))) (by first | rfl | omega)) .nil)))⟩,trivial⟩ ?_)
   refine ex_ret ?_
   refine ⟨.inr rfl,ResVs.cast (.cons (.agg rfl rfl rfl ag45 sz45 (.cons (.cons .nil))) .nil) ?_⟩
   have h2:¬ ws.take n=[]:=by intro h; have:=congrArg List.length h; rw [List.length_take] at this; simp only [List.length_nil] at this; omega
   simp [madeR,e1,h2,encW,Nat.min_eq_left hn.1]
   omega
theorem made_says (neg:Bool)(ws:List Int)(hl:ws.length<10000000000000)(h:Wd ws):Says E 131 [.a (.bool neg),pW ws] (pZ (sg neg (val ws))):=by
 rw [← madeR_eq h]; exact made_says0 neg ws hl
theorem all_says (l:List (Bool×List Int))(hl:l.length<1000000)(hw:∀ p∈l,p.2.length<10000000000000):Says E 138 [.sl l.length (encI l)] (bZ (l.all fun p=>canon p.1 p.2)):=by
 refine says_of (xs:=[bZ (l.all fun p=>canon p.1 p.2)]) Tryz.func138 rfl Tryz.ntmps138 Tryz.results138 sM fun F hG hX0 hnt hdf P0=>?_
 obtain ⟨L,hX,hN⟩:=pro hnt hX0 hG
 refine exr (aV L rfl (zn [(0,_)] [] t1 trivial (ex_seq (exr (mV L rfl (sw (c_ln un139 L) t1 t0 (mV L rfl (zn [(5,_),(6,_),(7,_)] [] t3 trivial (ex_block ?_)))))))))
 refine exl (α:=Nat) (fun i=>[(7,vi (i:Int))]) (fun i=>[]) (fun i=>i≤l.length∧(l.take i).all (fun p=>canon p.1 p.2)=true) (fun i=>l.length - i) (0) (sl:=[(5,_),(6,_)]) (hb:=[]) ?_ ⟨oR,rfl,rfl,trivial⟩ t0 ?_
 ·exact ⟨Nat.zero_le _,rfl⟩
 intro i hi
 refine exr (sw (c_ls L) t2 t0 (zn [(5,_),(6,_),(7,_),(8,_)] [] t4 trivial (ex_seq ?_)))
 refine ex_if rfl (fun hc=>?_) (fun hc=>?_)
 ·have hc:=dt hc
  have hi2:i<l.length:=by omega
  have e:l.getD i (false,[])=l[i]:=by simp [List.getD_eq_getElem?_getD,hi2]
  refine ex_skip (xq ?_)
  refine ex_seq (ex_block (exr (sw (core_indexAddrJ un139 sz45 oM oM (encI_length l) dC L) t2 t0 (sw (c_la ag45 sz45 (getI hi2) rfl L) t1 t0 (swb (c_al (k:=4) (n:=2) zv45 (.cons rfl (.cons rfl .nil)) rfl (P0 _ rfl) L) t0 t0 ⟨rfl,rfl⟩ (sb (c_sm sz45 rF pa2 rfl pu2) t2 t1 ?_))))))
  refine zn [(4,_),(5,_),(6,_),(7,_)] [(4,_)] t4 t1 (exr (lp2 ag45 sz45 L rfl rfl (cK hG hX cl130 hN (is_says (l.getD i (false,[])).1 (l.getD i (false,[])).2 (hw _ (by rw [e]; exact List.getElem_mem hi2))) L t1 ?_)))
  refine sw (c_no L) t1 t0 (zn [(5,_),(6,_),(7,_),(13,_)] [] t4 trivial ?_)
  refine ex_if rfl (fun hb=>?_) (fun hb=>?_)
  ·refine exr (aV L rfl (zn [(2,_)] [] t1 trivial (ex_ret ?_)))
   refine ⟨.inr rfl,ResVs.cast (.cons (.tmp rfl) .nil) ?_⟩
   have hb:canon l[i].1 l[i].2=false:=by rw [← e]; simpa using hb
   congr 3
   rw [eq_comm,List.all_eq_false]
   exact ⟨l[i],List.getElem_mem hi2,by simp [hb]⟩
  ·have hb:canon l[i].1 l[i].2=true:=by rw [← e]; simpa using hb
   refine ex_skip (xq ?_)
   refine exr0 (sw (c_ad L (w64 oM oM)) t2 t0 (mV L rfl (seq_nil ?_)))
   exact ⟨i+1,⟨by omega,all_take_succ hi2 hi.2 hb⟩,by omega,le_of ⟨oR,rfl,rfl,trivial⟩ trivial⟩
 ·have hc:=df hc
  refine ex_exit (xq ?_)
  refine exr (aV L rfl (zn [(2,_)] [] t1 trivial (ex_ret ?_)))
  refine ⟨.inr rfl,ResVs.cast (.cons (.tmp rfl) .nil) ?_⟩
  have e:l.take i=l:=List.take_of_length_le oM
  have:=hi.2; rw [e] at this; rw [this]
theorem natural_says (neg:Bool)(n:Int)(h0:0≤n)(h1:n<18446744073709551616):Says E 129 [.a (.bool neg),uZ n] (pZ (sg neg n)):=by
 refine says_of (xs:=[pZ (sg neg n)]) Tryz.func129 rfl Tryz.ntmps129 Tryz.results129 sM fun F hG hX0 hnt hdf P0=>?_
 obtain ⟨L,hX,hN⟩:=pro hnt hX0 hG
 refine exr (swb (c_al (k:=4) (n:=2) zv45 (.cons rfl (.cons rfl .nil)) rfl (P0 _ rfl) L) t0 t0 ⟨rfl,rfl⟩ (zn [(0,_),(1,_),(4,_)] [(4,_)] t3 t1 (exr (mV L rfl (mV L rfl (sw (c_cv un127 un119 L wu32) t1 t0 (mV L rfl (sw (c_sr L dC (shrE (c:=4294967296) rF dC)) t2 t0 ?_))))))))
 refine sw (c_cv un127 un119 L wu32) t1 t0 (sw (c_bI (vs:=[_,_]) un43 ti119 rfl rfl dC dC rfl (zs_made (.cons rfl .nil) rfl) rfl (.cons rfl (.atom rfl) rfl pu1 (.cons rfl (.atom rfl) rfl (.skip pu1) .nil)) (.cons (.cons .nil)) L) t2 t0 (cK hG hX cl131 hN (made_says neg [n % 4294967296,n / 4294967296 % 4294967296] sM (by simp [Wd]; omega)) L t2 ?_))
 refine sb (c_sm sz45 rF pa2 rfl pu2) t2 t1 ?_
 refine zn [(4,_)] [(4,_)] t1 t1 (ex_ret ?_)
 refine ⟨.inr rfl,ResVs.cast (.cons (.agg rfl rfl rfl ag45 sz45 (.cons (.cons .nil))) .nil) ?_⟩
 have:val [n % 4294967296,n / 4294967296 % 4294967296]=n:=by simp only [val]; omega
 rw [this]
theorem of_says (n:Int)(h0 : -9223372036854775808≤n)(h1:n<9223372036854775808):Says E 101 [vZ n] (pZ n):=by
 refine says_of (xs:=[pZ n]) Tryz.func101 rfl Tryz.ntmps101 Tryz.results101 sM fun F hG hX0 hnt hdf P0=>?_
 obtain ⟨L,hX,hN⟩:=pro hnt hX0 hG
 refine exr (swb (c_al (k:=2) (n:=2) zv45 (.cons rfl (.cons rfl .nil)) rfl (P0 _ rfl) L) t0 t0 ⟨rfl,rfl⟩ (zn [(0,_),(2,_)] [(2,_)] t2 t1 (ex_seq (exr (mV L rfl (sw (c_ls L) t2 t0 (zn [(0,_),(2,_),(4,_)] [(2,_)] t3 t1 ?_)))))))
 refine ex_if rfl (fun hc=>?_) (fun hc=>?_)
 ·have hc:=dt hc
  refine exr (mV L rfl (sw (c_cv un3 un127 L wu64) t1 t0 (sw (c_ng L (show _ = -n by rw [wu64]; omega)) t1 t0 ?_)))
  refine cK hG hX cl129 hN (natural_says true (-n) oM oM) L t2 (sb (c_sm sz45 rF pa2 rfl pu2) t2 t1 ?_)
  refine zn [(2,_)] [(2,_)] t1 t1 (ex_ret ?_)
  refine ⟨.inr rfl,ResVs.cast (.cons (.agg rfl rfl rfl ag45 sz45 (.cons (.cons .nil))) .nil) ?_⟩
  simp [sg]
 ·have hc:=df hc
  refine ex_skip (xq ?_)
  refine exr (mV L rfl (sw (c_cv un3 un127 L (fu64 oM oM)) t1 t0 (cK hG hX cl129 hN (natural_says false n oM oM) L t2 (sb (c_sm sz45 rF pa2 rfl pu2) t2 t1 ?_))))
  refine zn [(2,_)] [(2,_)] t1 t1 (ex_ret ?_)
  refine ⟨.inr rfl,ResVs.cast (.cons (.agg rfl rfl rfl ag45 sz45 (.cons (.cons .nil))) .nil) ?_⟩
  simp [sg]
theorem blb (j:Nat)(h:j<256):(((UInt8.ofNat (bl j)).toNat:Nat):Int)=bl j:=by
 have:bl j≤8:=bl_spec.2 oM
 simp
 omega
theorem c8 {j:Nat}(h:j<256):IntKind.i64.wrap (((UInt8.ofNat (bl j)).toNat:Nat):Int)=bl j:=by
 rw [blb j h]; have:bl j≤8:=bl_spec.2 (by omega); exact w64 oM oM
theorem bl8 {x:Int}(h:x<256)(h0:0≤x):bl x.toNat≤8:=bl_spec.2 oM
theorem bl_shift {x:Int}(k:Nat){c:Int}(hc:c=((2 ^ k:Nat):Int))(h:c≤x):bl x.toNat=k+bl (x / c).toNat:=by
 subst hc
 have:(x / ((2 ^ k:Nat):Int)).toNat=x.toNat / 2 ^ k:=by
  obtain ⟨y,rfl⟩:=Int.eq_ofNat_of_zero_le (show 0≤x by have:=Nat.pow_pos (n:=k) (show 0<2 by decide); omega)
  rw [← Int.natCast_ediv,Int.toNat_natCast,Int.toNat_natCast]
 rw [this,bl_div (k:=k) oM]
theorem len32_says (x:Int)(h0:0≤x)(h1:x<4294967296):Says E 169 [.a (.int .u32 x)] (vZ (bl x.toNat)):=by
 refine says_of (xs:=[vZ (bl x.toNat)]) Tryz.func169 rfl Tryz.ntmps169 Tryz.results169 sM fun F hG hX0 hnt hdf P0=>?_
 obtain ⟨L,hX,hN⟩:=pro hnt hX0 hG
 refine exr (aV L rfl (zn [(0,_),(2,_)] [] t2 trivial (ex_seq (exr (mV L rfl (sw (c_ge L) t2 t0 (zn [(0,_),(2,_),(4,_)] [] t3 trivial ?_)))))))
 refine ex_if rfl (fun hc=>?_) (fun hc=>?_)
 ·have hc:=dt hc
  refine exr (mV L rfl (sw (c_sr L dC (shrE (c:=65536) rF dC)) t2 t0 ?_))
  refine aV L rfl (zn [(0,_)] [] t1 trivial (exr0 (aV L rfl (seq_nil (ex_seq (exr (mV L rfl (sw (c_ge L) t2 t0 (zn [(0,_),(2,_),(8,_)] [] t3 trivial ?_)))))))))
  refine ex_if rfl (fun hd=>?_) (fun hd=>?_)
  ·have hd:=dt hd
   have h8:=bl8 (x:=x / 65536 / 256) oM oM
   refine exr (mV L rfl (sw (c_sr L dC (shrE (c:=256) rF dC)) t2 t0 ?_))
   refine aV L rfl (zn [(0,_),(2,_)] [] t2 trivial (exr0 (mV L rfl (sw (c_ad L (w64 oM oM)) t2 t0 (aV L rfl (seq_nil (exr (mV L rfl (mV L rfl (sw (c_cv un119 un5 L (fu8 oM oM)) t1 t0 (sw (c_is un9 oM (tabOf (n:=256) (f:=fun j=>UInt8.ofNat (bl j)) dC oM oM) L) t2 t0 ?_)))))))))))
   refine sw (c_cv un5 un3 L (c8 (j:=(x / 65536 / 256).toNat) oM)) t1 t0 (sw (c_ad L (w64 oM oM)) t2 t0 (aV L rfl (zn [(2,_)] [] t1 trivial (ex_ret ?_))))
   refine ⟨.inr rfl,ResVs.cast (.cons (.tmp rfl) .nil) ?_⟩
   exact vcong (by rw [bl_shift (x:=x) 16 (c:=65536) rfl oM,bl_shift (x:=x / 65536) 8 (c:=256) rfl oM]; push_cast; omega)
  ·have hd:=df hd
   have h8:=bl8 (x:=x / 65536) oM oM
   refine ex_skip (xq ?_)
   refine exr (mV L rfl (mV L rfl (sw (c_cv un119 un5 L (fu8 oM oM)) t1 t0 (sw (c_is un9 oM (tabOf (n:=256) (f:=fun j=>UInt8.ofNat (bl j)) dC oM oM) L) t2 t0 ?_))))
   refine sw (c_cv un5 un3 L (c8 (j:=(x / 65536).toNat) oM)) t1 t0 (sw (c_ad L (w64 oM oM)) t2 t0 (aV L rfl (zn [(2,_)] [] t1 trivial (ex_ret ?_))))
   refine ⟨.inr rfl,ResVs.cast (.cons (.tmp rfl) .nil) ?_⟩
   exact vcong (by rw [bl_shift (x:=x) 16 (c:=65536) rfl oM]; push_cast; rfl)
 ·have hc:=df hc
  refine ex_skip (xq ?_)
  refine ex_seq (exr (mV L rfl (sw (c_ge L) t2 t0 (zn [(0,_),(2,_),(8,_)] [] t3 trivial ?_))))
  refine ex_if rfl (fun hd=>?_) (fun hd=>?_)
  ·have hd:=dt hd
   have h8:=bl8 (x:=x / 256) oM oM
   refine exr (mV L rfl (sw (c_sr L dC (shrE (c:=256) rF dC)) t2 t0 ?_))
   refine aV L rfl (zn [(0,_),(2,_)] [] t2 trivial (exr0 (mV L rfl (sw (c_ad L (w64 oM oM)) t2 t0 (aV L rfl (seq_nil (exr (mV L rfl (mV L rfl (sw (c_cv un119 un5 L (fu8 oM oM)) t1 t0 (sw (c_is un9 oM (tabOf (n:=256) (f:=fun j=>UInt8.ofNat (bl j)) dC oM oM) L) t2 t0 ?_)))))))))))
   refine sw (c_cv un5 un3 L (c8 (j:=(x / 256).toNat) oM)) t1 t0 (sw (c_ad L (w64 oM oM)) t2 t0 (aV L rfl (zn [(2,_)] [] t1 trivial (ex_ret ?_))))
   refine ⟨.inr rfl,ResVs.cast (.cons (.tmp rfl) .nil) ?_⟩
   exact vcong (by rw [bl_shift (x:=x) 8 (c:=256) rfl oM]; push_cast; omega)
  ·have hd:=df hd
   have h8:=bl8 (x:=x) oM oM
   refine ex_skip (xq ?_)
   refine exr (mV L rfl (mV L rfl (sw (c_cv un119 un5 L (fu8 oM oM)) t1 t0 (sw (c_is un9 oM (tabOf (n:=256) (f:=fun j=>UInt8.ofNat (bl j)) dC oM oM) L) t2 t0 ?_))))
   refine sw (c_cv un5 un3 L (c8 (j:=x.toNat) oM)) t1 t0 (sw (c_ad L (w64 oM oM)) t2 t0 (aV L rfl (zn [(2,_)] [] t1 trivial (ex_ret ?_))))
   refine ⟨.inr rfl,ResVs.cast (.cons (.tmp rfl) .nil) ?_⟩
   exact vcong oM
theorem sign_says (neg:Bool)(ws:List Int)(hl:ws.length<10000000000000)(h:Wd ws):Says E 134 [pI neg ws] (vZ (if canon neg ws=true then (sg neg (val ws)).sign else 0)):=by
 refine says_of (xs:=[vZ (if canon neg ws=true then (sg neg (val ws)).sign else 0)]) Tryz.func134 rfl Tryz.ntmps134 Tryz.results134 sM fun F hG hX0 hnt hdf P0=>?_
 obtain ⟨L,hX,hN⟩:=pro hnt hX0 hG
 refine exr (swb (c_bx (k:=1) (n:=2) pa2 rfl rfl (P0 _ rfl) L) t1 t0 ⟨rfl,rfl⟩ (aV L rfl (zn [(1,_)] [(1,_)] t1 t1 (ex_seq (ex_block ?_)))))
 refine exm (sl:=[(3,vb (!(canon neg ws && !decide (ws.length=0))))]) (sl0:=[(1,_)]) (hb:=[]) (hb0:=[(1,_)]) t1 t1 ?_ ?_
 ·by_cases hc:canon neg ws=true
  ·refine lp2 ag45 sz45 L rfl rfl (cK hG hX cl130 hN (is_says neg ws hl) L t1 (sw (c_no L) t1 t0 (mV L rfl (swg (g:=7) rfl (by simp [hc]) (c_fa un45 rfl sz43 dC rX L) rfl t1 t1 ?_))))
   refine swg (g:=7) rfl (by simp [hc]) (c_l1 ag43 rF rF L) rfl t1 t1 ?_
   refine swg (g:=7) rfl (by simp [hc]) (c_ln un43 L) rfl t1 t0 ?_
   refine swg (g:=7) rfl (by simp [hc]) (c_e L) rfl t2 t0 ?_
   refine sw (c_pf (by simp [hc]) L) t2 t0 ?_
   refine aV L rfl ?_
   exact seq_nil ⟨⟨ob rfl (by simp [hc]),rfl,trivial⟩,t1⟩
  ·refine lp2 ag45 sz45 L rfl rfl (cK hG hX cl130 hN (is_says neg ws hl) L t1 (sw (c_no L) t1 t0 (mV L rfl (swn (g:=7) rfl (by simp [hc]) L rfl ?_))))
   refine swn (g:=7) rfl (by simp [hc]) L rfl ?_
   refine swn (g:=7) rfl (by simp [hc]) L rfl ?_
   refine swn (g:=7) rfl (by simp [hc]) L rfl ?_
   refine sw (c_pt (by simp [hc]) L) t2 t0 ?_
   refine aV L rfl ?_
   exact seq_nil ⟨⟨ob rfl (by simp [hc]),rfl,trivial⟩,t1⟩
 refine ex_if rfl (fun hd=>?_) (fun hd=>?_)
 ·refine exr (aV L rfl (zn [(2,_)] [] t1 trivial (ex_ret ?_)))
  refine ⟨.inr rfl,ResVs.cast (.cons (.tmp rfl) .nil) ?_⟩
  have hd:canon neg ws=true→ws=[]:=by intro hc; simpa [hc] using hd
  split
  ·rename_i hc; rw [hd hc]; cases neg <;> simp [sg,val]
  ·rfl
 ·have hd:canon neg ws=true∧¬ ws=[]:=by simpa using hd
  have hv:=val_nonneg h
  have hv2:val ws≠0:=fun e=>hd.2 (val_eq_zero h (canon_tr hd.1).1 e)
  refine exr (sw (c_fa un45 rfl sz4 dC rX L) t1 t1 ?_)
  refine sw (c_l1 ag4 rF rF L) t1 t1 ?_
  refine aV L rfl (zn [(13,_)] [] t1 trivial ?_)
  refine ex_if rfl (fun hn=>?_) (fun hn=>?_)
  ·refine exr (aV L rfl (zn [(2,_)] [] t1 trivial (ex_ret ?_)))
   refine ⟨.inr rfl,ResVs.cast (.cons (.tmp rfl) .nil) ?_⟩
   rw [if_pos hd.1,hn,sg,if_pos rfl,Int.sign_eq_neg_one_of_neg oM]
  ·refine ex_skip (xq ?_)
   refine exr (aV L rfl (zn [(2,_)] [] t1 trivial (ex_ret ?_)))
   refine ⟨.inr rfl,ResVs.cast (.cons (.tmp rfl) .nil) ?_⟩
   rw [if_pos hd.1,hn,sg]
   simp only [Bool.false_eq_true,if_false]
   rw [Int.sign_eq_one_of_pos oM]
theorem compared_says (ws vs:List Int)(hl:ws.length<10000000000000)(hl2:vs.length<10000000000000)(h:Wd ws)(h2:Wd vs)(ht:Tr ws)(ht2:Tr vs):Says E 141 [pW ws,pW vs] (vZ (cmpI (val ws) (val vs))):=by
 refine says_of (xs:=[vZ (cmpI (val ws) (val vs))]) Tryz.func141 rfl Tryz.ntmps141 Tryz.results141 sM fun F hG hX0 hnt hdf P0=>?_
 obtain ⟨L,hX,hN⟩:=pro hnt hX0 hG
 refine exr (aV L rfl (zn [(0,_),(1,_)] [] t2 trivial (ex_seq (exr (mV L rfl (sw (c_ln un43 L) t1 t0 (mV L rfl (sw (c_ln un43 L) t1 t0 (sw (c_n L) t2 t0 (zn [(0,_),(1,_),(10,_)] [] t3 trivial ?_))))))))))
 refine ex_if rfl (fun hc=>?_) (fun hc=>?_)
 ·have hc:=ndt hc
  refine ex_seq (exr (mV L rfl (sw (c_ln un43 L) t1 t0 (mV L rfl (sw (c_ln un43 L) t1 t0 (sw (c_ls L) t2 t0 (zn [(15,_)] [] t1 trivial ?_)))))))
  refine ex_if rfl (fun hd=>?_) (fun hd=>?_)
  ·have hd:=dt hd
   refine exr (aV L rfl (zn [(4,_)] [] t1 trivial (ex_ret ?_)))
   refine ⟨.inr rfl,ResVs.cast (.cons (.tmp rfl) .nil) ?_⟩
   rw [cmpI_len h h2 ht ht2 oM,if_pos oM]
  ·have hd:=df hd
   refine ex_skip (xq ?_)
   refine exr (aV L rfl (zn [(4,_)] [] t1 trivial (ex_ret ?_)))
   refine ⟨.inr rfl,ResVs.cast (.cons (.tmp rfl) .nil) ?_⟩
   rw [cmpI_len h h2 ht ht2 oM,if_neg oM]
 ·have hc:=ndf hc
  refine ex_skip (xq ?_)
  refine ex_seq (exr (mV L rfl (sw (c_ln un43 L) t1 t0 (sw (c_su L (w64 oM oM)) t2 t0 (aV L rfl (zn [(0,_),(1,_),(5,_)] [] t3 trivial (ex_block ?_)))))))
  refine exl (α:=Nat) (fun n=>[(5,vi ((n:Int) - 1))]) (fun n=>[]) (fun n=>n≤ws.length∧ws.drop n=vs.drop n) (fun n=>n) (ws.length) (sl:=[(0,_),(1,_)]) (hb:=[]) ?_ ⟨oR,rfl,rfl,trivial⟩ t0 ?_
  ·exact ⟨Nat.le_refl _,by rw [List.drop_length,List.drop_of_length_le oM]⟩
  intro n hn
  refine ex_seq (exr (mV L rfl (sw (c_ge L) t2 t0 (zn [(0,_),(1,_),(5,_),(20,_)] [] t4 trivial ?_))))
  refine ex_if rfl (fun hd=>?_) (fun hd=>?_)
  ·have hd:=dt hd
   have hs:n - 1+1=n:=by omega
   refine ex_skip (xq ?_)
   refine ex_seq (ex_block (exd rF ?_))
   refine mV L rfl (mV L rfl (sw (ixJ un43 sz119 (j:=n - 1) rO oM sM L) t2 t0 ?_))
   refine sw (c_li ag119 (by first | exact getW oM | rfl) L) t1 t0 ?_
   refine mV L rfl (mV L rfl (sw (ixJ un43 sz119 (j:=n - 1) rO oM sM L) t2 t0 ?_))
   refine sw (c_li ag119 (by first | exact getW oM | rfl) L) t1 t0 ?_
   refine sw (c_n L) t2 t0 ?_
   refine seq_nil ⟨aoks [⟨[0],[],[23],[]⟩,⟨[5],[],[24],[]⟩,⟨[23,24],[],[25],[]⟩,⟨[25],[],[26],[]⟩,⟨[1],[],[27],[]⟩,⟨[5],[],[28],[]⟩,⟨[27,28],[],[29],[]⟩,⟨[29],[],[30],[]⟩,⟨[26,30],[],[31],[]⟩] rF rF dC,[(0,_),(1,_),(5,_),(31,_)],[],t4,trivial,?_⟩
   refine ex_if rfl (fun he=>?_) (fun he=>?_)
   ·have he:=ndt he
    refine ex_seq (exd rF ?_)
    refine mV L rfl (mV L rfl (sw (ixJ un43 sz119 (j:=n - 1) rO oM sM L) t2 t0 ?_))
    refine sw (c_li ag119 (by first | exact getW oM | rfl) L) t1 t0 ?_
    refine mV L rfl (mV L rfl (sw (ixJ un43 sz119 (j:=n - 1) rO oM sM L) t2 t0 ?_))
    refine sw (c_li ag119 (by first | exact getW oM | rfl) L) t1 t0 ?_
    refine sw (c_ls L) t2 t0 ?_
    refine seq_nil ⟨aoks [⟨[0],[],[32],[]⟩,⟨[5],[],[33],[]⟩,⟨[32,33],[],[34],[]⟩,⟨[34],[],[35],[]⟩,⟨[1],[],[36],[]⟩,⟨[5],[],[37],[]⟩,⟨[36,37],[],[38],[]⟩,⟨[38],[],[39],[]⟩,⟨[35,39],[],[40],[]⟩] rF rF dC,[(40,_)],[],t1,trivial,?_⟩
    refine ex_if rfl (fun hf=>?_) (fun hf=>?_)
    ·have hf:=dt hf
     refine exr (aV L rfl (zn [(4,_)] [] t1 trivial (ex_ret ?_)))
     refine ⟨.inr rfl,ResVs.cast (.cons (.tmp rfl) .nil) ?_⟩
     rw [cmpI_drop h h2 oM (i:=n - 1) oM (by rw [hs]; exact hn.2) he,if_pos hf]
    ·have hf:=df hf
     refine ex_skip (xq ?_)
     refine exr (aV L rfl (zn [(4,_)] [] t1 trivial (ex_ret ?_)))
     refine ⟨.inr rfl,ResVs.cast (.cons (.tmp rfl) .nil) ?_⟩
     rw [cmpI_drop h h2 oM (i:=n - 1) oM (by rw [hs]; exact hn.2) he,if_neg hf]
   ·have he:=ndf he
    refine ex_skip (xq ?_)
    refine exr0 (mV L rfl (sw (c_su L (w64 oM oM)) t2 t0 (aV L rfl (seq_nil ?_))))
    exact ⟨n - 1,⟨by omega,drop_eq_succ oM oM (by rw [hs]; exact hn.2) he⟩,by omega,le_of ⟨oR,rfl,rfl,trivial⟩ trivial⟩
  ·have hd:=df hd
   have h3:n=0:=by omega
   subst h3
   refine ex_exit (xq ?_)
   refine exr (aV L rfl (zn [(4,_)] [] t1 trivial (ex_ret ?_)))
   refine ⟨.inr rfl,ResVs.cast (.cons (.tmp rfl) .nil) ?_⟩
   have e:ws=vs:=by simpa using hn.2
   rw [e,cmpI_self]
theorem bl32 {x:Int}(h:x<4294967296):bl x.toNat≤32:=bl_spec.2 oM
theorem neg_says (neg:Bool)(ws:List Int)(hl:ws.length<10000000000000)(h:Wd ws):Says E 102 [pI neg ws] (pZ (if canon neg ws=true then -(sg neg (val ws)) else 0)):=by
 refine says_of (xs:=[pZ (if canon neg ws=true then -(sg neg (val ws)) else 0)]) Tryz.func102 rfl Tryz.ntmps102 Tryz.results102 sM fun F hG hX0 hnt hdf P0=>?_
 obtain ⟨L,hX,hN⟩:=pro hnt hX0 hG
 refine exr (swb (c_bx (k:=1) (n:=2) pa2 rfl rfl (P0 _ rfl) L) t1 t0 ⟨rfl,rfl⟩ (swb (c_al (k:=2) (n:=2) zv45 (.cons rfl (.cons rfl .nil)) rfl (P0 _ rfl) L) t0 t0 ⟨rfl,rfl⟩ (zn [(1,_),(2,_)] [(1,_),(2,_)] t2 t2 (ex_seq (exr (lp2 ag45 sz45 L rfl rfl (cK hG hX cl130 hN (is_says neg ws hl) L t1 (sw (c_no L) t1 t0 (zn [(1,_),(2,_),(5,_)] [(1,_),(2,_)] t3 t2 ?_)))))))))
 refine ex_if rfl (fun hc=>?_) (fun hc=>?_)
 ·have hc:canon neg ws=false:=by simpa using hc
  refine exr (sw (c_pc (c_bp (vs:=[]) un45 zv45 (.cons rfl (.cons rfl .nil)) ((Places.cons sz4 (Places.cons sz43 Places.nil))).to rfl .nil (.cons (.cons .nil)) L) (.agg (.cons .same (.cons .nil .nil)))) t0 t0 (sb (c_sm sz45 rF pa2 rfl pu2) t2 t1 ?_))
  refine zn [(2,_)] [(2,_)] t1 t1 (ex_ret ?_)
  refine ⟨.inr rfl,ResVs.cast (.cons (.agg rfl rfl rfl ag45 sz45 (.cons (.cons .nil))) .nil) ?_⟩
  simp [hc,pZ,digs_zero]; rfl
 ·have hc:canon neg ws=true:=by simpa using hc
  refine ex_skip (xq ?_)
  refine exr (sw (c_fa un45 rfl sz4 dC rX L) t1 t1 ?_)
  refine sw (c_l1 ag4 rF rF L) t1 t1 ?_
  refine sw (c_no L) t1 t0 (sw (c_fa un45 rfl sz43 dC rX L) t1 t1 ?_)
  refine sw (c_l1 ag43 rF rF L) t1 t1 ?_
  refine cK hG hX cl131 hN (made_says (!neg) ws hl h) L t2 (sb (c_sm sz45 rF pa2 rfl pu2) t2 t1 ?_)
  refine zn [(2,_)] [(2,_)] t1 t1 (ex_ret ?_)
  refine ⟨.inr rfl,ResVs.cast (.cons (.agg rfl rfl rfl ag45 sz45 (.cons (.cons .nil))) .nil) ?_⟩
  rw [if_pos hc]; cases neg <;> simp [sg]
theorem abs_says (neg:Bool)(ws:List Int)(hl:ws.length<10000000000000)(h:Wd ws):Says E 149 [pI neg ws] (pZ (if canon neg ws=true then ((sg neg (val ws)).natAbs:Int) else 0)):=by
 refine says_of (xs:=[pZ (if canon neg ws=true then ((sg neg (val ws)).natAbs:Int) else 0)]) Tryz.func149 rfl Tryz.ntmps149 Tryz.results149 sM fun F hG hX0 hnt hdf P0=>?_
 obtain ⟨L,hX,hN⟩:=pro hnt hX0 hG
 refine exr (swb (c_bx (k:=1) (n:=2) pa2 rfl rfl (P0 _ rfl) L) t1 t0 ⟨rfl,rfl⟩ (swb (c_al (k:=2) (n:=2) zv45 (.cons rfl (.cons rfl .nil)) rfl (P0 _ rfl) L) t0 t0 ⟨rfl,rfl⟩ (zn [(1,_),(2,_)] [(1,_),(2,_)] t2 t2 (ex_seq (exr (lp2 ag45 sz45 L rfl rfl (cK hG hX cl130 hN (is_says neg ws hl) L t1 (sw (c_no L) t1 t0 (zn [(1,_),(2,_),(5,_)] [(1,_),(2,_)] t3 t2 ?_)))))))))
 refine ex_if rfl (fun hc=>?_) (fun hc=>?_)
 ·have hc:canon neg ws=false:=by simpa using hc
  refine exr (sw (c_pc (c_bp (vs:=[]) un45 zv45 (.cons rfl (.cons rfl .nil)) ((Places.cons sz4 (Places.cons sz43 Places.nil))).to rfl .nil (.cons (.cons .nil)) L) (.agg (.cons .same (.cons .nil .nil)))) t0 t0 (sb (c_sm sz45 rF pa2 rfl pu2) t2 t1 ?_))
  refine zn [(2,_)] [(2,_)] t1 t1 (ex_ret ?_)
  refine ⟨.inr rfl,ResVs.cast (.cons (.agg rfl rfl rfl ag45 sz45 (.cons (.cons .nil))) .nil) ?_⟩
  simp [hc,pZ,digs_zero]; rfl
 ·have hc:canon neg ws=true:=by simpa using hc
  refine ex_skip (xq ?_)
  refine exr (sw (c_fa un45 rfl sz43 dC rX L) t1 t1 ?_)
  refine sw (c_l1 ag43 rF rF L) t1 t1 ?_
  refine cK hG hX cl131 hN (made_says false ws hl h) L t2 (sb (c_sm sz45 rF pa2 rfl pu2) t2 t1 ?_)
  refine zn [(2,_)] [(2,_)] t1 t1 (ex_ret ?_)
  refine ⟨.inr rfl,ResVs.cast (.cons (.agg rfl rfl rfl ag45 sz45 (.cons (.cons .nil))) .nil) ?_⟩
  have e:((sg neg (val ws)).natAbs:Int)=sg false (val ws):=by have:=val_nonneg h; cases neg <;> simp [sg] <;> omega
  rw [if_pos hc,e]
theorem cmp_says (m n:Bool)(ws vs:List Int)(hl:ws.length<10000000000000)(hl2:vs.length<10000000000000)(h:Wd ws)(h2:Wd vs):Says E 114 [pI m ws,pI n vs] (vZ (if canon m ws=true∧canon n vs=true then cmpI (sg m (val ws)) (sg n (val vs)) else 0)):=by
 refine says_of (xs:=[vZ (if canon m ws=true∧canon n vs=true then cmpI (sg m (val ws)) (sg n (val vs)) else 0)]) Tryz.func114 rfl Tryz.ntmps114 Tryz.results114 sM fun F hG hX0 hnt hdf P0=>?_
 obtain ⟨L,hX,hN⟩:=pro hnt hX0 hG
 refine exr (swb (c_bx (k:=2) (n:=2) pa2 rfl rfl (P0 _ rfl) L) t1 t0 ⟨rfl,rfl⟩ (swb (c_bx (k:=3) (n:=2) pa2 rfl rfl (P0 _ rfl) L) t1 t0 ⟨rfl,rfl⟩ (aV L rfl (zn [(2,_),(3,_)] [(2,_),(3,_)] t2 t2 (ex_seq (exr (lp2 ag45 sz45 L rfl rfl (lp2 ag45 sz45 L rfl rfl (sw (c_bI (vs:=[_,_]) un139 ti45 rfl rfl dC dC rfl (zs_made (.cons rfl (.cons rfl .nil)) rfl) rfl (.cons rfl pa2 rfl pu2 (.cons rfl pa2 rfl (.skip (.skip pu2)) .nil)) (.cons (.cons (.cons (.cons .nil)))) L) t2 t0 (cK hG hX cl138 hN (all_says [(m,ws),(n,vs)] sM sO) L t1 ?_))))))))))
 refine sw (c_no L) t1 t0 (zn [(2,_),(3,_),(10,_)] [(2,_),(3,_)] t3 t2 ?_)
 refine ex_if rfl (fun hc=>?_) (fun hc=>?_)
 ·have hc:¬ (canon m ws=true∧canon n vs=true):=by rintro ⟨h1,h2⟩; simp [h1,h2] at hc
  refine exr (aV L rfl (zn [(4,_)] [] t1 trivial (ex_ret ?_)))
  refine ⟨.inr rfl,ResVs.cast (.cons (.tmp rfl) .nil) ?_⟩
  rw [if_neg hc]
 ·have hc:canon m ws=true∧canon n vs=true:=by simpa using hc
  have e:=cmp_sg h h2 hc.1 hc.2
  refine ex_skip (xq ?_)
  refine ex_seq (exr (sw (c_fa un45 rfl sz4 dC rX L) t1 t1 ?_))
  refine sw (c_l1 ag4 rF rF L) t1 t1 ?_
  refine sw (c_fa un45 rfl sz4 dC rX L) t1 t1 ?_
  refine sw (c_l1 ag4 rF rF L) t1 t1 ?_
  refine sw (c_bn un4 L) t2 t0 (zn [(2,_),(3,_),(15,_)] [(2,_),(3,_)] t3 t2 ?_)
  refine ex_if rfl (fun hd=>?_) (fun hd=>?_)
  ·have hd:m≠n:=by simpa using hd
   refine ex_seq (exr (sw (c_fa un45 rfl sz4 dC rX L) t1 t1 ?_))
   refine sw (c_l1 ag4 rF rF L) t1 t1 ?_
   refine zn [(17,_)] [] t1 trivial ?_
   refine ex_if rfl (fun hm=>?_) (fun hm=>?_)
   ·refine exr (aV L rfl (zn [(4,_)] [] t1 trivial (ex_ret ?_)))
    refine ⟨.inr rfl,ResVs.cast (.cons (.tmp rfl) .nil) ?_⟩
    rw [if_pos hc,e,if_pos hd,if_pos hm]
   ·refine ex_skip (xq ?_)
    refine exr (aV L rfl (zn [(4,_)] [] t1 trivial (ex_ret ?_)))
    refine ⟨.inr rfl,ResVs.cast (.cons (.tmp rfl) .nil) ?_⟩
    rw [if_pos hc,e,if_pos hd,if_neg (by simp [hm])]
  ·have hd:¬ m≠n:=by simpa using hd
   have hb : -1≤cmpI (val ws) (val vs)∧cmpI (val ws) (val vs)≤1:=by unfold cmpI; split <;> (try split) <;> omega
   refine ex_skip (xq ?_)
   refine exr (sw (c_fa un45 rfl sz43 dC rX L) t1 t1 ?_)
   refine sw (c_l1 ag43 rF rF L) t1 t1 ?_
   refine sw (c_fa un45 rfl sz43 dC rX L) t1 t1 ?_
   refine sw (c_l1 ag43 rF rF L) t1 t1 ?_
   refine cK hG hX cl141 hN (compared_says ws vs hl hl2 h h2 (canon_tr hc.1).1 (canon_tr hc.2).1) L t2 (aV L rfl (zn [(2,_),(5,_)] [(2,_)] t2 t1 (ex_seq (exr (sw (c_fa un45 rfl sz4 dC rX L) t1 t1 ?_)))))
   refine sw (c_l1 ag4 rF rF L) t1 t1 ?_
   refine zn [(5,_),(24,_)] [] t2 trivial ?_
   refine ex_if rfl (fun hm=>?_) (fun hm=>?_)
   ·refine exr (mV L rfl (sw (c_ng L (w64 oM oM)) t1 t0 (aV L rfl (zn [(4,_)] [] t1 trivial (ex_ret ?_)))))
    refine ⟨.inr rfl,ResVs.cast (.cons (.tmp rfl) .nil) ?_⟩
    exact vcong (by rw [if_pos hc,e,if_neg hd,if_pos hm]; omega)
   ·refine ex_skip (xq ?_)
    refine exr (mV L rfl (aV L rfl (zn [(4,_)] [] t1 trivial (ex_ret ?_))))
    refine ⟨.inr rfl,ResVs.cast (.cons (.tmp rfl) .nil) ?_⟩
    rw [if_pos hc,e,if_neg hd,if_neg (by simp [hm])]
theorem ris_says (neg:Bool)(ws:List Int)(hl:ws.length<10000000000000):Says E 77 [pI neg ws] (bZ (canon neg ws)):=by
 refine says_of (xs:=[bZ (canon neg ws)]) Tryz.func77 rfl Tryz.ntmps77 Tryz.results77 sM fun F hG hX0 hnt hdf P0=>?_
 obtain ⟨L,hX,hN⟩:=pro hnt hX0 hG
 refine exr (swb (c_bx (k:=1) (n:=2) pa2 rfl rfl (P0 _ rfl) L) t1 t0 ⟨rfl,rfl⟩ (aV L rfl (zn [(1,_)] [(1,_)] t1 t1 (exr (sw (c_fa un45 rfl sz43 dC rX L) t1 t1 ?_)))))
 refine sw (c_l1 ag43 rF rF L) t1 t1 ?_
 refine sw (c_ln un43 L) t1 t0 (aV L rfl (zn [(1,_),(3,_)] [(1,_)] t2 t1 (ex_seq (exr (mV L rfl (sw (c_e L) t2 t0 (zn [(1,_),(3,_),(8,_)] [(1,_)] t3 t1 ?_)))))))
 refine ex_if rfl (fun h0=>?_) (fun h0=>?_)
 ·refine exr (sw (c_fa un45 rfl sz4 dC rX L) t1 t1 ?_)
  refine sw (c_l1 ag4 rF rF L) t1 t1 ?_
  refine sw (c_no L) t1 t0 (aV L rfl (zn [(2,_)] [] t1 trivial (ex_ret ?_)))
  refine ⟨.inr rfl,ResVs.cast (.cons (.tmp rfl) .nil) ?_⟩
  have h0:=dt h0; have h1:ws.length=0:=by omega
  simp only [canon,h1,if_true]
 ·have h0:=df h0
  refine ex_skip (xq ?_)
  refine exr (sw (c_fa un45 rfl sz43 dC rX L) t1 t1 ?_)
  refine sw (c_l1 ag43 rF rF L) t1 t1 ?_
  refine mV L rfl (sw (c_su L (w64 oM oM)) t2 t0 (sw (ixJ un43 sz119 (j:=ws.length - 1) rO oM sM L) t2 t0 ?_))
  refine sw (c_li ag119 (by first | exact getW oM | rfl) L) t1 t0 ?_
  refine sw (c_n L) t2 t0 (aV L rfl (zn [(2,_)] [] t1 trivial (ex_ret ?_)))
  refine ⟨.inr rfl,ResVs.cast (.cons (.tmp rfl) .nil) ?_⟩
  have h1:ws.length≠0:=by omega
  simp only [canon,h1,if_false]
theorem rsame_says (m n:Bool)(ws vs:List Int)(hl:ws.length<10000000000000)(hl2:vs.length<10000000000000):Says E 79 [pI m ws,pI n vs] (bZ (decide (m=n∧ws=vs))):=by
 refine says_of (xs:=[bZ (decide (m=n∧ws=vs))]) Tryz.func79 rfl Tryz.ntmps79 Tryz.results79 sM fun F hG hX0 hnt hdf P0=>?_
 obtain ⟨L,hX,hN⟩:=pro hnt hX0 hG
 refine exr (swb (c_bx (k:=2) (n:=2) pa2 rfl rfl (P0 _ rfl) L) t1 t0 ⟨rfl,rfl⟩ (swb (c_bx (k:=3) (n:=2) pa2 rfl rfl (P0 _ rfl) L) t1 t0 ⟨rfl,rfl⟩ (aV L rfl (zn [(2,_),(3,_)] [(2,_),(3,_)] t2 t2 (ex_seq ?_)))))
 refine exm (sl:=[(19,vb (!decide (m=n∧ws.length=vs.length)))]) (sl0:=[(2,_),(3,_)]) (hb:=[]) (hb0:=[(2,_),(3,_)]) t2 t2 ?_ ?_
 ·by_cases hc:m=n
  ·refine sw (c_fa un45 rfl sz4 dC rX L) t1 t1 ?_
   refine sw (c_l1 ag4 rF rF L) t1 t1 ?_
   refine sw (c_fa un45 rfl sz4 dC rX L) t1 t1 ?_
   refine sw (c_l1 ag4 rF rF L) t1 t1 ?_
   refine sw (c_bn un4 L) t2 t0 (mV L rfl (swg (g:=11) rfl (by simp [hc]) (c_fa un45 rfl sz43 dC rX L) rfl t1 t1 ?_))
   refine swg (g:=11) rfl (by simp [hc]) (c_l1 ag43 rF rF L) rfl t1 t1 ?_
   refine swg (g:=11) rfl (by simp [hc]) (c_ln un43 L) rfl t1 t0 ?_
   refine swg (g:=11) rfl (by simp [hc]) (c_fa un45 rfl sz43 dC rX L) rfl t1 t1 ?_
   refine swg (g:=11) rfl (by simp [hc]) (c_l1 ag43 rF rF L) rfl t1 t1 ?_
   refine swg (g:=11) rfl (by simp [hc]) (c_ln un43 L) rfl t1 t0 ?_
   refine swg (g:=11) rfl (by simp [hc]) (c_n L) rfl t2 t0 ?_
   refine sw (c_pf (by simp [hc]) L) t2 t0 ?_
   exact seq_nil ⟨⟨ob rfl (by simp [hc]; omega),rfl,rfl,trivial⟩,t2⟩
  ·refine sw (c_fa un45 rfl sz4 dC rX L) t1 t1 ?_
   refine sw (c_l1 ag4 rF rF L) t1 t1 ?_
   refine sw (c_fa un45 rfl sz4 dC rX L) t1 t1 ?_
   refine sw (c_l1 ag4 rF rF L) t1 t1 ?_
   refine sw (c_bn un4 L) t2 t0 (mV L rfl (swn (g:=11) rfl (by simpa using hc) L rfl ?_))
   refine swn (g:=11) rfl (by simpa using hc) L rfl ?_
   refine swn (g:=11) rfl (by simpa using hc) L rfl ?_
   refine swn (g:=11) rfl (by simpa using hc) L rfl ?_
   refine swn (g:=11) rfl (by simpa using hc) L rfl ?_
   refine swn (g:=11) rfl (by simpa using hc) L rfl ?_
   refine swn (g:=11) rfl (by simpa using hc) L rfl ?_
   refine sw (c_pt (by simpa using hc) L) t2 t0 ?_
   exact seq_nil ⟨⟨ob rfl (by simp [hc]),rfl,rfl,trivial⟩,t2⟩
 refine ex_if rfl (fun hd=>?_) (fun hd=>?_)
 ·have hd:¬ (m=n∧ws.length=vs.length):=by rintro ⟨h1,h2⟩; simp [h1,h2] at hd
  refine exr (aV L rfl (zn [(4,_)] [] t1 trivial (ex_ret ?_)))
  refine ⟨.inr rfl,ResVs.cast (.cons (.tmp rfl) .nil) ?_⟩
  rw [eq_comm]; congr 3; simp only [decide_eq_false_iff_not]; exact fun h=>hd ⟨h.1,by rw [h.2]⟩
 ·have hd:m=n∧ws.length=vs.length:=by simpa using hd
  refine ex_skip (xq ?_)
  refine ex_seq (exr (aV L rfl (zn [(2,_),(3,_),(5,_)] [(2,_),(3,_)] t3 t2 (ex_block ?_))))
  refine exl (α:=Nat) (fun i=>[(5,vi (i:Int))]) (fun i=>[]) (fun i=>i≤ws.length∧ws.take i=vs.take i) (fun i=>ws.length - i) (0) (sl:=[(2,_),(3,_)]) (hb:=[(2,_),(3,_)]) ?_ ⟨oR,rfl,rfl,trivial⟩ t2 ?_
  ·exact ⟨Nat.zero_le _,rfl⟩
  intro i hi
  refine ex_seq (exr (mV L rfl (sw (c_fa un45 rfl sz43 dC rX L) t1 t1 ?_)))
  refine sw (c_l1 ag43 rF rF L) t1 t1 ?_
  refine sw (c_ln un43 L) t1 t0 (sw (c_ls L) t2 t0 (zn [(2,_),(3,_),(5,_),(24,_)] [(2,_),(3,_)] t4 t2 ?_))
  refine ex_if rfl (fun he=>?_) (fun he=>?_)
  ·have he:=dt he
   refine ex_skip (xq ?_)
   refine ex_seq (ex_block (exd rF ?_))
   refine sw (c_fa un45 rfl sz43 dC rX L) t1 t1 ?_
   refine sw (c_l1 ag43 rF rF L) t1 t1 ?_
   refine mV L rfl (sw (ixJ un43 sz119 (j:=i) rO oM sM L) t2 t0 ?_)
   refine sw (c_li ag119 (by first | exact getW oM | rfl) L) t1 t0 ?_
   refine sw (c_fa un45 rfl sz43 dC rX L) t1 t1 ?_
   refine sw (c_l1 ag43 rF rF L) t1 t1 ?_
   refine mV L rfl (sw (ixJ un43 sz119 (j:=i) rO oM sM L) t2 t0 ?_)
   refine sw (c_li ag119 (by first | exact getW oM | rfl) L) t1 t0 ?_
   refine sw (c_n L) t2 t0 ?_
   refine seq_nil ⟨aoks [⟨[2],[2],[27],[]⟩,⟨[27],[2],[28],[]⟩,⟨[5],[],[29],[]⟩,⟨[28,29],[],[30],[]⟩,⟨[30],[],[31],[]⟩,⟨[3],[3],[32],[]⟩,⟨[32],[3],[33],[]⟩,⟨[5],[],[34],[]⟩,⟨[33,34],[],[35],[]⟩,⟨[35],[],[36],[]⟩,⟨[31,36],[],[37],[]⟩] rF rF dC,[(2,_),(3,_),(5,_),(37,_)],[(2,_),(3,_)],t4,t2,?_⟩
   refine ex_if rfl (fun hf=>?_) (fun hf=>?_)
   ·have hf:=ndt hf
    refine exr (aV L rfl (zn [(4,_)] [] t1 trivial (ex_ret ?_)))
    refine ⟨.inr rfl,ResVs.cast (.cons (.tmp rfl) .nil) ?_⟩
    rw [eq_comm]; congr 3; simp only [decide_eq_false_iff_not]; exact fun h=>hf (by rw [h.2])
   ·have hf:=ndf hf
    refine ex_skip (xq ?_)
    refine exr0 (mV L rfl (sw (c_ad L (w64 oM oM)) t2 t0 (aV L rfl (seq_nil ?_))))
    exact ⟨i+1,⟨by omega,take_succ_eq oM hd.2 hi.2 hf⟩,by omega,le_of ⟨oR,rfl,rfl,trivial⟩ t2⟩
  ·have he:=df he
   refine ex_exit (xq ?_)
   refine exr (aV L rfl (zn [(4,_)] [] t1 trivial (ex_ret ?_)))
   refine ⟨.inr rfl,ResVs.cast (.cons (.tmp rfl) .nil) ?_⟩
   have e:ws=vs:=by have:=hi.2; rwa [List.take_of_length_le oM,List.take_of_length_le oM] at this
   rw [eq_comm]; congr 3; simp [hd.1,e]
theorem rtrim_says (ws:List Int)(hl:ws.length<10000000000000):Says E 147 [pW ws] (pW (trim ws)):=by
 refine says_of (xs:=[pW (trim ws)]) Tryz.func147 rfl Tryz.ntmps147 Tryz.results147 sM fun F hG hX0 hnt hdf P0=>?_
 obtain ⟨L,hX,hN⟩:=pro hnt hX0 hG
 refine exr (aV L rfl (zn [(0,_)] [] t1 trivial (exr (mV L rfl (sw (c_ln un43 L) t1 t0 (aV L rfl (zn [(0,_),(3,_)] [] t2 trivial (ex_seq (ex_block ?_)))))))))
 refine exl (α:=Nat) (fun n=>[(3,vi (n:Int))]) (fun n=>[]) (fun n=>n≤ws.length∧trimN ws n=trimN ws ws.length) (fun n=>n) (ws.length) (sl:=[(0,_)]) (hb:=[]) ?_ ⟨oR,rfl,trivial⟩ t0 ?_
 ·exact ⟨Nat.le_refl _,rfl⟩
 intro n hn
 refine ex_seq ?_
 refine exm (sl:=[(15,vb (decide (0<n∧ws.getD (n - 1) 0=0)))]) (sl0:=[(0,_),(3,_)]) (hb:=[]) (hb0:=[]) t2 t0 ?_ ?_
 ·by_cases h:n=0
  ·refine mV L rfl (sw (c_gt L) t2 t0 (mV L rfl (swn (g:=8) rfl (by simp [h]) L rfl ?_)))
   refine swn (g:=8) rfl (by simp [h]) L rfl ?_
   refine swn (g:=8) rfl (by simp [h]) L rfl ?_
   refine swn (g:=8) rfl (by simp [h]) L rfl ?_
   refine swn (g:=8) rfl (by simp [h]) L rfl ?_
   refine swn (g:=8) rfl (by simp [h]) L rfl ?_
   refine sw (c_pf (by simp [h]) L) t2 t0 ?_
   exact seq_nil ⟨⟨ob rfl (by simp [h]),rfl,rfl,trivial⟩,trivial⟩
  ·refine mV L rfl (sw (c_gt L) t2 t0 (mV L rfl (gV (g:=8) rfl sO L rfl rfl (gV (g:=8) rfl sO L rfl rfl (swg (g:=8) rfl sO (c_su L (w64 oM oM)) rfl t2 t0 (swg (g:=8) rfl sO (ixJ un43 sz119 (j:=n - 1) rO oM sM L) rfl t2 t0 ?_))))))
   refine swg (g:=8) rfl sO (c_li ag119 (by first | exact getW oM | rfl) L) rfl t1 t0 ?_
   refine swg (g:=8) rfl sO (c_e L) rfl t2 t0 (sw (c_pt sO L) t2 t0 ?_)
   exact seq_nil ⟨⟨ob rfl sO,rfl,rfl,trivial⟩,trivial⟩
 refine ex_if rfl (fun hc=>?_) (fun hc=>?_)
 ·have hc:=dt hc
  refine ex_skip (xq ?_)
  refine ex_block (exr0 (mV L rfl (sw (c_su L (w64 oM oM)) t2 t0 (aV L rfl (seq_nil ?_)))))
  exact ⟨n - 1,⟨by omega,by rw [← hn.2]; conv=>rhs; rw [show n=(n - 1)+1 by omega]; simp only [trimN,hc.2,if_true]⟩,by omega,le_of ⟨oR,rfl,trivial⟩ trivial⟩
 ·have hc:=df hc
  have e:trimN ws ws.length=n:=by
   rw [← hn.2]
   cases n with
   | zero=>rfl
   | succ n=>simp only [trimN]; rw [if_neg]; intro h; exact hc ⟨by omega,by simpa using h⟩
  have e1:trim ws=ws.take n:=by rw [trim,e]
  refine ex_exit (xq ?_)
  refine exr (mV L rfl (mV L rfl (sw (slI_hi un43 sz119 (h:=n) rO oM (by rw [Nat.mul_one,encW_take]) L) t2 t0 ?_)))
  refine aV L rfl (zn [(2,_)] [] t1 trivial (ex_ret ?_))
  refine ⟨.inr rfl,ResVs.cast (.cons (.tmp rfl) .nil) ?_⟩
  rw [e1]; simp [Nat.min_eq_left hn.1]
theorem rword_says (ws:List Int)(hl:ws.length<10000000000000)(h:Wd ws)(i:Nat)(hi:i<10000000000000):Says E 145 [pW ws,vZ i] (uZ (ws.getD i 0)):=by
 refine says_of (xs:=[uZ (ws.getD i 0)]) Tryz.func145 rfl Tryz.ntmps145 Tryz.results145 sM fun F hG hX0 hnt hdf P0=>?_
 obtain ⟨L,hX,hN⟩:=pro hnt hX0 hG
 refine exr (aV L rfl (zn [(0,_),(1,_)] [] t2 trivial (ex_seq (exr (mV L rfl (mV L rfl (sw (c_ln un43 L) t1 t0 (sw (c_ls L) t2 t0 (zn [(0,_),(1,_),(8,_)] [] t3 trivial ?_)))))))))
 refine ex_if rfl (fun hc=>?_) (fun hc=>?_)
 ·have hc:=dt hc
  have hw:=h.get (i:=i) oM
  refine exr (mV L rfl (mV L rfl (sw (ixJ un43 sz119 (j:=i) rO oM sM L) t2 t0 ?_)))
  refine sw (c_li ag119 (by first | exact getW oM | rfl) L) t1 t0 ?_
  refine sw (c_cv un119 un127 L (fu64 oM oM)) t1 t0 (aV L rfl (zn [(4,_)] [] t1 trivial (ex_ret ?_)))
  refine ⟨.inr rfl,ResVs.cast (.cons (.tmp rfl) .nil) ?_⟩
  rfl
 ·have hc:=df hc
  refine ex_skip (xq ?_)
  refine exr (aV L rfl (zn [(4,_)] [] t1 trivial (ex_ret ?_)))
  refine ⟨.inr rfl,ResVs.cast (.cons (.tmp rfl) .nil) ?_⟩
  rw [List.getD_eq_getElem?_getD,List.getElem?_eq_none oM]; rfl
theorem rbitsOf_says (ws:List Int)(hl:ws.length<10000000000000)(h:Wd ws)(ht:Tr ws):Says E 166 [pW ws] (vZ (bl (val ws).toNat)):=by
 refine says_of (xs:=[vZ (bl (val ws).toNat)]) Tryz.func166 rfl Tryz.ntmps166 Tryz.results166 sM fun F hG hX0 hnt hdf P0=>?_
 obtain ⟨L,hX,hN⟩:=pro hnt hX0 hG
 refine exr (aV L rfl (zn [(0,_)] [] t1 trivial (ex_seq (exr (mV L rfl (sw (c_ln un43 L) t1 t0 (sw (c_e L) t2 t0 (zn [(0,_),(7,_)] [] t2 trivial ?_))))))))
 refine ex_if rfl (fun hc=>?_) (fun hc=>?_)
 ·have hc:=dt hc
  refine exr (aV L rfl (zn [(2,_)] [] t1 trivial (ex_ret ?_)))
  refine ⟨.inr rfl,ResVs.cast (.cons (.tmp rfl) .nil) ?_⟩
  have e:ws=[]:=List.eq_nil_of_length_eq_zero oM
  rw [e]; simp [val,bl]
 ·have hc:=df hc
  have hw:=h.getD (ws.length - 1)
  refine ex_skip (xq ?_)
  refine exr (mV L rfl (sw (c_ln un43 L) t1 t0 (sw (c_su L (w64 oM oM)) t2 t0 (sw (c_mu L (w64 oM oM)) t2 t0 (aV L rfl (zn [(0,_),(3,_)] [] t2 trivial (ex_seq (exr (mV L rfl (mV L rfl (sw (c_ln un43 L) t1 t0 ?_)))))))))))
  refine sw (c_su L (w64 oM oM)) t2 t0 (sw (ixJ un43 sz119 (j:=ws.length - 1) rO oM sM L) t2 t0 ?_)
  refine sw (c_li ag119 (by first | exact getW oM | rfl) L) t1 t0 ?_
  refine aV L rfl (zn [(3,_),(4,_)] [] t2 trivial (ex_block ?_))
  refine exl (α:=Nat) (fun x=>[(4,vu (x:Int)),(3,vi (32*((ws.length:Int) - 1)+(bl (ws.getD (ws.length - 1) 0).toNat:Int) - (bl x:Int)))]) (fun x=>[]) (fun x=>x≤(ws.getD (ws.length - 1) 0).toNat∧bl x≤bl (ws.getD (ws.length - 1) 0).toNat) (fun x=>x) ((ws.getD (ws.length - 1) 0).toNat) (sl:=[]) (hb:=[]) ?_ ⟨oi oM rfl,oi oM rfl,trivial⟩ t0 ?_
  ·exact ⟨Nat.le_refl _,Nat.le_refl _⟩
  intro x hx
  have h32:=bl32 hw.2
  refine ex_seq (exr (mV L rfl (sw (c_n L) t2 t0 (zn [(3,_),(4,_),(19,_)] [] t3 trivial ?_))))
  refine ex_if rfl (fun hd=>?_) (fun hd=>?_)
  ·have hd:=ndt hd
   have hs:=bl_half (n:=x) oM
   refine ex_skip (xq ?_)
   refine ex_seq (ex_block (exr0 (mV L rfl (sw (c_ad L (w64 oM oM)) t2 t0 (aV L rfl (seq_nil (exr0 (mV L rfl (sw (c_sr L dC (shrE (c:=2) rF dC)) t2 t0 ?_)))))))))
   refine aV L rfl (seq_nil ?_)
   exact ⟨x / 2,⟨by omega,by omega⟩,by omega,le_of ⟨oR,oR,trivial⟩ trivial⟩
  ·have hd:=ndf hd
   have hx0:x=0:=by omega
   subst hx0
   refine ex_exit (xq ?_)
   refine exr (mV L rfl (aV L rfl (zn [(2,_)] [] t1 trivial (ex_ret ?_))))
   refine ⟨.inr rfl,ResVs.cast (.cons (.tmp rfl) .nil) ?_⟩
   have hne:ws≠[]:=by intro e; subst e; simp at hc
   exact vcong (by rw [bl_val h ht hne]; simp [bl])
theorem rmade_says (neg:Bool)(ws:List Int)(hl:ws.length<10000000000000)(h:Wd ws):Says E 122 [.a (.bool neg),pW ws] (pZ (sg neg (val ws))):=by
 refine says_of (xs:=[pZ (sg neg (val ws))]) Tryz.func122 rfl Tryz.ntmps122 Tryz.results122 sM fun F hG hX0 hnt hdf P0=>?_
 obtain ⟨L,hX,hN⟩:=pro hnt hX0 hG
 have hb:(trim ws).length≤ws.length:=by rw [trim_length]; exact trimN_le _ _
 have hr:pZ (sg neg (val ws))=madeR neg ws:=(madeR_eq h).symm
 rw [hr]
 refine exr (swb (c_al (k:=4) (n:=2) zv45 (.cons rfl (.cons rfl .nil)) rfl (P0 _ rfl) L) t0 t0 ⟨rfl,rfl⟩ (zn [(0,_),(1,_),(4,_)] [(4,_)] t3 t1 (exr (mV L rfl (cK hG hX cl147 hN (rtrim_says ws hl) L t1 (aV L rfl (zn [(0,_),(1,_),(4,_)] [(4,_)] t3 t1 (ex_seq (exr (mV L rfl (sw (c_ln un43 L) t1 t0 ?_)))))))))))
 refine sw (c_e L) t2 t0 (zn [(0,_),(1,_),(4,_),(9,_)] [(4,_)] t4 t1 ?_)
 refine ex_if rfl (fun hc=>?_) (fun hc=>?_)
 ·have hc:=dt hc
  have e:trim ws=[]:=List.eq_nil_of_length_eq_zero oM
  refine exr (sw (c_pc (c_bp (vs:=[]) un45 zv45 (.cons rfl (.cons rfl .nil)) ((Places.cons sz4 (Places.cons sz43 Places.nil))).to rfl .nil (.cons (.cons .nil)) L) (.agg (.cons .same (.cons .nil .nil)))) t0 t0 (sb (c_sm sz45 rF pa2 rfl pu2) t2 t1 ?_))
  refine zn [(4,_)] [(4,_)] t1 t1 (ex_ret ?_)
  refine ⟨.inr rfl,ResVs.cast (.cons (.agg rfl rfl rfl ag45 sz45 (.cons (.cons .nil))) .nil) ?_⟩
  simp only [madeR,e,if_true]; rfl
 ·have hc:=df hc
  have e:¬ trim ws=[]:=by intro e; rw [e] at hc; simp at hc
  refine ex_skip (xq ?_)
  refine exr (mV L rfl (swb (core_bs0R (k:=12) (sz:=1) un43 ti119 (P0 _ rfl) L) t0 t0 ⟨rfl,rfl⟩ (mV L rfl (swb (apP (sz:=1) un43 un43 ti119 rfl rfl rfl dC rX oF sM rfl rfl rfl (by first | (simp [Tryz.t119]; done) | (simp [Tryz.t119]; omega)) oM (P0 _ rfl) L) t2 t1 t0 ?_))))
  refine sw (core_buildA (vs:=[_,_]) un45 zv45 (.cons rfl (.cons rfl .nil)) ((Places.cons sz4 (Places.cons sz43 Places.nil))).to rfl (.cons rfl (.atom rfl) rfl pu1 (.cons rfl .ref rfl (.skip pu1) .nil)) L) t2 t0 (sb (c_sm sz45 rF .agg rfl pu2) t2 t1 ?_)
  refine zn [(4,_)] [(4,_),(12,_)] t1 t2 (ex_cv [12] (sl:=[(4,_)]) (hb:=[(4,_)]) (own_none hX0) ⟨⟨_,rfl,.same⟩,trivial⟩ ⟨⟨rfl,_,rfl,(.mix (.cons .same (.cons (.ref rfl rfl (by exact sM) (by first | rfl | omega)) .nil)))⟩,trivial⟩ ?_)
  refine ex_ret ?_
  refine ⟨.inr rfl,ResVs.cast (.cons (.agg rfl rfl rfl ag45 sz45 (.cons (.cons .nil))) .nil) ?_⟩
  simp [madeR,e]
theorem rcmp_says (ws vs:List Int)(hl:ws.length<10000000000000)(hl2:vs.length<10000000000000)(h:Wd ws)(h2:Wd vs)(ht:Tr ws)(ht2:Tr vs):Says E 143 [pW ws,pW vs] (vZ (cmpI (val ws) (val vs))):=by
 refine says_of (xs:=[vZ (cmpI (val ws) (val vs))]) Tryz.func143 rfl Tryz.ntmps143 Tryz.results143 sM fun F hG hX0 hnt hdf P0=>?_
 obtain ⟨L,hX,hN⟩:=pro hnt hX0 hG
 refine exr (aV L rfl (zn [(0,_),(1,_)] [] t2 trivial (ex_seq (exr (mV L rfl (sw (c_ln un43 L) t1 t0 (mV L rfl (sw (c_ln un43 L) t1 t0 (sw (c_n L) t2 t0 (zn [(0,_),(1,_),(10,_)] [] t3 trivial ?_))))))))))
 refine ex_if rfl (fun hc=>?_) (fun hc=>?_)
 ·have hc:=ndt hc
  refine ex_seq (exr (mV L rfl (sw (c_ln un43 L) t1 t0 (mV L rfl (sw (c_ln un43 L) t1 t0 (sw (c_ls L) t2 t0 (zn [(15,_)] [] t1 trivial ?_)))))))
  refine ex_if rfl (fun hd=>?_) (fun hd=>?_)
  ·have hd:=dt hd
   refine exr (aV L rfl (zn [(4,_)] [] t1 trivial (ex_ret ?_)))
   refine ⟨.inr rfl,ResVs.cast (.cons (.tmp rfl) .nil) ?_⟩
   rw [cmpI_len h h2 ht ht2 oM,if_pos oM]
  ·have hd:=df hd
   refine ex_skip (xq ?_)
   refine exr (aV L rfl (zn [(4,_)] [] t1 trivial (ex_ret ?_)))
   refine ⟨.inr rfl,ResVs.cast (.cons (.tmp rfl) .nil) ?_⟩
   rw [cmpI_len h h2 ht ht2 oM,if_neg oM]
 ·have hc:=ndf hc
  refine ex_skip (xq ?_)
  refine ex_seq (exr (mV L rfl (sw (c_ln un43 L) t1 t0 (sw (c_su L (w64 oM oM)) t2 t0 (aV L rfl (zn [(0,_),(1,_),(5,_)] [] t3 trivial (ex_block ?_)))))))
  refine exl (α:=Nat) (fun n=>[(5,vi ((n:Int) - 1))]) (fun n=>[]) (fun n=>n≤ws.length∧ws.drop n=vs.drop n) (fun n=>n) (ws.length) (sl:=[(0,_),(1,_)]) (hb:=[]) ?_ ⟨oR,rfl,rfl,trivial⟩ t0 ?_
  ·exact ⟨Nat.le_refl _,by rw [List.drop_length,List.drop_of_length_le oM]⟩
  intro n hn
  refine ex_seq (exr (mV L rfl (sw (c_ge L) t2 t0 (zn [(0,_),(1,_),(5,_),(20,_)] [] t4 trivial ?_))))
  refine ex_if rfl (fun hd=>?_) (fun hd=>?_)
  ·have hd:=dt hd
   have hs:n - 1+1=n:=by omega
   refine ex_skip (xq ?_)
   refine ex_seq (ex_block (ex_seq (exd rF ?_)))
   refine mV L rfl (mV L rfl (sw (ixJ un43 sz119 (j:=n - 1) rO oM sM L) t2 t0 ?_))
   refine sw (c_li ag119 (by first | exact getW oM | rfl) L) t1 t0 ?_
   refine mV L rfl (mV L rfl (sw (ixJ un43 sz119 (j:=n - 1) rO oM sM L) t2 t0 ?_))
   refine sw (c_li ag119 (by first | exact getW oM | rfl) L) t1 t0 ?_
   refine sw (c_ls L) t2 t0 ?_
   refine seq_nil ⟨aoks [⟨[0],[],[23],[]⟩,⟨[5],[],[24],[]⟩,⟨[23,24],[],[25],[]⟩,⟨[25],[],[26],[]⟩,⟨[1],[],[27],[]⟩,⟨[5],[],[28],[]⟩,⟨[27,28],[],[29],[]⟩,⟨[29],[],[30],[]⟩,⟨[26,30],[],[31],[]⟩] rF rF dC,[(0,_),(1,_),(5,_),(31,_)],[],t4,trivial,?_⟩
   refine ex_if rfl (fun he=>?_) (fun he=>?_)
   ·have he:=dt he
    refine exr (aV L rfl (zn [(4,_)] [] t1 trivial (ex_ret ?_)))
    refine ⟨.inr rfl,ResVs.cast (.cons (.tmp rfl) .nil) ?_⟩
    rw [cmpI_drop h h2 oM (i:=n - 1) oM (by rw [hs]; exact hn.2) oM,if_pos he]
   ·have he:=df he
    refine ex_skip (xq ?_)
    refine exd rF ?_
    refine mV L rfl (mV L rfl (sw (ixJ un43 sz119 (j:=n - 1) rO oM sM L) t2 t0 ?_))
    refine sw (c_li ag119 (by first | exact getW oM | rfl) L) t1 t0 ?_
    refine mV L rfl (mV L rfl (sw (ixJ un43 sz119 (j:=n - 1) rO oM sM L) t2 t0 ?_))
    refine sw (c_li ag119 (by first | exact getW oM | rfl) L) t1 t0 ?_
    refine sw (c_gt L) t2 t0 ?_
    refine seq_nil ⟨aoks [⟨[0],[],[32],[]⟩,⟨[5],[],[33],[]⟩,⟨[32,33],[],[34],[]⟩,⟨[34],[],[35],[]⟩,⟨[1],[],[36],[]⟩,⟨[5],[],[37],[]⟩,⟨[36,37],[],[38],[]⟩,⟨[38],[],[39],[]⟩,⟨[35,39],[],[40],[]⟩] rF rF dC,[(0,_),(1,_),(5,_),(40,_)],[],t4,trivial,?_⟩
    refine ex_if rfl (fun hf=>?_) (fun hf=>?_)
    ·have hf:=dt hf
     refine exr (aV L rfl (zn [(4,_)] [] t1 trivial (ex_ret ?_)))
     refine ⟨.inr rfl,ResVs.cast (.cons (.tmp rfl) .nil) ?_⟩
     rw [cmpI_drop h h2 oM (i:=n - 1) oM (by rw [hs]; exact hn.2) oM,if_neg he]
    ·have hf:=df hf
     refine ex_skip (xq ?_)
     refine exr0 (mV L rfl (sw (c_su L (w64 oM oM)) t2 t0 (aV L rfl (seq_nil ?_))))
     exact ⟨n - 1,⟨by omega,drop_eq_succ oM oM (by rw [hs]; exact hn.2) oM⟩,by omega,le_of ⟨oR,rfl,rfl,trivial⟩ trivial⟩
  ·have hd:=df hd
   have h3:n=0:=by omega
   subst h3
   refine ex_exit (xq ?_)
   refine exr (aV L rfl (zn [(4,_)] [] t1 trivial (ex_ret ?_)))
   refine ⟨.inr rfl,ResVs.cast (.cons (.tmp rfl) .nil) ?_⟩
   have e:ws=vs:=by simpa using hn.2
   rw [e,cmpI_self]
theorem rof_says (n:Int)(h0 : -9223372036854775808≤n)(h1:n<9223372036854775808):Says E 119 [vZ n] (pZ n):=by
 refine says_of (xs:=[pZ n]) Tryz.func119 rfl Tryz.ntmps119 Tryz.results119 sM fun F hG hX0 hnt hdf P0=>?_
 obtain ⟨L,hX,hN⟩:=pro hnt hX0 hG
 refine exr (swb (c_al (k:=2) (n:=2) zv45 (.cons rfl (.cons rfl .nil)) rfl (P0 _ rfl) L) t0 t0 ⟨rfl,rfl⟩ (zn [(0,_),(2,_)] [(2,_)] t2 t1 (exr (mV L rfl (sw (c_cv un3 un127 L wu64) t1 t0 (aV L rfl (zn [(0,_),(2,_),(3,_)] [(2,_)] t3 t1 (ex_seq (exr (mV L rfl (sw (c_ls L) t2 t0 ?_)))))))))))
 refine zn [(0,_),(2,_),(3,_),(7,_)] [(2,_)] t4 t1 ?_
 refine ex_if rfl (fun hc=>?_) (fun hc=>?_)
 ·have hc:=dt hc
  refine exr0 (mV L rfl (sw (c_ng L (show _ = -n by rw [wu64]; omega)) t1 t0 ?_))
  refine aV L rfl (seq_nil (exr (mV L rfl (sw (c_ls L) t2 t0 (mV L rfl (sw (c_cv un127 un119 L wu32) t1 t0 (mV L rfl (sw (c_sr L dC (shrE (c:=4294967296) rF dC)) t2 t0 ?_))))))))
  refine sw (c_cv un127 un119 L wu32) t1 t0 (sw (c_bI (vs:=[_,_]) un43 ti119 rfl rfl dC dC rfl (zs_made (.cons rfl .nil) rfl) rfl (.cons rfl (.atom rfl) rfl pu1 (.cons rfl (.atom rfl) rfl (.skip pu1) .nil)) (.cons (.cons .nil)) L) t2 t0 (cK hG hX cl122 hN (rmade_says (decide (n<0)) [-n % 4294967296,-n / 4294967296 % 4294967296] sM (by simp [Wd]; omega)) L t2 ?_))
  refine sb (c_sm sz45 rF pa2 rfl pu2) t2 t1 ?_
  refine zn [(2,_)] [(2,_)] t1 t1 (ex_ret ?_)
  refine ⟨.inr rfl,ResVs.cast (.cons (.agg rfl rfl rfl ag45 sz45 (.cons (.cons .nil))) .nil) ?_⟩
  have:val [-n % 4294967296,-n / 4294967296 % 4294967296] = -n:=by simp only [val]; omega
  rw [this]; simp [sg,hc]
 ·have hc:=df hc
  refine ex_skip (xq ?_)
  refine exr (mV L rfl (sw (c_ls L) t2 t0 (mV L rfl (sw (c_cv un127 un119 L wu32) t1 t0 (mV L rfl (sw (c_sr L dC (shrE (c:=4294967296) rF dC)) t2 t0 ?_))))))
  refine sw (c_cv un127 un119 L wu32) t1 t0 (sw (c_bI (vs:=[_,_]) un43 ti119 rfl rfl dC dC rfl (zs_made (.cons rfl .nil) rfl) rfl (.cons rfl (.atom rfl) rfl pu1 (.cons rfl (.atom rfl) rfl (.skip pu1) .nil)) (.cons (.cons .nil)) L) t2 t0 (cK hG hX cl122 hN (rmade_says (decide (n<0)) [n % 18446744073709551616 % 4294967296,n % 18446744073709551616 / 4294967296 % 4294967296] sM (by simp [Wd]; omega)) L t2 ?_))
  refine sb (c_sm sz45 rF pa2 rfl pu2) t2 t1 ?_
  refine zn [(2,_)] [(2,_)] t1 t1 (ex_ret ?_)
  refine ⟨.inr rfl,ResVs.cast (.cons (.agg rfl rfl rfl ag45 sz45 (.cons (.cons .nil))) .nil) ?_⟩
  have:val [n % 18446744073709551616 % 4294967296,n % 18446744073709551616 / 4294967296 % 4294967296]=n:=by simp only [val]; omega
  rw [this]; simp [sg,hc]
theorem rsign_says (neg:Bool)(ws:List Int)(hl:ws.length<10000000000000)(h:Wd ws):Says E 78 [pI neg ws] (vZ (if canon neg ws=true then (sg neg (val ws)).sign else 0)):=by
 refine says_of (xs:=[vZ (if canon neg ws=true then (sg neg (val ws)).sign else 0)]) Tryz.func78 rfl Tryz.ntmps78 Tryz.results78 sM fun F hG hX0 hnt hdf P0=>?_
 obtain ⟨L,hX,hN⟩:=pro hnt hX0 hG
 refine exr (swb (c_bx (k:=1) (n:=2) pa2 rfl rfl (P0 _ rfl) L) t1 t0 ⟨rfl,rfl⟩ (aV L rfl (zn [(1,_)] [(1,_)] t1 t1 (ex_seq ?_))))
 refine exm (sl:=[(11,vb (!(canon neg ws && !decide (ws.length=0))))]) (sl0:=[(1,_)]) (hb:=[]) (hb0:=[(1,_)]) t1 t1 ?_ ?_
 ·by_cases hc:canon neg ws=true
  ·refine lp2 ag45 sz45 L rfl rfl (cK hG hX cl77 hN (ris_says neg ws hl) L t1 (sw (c_no L) t1 t0 (mV L rfl (swg (g:=6) rfl (by simp [hc]) (c_fa un45 rfl sz43 dC rX L) rfl t1 t1 ?_))))
   refine swg (g:=6) rfl (by simp [hc]) (c_l1 ag43 rF rF L) rfl t1 t1 ?_
   refine swg (g:=6) rfl (by simp [hc]) (c_ln un43 L) rfl t1 t0 ?_
   refine swg (g:=6) rfl (by simp [hc]) (c_e L) rfl t2 t0 ?_
   refine sw (c_pf (by simp [hc]) L) t2 t0 ?_
   exact seq_nil ⟨⟨ob rfl (by simp [hc]),rfl,trivial⟩,t1⟩
  ·refine lp2 ag45 sz45 L rfl rfl (cK hG hX cl77 hN (ris_says neg ws hl) L t1 (sw (c_no L) t1 t0 (mV L rfl (swn (g:=6) rfl (by simp [hc]) L rfl ?_))))
   refine swn (g:=6) rfl (by simp [hc]) L rfl ?_
   refine swn (g:=6) rfl (by simp [hc]) L rfl ?_
   refine swn (g:=6) rfl (by simp [hc]) L rfl ?_
   refine sw (c_pt (by simp [hc]) L) t2 t0 ?_
   exact seq_nil ⟨⟨ob rfl (by simp [hc]),rfl,trivial⟩,t1⟩
 refine ex_if rfl (fun hd=>?_) (fun hd=>?_)
 ·refine exr (aV L rfl (zn [(2,_)] [] t1 trivial (ex_ret ?_)))
  refine ⟨.inr rfl,ResVs.cast (.cons (.tmp rfl) .nil) ?_⟩
  have hd:canon neg ws=true→ws=[]:=by intro hc; simpa [hc] using hd
  split
  ·rename_i hc; rw [hd hc]; cases neg <;> simp [sg,val]
  ·rfl
 ·have hd:canon neg ws=true∧¬ ws=[]:=by simpa using hd
  have hv:=val_nonneg h
  have hv2:val ws≠0:=fun e=>hd.2 (val_eq_zero h (canon_tr hd.1).1 e)
  refine ex_skip (xq ?_)
  refine ex_seq (exr (sw (c_fa un45 rfl sz4 dC rX L) t1 t1 ?_))
  refine sw (c_l1 ag4 rF rF L) t1 t1 ?_
  refine zn [(13,_)] [] t1 trivial ?_
  refine ex_if rfl (fun hn=>?_) (fun hn=>?_)
  ·refine exr (aV L rfl (zn [(2,_)] [] t1 trivial (ex_ret ?_)))
   refine ⟨.inr rfl,ResVs.cast (.cons (.tmp rfl) .nil) ?_⟩
   rw [if_pos hd.1,hn,sg,if_pos rfl,Int.sign_eq_neg_one_of_neg oM]
  ·refine ex_skip (xq ?_)
   refine exr (aV L rfl (zn [(2,_)] [] t1 trivial (ex_ret ?_)))
   refine ⟨.inr rfl,ResVs.cast (.cons (.tmp rfl) .nil) ?_⟩
   rw [if_pos hd.1,hn,sg]
   simp only [Bool.false_eq_true,if_false]
   rw [Int.sign_eq_one_of_pos oM]
theorem rneg_says (neg:Bool)(ws:List Int)(hl:ws.length<10000000000000)(h:Wd ws):Says E 105 [pI neg ws] (pZ (if canon neg ws=true then -(sg neg (val ws)) else 0)):=by
 refine says_of (xs:=[pZ (if canon neg ws=true then -(sg neg (val ws)) else 0)]) Tryz.func105 rfl Tryz.ntmps105 Tryz.results105 sM fun F hG hX0 hnt hdf P0=>?_
 obtain ⟨L,hX,hN⟩:=pro hnt hX0 hG
 refine exr (swb (c_bx (k:=1) (n:=2) pa2 rfl rfl (P0 _ rfl) L) t1 t0 ⟨rfl,rfl⟩ (swb (c_al (k:=2) (n:=2) zv45 (.cons rfl (.cons rfl .nil)) rfl (P0 _ rfl) L) t0 t0 ⟨rfl,rfl⟩ (zn [(1,_),(2,_)] [(1,_),(2,_)] t2 t2 (ex_seq (exr (lp2 ag45 sz45 L rfl rfl (cK hG hX cl77 hN (ris_says neg ws hl) L t1 (sw (c_no L) t1 t0 (zn [(1,_),(2,_),(5,_)] [(1,_),(2,_)] t3 t2 ?_)))))))))
 refine ex_if rfl (fun hc=>?_) (fun hc=>?_)
 ·have hc:canon neg ws=false:=by simpa using hc
  refine exr (sw (c_pc (c_bp (vs:=[]) un45 zv45 (.cons rfl (.cons rfl .nil)) ((Places.cons sz4 (Places.cons sz43 Places.nil))).to rfl .nil (.cons (.cons .nil)) L) (.agg (.cons .same (.cons .nil .nil)))) t0 t0 (sb (c_sm sz45 rF pa2 rfl pu2) t2 t1 ?_))
  refine zn [(2,_)] [(2,_)] t1 t1 (ex_ret ?_)
  refine ⟨.inr rfl,ResVs.cast (.cons (.agg rfl rfl rfl ag45 sz45 (.cons (.cons .nil))) .nil) ?_⟩
  simp [hc,pZ,digs_zero]; rfl
 ·have hc:canon neg ws=true:=by simpa using hc
  refine ex_skip (xq ?_)
  refine exr (sw (c_fa un45 rfl sz4 dC rX L) t1 t1 ?_)
  refine sw (c_l1 ag4 rF rF L) t1 t1 ?_
  refine sw (c_no L) t1 t0 (sw (c_fa un45 rfl sz43 dC rX L) t1 t1 ?_)
  refine sw (c_l1 ag43 rF rF L) t1 t1 ?_
  refine cK hG hX cl122 hN (rmade_says (!neg) ws hl h) L t2 (sb (c_sm sz45 rF pa2 rfl pu2) t2 t1 ?_)
  refine zn [(2,_)] [(2,_)] t1 t1 (ex_ret ?_)
  refine ⟨.inr rfl,ResVs.cast (.cons (.agg rfl rfl rfl ag45 sz45 (.cons (.cons .nil))) .nil) ?_⟩
  rw [if_pos hc]; cases neg <;> simp [sg]
theorem rabs_says (neg:Bool)(ws:List Int)(hl:ws.length<10000000000000)(h:Wd ws):Says E 117 [pI neg ws] (pZ (if canon neg ws=true then ((sg neg (val ws)).natAbs:Int) else 0)):=by
 refine says_of (xs:=[pZ (if canon neg ws=true then ((sg neg (val ws)).natAbs:Int) else 0)]) Tryz.func117 rfl Tryz.ntmps117 Tryz.results117 sM fun F hG hX0 hnt hdf P0=>?_
 obtain ⟨L,hX,hN⟩:=pro hnt hX0 hG
 refine exr (swb (c_bx (k:=1) (n:=2) pa2 rfl rfl (P0 _ rfl) L) t1 t0 ⟨rfl,rfl⟩ (swb (c_al (k:=2) (n:=2) zv45 (.cons rfl (.cons rfl .nil)) rfl (P0 _ rfl) L) t0 t0 ⟨rfl,rfl⟩ (zn [(1,_),(2,_)] [(1,_),(2,_)] t2 t2 (ex_seq (exr (lp2 ag45 sz45 L rfl rfl (cK hG hX cl77 hN (ris_says neg ws hl) L t1 (sw (c_no L) t1 t0 (zn [(1,_),(2,_),(5,_)] [(1,_),(2,_)] t3 t2 ?_)))))))))
 refine ex_if rfl (fun hc=>?_) (fun hc=>?_)
 ·have hc:canon neg ws=false:=by simpa using hc
  refine exr (sw (c_pc (c_bp (vs:=[]) un45 zv45 (.cons rfl (.cons rfl .nil)) ((Places.cons sz4 (Places.cons sz43 Places.nil))).to rfl .nil (.cons (.cons .nil)) L) (.agg (.cons .same (.cons .nil .nil)))) t0 t0 (sb (c_sm sz45 rF pa2 rfl pu2) t2 t1 ?_))
  refine zn [(2,_)] [(2,_)] t1 t1 (ex_ret ?_)
  refine ⟨.inr rfl,ResVs.cast (.cons (.agg rfl rfl rfl ag45 sz45 (.cons (.cons .nil))) .nil) ?_⟩
  simp [hc,pZ,digs_zero]; rfl
 ·have hc:canon neg ws=true:=by simpa using hc
  refine ex_skip (xq ?_)
  refine exr (sw (c_fa un45 rfl sz43 dC rX L) t1 t1 ?_)
  refine sw (c_l1 ag43 rF rF L) t1 t1 ?_
  refine cK hG hX cl122 hN (rmade_says false ws hl h) L t2 (sb (c_sm sz45 rF pa2 rfl pu2) t2 t1 ?_)
  refine zn [(2,_)] [(2,_)] t1 t1 (ex_ret ?_)
  refine ⟨.inr rfl,ResVs.cast (.cons (.agg rfl rfl rfl ag45 sz45 (.cons (.cons .nil))) .nil) ?_⟩
  have e:((sg neg (val ws)).natAbs:Int)=sg false (val ws):=by have:=val_nonneg h; cases neg <;> simp [sg] <;> omega
  rw [if_pos hc,e]
theorem add32_says (x y c:Int)(hx:0≤x∧x<4294967296)(hy:0≤y∧y<4294967296)(hc:0≤c∧c≤1):Says E 171 [oZ x,oZ y,oZ c] (.tup [oZ ((x+y+c) % 4294967296),oZ ((x+y+c) / 4294967296)]):=by
 refine says_of (xs:=[oZ ((x+y+c) % 4294967296),oZ ((x+y+c) / 4294967296)]) Tryz.func171 rfl Tryz.ntmps171 Tryz.results171 sM fun F hG hX0 hnt hdf P0=>?_
 obtain ⟨L,hX,hN⟩:=pro hnt hX0 hG
 refine exr (aV L rfl (aV L rfl (zn [(0,_),(1,_),(2,_)] [] t3 trivial (exr (mV L rfl (sw (c_cv un119 un127 L (fu64 oM oM)) t1 t0 (mV L rfl (sw (c_cv un119 un127 L (fu64 oM oM)) t1 t0 (sw (c_ad L (fu64 oM oM)) t2 t0 (mV L rfl (sw (c_cv un119 un127 L (fu64 oM oM)) t1 t0 ?_)))))))))))
 refine sw (c_ad L (fu64 oM oM)) t2 t0 (aV L rfl (zn [(8,_)] [] t1 trivial (exr (mV L rfl (sw (c_cv un127 un119 L wu32) t1 t0 (aV L rfl (zn [(6,_),(8,_)] [] t2 trivial (exr (mV L rfl (sw (c_sr L dC (shrE (c:=4294967296) rF dC)) t2 t0 ?_))))))))))
 refine sw (c_cv un127 un119 L (fu32 oM oM)) t1 t0 (aV L rfl (zn [(6,_),(7,_)] [] t2 trivial (ex_ret ?_)))
 refine ⟨.inr rfl,ResVs.cast (.cons (.tmp rfl) (.cons (.tmp rfl) .nil)) ?_⟩
 rfl
theorem plus1_says (x y c:Int)(hx:0≤x∧x<4294967296)(hy:0≤y∧y<4294967296)(hc:0≤c∧c≤1):SaysX E 173 [.p (oZ x),.p (oZ y),.at_ 1000 0 1] [(1000,⟨119,1,.mix [.p (oZ c)]⟩)] [(1000,⟨119,1,.mix [.p (oZ ((x+y+c) / 4294967296))]⟩)] (oZ ((x+y+c) % 4294967296)):=by
 refine saysX_of (xs:=[oZ ((x+y+c) % 4294967296)]) Tryz.func173 rfl Tryz.ntmps173 Tryz.results173 sM rfl (sub_of rfl) fun F hG hX hnt hdf P0 hXp=>?_
 have L:=@lti _ _ hnt
 have hN:=ng_le hG
 refine exr (aV L rfl (zn [(0,_),(1,_),(2,_)] [(1000,_)] t3 t1 (exr (mV L rfl (mV L rfl (sw (c_l1 ag119 rF rF L) t1 t1 ?_))))))
 refine cK hG hX cl171 hN (add32_says x y c hx hy hc) L t3 (mV L rfl (sw (c_ex rfl L) t1 t0 (sw (c_ex rfl L) t1 t0 (aV L rfl (aV L rfl (zn [(2,_),(6,_),(7,_)] [(1000,_)] t3 t1 (exr (mV L rfl (sb (c_sm sz119 rF (.atom rfl) rfl pu1) t2 t1 ?_)))))))))
 refine zn [(6,_)] [(1000,_)] t1 t1 (exr (mV L rfl (aV L rfl (zn [(5,_)] [(1000,_)] t1 t1 (ex_ret ?_)))))
 refine ⟨.inr rfl,ResVs.cast (.cons (.tmp rfl) .nil) ?_,t1⟩
 rfl
theorem word_says (neg:Bool)(ws:List Int)(hl:ws.length<10000000000000)(h:Wd ws):Says E 162 [.a (.bool neg),pW ws] (.tup [vZ (if ws.length≤1 then sg neg (val ws) else 0),bZ (decide (ws.length≤1))]):=by
 refine says_of (xs:=[vZ (if ws.length≤1 then sg neg (val ws) else 0),bZ (decide (ws.length≤1))]) Tryz.func162 rfl Tryz.ntmps162 Tryz.results162 sM fun F hG hX0 hnt hdf P0=>?_
 obtain ⟨L,hX,hN⟩:=pro hnt hX0 hG
 refine exr (aV L rfl (aV L rfl (zn [(0,_),(1,_)] [] t2 trivial (ex_seq (exr (mV L rfl (sw (c_ln un43 L) t1 t0 (sw (c_gt L) t2 t0 (zn [(0,_),(1,_),(9,_)] [] t3 trivial ?_)))))))))
 refine ex_if rfl (fun hc=>?_) (fun hc=>?_)
 ·have hc:=dt hc
  refine exr (aV L rfl (aV L rfl (zn [(4,_),(5,_)] [] t2 trivial (ex_ret ?_))))
  refine ⟨.inr rfl,ResVs.cast (.cons (.tmp rfl) (.cons (.tmp rfl) .nil)) ?_⟩
  rw [if_neg oM,decide_eq_false oM]
 ·have hc:=df hc
  refine ex_skip (xq ?_)
  refine exr (aV L rfl (zn [(0,_),(1,_),(6,_)] [] t3 trivial (ex_seq (exr (mV L rfl (sw (c_ln un43 L) t1 t0 (sw (c_e L) t2 t0 (zn [(0,_),(1,_),(6,_),(12,_)] [] t4 trivial ?_))))))))
  refine ex_cut (sl:=[(6,vi (val ws))]) (sl0:=[(0,_)]) (hb:=[]) (hb0:=[]) t1 t0 ?_ ?_
  ·refine ex_if rfl (fun hd=>?_) (fun hd=>?_)
   ·have hd:=dt hd
    have hw:=h.get (i:=0) oM
    refine exr0 (mV L rfl (sw (ixJ un43 sz119 (j:=0) rfl oM sM L) t2 t0 ?_))
    refine sw (c_li ag119 (by first | exact getW oM | rfl) L) t1 t0 ?_
    refine sw (c_cv un119 un2 L (w64 oM oM)) t1 t0 (aV L rfl (seq_nil ?_))
    exact ⟨⟨oi (val_one oM) rfl,oR,trivial⟩,trivial⟩
   ·have hd:=df hd
    have e:ws=[]:=List.eq_nil_of_length_eq_zero oM
    refine ex_skip ?_
    exact ⟨⟨oi (by rw [e]; rfl) rfl,oR,trivial⟩,trivial⟩
  ·have hv:=val_nonneg h
   have hv2:=val_lt1 h oM
   refine ex_seq (exr (mV L rfl (zn [(6,_),(17,_)] [] t2 trivial ?_)))
   refine ex_cut (sl:=[(6,vi (sg neg (val ws)))]) (sl0:=[]) (hb:=[]) (hb0:=[]) t0 t0 ?_ ?_
   ·refine ex_if rfl (fun hn=>?_) (fun hn=>?_)
    ·refine exr0 (mV L rfl (sw (c_ng L (w64 oM oM)) t1 t0 (aV L rfl (seq_nil ?_))))
     exact ⟨⟨oi (by rw [hn,sg,if_pos rfl]; omega) rfl,trivial⟩,trivial⟩
    ·refine ex_skip ?_
     exact ⟨⟨oi (by rw [hn]; rfl) rfl,trivial⟩,trivial⟩
   ·refine exr (mV L rfl (aV L rfl (aV L rfl (zn [(4,_),(5,_)] [] t2 trivial (ex_ret ?_)))))
    refine ⟨.inr rfl,ResVs.cast (.cons (.tmp rfl) (.cons (.tmp rfl) .nil)) ?_⟩
    rw [if_pos oM,decide_eq_true oM]
theorem sub32_bv (X Y:BitVec 32)(b:Int)(hb:0≤b∧b≤1):Says E 175 [oZ X.toNat,oZ Y.toNat,oZ b] (.tup [oZ (((X.toNat:Int) - Y.toNat - b) % 4294967296),oZ (if (X.toNat:Int)<Y.toNat+b then 1 else 0)]):=by
 refine says_of (xs:=[oZ (((X.toNat:Int) - Y.toNat - b) % 4294967296),oZ (if (X.toNat:Int)<Y.toNat+b then 1 else 0)]) Tryz.func175 rfl Tryz.ntmps175 Tryz.results175 sM fun F hG hX0 hnt hdf P0=>?_
 obtain ⟨L,hX,hN⟩:=pro hnt hX0 hG
 have hx:=X.isLt
 have hy:=Y.isLt
 obtain ⟨D,hD⟩:∃ D:BitVec 32,(D.toNat:Int)=((X.toNat:Int) - Y.toNat - b) % 4294967296:=⟨BitVec.ofInt 32 ((X.toNat:Int) - Y.toNat - b),by rw [BitVec.toNat_ofInt]; omega⟩
 refine exr (aV L rfl (aV L rfl (zn [(0,_),(1,_),(2,_)] [] t3 trivial (exr (mV L rfl (mV L rfl (sw (c_su L wu32) t2 t0 (mV L rfl (sw (c_su L (show _=(D.toNat:Int) by rw [wu32,hD]; omega)) t2 t0 ?_)))))))))
 refine aV L rfl (zn [(0,_),(1,_),(6,_)] [] t3 trivial (exr (mV L rfl (sw (core_xorU rfl L (bx_not X)) t1 t0 (mV L rfl (sw (c_an L (bx_and (~~~X) Y)) t2 t0 (mV L rfl (mV L rfl (sw (c_x L (bx_xor X Y)) t2 t0 (sw (core_xorU rfl L (bx_not (X ^^^ Y))) t1 t0 (mV L rfl ?_)))))))))))
 refine sw (c_an L (bx_and (~~~(X ^^^ Y)) D)) t2 t0 (sw (c_or L (bx_or (~~~X &&& Y) (~~~(X ^^^ Y) &&& D))) t2 t0 (sw (c_sr L dC (shrE (c:=2147483648) rF dC)) t2 t0 ?_))
 refine aV L rfl (zn [(6,_),(7,_)] [] t2 trivial (ex_ret ?_))
 refine ⟨.inr rfl,ResVs.cast (.cons (.tmp rfl) (.cons (.tmp rfl) .nil)) ?_⟩
 rw [borrow32 X Y b hb D hD,hD]
theorem sub32_says (x y c:Int)(hx:0≤x∧x<4294967296)(hy:0≤y∧y<4294967296)(hc:0≤c∧c≤1):Says E 175 [oZ x,oZ y,oZ c] (.tup [oZ ((x - y - c) % 4294967296),oZ (if x<y+c then 1 else 0)]):=by
 have e:∀ {z:Int},0≤z∧z<4294967296→((BitVec.ofInt 32 z).toNat:Int)=z:=fun {z} hz=>by rw [BitVec.toNat_ofInt]; omega
 have:=sub32_bv (BitVec.ofInt 32 x) (BitVec.ofInt 32 y) c hc
 rwa [e hx,e hy] at this
theorem minus1_says (x y c:Int)(hx:0≤x∧x<4294967296)(hy:0≤y∧y<4294967296)(hc:0≤c∧c≤1):SaysX E 174 [.p (oZ x),.p (oZ y),.at_ 1000 0 1] [(1000,⟨119,1,.mix [.p (oZ c)]⟩)] [(1000,⟨119,1,.mix [.p (oZ (if x<y+c then 1 else 0))]⟩)] (oZ ((x - y - c) % 4294967296)):=by
 refine saysX_of (xs:=[oZ ((x - y - c) % 4294967296)]) Tryz.func174 rfl Tryz.ntmps174 Tryz.results174 sM rfl (sub_of rfl) fun F hG hX hnt hdf P0 hXp=>?_
 have L:=@lti _ _ hnt
 have hN:=ng_le hG
 refine exr (aV L rfl (zn [(0,_),(1,_),(2,_)] [(1000,_)] t3 t1 (exr (mV L rfl (mV L rfl (sw (c_l1 ag119 rF rF L) t1 t1 ?_))))))
 refine cK hG hX cl175 hN (sub32_says x y c hx hy hc) L t3 (mV L rfl (sw (c_ex rfl L) t1 t0 (sw (c_ex rfl L) t1 t0 (aV L rfl (aV L rfl (zn [(2,_),(6,_),(7,_)] [(1000,_)] t3 t1 (exr (mV L rfl (sb (c_sm sz119 rF (.atom rfl) rfl pu1) t2 t1 ?_)))))))))
 refine zn [(6,_)] [(1000,_)] t1 t1 (exr (mV L rfl (aV L rfl (zn [(5,_)] [(1000,_)] t1 t1 (ex_ret ?_)))))
 refine ⟨.inr rfl,ResVs.cast (.cons (.tmp rfl) .nil) ?_,t1⟩
 rfl
theorem zipp_says (ws vs:List Int)(hl:ws.length<10000000000000)(hl2:vs.length<10000000000000)(h:Wd ws)(h2:Wd vs):SaysX E 172 [.p (pW ws),.p (pW vs),.clo (.func 173) [] [.at_ 1000 0 1]] [(1000,⟨119,1,.mix [.p (oZ 0)]⟩)] [(1000,⟨119,1,.mix [.p (oZ 0)]⟩)] (pW (digN (max ws.length vs.length+1) (val ws+val vs))):=by
 refine saysX_of (xs:=[pW (digN (max ws.length vs.length+1) (val ws+val vs))]) Tryz.func172 rfl Tryz.ntmps172 Tryz.results172 sM rfl (sub_of rfl) fun F hG hX hnt hdf P0 hXp=>?_
 have L:=@lti _ _ hnt
 have hN:=ng_le hG
 obtain ⟨n,hn⟩:∃ n,n=max ws.length vs.length+1:=⟨_,rfl⟩
 rw [← hn]
 refine exr (aV L rfl (zn [(0,_),(1,_),(2,_)] [(1000,_)] t3 t1 (exr (mV L rfl (sw (c_ln un43 L) t1 t0 (mV L rfl (sw (c_ln un43 L) t1 t0 (sw (c_mx L) t2 t0 (sw (c_ad L (w64 oM oM)) t2 t0 (aV L rfl ?_))))))))))
 refine seq_nil ⟨[(0,_),(1,_),(2,_),(7,vi (n:Int))],[(1000,_)],⟨rfl,rfl,rfl,oi oM rfl,trivial⟩,t1,?_⟩
 refine exr (mV L rfl (swb (c_mk (k:=19) un43 ti119 rfl rfl rfl rfl rfl rfl (Nat.le_refl _) (by simp [Tryz.t119]; omega) oM (P0 _ rfl) L) t2 t0 ⟨rfl,rfl⟩ ?_))
 refine aV L rfl (zn [(0,_),(1,_),(2,_),(7,_),(8,_)] [(19,_),(1000,_)] t5 t2 (ex_seq (exr (mV L rfl (mV L rfl (zn [(0,_),(1,_),(2,_),(8,_),(20,_),(21,_)] [(19,_),(1000,_)] t6 t2 (ex_block ?_)))))))
 refine exl (α:=(Nat×List Int×Int)) (fun x=>[(21,vi (x.1:Int))]) (fun x=>[(19,⟨119,1,.pure (encW (x.2.1++List.replicate (n - x.1) 0))⟩),(1000,⟨119,1,.mix [.p (oZ x.2.2)]⟩)]) (fun x=>AddAt ws vs n x) (fun x=>n - x.1) (((0:Nat),([]:List Int),(0:Int))) (sl:=[(0,_),(1,_),(2,_),(8,_),(20,_)]) (hb:=[]) ?_ ⟨oR,rfl,rfl,rfl,rfl,rfl,trivial⟩ ⟨obl rfl (by simp [encW]),rfl,trivial⟩ ?_
 ·exact AddAt.zero ws vs n
 intro x hx
 obtain ⟨i,ys,c⟩:=x
 have hlen:=hx.len
 have hle:=hx.le
 have hc0:=hx.c0
 have hc1:=hx.c1
 simp only at hlen hle hc0 hc1
 dsimp only
 have hw:=h.getD i
 have hw2:=h2.getD i
 refine exr (sw (c_ls L) t2 t0 (zn [(0,_),(1,_),(2,_),(8,_),(20,_),(21,_),(22,_)] [(19,_),(1000,_)] t7 t2 (ex_seq ?_)))
 refine ex_if rfl (fun he=>?_) (fun he=>?_)
 ·have he:=dt he
  refine ex_skip (xq ?_)
  refine ex_seq (ex_block (exr (mV L rfl (aV L rfl (zn [(0,_),(1,_),(2,_),(8,_),(9,_),(20,_),(21,_)] [(19,_),(1000,_)] t7 t2 (exr (aV L rfl (aV L rfl (zn [(0,_),(1,_),(2,_),(8,_),(9,_),(10,_),(11,_),(20,_),(21,_)] [(19,_),(1000,_)] t9 t2 (ex_seq (exr ?_)))))))))))
  refine mV L rfl (mV L rfl (sw (c_ln un43 L) t1 t0 (sw (c_ls L) t2 t0 (zn [(0,_),(1,_),(2,_),(8,_),(9,_),(10,_),(11,_),(20,_),(21,_),(27,_)] [(19,_),(1000,_)] t10 t2 ?_))))
  refine ex_cut (sl:=[(10,vu (ws.getD i 0))]) (sl0:=[(0,_),(1,_),(2,_),(8,_),(9,_),(11,_),(20,_),(21,_)]) (hb:=[]) (hb0:=[(19,_),(1000,_)]) t8 t2 ?_ ?_
  ·refine ex_if rfl (fun hd=>?_) (fun hd=>?_)
   ·have hd:=dt hd
    refine exr0 (mV L rfl (mV L rfl (sw (ixJ un43 sz119 (j:=i) rO oM sM L) t2 t0 ?_)))
    refine sw (c_li ag119 (by first | exact getW oM | rfl) L) t1 t0 ?_
    refine aV L rfl (seq_nil ?_)
    exact ⟨⟨oR,oR,oR,oR,oR,oR,oR,oR,oR,trivial⟩,t2⟩
   ·have hd:=df hd
    refine ex_skip ?_
    exact ⟨⟨oi (getD_out oM).symm rfl,oR,oR,oR,oR,oR,oR,oR,oR,trivial⟩,t2⟩
  ·refine ex_seq (exr (mV L rfl (mV L rfl (sw (c_ln un43 L) t1 t0 (sw (c_ls L) t2 t0 (zn [(0,_),(1,_),(2,_),(8,_),(9,_),(10,_),(11,_),(20,_),(21,_),(35,_)] [(19,_),(1000,_)] t10 t2 ?_))))))
   refine ex_cut (sl:=[(11,vu (vs.getD i 0))]) (sl0:=[(0,_),(1,_),(2,_),(8,_),(9,_),(10,_),(20,_),(21,_)]) (hb:=[]) (hb0:=[(19,_),(1000,_)]) t8 t2 ?_ ?_
   ·refine ex_if rfl (fun hd=>?_) (fun hd=>?_)
    ·have hd:=dt hd
     refine exr0 (mV L rfl (mV L rfl (sw (ixJ un43 sz119 (j:=i) rO oM sM L) t2 t0 ?_)))
     refine sw (c_li ag119 (by first | exact getW oM | rfl) L) t1 t0 ?_
     refine aV L rfl (seq_nil ?_)
     exact ⟨⟨oR,oR,oR,oR,oR,oR,oR,oR,oR,trivial⟩,t2⟩
    ·have hd:=df hd
     refine ex_skip ?_
     exact ⟨⟨oi (getD_out oM).symm rfl,oR,oR,oR,oR,oR,oR,oR,oR,trivial⟩,t2⟩
   ·refine exr0 (mV L rfl (mV L rfl (mV L rfl (mV L rfl (mV L rfl (swB (c_cx hG hX [1000] hN (plus1_says (ws.getD i 0) (vs.getD i 0) c hw hw2 ⟨hc0,hc1⟩) rfl (args_clo (fst:=[]) (ys:=[_,_]) (cap:=[_]) cl173 rfl rF) rF rF rF rF (SameH.to (.cons rfl .nil)) rF rF L) t3 t1 ?_))))))
    refine sw (ixR0 un43 sz119 (by exact sO) (j:=i) rO oM L) t2 t1 ?_
    refine sb (c_s1 sz119 (by exact sO) (.atom rfl) oM) t2 t1 ?_
    refine seq_nil (exr0 (sw (c_ad L (w64 oM oM)) t2 t0 (mV L rfl (seq_nil ?_))))
    exact ⟨(i+1,ys++[(ws.getD i 0+vs.getD i 0+c) % 4294967296],(ws.getD i 0+vs.getD i 0+c) / 4294967296),hx.next h h2 oM,(by simp only; omega),le_of ⟨oR,rfl,rfl,rfl,rfl,rfl,trivial⟩ ⟨obl rfl (by rw [encW_set,set_fill hlen oM]),rfl,trivial⟩⟩
 ·have he:=df he
  have hi:i=n:=by omega
  subst hi
  obtain ⟨e1,e2⟩:c=0∧ys=digN i (val ws+val vs):=add_end h h2 hx.wd hlen hn hc0 hx.eq
  subst e1
  refine ex_exit (xq ?_)
  refine exr (mV L rfl (aV L rfl (zn [(6,_)] [(19,_),(1000,_)] t1 t2 (ex_cv [19] (sl:=[(6,_)]) (hb:=[(1000,_)]) (own_of hXp rfl) ⟨⟨_,rfl,(.ref rfl rfl (by exact sO) (by first | rfl | omega))⟩,trivial⟩ ⟨⟨rfl,_,rfl,.same⟩,trivial⟩ ?_))))
  refine ex_ret ?_
  refine ⟨.inr rfl,ResVs.cast (.cons (.tmp rfl) .nil) ?_,t1⟩
  rw [e2]; simp [digN_length]
theorem zipm_says (ws vs:List Int)(hl:ws.length<10000000000000)(hl2:vs.length<10000000000000)(h:Wd ws)(h2:Wd vs)(hle0:val vs≤val ws):SaysX E 172 [.p (pW ws),.p (pW vs),.clo (.func 174) [] [.at_ 1000 0 1]] [(1000,⟨119,1,.mix [.p (oZ 0)]⟩)] [(1000,⟨119,1,.mix [.p (oZ 0)]⟩)] (pW (digN (max ws.length vs.length+1) (val ws - val vs))):=by
 refine saysX_of (xs:=[pW (digN (max ws.length vs.length+1) (val ws - val vs))]) Tryz.func172 rfl Tryz.ntmps172 Tryz.results172 sM rfl (sub_of rfl) fun F hG hX hnt hdf P0 hXp=>?_
 have L:=@lti _ _ hnt
 have hN:=ng_le hG
 obtain ⟨n,hn⟩:∃ n,n=max ws.length vs.length+1:=⟨_,rfl⟩
 rw [← hn]
 refine exr (aV L rfl (zn [(0,_),(1,_),(2,_)] [(1000,_)] t3 t1 (exr (mV L rfl (sw (c_ln un43 L) t1 t0 (mV L rfl (sw (c_ln un43 L) t1 t0 (sw (c_mx L) t2 t0 (sw (c_ad L (w64 oM oM)) t2 t0 (aV L rfl ?_))))))))))
 refine seq_nil ⟨[(0,_),(1,_),(2,_),(7,vi (n:Int))],[(1000,_)],⟨rfl,rfl,rfl,oi oM rfl,trivial⟩,t1,?_⟩
 refine exr (mV L rfl (swb (c_mk (k:=19) un43 ti119 rfl rfl rfl rfl rfl rfl (Nat.le_refl _) (by simp [Tryz.t119]; omega) oM (P0 _ rfl) L) t2 t0 ⟨rfl,rfl⟩ ?_))
 refine aV L rfl (zn [(0,_),(1,_),(2,_),(7,_),(8,_)] [(19,_),(1000,_)] t5 t2 (ex_seq (exr (mV L rfl (mV L rfl (zn [(0,_),(1,_),(2,_),(8,_),(20,_),(21,_)] [(19,_),(1000,_)] t6 t2 (ex_block ?_)))))))
 refine exl (α:=(Nat×List Int×Int)) (fun x=>[(21,vi (x.1:Int))]) (fun x=>[(19,⟨119,1,.pure (encW (x.2.1++List.replicate (n - x.1) 0))⟩),(1000,⟨119,1,.mix [.p (oZ x.2.2)]⟩)]) (fun x=>SubAt ws vs n x) (fun x=>n - x.1) (((0:Nat),([]:List Int),(0:Int))) (sl:=[(0,_),(1,_),(2,_),(8,_),(20,_)]) (hb:=[]) ?_ ⟨oR,rfl,rfl,rfl,rfl,rfl,trivial⟩ ⟨obl rfl (by simp [encW]),rfl,trivial⟩ ?_
 ·exact SubAt.zero ws vs n
 intro x hx
 obtain ⟨i,ys,c⟩:=x
 have hlen:=hx.len
 have hle:=hx.le
 have hc0:=hx.c0
 have hc1:=hx.c1
 simp only at hlen hle hc0 hc1
 dsimp only
 have hw:=h.getD i
 have hw2:=h2.getD i
 refine exr (sw (c_ls L) t2 t0 (zn [(0,_),(1,_),(2,_),(8,_),(20,_),(21,_),(22,_)] [(19,_),(1000,_)] t7 t2 (ex_seq ?_)))
 refine ex_if rfl (fun he=>?_) (fun he=>?_)
 ·have he:=dt he
  refine ex_skip (xq ?_)
  refine ex_seq (ex_block (exr (mV L rfl (aV L rfl (zn [(0,_),(1,_),(2,_),(8,_),(9,_),(20,_),(21,_)] [(19,_),(1000,_)] t7 t2 (exr (aV L rfl (aV L rfl (zn [(0,_),(1,_),(2,_),(8,_),(9,_),(10,_),(11,_),(20,_),(21,_)] [(19,_),(1000,_)] t9 t2 (ex_seq (exr ?_)))))))))))
  refine mV L rfl (mV L rfl (sw (c_ln un43 L) t1 t0 (sw (c_ls L) t2 t0 (zn [(0,_),(1,_),(2,_),(8,_),(9,_),(10,_),(11,_),(20,_),(21,_),(27,_)] [(19,_),(1000,_)] t10 t2 ?_))))
  refine ex_cut (sl:=[(10,vu (ws.getD i 0))]) (sl0:=[(0,_),(1,_),(2,_),(8,_),(9,_),(11,_),(20,_),(21,_)]) (hb:=[]) (hb0:=[(19,_),(1000,_)]) t8 t2 ?_ ?_
  ·refine ex_if rfl (fun hd=>?_) (fun hd=>?_)
   ·have hd:=dt hd
    refine exr0 (mV L rfl (mV L rfl (sw (ixJ un43 sz119 (j:=i) rO oM sM L) t2 t0 ?_)))
    refine sw (c_li ag119 (by first | exact getW oM | rfl) L) t1 t0 ?_
    refine aV L rfl (seq_nil ?_)
    exact ⟨⟨oR,oR,oR,oR,oR,oR,oR,oR,oR,trivial⟩,t2⟩
   ·have hd:=df hd
    refine ex_skip ?_
    exact ⟨⟨oi (getD_out oM).symm rfl,oR,oR,oR,oR,oR,oR,oR,oR,trivial⟩,t2⟩
  ·refine ex_seq (exr (mV L rfl (mV L rfl (sw (c_ln un43 L) t1 t0 (sw (c_ls L) t2 t0 (zn [(0,_),(1,_),(2,_),(8,_),(9,_),(10,_),(11,_),(20,_),(21,_),(35,_)] [(19,_),(1000,_)] t10 t2 ?_))))))
   refine ex_cut (sl:=[(11,vu (vs.getD i 0))]) (sl0:=[(0,_),(1,_),(2,_),(8,_),(9,_),(10,_),(20,_),(21,_)]) (hb:=[]) (hb0:=[(19,_),(1000,_)]) t8 t2 ?_ ?_
   ·refine ex_if rfl (fun hd=>?_) (fun hd=>?_)
    ·have hd:=dt hd
     refine exr0 (mV L rfl (mV L rfl (sw (ixJ un43 sz119 (j:=i) rO oM sM L) t2 t0 ?_)))
     refine sw (c_li ag119 (by first | exact getW oM | rfl) L) t1 t0 ?_
     refine aV L rfl (seq_nil ?_)
     exact ⟨⟨oR,oR,oR,oR,oR,oR,oR,oR,oR,trivial⟩,t2⟩
    ·have hd:=df hd
     refine ex_skip ?_
     exact ⟨⟨oi (getD_out oM).symm rfl,oR,oR,oR,oR,oR,oR,oR,oR,trivial⟩,t2⟩
   ·refine exr0 (mV L rfl (mV L rfl (mV L rfl (mV L rfl (mV L rfl (swB (c_cx hG hX [1000] hN (minus1_says (ws.getD i 0) (vs.getD i 0) c hw hw2 ⟨hc0,hc1⟩) rfl (args_clo (fst:=[]) (ys:=[_,_]) (cap:=[_]) cl174 rfl rF) rF rF rF rF (SameH.to (.cons rfl .nil)) rF rF L) t3 t1 ?_))))))
    refine sw (ixR0 un43 sz119 (by exact sO) (j:=i) rO oM L) t2 t1 ?_
    refine sb (c_s1 sz119 (by exact sO) (.atom rfl) oM) t2 t1 ?_
    refine seq_nil (exr0 (sw (c_ad L (w64 oM oM)) t2 t0 (mV L rfl (seq_nil ?_))))
    exact ⟨(i+1,ys++[(ws.getD i 0 - vs.getD i 0 - c) % 4294967296],if ws.getD i 0<vs.getD i 0+c then 1 else 0),hx.next h h2 oM,(by simp only; omega),le_of ⟨oR,rfl,rfl,rfl,rfl,rfl,trivial⟩ ⟨obl rfl (by rw [encW_set,set_fill hlen oM]),rfl,trivial⟩⟩
 ·have he:=df he
  have hi:i=n:=by omega
  subst hi
  obtain ⟨e1,e2⟩:c=0∧ys=digN i (val ws - val vs):=sub_end h h2 hle0 oM oM hx
  subst e1
  refine ex_exit (xq ?_)
  refine exr (mV L rfl (aV L rfl (zn [(6,_)] [(19,_),(1000,_)] t1 t2 (ex_cv [19] (sl:=[(6,_)]) (hb:=[(1000,_)]) (own_of hXp rfl) ⟨⟨_,rfl,(.ref rfl rfl (by exact sO) (by first | rfl | omega))⟩,trivial⟩ ⟨⟨rfl,_,rfl,.same⟩,trivial⟩ ?_))))
  refine ex_ret ?_
  refine ⟨.inr rfl,ResVs.cast (.cons (.tmp rfl) .nil) ?_,t1⟩
  rw [e2]; simp [digN_length]
theorem plus_says (ws vs:List Int)(hl:ws.length<10000000000000)(hl2:vs.length<10000000000000)(h:Wd ws)(h2:Wd vs):Says E 163 [pW ws,pW vs] (pW (digN (max ws.length vs.length+1) (val ws+val vs))):=by
 refine says_of (xs:=[pW (digN (max ws.length vs.length+1) (val ws+val vs))]) Tryz.func163 rfl Tryz.ntmps163 Tryz.results163 sM fun F hG hX0 hnt hdf P0=>?_
 obtain ⟨L,hX,hN⟩:=pro hnt hX0 hG
 refine exr (aV L rfl (zn [(0,_),(1,_)] [] t2 trivial (exr (swb (c_al (k:=5) (n:=1) zv119 (.cons rfl .nil) rfl (P0 _ rfl) L) t0 t0 ⟨rfl,rfl⟩ (zn [(0,_),(1,_),(5,_)] [(5,_)] t3 t1 (exr (mV L rfl (mV L rfl (sw (c_fn (vs:=[]) (us:=[_]) rfl rfl L) t1 t0 (swB (c_cx hG hX [5] hN (zipp_says ws vs hl hl2 h h2) rfl (args_fn (ys:=[_,_,_]) cl172 rfl rF) rF rF rF rF (SameH.to (.cons rfl .nil)) rF rF L) t3 t1 ?_))))))))))
 refine aV L rfl (zn [(4,_)] [] t1 trivial (ex_ret ?_))
 refine ⟨.inr rfl,ResVs.cast (.cons (.tmp rfl) .nil) ?_⟩
 rfl
theorem minus_says (ws vs:List Int)(hl:ws.length<10000000000000)(hl2:vs.length<10000000000000)(h:Wd ws)(h2:Wd vs)(hle:val vs≤val ws):Says E 164 [pW ws,pW vs] (pW (digN (max ws.length vs.length+1) (val ws - val vs))):=by
 refine says_of (xs:=[pW (digN (max ws.length vs.length+1) (val ws - val vs))]) Tryz.func164 rfl Tryz.ntmps164 Tryz.results164 sM fun F hG hX0 hnt hdf P0=>?_
 obtain ⟨L,hX,hN⟩:=pro hnt hX0 hG
 refine exr (aV L rfl (zn [(0,_),(1,_)] [] t2 trivial (exr (swb (c_al (k:=5) (n:=1) zv119 (.cons rfl .nil) rfl (P0 _ rfl) L) t0 t0 ⟨rfl,rfl⟩ (zn [(0,_),(1,_),(5,_)] [(5,_)] t3 t1 (exr (mV L rfl (mV L rfl (sw (c_fn (vs:=[]) (us:=[_]) rfl rfl L) t1 t0 (swB (c_cx hG hX [5] hN (zipm_says ws vs hl hl2 h h2 hle) rfl (args_fn (ys:=[_,_,_]) cl172 rfl rF) rF rF rF rF (SameH.to (.cons rfl .nil)) rF rF L) t3 t1 ?_))))))))))
 refine aV L rfl (zn [(4,_)] [] t1 trivial (ex_ret ?_))
 refine ⟨.inr rfl,ResVs.cast (.cons (.tmp rfl) .nil) ?_⟩
 rfl
theorem signed_says (ws vs:List Int)(m n:Bool)(hl:ws.length<9999999999999)(hl2:vs.length<9999999999999)(h:Wd ws)(h2:Wd vs)(ht:Tr ws)(ht2:Tr vs):Says E 153 [pW ws,bZ m,pW vs,bZ n] (pZ (sg m (val ws)+sg n (val vs))):=by
 refine says_of (xs:=[pZ (sg m (val ws)+sg n (val vs))]) Tryz.func153 rfl Tryz.ntmps153 Tryz.results153 sM fun F hG hX0 hnt hdf P0=>?_
 obtain ⟨L,hX,hN⟩:=pro hnt hX0 hG
 have hv:=val_nonneg h
 have hv2:=val_nonneg h2
 refine exr (swb (c_al (k:=8) (n:=2) zv45 (.cons rfl (.cons rfl .nil)) rfl (P0 _ rfl) L) t0 t0 ⟨rfl,rfl⟩ (zn [(0,_),(1,_),(2,_),(3,_),(8,_)] [(8,_)] t5 t1 (ex_seq (exr (mV L rfl (mV L rfl (cK hG hX cl162 hN (word_says m ws oM h) L t2 (mV L rfl (sw (c_ex rfl L) t1 t0 (sw (c_ex rfl L) t1 t0 (aV L rfl ?_)))))))))))
 refine aV L rfl (zn [(0,_),(1,_),(2,_),(3,_),(8,_),(9,_),(10,_)] [(8,_)] t7 t1 (exr (mV L rfl (zn [(0,_),(1,_),(2,_),(3,_),(8,_),(9,_),(19,_)] [(8,_)] t7 t1 ?_))))
 refine ex_cut (sl:=[]) (sl0:=[(0,_),(1,_),(2,_),(3,_),(8,_)]) (hb:=[]) (hb0:=[(8,_)]) t5 t1 ?_ ?_
 ·refine ex_if rfl (fun hd=>?_) (fun hd=>?_)
  ·have hd:=dt hd
   have hw:=val_lt1 h hd
   refine exr (mV L rfl (mV L rfl (cK hG hX cl162 hN (word_says n vs oM h2) L t2 (mV L rfl (sw (c_ex rfl L) t1 t0 (sw (c_ex rfl L) t1 t0 (aV L rfl (aV L rfl (zn [(0,_),(1,_),(2,_),(3,_),(8,_),(9,_),(11,_),(12,_)] [(8,_)] t8 t1 (exr (mV L rfl ?_)))))))))))
   refine zn [(0,_),(1,_),(2,_),(3,_),(8,_),(9,_),(11,_),(26,_)] [(8,_)] t8 t1 ?_
   refine ex_if rfl (fun he=>?_) (fun he=>?_)
   ·have he:=dt he
    have hw2:=val_lt1 h2 he
    rw [if_pos hd,if_pos he]
    have b1:=sg_bd m hv hw
    have b2:=sg_bd n hv2 hw2
    refine exr (mV L rfl (mV L rfl (sw (c_ad L (w64 oM oM)) t2 t0 (cK hG hX cl101 hN (of_says (sg m (val ws)+sg n (val vs)) oM oM) L t1 (sb (c_sm sz45 rF pa2 rfl pu2) t2 t1 ?_)))))
    refine zn [(8,_)] [(8,_)] t1 t1 (ex_ret ?_)
    refine ⟨.inr rfl,ResVs.cast (.cons (.agg rfl rfl rfl ag45 sz45 (.cons (.cons .nil))) .nil) ?_⟩
    rfl
   ·refine ex_skip ?_
    exact ⟨⟨oR,oR,oR,oR,oR,trivial⟩,t1⟩
  ·refine ex_skip ?_
   exact ⟨⟨oR,oR,oR,oR,oR,trivial⟩,t1⟩
 ·refine ex_seq (exr (mV L rfl (mV L rfl (sw (c_be un4 L) t2 t0 (zn [(0,_),(1,_),(2,_),(3,_),(8,_),(33,_)] [(8,_)] t6 t1 ?_)))))
  refine ex_if rfl (fun hd=>?_) (fun hd=>?_)
  ·have hd:m=n:=by simpa using hd
   subst hd
   refine exr (mV L rfl (mV L rfl (mV L rfl (cK hG hX cl163 hN (plus_says ws vs oM oM h h2) L t2 (cK hG hX cl131 hN (made_says m (digN (max ws.length vs.length+1) (val ws+val vs)) (by rw [digN_length]; omega) (digN_wd _ _)) L t2 ?_)))))
   refine sb (c_sm sz45 rF pa2 rfl pu2) t2 t1 ?_
   refine zn [(8,_)] [(8,_)] t1 t1 (ex_ret ?_)
   refine ⟨.inr rfl,ResVs.cast (.cons (.agg rfl rfl rfl ag45 sz45 (.cons (.cons .nil))) .nil) ?_⟩
   rw [val_digN oM (pow_max_lt h h2),sg_add]
  ·have hd:m≠n:=by simpa using hd
   refine ex_skip (xq ?_)
   refine ex_seq (exr (mV L rfl (mV L rfl (cK hG hX cl141 hN (compared_says ws vs oM oM h h2 ht ht2) L t2 (sw (c_ge L) t2 t0 (zn [(0,_),(1,_),(2,_),(3,_),(8,_),(42,_)] [(8,_)] t6 t1 ?_))))))
   have hx:val ws<4294967296 ^ (max ws.length vs.length+1):=by have:=pow_max_lt h h2; omega
   have hx2:val vs<4294967296 ^ (max ws.length vs.length+1):=by have:=pow_max_lt h h2; omega
   refine ex_if rfl (fun he=>?_) (fun he=>?_)
   ·have he:=cmpI_ge (dt he)
    refine exr (mV L rfl (mV L rfl (mV L rfl (cK hG hX cl164 hN (minus_says ws vs oM oM h h2 he) L t2 (cK hG hX cl131 hN (made_says m (digN (max ws.length vs.length+1) (val ws - val vs)) (by rw [digN_length]; omega) (digN_wd _ _)) L t2 ?_)))))
    refine sb (c_sm sz45 rF pa2 rfl pu2) t2 t1 ?_
    refine zn [(8,_)] [(8,_)] t1 t1 (ex_ret ?_)
    refine ⟨.inr rfl,ResVs.cast (.cons (.agg rfl rfl rfl ag45 sz45 (.cons (.cons .nil))) .nil) ?_⟩
    rw [val_digN oM oM,sg_sub hd]
   ·have he:=cmpI_lt (df he)
    refine ex_skip (xq ?_)
    refine exr (mV L rfl (mV L rfl (mV L rfl (cK hG hX cl164 hN (minus_says vs ws oM oM h2 h oM) L t2 (cK hG hX cl131 hN (made_says n (digN (max vs.length ws.length+1) (val vs - val ws)) (by rw [digN_length]; omega) (digN_wd _ _)) L t2 ?_)))))
    refine sb (c_sm sz45 rF pa2 rfl pu2) t2 t1 ?_
    refine zn [(8,_)] [(8,_)] t1 t1 (ex_ret ?_)
    refine ⟨.inr rfl,ResVs.cast (.cons (.agg rfl rfl rfl ag45 sz45 (.cons (.cons .nil))) .nil) ?_⟩
    rw [val_digN oM (by rw [Nat.max_comm]; omega),sg_sub hd.symm,Int.add_comm]
theorem add_says (m n:Bool)(ws vs:List Int)(hl:ws.length<9999999999999)(hl2:vs.length<9999999999999)(h:Wd ws)(h2:Wd vs):Says E 140 [pI m ws,pI n vs] (pZ (if canon m ws=true∧canon n vs=true then sg m (val ws)+sg n (val vs) else 0)):=by
 refine says_of (xs:=[pZ (if canon m ws=true∧canon n vs=true then sg m (val ws)+sg n (val vs) else 0)]) Tryz.func140 rfl Tryz.ntmps140 Tryz.results140 sM fun F hG hX0 hnt hdf P0=>?_
 obtain ⟨L,hX,hN⟩:=pro hnt hX0 hG
 refine exr (swb (c_bx (k:=2) (n:=2) pa2 rfl rfl (P0 _ rfl) L) t1 t0 ⟨rfl,rfl⟩ (swb (c_bx (k:=3) (n:=2) pa2 rfl rfl (P0 _ rfl) L) t1 t0 ⟨rfl,rfl⟩ (swb (c_al (k:=4) (n:=2) zv45 (.cons rfl (.cons rfl .nil)) rfl (P0 _ rfl) L) t0 t0 ⟨rfl,rfl⟩ (zn [(2,_),(3,_),(4,_)] [(2,_),(3,_),(4,_)] t3 t3 (ex_seq (exr (lp2 ag45 sz45 L rfl rfl (lp2 ag45 sz45 L rfl rfl (sw (c_bI (vs:=[_,_]) un139 ti45 rfl rfl dC dC rfl (zs_made (.cons rfl (.cons rfl .nil)) rfl) rfl (.cons rfl pa2 rfl pu2 (.cons rfl pa2 rfl (.skip (.skip pu2)) .nil)) (.cons (.cons (.cons (.cons .nil)))) L) t2 t0 (cK hG hX cl138 hN (all_says [(m,ws),(n,vs)] sM sO) L t1 ?_))))))))))
 refine sw (c_no L) t1 t0 (zn [(2,_),(3,_),(4,_),(9,_)] [(2,_),(3,_),(4,_)] t4 t3 ?_)
 refine ex_if rfl (fun hc=>?_) (fun hc=>?_)
 ·have hc:¬ (canon m ws=true∧canon n vs=true):=by rintro ⟨h1,h2⟩; simp [h1,h2] at hc
  refine exr (sw (c_pc (c_bp (vs:=[]) un45 zv45 (.cons rfl (.cons rfl .nil)) ((Places.cons sz4 (Places.cons sz43 Places.nil))).to rfl .nil (.cons (.cons .nil)) L) (.agg (.cons .same (.cons .nil .nil)))) t0 t0 (sb (c_sm sz45 rF pa2 rfl pu2) t2 t1 ?_))
  refine zn [(4,_)] [(4,_)] t1 t1 (ex_ret ?_)
  refine ⟨.inr rfl,ResVs.cast (.cons (.agg rfl rfl rfl ag45 sz45 (.cons (.cons .nil))) .nil) ?_⟩
  rw [if_neg hc,pZ_zero]; rfl
 ·have hc:canon m ws=true∧canon n vs=true:=by simpa using hc
  refine ex_skip (xq ?_)
  refine exr (sw (c_fa un45 rfl sz43 dC rX L) t1 t1 ?_)
  refine sw (c_l1 ag43 rF rF L) t1 t1 ?_
  refine sw (c_fa un45 rfl sz4 dC rX L) t1 t1 ?_
  refine sw (c_l1 ag4 rF rF L) t1 t1 ?_
  refine sw (c_fa un45 rfl sz43 dC rX L) t1 t1 ?_
  refine sw (c_l1 ag43 rF rF L) t1 t1 ?_
  refine sw (c_fa un45 rfl sz4 dC rX L) t1 t1 ?_
  refine sw (c_l1 ag4 rF rF L) t1 t1 ?_
  refine cK hG hX cl153 hN (signed_says ws vs m n hl hl2 h h2 (canon_tr hc.1).1 (canon_tr hc.2).1) L t4 (sb (c_sm sz45 rF pa2 rfl pu2) t2 t1 ?_)
  refine zn [(4,_)] [(4,_)] t1 t1 (ex_ret ?_)
  refine ⟨.inr rfl,ResVs.cast (.cons (.agg rfl rfl rfl ag45 sz45 (.cons (.cons .nil))) .nil) ?_⟩
  rw [if_pos hc]
theorem sub_says (m n:Bool)(ws vs:List Int)(hl:ws.length<9999999999999)(hl2:vs.length<9999999999999)(h:Wd ws)(h2:Wd vs):Says E 161 [pI m ws,pI n vs] (pZ (if canon m ws=true∧canon n vs=true then sg m (val ws) - sg n (val vs) else 0)):=by
 refine says_of (xs:=[pZ (if canon m ws=true∧canon n vs=true then sg m (val ws) - sg n (val vs) else 0)]) Tryz.func161 rfl Tryz.ntmps161 Tryz.results161 sM fun F hG hX0 hnt hdf P0=>?_
 obtain ⟨L,hX,hN⟩:=pro hnt hX0 hG
 refine exr (swb (c_bx (k:=2) (n:=2) pa2 rfl rfl (P0 _ rfl) L) t1 t0 ⟨rfl,rfl⟩ (swb (c_bx (k:=3) (n:=2) pa2 rfl rfl (P0 _ rfl) L) t1 t0 ⟨rfl,rfl⟩ (swb (c_al (k:=4) (n:=2) zv45 (.cons rfl (.cons rfl .nil)) rfl (P0 _ rfl) L) t0 t0 ⟨rfl,rfl⟩ (zn [(2,_),(3,_),(4,_)] [(2,_),(3,_),(4,_)] t3 t3 (ex_seq (exr (lp2 ag45 sz45 L rfl rfl (lp2 ag45 sz45 L rfl rfl (sw (c_bI (vs:=[_,_]) un139 ti45 rfl rfl dC dC rfl (zs_made (.cons rfl (.cons rfl .nil)) rfl) rfl (.cons rfl pa2 rfl pu2 (.cons rfl pa2 rfl (.skip (.skip pu2)) .nil)) (.cons (.cons (.cons (.cons .nil)))) L) t2 t0 (cK hG hX cl138 hN (all_says [(m,ws),(n,vs)] sM sO) L t1 ?_))))))))))
 refine sw (c_no L) t1 t0 (zn [(2,_),(3,_),(4,_),(9,_)] [(2,_),(3,_),(4,_)] t4 t3 ?_)
 refine ex_if rfl (fun hc=>?_) (fun hc=>?_)
 ·have hc:¬ (canon m ws=true∧canon n vs=true):=by rintro ⟨h1,h2⟩; simp [h1,h2] at hc
  refine exr (sw (c_pc (c_bp (vs:=[]) un45 zv45 (.cons rfl (.cons rfl .nil)) ((Places.cons sz4 (Places.cons sz43 Places.nil))).to rfl .nil (.cons (.cons .nil)) L) (.agg (.cons .same (.cons .nil .nil)))) t0 t0 (sb (c_sm sz45 rF pa2 rfl pu2) t2 t1 ?_))
  refine zn [(4,_)] [(4,_)] t1 t1 (ex_ret ?_)
  refine ⟨.inr rfl,ResVs.cast (.cons (.agg rfl rfl rfl ag45 sz45 (.cons (.cons .nil))) .nil) ?_⟩
  rw [if_neg hc,pZ_zero]; rfl
 ·have hc:canon m ws=true∧canon n vs=true:=by simpa using hc
  refine ex_skip (xq ?_)
  refine exr (sw (c_fa un45 rfl sz43 dC rX L) t1 t1 ?_)
  refine sw (c_l1 ag43 rF rF L) t1 t1 ?_
  refine sw (c_fa un45 rfl sz4 dC rX L) t1 t1 ?_
  refine sw (c_l1 ag4 rF rF L) t1 t1 ?_
  refine sw (c_fa un45 rfl sz43 dC rX L) t1 t1 ?_
  refine sw (c_l1 ag43 rF rF L) t1 t1 ?_
  refine sw (c_fa un45 rfl sz4 dC rX L) t1 t1 ?_
  refine sw (c_l1 ag4 rF rF L) t1 t1 ?_
  refine sw (c_no L) t1 t0 (cK hG hX cl153 hN (signed_says ws vs m (!n) hl hl2 h h2 (canon_tr hc.1).1 (canon_tr hc.2).1) L t4 (sb (c_sm sz45 rF pa2 rfl pu2) t2 t1 ?_))
  refine zn [(4,_)] [(4,_)] t1 t1 (ex_ret ?_)
  refine ⟨.inr rfl,ResVs.cast (.cons (.agg rfl rfl rfl ag45 sz45 (.cons (.cons .nil))) .nil) ?_⟩
  rw [if_pos hc,sg_not,Int.sub_eq_add_neg]
theorem times_says (ws vs:List Int)(hl:ws.length<4000000000000)(hl2:vs.length<4000000000000)(h:Wd ws)(h2:Wd vs):Says E 139 [pW ws,pW vs] (pW (digN (ws.length+vs.length) (val ws*val vs))):=by
 refine says_of (xs:=[pW (digN (ws.length+vs.length) (val ws*val vs))]) Tryz.func139 rfl Tryz.ntmps139 Tryz.results139 sM fun F hG hX0 hnt hdf P0=>?_
 obtain ⟨L,hX,hN⟩:=pro hnt hX0 hG
 refine exr (aV L rfl (zn [(0,_),(1,_)] [] t2 trivial (exr (mV L rfl (sw (c_ln un43 L) t1 t0 (mV L rfl (sw (c_ln un43 L) t1 t0 (sw (c_ad L (w64 oM oM)) t2 t0 (swb (c_mk (k:=17) un43 ti119 rfl rfl rfl rfl (show _=((ws.length+vs.length:Nat):Int) by omega) (show _=((ws.length+vs.length:Nat):Int) by omega) (Nat.le_refl _) (by simp [Tryz.t119]; omega) oM (P0 _ rfl) L) t2 t0 ⟨rfl,rfl⟩ ?_)))))))))
 refine aV L rfl (zn [(0,_),(1,_),(5,_)] [(17,_)] t3 t1 (ex_seq (exr (mV L rfl (sw (c_ln un43 L) t1 t0 (mV L rfl (zn [(1,_),(5,_),(18,_),(19,_),(20,_)] [(17,_)] t5 t1 (ex_block ?_))))))))
 refine exl (α:=(Nat×List Int)) (fun x=>[(20,vi (x.1:Int))]) (fun x=>[(17,⟨119,1,.pure (encW x.2)⟩)]) (fun x=>MulAt ws vs x) (fun x=>ws.length - x.1) (((0:Nat),List.replicate (ws.length+vs.length) (0:Int))) (sl:=[(1,_),(5,_),(18,_),(19,_)]) (hb:=[]) ?_ ⟨oR,rfl,rfl,rfl,rfl,trivial⟩ ⟨obl rfl (by rw [encW_rep]),trivial⟩ ?_
 ·exact MulAt.zero ws vs
 intro x hx
 obtain ⟨i,r⟩:=x
 have hlen:=hx.len
 have hle:=hx.le
 simp only at hlen hle
 dsimp only
 refine exr (sw (c_ls L) t2 t0 (zn [(1,_),(5,_),(18,_),(19,_),(20,_),(21,_)] [(17,_)] t6 t1 (ex_seq ?_)))
 refine ex_if rfl (fun he=>?_) (fun he=>?_)
 ·have he:=dt he
  have hw:=h.getD i
  refine ex_skip (xq ?_)
  refine ex_seq (ex_block (exr (mV L rfl (sw (ixJ un43 sz119 (j:=i) rO oM sM L) t2 t0 ?_))))
  refine sw (c_li ag119 (by first | exact getW oM | rfl) L) t1 t0 ?_
  refine aV L rfl (aV L rfl (zn [(1,_),(5,_),(6,_),(7,_),(18,_),(19,_),(20,_)] [(17,_)] t7 t1 (exr (aV L rfl (zn [(1,_),(5,_),(6,_),(7,_),(8,_),(18,_),(19,_),(20,_)] [(17,_)] t8 t1 (ex_seq (exr (mV L rfl (sw (c_ln un43 L) t1 t0 (mV L rfl (zn [(1,_),(5,_),(6,_),(7,_),(8,_),(18,_),(19,_),(20,_),(25,_),(26,_),(27,_)] [(17,_)] t11 t1 ?_)))))))))))
  refine ex_block ?_
  refine exl (α:=(Nat×List Int×Int)) (fun y=>[(27,vi (y.1:Int)),(8,vw y.2.2)]) (fun y=>[(17,⟨119,1,.pure (encW y.2.1)⟩)]) (fun y=>MulIn ws vs i y) (fun y=>vs.length - y.1) (((0:Nat),r,(0:Int))) (sl:=[(1,_),(5,_),(6,_),(7,_),(18,_),(19,_),(20,_),(25,_),(26,_)]) (hb:=[]) ?_ ⟨oR,oR,rfl,rfl,rfl,rfl,rfl,rfl,rfl,rfl,rfl,trivial⟩ t1 ?_
  ·exact MulIn.zero h h2 hx oM
  intro y hy
  obtain ⟨j,s,c⟩:=y
  have hlen2:=hy.len
  have hle2:=hy.le
  have hc0:=hy.c0
  have hc1:=hy.c1
  simp only at hlen2 hle2 hc0 hc1
  dsimp only
  refine exr (sw (c_ls L) t2 t0 (zn [(1,_),(5,_),(6,_),(7,_),(8,_),(18,_),(19,_),(20,_),(25,_),(26,_),(27,_),(28,_)] [(17,_)] t12 t1 (ex_seq ?_)))
  refine ex_if rfl (fun hf=>?_) (fun hf=>?_)
  ·have hf:=dt hf
   have hv:=h2.getD j
   have hb:=mul_bd hw hv
   have hs:=hy.wd.getD (i+j)
   simp only at hs
   obtain ⟨key,k1,k2⟩:=hy.next h h2 oM oM rfl
   refine ex_skip (xq ?_)
   refine ex_seq (ex_block (exr (mV L rfl (sw (ixJ un43 sz119 (j:=j) rO oM sM L) t2 t0 ?_))))
   refine sw (c_li ag119 (by first | exact getW oM | rfl) L) t1 t0 ?_
   refine aV L rfl (aV L rfl (zn [(1,_),(5,_),(6,_),(7,_),(8,_),(9,_),(10,_),(18,_),(19,_),(20,_),(25,_),(26,_),(27,_)] [(17,_)] t13 t1 (exr (mV L rfl (sw (c_cv un119 un127 L (fu64 oM oM)) t1 t0 (mV L rfl (sw (c_cv un119 un127 L (fu64 oM oM)) t1 t0 (sw (c_mu L (fu64 oM oM)) t2 t0 (mV L rfl (mV L rfl (mV L rfl ?_)))))))))))
   refine sw (c_ad L (w64 oM oM)) t2 t0 (sw (ixR0 un43 sz119 (by exact sO) (j:=i+j) rO oM L) t2 t1 ?_)
   refine sw (c_l1 ag119 (by exact sO) (getC (by first | exact getW oM | rfl)) L) t1 t1 ?_
   refine sw (c_cv un119 un127 L (fu64 oM oM)) t1 t0 (sw (c_ad L (fu64 oM oM)) t2 t0 (mV L rfl (sw (c_ad L (fu64 oM oM)) t2 t0 (aV L rfl (zn [(1,_),(5,_),(6,_),(7,_),(9,_),(11,_),(18,_),(19,_),(20,_),(25,_),(26,_),(27,_)] [(17,_)] t12 t1 (exr (mV L rfl (mV L rfl (mV L rfl (sw (c_ad L (w64 oM oM)) t2 t0 (mV L rfl ?_)))))))))))
   refine sw (c_cv un127 un119 L wu32) t1 t0 (sw (ixR0 un43 sz119 (by exact sO) (j:=i+j) rO oM L) t2 t1 ?_)
   refine sb (c_s1 sz119 (by exact sO) (.atom rfl) oM) t2 t1 ?_
   refine zn [(1,_),(5,_),(6,_),(7,_),(11,_),(18,_),(19,_),(20,_),(25,_),(26,_),(27,_)] [(17,_)] t11 t1 (exr0 (mV L rfl (sw (c_sr L dC (shrE (c:=4294967296) rF dC)) t2 t0 ?_)))
   refine aV L rfl (seq_nil (exr0 (sw (c_ad L (w64 oM oM)) t2 t0 (mV L rfl (seq_nil ?_)))))
   exact ⟨(j+1,s.set (i+j) ((ws.getD i 0*vs.getD j 0+s.getD (i+j) 0+c) % 4294967296),(ws.getD i 0*vs.getD j 0+s.getD (i+j) 0+c) / 4294967296),key,(by simp only; omega),le_of ⟨oR,oR,rfl,rfl,rfl,rfl,rfl,rfl,rfl,rfl,rfl,trivial⟩ ⟨obl rfl (by rw [encW_set]),trivial⟩⟩
  ·have hf:=df hf
   have hj:j=vs.length:=by omega
   subst hj
   refine ex_exit (xq ?_)
   refine exr0 (mV L rfl (mV L rfl (mV L rfl (sw (c_ln un43 L) t1 t0 (sw (c_ad L (w64 oM oM)) t2 t0 (mV L rfl (sw (c_cv un127 un119 L (fu32 oM oM)) t1 t0 (sw (ixR0 un43 sz119 (by exact sO) (j:=i+vs.length) rO oM L) t2 t1 ?_))))))))
   refine sb (c_s1 sz119 (by exact sO) (.atom rfl) oM) t2 t1 ?_
   refine seq_nil (exr0 (sw (c_ad L (w64 oM oM)) t2 t0 (mV L rfl (seq_nil ?_))))
   exact ⟨(i+1,s.set (i+vs.length) c),hy.done oM,(by simp only; omega),le_of ⟨oR,rfl,rfl,rfl,rfl,trivial⟩ ⟨obl rfl (by rw [encW_set]),trivial⟩⟩
 ·have he:=df he
  have hi:i=ws.length:=by omega
  subst hi
  have e:r=digN (ws.length+vs.length) (val ws*val vs):=by
   have:=hx.eq
   simp only [List.take_length] at this
   rw [← this,← hlen,digN_val hx.wd]
  refine ex_exit (xq ?_)
  refine exr (mV L rfl (aV L rfl (zn [(4,_)] [(17,_)] t1 t1 (ex_cv [17] (sl:=[(4,_)]) (hb:=[]) (own_none hX0) ⟨⟨_,rfl,(.ref rfl rfl (by exact sO) (by first | rfl | omega))⟩,trivial⟩ t0 ?_))))
  refine ex_ret ?_
  refine ⟨.inr rfl,ResVs.cast (.cons (.tmp rfl) .nil) ?_⟩
  rw [e]; simp [digN_length]
theorem mul_says (m n:Bool)(ws vs:List Int)(hl:ws.length<4000000000000)(hl2:vs.length<4000000000000)(h:Wd ws)(h2:Wd vs):Says E 111 [pI m ws,pI n vs] (pZ (if canon m ws=true∧canon n vs=true then sg m (val ws)*sg n (val vs) else 0)):=by
 refine says_of (xs:=[pZ (if canon m ws=true∧canon n vs=true then sg m (val ws)*sg n (val vs) else 0)]) Tryz.func111 rfl Tryz.ntmps111 Tryz.results111 sM fun F hG hX0 hnt hdf P0=>?_
 obtain ⟨L,hX,hN⟩:=pro hnt hX0 hG
 have hv:=val_nonneg h
 have hv2:=val_nonneg h2
 have hvv:0≤val ws*val vs:=Int.mul_nonneg hv hv2
 refine exr (swb (c_bx (k:=2) (n:=2) pa2 rfl rfl (P0 _ rfl) L) t1 t0 ⟨rfl,rfl⟩ (swb (c_bx (k:=3) (n:=2) pa2 rfl rfl (P0 _ rfl) L) t1 t0 ⟨rfl,rfl⟩ (swb (c_al (k:=4) (n:=2) zv45 (.cons rfl (.cons rfl .nil)) rfl (P0 _ rfl) L) t0 t0 ⟨rfl,rfl⟩ (zn [(2,_),(3,_),(4,_)] [(2,_),(3,_),(4,_)] t3 t3 (ex_seq (exr (lp2 ag45 sz45 L rfl rfl (lp2 ag45 sz45 L rfl rfl (sw (c_bI (vs:=[_,_]) un139 ti45 rfl rfl dC dC rfl (zs_made (.cons rfl (.cons rfl .nil)) rfl) rfl (.cons rfl pa2 rfl pu2 (.cons rfl pa2 rfl (.skip (.skip pu2)) .nil)) (.cons (.cons (.cons (.cons .nil)))) L) t2 t0 (cK hG hX cl138 hN (all_says [(m,ws),(n,vs)] sM sO) L t1 ?_))))))))))
 refine sw (c_no L) t1 t0 (zn [(2,_),(3,_),(4,_),(9,_)] [(2,_),(3,_),(4,_)] t4 t3 ?_)
 refine ex_if rfl (fun hc=>?_) (fun hc=>?_)
 ·have hc:¬ (canon m ws=true∧canon n vs=true):=by rintro ⟨h1,h2⟩; simp [h1,h2] at hc
  refine exr (sw (c_pc (c_bp (vs:=[]) un45 zv45 (.cons rfl (.cons rfl .nil)) ((Places.cons sz4 (Places.cons sz43 Places.nil))).to rfl .nil (.cons (.cons .nil)) L) (.agg (.cons .same (.cons .nil .nil)))) t0 t0 (sb (c_sm sz45 rF pa2 rfl pu2) t2 t1 ?_))
  refine zn [(4,_)] [(4,_)] t1 t1 (ex_ret ?_)
  refine ⟨.inr rfl,ResVs.cast (.cons (.agg rfl rfl rfl ag45 sz45 (.cons (.cons .nil))) .nil) ?_⟩
  rw [if_neg hc,pZ_zero]; rfl
 ·have hc:canon m ws=true∧canon n vs=true:=by simpa using hc
  have es:sg (m != n) (val ws*val vs)=sg m (val ws)*sg n (val vs):=by cases m <;> cases n <;> simp [sg,Int.mul_neg,Int.neg_mul]
  refine ex_skip (xq ?_)
  refine ex_seq ?_
  refine exm (sl:=[(20,vb (decide (ws.length=1∧vs.length=1)))]) (sl0:=[(2,_),(3,_),(4,_)]) (hb:=[]) (hb0:=[(2,_),(3,_),(4,_)]) t3 t3 ?_ ?_
  ·by_cases hd:ws.length=1
   ·refine sw (c_fa un45 rfl sz43 dC rX L) t1 t1 ?_
    refine sw (c_l1 ag43 rF rF L) t1 t1 ?_
    refine sw (c_ln un43 L) t1 t0 (sw (c_e L) t2 t0 (mV L rfl (swg (g:=15) rfl (decide_eq_true oM) (c_fa un45 rfl sz43 dC rX L) rfl t1 t1 ?_)))
    refine swg (g:=15) rfl (decide_eq_true oM) (c_l1 ag43 rF rF L) rfl t1 t1 ?_
    refine swg (g:=15) rfl (decide_eq_true oM) (c_ln un43 L) rfl t1 t0 (swg (g:=15) rfl (decide_eq_true oM) (c_e L) rfl t2 t0 (sw (c_pt (decide_eq_true oM) L) t2 t0 ?_))
    exact seq_nil ⟨⟨ob rfl (dec_eq oM),rfl,rfl,rfl,trivial⟩,t3⟩
   ·refine sw (c_fa un45 rfl sz43 dC rX L) t1 t1 ?_
    refine sw (c_l1 ag43 rF rF L) t1 t1 ?_
    refine sw (c_ln un43 L) t1 t0 (sw (c_e L) t2 t0 (mV L rfl (swn (g:=15) rfl (decide_eq_false oM) L rfl (swn (g:=15) rfl (decide_eq_false oM) L rfl (swn (g:=15) rfl (decide_eq_false oM) L rfl (swn (g:=15) rfl (decide_eq_false oM) L rfl (sw (c_pf (decide_eq_false oM) L) t2 t0 ?_)))))))
    exact seq_nil ⟨⟨ob rfl (by simp [hd]),rfl,rfl,rfl,trivial⟩,t3⟩
  refine ex_if rfl (fun hd=>?_) (fun hd=>?_)
  ·have hd:=dt hd
   have hw:=h.getD 0
   have hw2:=h2.getD 0
   have hb:=mul_bd hw hw2
   refine exd rF ?_
   refine sw (c_fa un45 rfl sz4 dC rX L) t1 t1 ?_
   refine sw (c_l1 ag4 rF rF L) t1 t1 ?_
   refine sw (c_fa un45 rfl sz4 dC rX L) t1 t1 ?_
   refine sw (c_l1 ag4 rF rF L) t1 t1 ?_
   refine sw (c_bn un4 L) t2 t0 (sw (c_fa un45 rfl sz43 dC rX L) t1 t1 ?_)
   refine sw (c_l1 ag43 rF rF L) t1 t1 ?_
   refine sw (ixJ un43 sz119 (j:=0) rfl oM sM L) t2 t0 ?_
   refine sw (c_li ag119 (by first | exact getW oM | rfl) L) t1 t0 ?_
   refine sw (c_cv un119 un127 L (fu64 oM oM)) t1 t0 (sw (c_fa un45 rfl sz43 dC rX L) t1 t1 ?_)
   refine sw (c_l1 ag43 rF rF L) t1 t1 ?_
   refine sw (ixJ un43 sz119 (j:=0) rfl oM sM L) t2 t0 ?_
   refine sw (c_li ag119 (by first | exact getW oM | rfl) L) t1 t0 ?_
   refine sw (c_cv un119 un127 L (fu64 oM oM)) t1 t0 (sw (c_mu L (fu64 oM oM)) t2 t0 (cK hG hX cl129 hN (natural_says (m != n) (ws.getD 0 0*vs.getD 0 0) hb.1 oM) L t2 (sb (c_sm sz45 rF pa2 rfl pu2) t2 t1 ?_)))
   refine seq_nil ⟨aoks [⟨[2],[2],[21],[]⟩,⟨[21],[2],[22],[]⟩,⟨[3],[3],[23],[]⟩,⟨[23],[3],[24],[]⟩,⟨[22,24],[],[25],[]⟩,⟨[2],[2],[26],[]⟩,⟨[26],[2],[27],[]⟩,⟨[27],[],[28],[]⟩,⟨[28],[],[29],[]⟩,⟨[29],[],[30],[]⟩,⟨[3],[3],[31],[]⟩,⟨[31],[3],[32],[]⟩,⟨[32],[],[33],[]⟩,⟨[33],[],[34],[]⟩,⟨[34],[],[35],[]⟩,⟨[30,35],[],[36],[]⟩,⟨[25,36],[],[37],[]⟩,⟨[4,37],[4],[],[4]⟩] rF rF dC,[(4,_)],[(4,_)],t1,t1,?_⟩
   refine ex_ret ?_
   refine ⟨.inr rfl,ResVs.cast (.cons (.agg rfl rfl rfl ag45 sz45 (.cons (.cons .nil))) .nil) ?_⟩
   rw [if_pos hc,val_one hd.1,val_one hd.2,es]
  ·have hd:=df hd
   refine ex_skip (xq ?_)
   refine exd rF ?_
   refine sw (c_fa un45 rfl sz4 dC rX L) t1 t1 ?_
   refine sw (c_l1 ag4 rF rF L) t1 t1 ?_
   refine sw (c_fa un45 rfl sz4 dC rX L) t1 t1 ?_
   refine sw (c_l1 ag4 rF rF L) t1 t1 ?_
   refine sw (c_bn un4 L) t2 t0 (sw (c_fa un45 rfl sz43 dC rX L) t1 t1 ?_)
   refine sw (c_l1 ag43 rF rF L) t1 t1 ?_
   refine sw (c_fa un45 rfl sz43 dC rX L) t1 t1 ?_
   refine sw (c_l1 ag43 rF rF L) t1 t1 ?_
   refine cK hG hX cl139 hN (times_says ws vs hl hl2 h h2) L t2 (cK hG hX cl131 hN (made_says (m != n) (digN (ws.length+vs.length) (val ws*val vs)) (by rw [digN_length]; omega) (digN_wd _ _)) L t2 ?_)
   refine sb (c_sm sz45 rF pa2 rfl pu2) t2 t1 ?_
   refine seq_nil ⟨aoks [⟨[2],[2],[38],[]⟩,⟨[38],[2],[39],[]⟩,⟨[3],[3],[40],[]⟩,⟨[40],[3],[41],[]⟩,⟨[39,41],[],[42],[]⟩,⟨[2],[2],[43],[]⟩,⟨[43],[2],[44],[]⟩,⟨[3],[3],[45],[]⟩,⟨[45],[3],[46],[]⟩,⟨[44,46],[],[47],[]⟩,⟨[42,47],[],[48],[]⟩,⟨[4,48],[4],[],[4]⟩] rF rF dC,[(4,_)],[(4,_)],t1,t1,?_⟩
   refine ex_ret ?_
   refine ⟨.inr rfl,ResVs.cast (.cons (.agg rfl rfl rfl ag45 sz45 (.cons (.cons .nil))) .nil) ?_⟩
   rw [if_pos hc,val_digN hvv (by have:=take_mul_lt h h2 (i:=ws.length) (Nat.le_refl _); rwa [List.take_length] at this),es]
theorem rnative_says (neg:Bool)(ws:List Int)(hl:ws.length<10000000000000)(h:Wd ws)(ht:Tr ws):Says E 118 [pI neg ws] (.tup [vZ (if val ws<4611686018427387904 then sg neg (val ws) else 0),bZ (decide (val ws<4611686018427387904))]):=by
 refine says_of (xs:=[vZ (if val ws<4611686018427387904 then sg neg (val ws) else 0),bZ (decide (val ws<4611686018427387904))]) Tryz.func118 rfl Tryz.ntmps118 Tryz.results118 sM fun F hG hX0 hnt hdf P0=>?_
 obtain ⟨L,hX,hN⟩:=pro hnt hX0 hG
 have hw:=h.getD 0
 have hw1:=h.getD 1
 have hv:=val_nonneg h
 refine exr (swb (c_bx (k:=1) (n:=2) pa2 rfl rfl (P0 _ rfl) L) t1 t0 ⟨rfl,rfl⟩ (aV L rfl (aV L rfl (zn [(1,_)] [(1,_)] t1 t1 (exd rF ?_)))))
 refine sw (c_fa un45 rfl sz43 dC rX L) t1 t1 ?_
 refine sw (c_l1 ag43 rF rF L) t1 t1 ?_
 refine cK hG hX cl145 hN (rword_says ws hl h 0 oM) L t2 (sw (c_fa un45 rfl sz43 dC rX L) t1 t1 ?_)
 refine sw (c_l1 ag43 rF rF L) t1 t1 ?_
 refine cK hG hX cl145 hN (rword_says ws hl h 1 oM) L t2 (sw (c_sl L dC (shlE (c:=4294967296) rF (fu64 oM oM))) t2 t0 ?_)
 refine sw (c_or L (or64 (b:=ws.getD 1 0) 32 rfl hw.1 hw.2 hw1.1 dC oM oM)) t2 t0 (aV L rfl ?_)
 refine seq_nil ⟨aoks [⟨[1],[1],[5],[]⟩,⟨[5],[1],[6],[]⟩,⟨[6],[],[7],[]⟩,⟨[1],[1],[8],[]⟩,⟨[8],[1],[9],[]⟩,⟨[9],[],[10],[]⟩,⟨[10],[],[11],[]⟩,⟨[7,11],[],[12],[]⟩,⟨[12],[],[4],[]⟩] rF rF dC,[(1,_),(4,vw (ws.getD 0 0+ws.getD 1 0*4294967296))],[(1,_)],t2,t1,?_⟩
 refine ex_seq ?_
 refine exm (sl:=[(20,vb (!decide (val ws<4611686018427387904)))]) (sl0:=[(1,_),(4,_)]) (hb:=[]) (hb0:=[(1,_)]) t2 t1 ?_ ?_
 ·by_cases hc:2<ws.length
  ·have hb:=big2 h ht hc
   refine sw (c_fa un45 rfl sz43 dC rX L) t1 t1 ?_
   refine sw (c_l1 ag43 rF rF L) t1 t1 ?_
   refine sw (c_ln un43 L) t1 t0 (sw (c_gt L) t2 t0 (mV L rfl (swn (g:=17) rfl (decide_eq_true oM) L rfl (swn (g:=17) rfl (decide_eq_true oM) L rfl (sw (c_pt (decide_eq_true oM) L) t2 t0 ?_)))))
   exact seq_nil ⟨⟨ob rfl sO,rfl,rfl,trivial⟩,t1⟩
  ·have hb:=two_words h oM
   refine sw (c_fa un45 rfl sz43 dC rX L) t1 t1 ?_
   refine sw (c_l1 ag43 rF rF L) t1 t1 ?_
   refine sw (c_ln un43 L) t1 t0 (sw (c_gt L) t2 t0 (mV L rfl (gV (g:=17) rfl (decide_eq_false oM) L rfl rfl (swg (g:=17) rfl (decide_eq_false oM) (c_ge L) rfl t2 t0 (sw (c_pf (decide_eq_false oM) L) t2 t0 ?_)))))
   exact seq_nil ⟨⟨ob rfl (by rw [hb]; simp only [← decide_not]; exact dec_eq oM),rfl,rfl,trivial⟩,t1⟩
 refine ex_if rfl (fun hd=>?_) (fun hd=>?_)
 ·have hd:=ndt hd
  refine exr (aV L rfl (aV L rfl (zn [(2,_),(3,_)] [] t2 trivial (ex_ret ?_))))
  refine ⟨.inr rfl,ResVs.cast (.cons (.tmp rfl) (.cons (.tmp rfl) .nil)) ?_⟩
  rw [if_neg hd,decide_eq_false hd]
 ·have hd:=ndf hd
  have hb:=two_words h (len_two h ht hd)
  refine ex_skip (xq ?_)
  refine ex_seq (exr (sw (c_fa un45 rfl sz4 dC rX L) t1 t1 ?_))
  refine sw (c_l1 ag4 rF rF L) t1 t1 ?_
  refine zn [(4,_),(22,_)] [] t2 trivial ?_
  refine ex_if rfl (fun hn=>?_) (fun hn=>?_)
  ·refine exr (mV L rfl (sw (c_cv un127 un3 L (w64 oM oM)) t1 t0 (sw (c_ng L (w64 oM oM)) t1 t0 (aV L rfl (aV L rfl (zn [(2,_),(3,_)] [] t2 trivial (ex_ret ?_)))))))
   refine ⟨.inr rfl,ResVs.cast (.cons (.tmp rfl) (.cons (.tmp rfl) .nil)) ?_⟩
   rw [if_pos hd,decide_eq_true hd,hb,hn]; simp [sg]
  ·refine ex_skip (xq ?_)
   refine exr (mV L rfl (sw (c_cv un127 un3 L (w64 oM oM)) t1 t0 (aV L rfl (aV L rfl (zn [(2,_),(3,_)] [] t2 trivial (ex_ret ?_))))))
   refine ⟨.inr rfl,ResVs.cast (.cons (.tmp rfl) (.cons (.tmp rfl) .nil)) ?_⟩
   rw [if_pos hd,decide_eq_true hd,hb,hn]; simp [sg]
theorem radd_says (ws vs:List Int)(hl:ws.length<1000000000000)(hl2:vs.length<1000000000000)(h:Wd ws)(h2:Wd vs):Says E 142 [pW ws,pW vs] (pW (digs (val ws+val vs).toNat)):=by
 refine says_of (xs:=[pW (digs (val ws+val vs).toNat)]) Tryz.func142 rfl Tryz.ntmps142 Tryz.results142 sM fun F hG hX0 hnt hdf P0=>?_
 obtain ⟨L,hX,hN⟩:=pro hnt hX0 hG
 have hv:=val_nonneg h
 have hv2:=val_nonneg h2
 obtain ⟨n,hn⟩:∃ n,n=max ws.length vs.length:=⟨_,rfl⟩
 refine exr (aV L rfl (zn [(0,_),(1,_)] [] t2 trivial (exr (aV L rfl (zn [(0,_),(1,_),(5,_)] [] t3 trivial (exr (aV L rfl (zn [(0,_),(1,_),(5,_),(6,_)] [] t4 trivial (ex_seq (exr (aV L rfl ?_)))))))))))
 refine zn [(0,_),(1,_),(5,_),(6,_),(7,_)] [] t5 trivial (ex_block ?_)
 refine exlp (α:=(Nat×List Int×Int)) (fun x=>[(7,vi (x.1:Int)),(6,vw x.2.2),(5,.ref 34 0 x.2.1.length x.2.1.length)]) (fun x=>[(34,⟨119,1,.pure (encW x.2.1)⟩)]) (fun x=>AddAt ws vs n x∧0<x.1) (fun x=>n - x.1) (n+1) (sl:=[(0,_),(1,_)]) (hb:=[]) t2 t0 ?_ ?_
 ·refine ex_seq ?_
  refine exm (sl:=[(18,vb (decide (0<n)))]) (sl0:=[(0,_),(1,_),(5,_),(6,_),(7,_)]) (hb:=[]) (hb0:=[]) t5 t0 ?_ ?_
  ·by_cases hc:0<ws.length
   ·refine mV L rfl (mV L rfl (sw (c_ln un43 L) t1 t0 (sw (c_ls L) t2 t0 (mV L rfl (swn (g:=13) rfl (decide_eq_true oM) L rfl (swn (g:=13) rfl (decide_eq_true oM) L rfl (swn (g:=13) rfl (decide_eq_true oM) L rfl (swn (g:=13) rfl (decide_eq_true oM) L rfl (sw (c_pt (decide_eq_true oM) L) t2 t0 ?_)))))))))
    exact seq_nil ⟨⟨ob rfl sO,rfl,rfl,rfl,rfl,rfl,trivial⟩,trivial⟩
   ·refine mV L rfl (mV L rfl (sw (c_ln un43 L) t1 t0 (sw (c_ls L) t2 t0 (mV L rfl (gV (g:=13) rfl (decide_eq_false oM) L rfl rfl (gV (g:=13) rfl (decide_eq_false oM) L rfl rfl (swg (g:=13) rfl (decide_eq_false oM) (c_ln un43 L) rfl t1 t0 (swg (g:=13) rfl (decide_eq_false oM) (c_ls L) rfl t2 t0 (sw (c_pf (decide_eq_false oM) L) t2 t0 ?_)))))))))
    exact seq_nil ⟨⟨ob rfl (dec_eq oM),rfl,rfl,rfl,rfl,rfl,trivial⟩,trivial⟩
  refine ex_if rfl (fun hd=>?_) (fun hd=>?_)
  ·have hd:=dt hd
   have hw:=h.getD 0
   have hw2:=h2.getD 0
   have key:=(AddAt.zero ws vs n).next h h2 hd
   refine ex_skip (xq ?_)
   refine ex_seq (ex_block (exr (mV L rfl (mV L rfl (cK hG hX cl145 hN (rword_says ws oM h 0 oM) L t2 (mV L rfl (mV L rfl (cK hG hX cl145 hN (rword_says vs oM h2 0 oM) L t2 (sw (c_ad L (fu64 oM oM)) t2 t0 (mV L rfl (sw (c_ad L (fu64 oM oM)) t2 t0 ?_)))))))))))
   refine aV L rfl (zn [(0,_),(1,_),(5,_),(7,_),(8,_)] [] t5 trivial (exr (mV L rfl (mV L rfl (sw (c_cv un127 un119 L wu32) t1 t0 (sw (c_bI (vs:=[_]) un43 ti119 rfl rfl dC dC rfl (zs_made (.cons rfl .nil) rfl) rfl (.cons rfl (.atom rfl) rfl pu1 .nil) (.cons .nil) L) t1 t0 (swb (apN (k:=34) (sz:=1) un43 un43 ti119 rfl rfl rfl dC sM rfl (by first | (simp [Tryz.t119]; done) | (simp [Tryz.t119]; omega)) oM (P0 _ rfl) L) t2 t0 ⟨rfl,rfl⟩ ?_)))))))
   refine aV L rfl (zn [(0,_),(1,_),(5,_),(7,_),(8,_)] [(34,_)] t5 t1 (exr0 (mV L rfl (sw (c_sr L dC (shrE (c:=4294967296) rF dC)) t2 t0 ?_))))
   refine aV L rfl (seq_nil (exr0 (mV L rfl (sw (c_ad L (w64 oM oM)) t2 t0 (aV L rfl (seq_nil ?_))))))
   exact ⟨(1,[(ws.getD 0 0+vs.getD 0 0+0) % 4294967296],(ws.getD 0 0+vs.getD 0 0+0) / 4294967296),⟨key,Nat.one_pos⟩,(by simp only; omega),le_of ⟨oR,oR,oR,rfl,rfl,trivial⟩ t1⟩
  ·have hd:=df hd
   refine ex_exit (xq ?_)
   refine exr (mV L rfl (mV L rfl (sw (c_cv un127 un119 L wu32) t1 t0 (sw (c_bI (vs:=[_]) un43 ti119 rfl rfl dC dC rfl (zs_made (.cons rfl .nil) rfl) rfl (.cons rfl (.atom rfl) rfl pu1 .nil) (.cons .nil) L) t1 t0 (swb (apN (k:=41) (sz:=1) un43 un43 ti119 rfl rfl rfl dC sM rfl (by first | (simp [Tryz.t119]; done) | (simp [Tryz.t119]; omega)) oM (P0 _ rfl) L) t2 t0 ⟨rfl,rfl⟩ ?_)))))
   refine aV L rfl (zn [(5,_)] [(41,_)] t1 t1 (ex_cv [41] (sl:=[(5,_)]) (hb:=[]) (own_none hX0) ⟨⟨_,rfl,(.ref rfl rfl (by exact sM) (by first | rfl | omega))⟩,trivial⟩ t0 ?_))
   refine exr (mV L rfl (cK hG hX cl147 hN (rtrim_says [0] sM) L t1 ?_))
   refine aV L rfl (zn [(4,_)] [] t1 trivial (ex_ret ?_))
   refine ⟨.inr rfl,ResVs.cast (.cons (.tmp rfl) .nil) ?_⟩
   have e1:ws=[]:=List.eq_nil_of_length_eq_zero oM
   have e2:vs=[]:=List.eq_nil_of_length_eq_zero oM
   rw [e1,e2]; simp [trim,trimN,val,digs_zero]
 ·intro x hx
  obtain ⟨i,ys,c⟩:=x
  obtain ⟨hx,hi0⟩:=hx
  have hlen:=hx.len
  have hle:=hx.le
  have hc0:=hx.c0
  have hc1:=hx.c1
  simp only at hlen hle hc0 hc1 hi0
  dsimp only
  have hw:=h.getD i
  have hw2:=h2.getD i
  refine ex_seq ?_
  refine exm (sl:=[(18,vb (decide (i<n)))]) (sl0:=[(0,_),(1,_),(5,_),(6,_),(7,_)]) (hb:=[]) (hb0:=[(34,_)]) t5 t1 ?_ ?_
  ·by_cases hc:i<ws.length
   ·refine mV L rfl (mV L rfl (sw (c_ln un43 L) t1 t0 (sw (c_ls L) t2 t0 (mV L rfl (swn (g:=13) rfl (decide_eq_true oM) L rfl (swn (g:=13) rfl (decide_eq_true oM) L rfl (swn (g:=13) rfl (decide_eq_true oM) L rfl (swn (g:=13) rfl (decide_eq_true oM) L rfl (sw (c_pt (decide_eq_true oM) L) t2 t0 ?_)))))))))
    exact seq_nil ⟨⟨ob rfl sO,rfl,rfl,rfl,rfl,rfl,trivial⟩,t1⟩
   ·refine mV L rfl (mV L rfl (sw (c_ln un43 L) t1 t0 (sw (c_ls L) t2 t0 (mV L rfl (gV (g:=13) rfl (decide_eq_false oM) L rfl rfl (gV (g:=13) rfl (decide_eq_false oM) L rfl rfl (swg (g:=13) rfl (decide_eq_false oM) (c_ln un43 L) rfl t1 t0 (swg (g:=13) rfl (decide_eq_false oM) (c_ls L) rfl t2 t0 (sw (c_pf (decide_eq_false oM) L) t2 t0 ?_)))))))))
    exact seq_nil ⟨⟨ob rfl (dec_eq oM),rfl,rfl,rfl,rfl,rfl,trivial⟩,t1⟩
  refine ex_if rfl (fun hd=>?_) (fun hd=>?_)
  ·have hd:=dt hd
   have key:=hx.next h h2 hd
   refine ex_skip (xq ?_)
   refine ex_seq (ex_block (exr (mV L rfl (mV L rfl (cK hG hX cl145 hN (rword_says ws oM h i oM) L t2 (mV L rfl (mV L rfl (cK hG hX cl145 hN (rword_says vs oM h2 i oM) L t2 (sw (c_ad L (fu64 oM oM)) t2 t0 (mV L rfl (sw (c_ad L (fu64 oM oM)) t2 t0 ?_)))))))))))
   refine aV L rfl (zn [(0,_),(1,_),(5,_),(7,_),(8,_)] [(34,_)] t5 t1 (exr (mV L rfl (mV L rfl (sw (c_cv un127 un119 L wu32) t1 t0 (sw (c_bI (vs:=[_]) un43 ti119 rfl rfl dC dC rfl (zs_made (.cons rfl .nil) rfl) rfl (.cons rfl (.atom rfl) rfl pu1 .nil) (.cons .nil) L) t1 t0 (swb (apP (sz:=1) un43 un43 ti119 rfl rfl rfl dC (by exact sM) oF sM rfl rfl rfl (by first | (simp [Tryz.t119]; done) | (simp [Tryz.t119]; omega)) oM (P0 _ rfl) L) t2 t1 t0 ?_)))))))
   refine aV L rfl (zn [(0,_),(1,_),(5,_),(7,_),(8,_)] [(34,_)] t5 t1 (exr0 (mV L rfl (sw (c_sr L dC (shrE (c:=4294967296) rF dC)) t2 t0 ?_))))
   refine aV L rfl (seq_nil (exr0 (mV L rfl (sw (c_ad L (w64 oM oM)) t2 t0 (aV L rfl (seq_nil ?_))))))
   exact ⟨(i+1,ys++[(ws.getD i 0+vs.getD i 0+c) % 4294967296],(ws.getD i 0+vs.getD i 0+c) / 4294967296),⟨key,Nat.succ_pos _⟩,(by simp only; omega),le_of ⟨oR,oR,ov rfl sM,rfl,rfl,trivial⟩ ⟨obl rfl (by rw [encW_app]),trivial⟩⟩
  ·have hd:=df hd
   have hi:i=n:=by omega
   subst hi
   have hwd:Wd (ys++[c % 4294967296]):=hx.wd.snoc oM oM
   have he:val (ys++[c % 4294967296])=val ws+val vs:=by
    have:=hx.eq
    simp only at this
    rw [take_all oM,take_all oM] at this
    rw [val_snoc,hlen,← this,Int.emod_eq_of_lt hc0 oM]
   refine ex_exit (xq ?_)
   refine exr (mV L rfl (mV L rfl (sw (c_cv un127 un119 L wu32) t1 t0 (sw (c_bI (vs:=[_]) un43 ti119 rfl rfl dC dC rfl (zs_made (.cons rfl .nil) rfl) rfl (.cons rfl (.atom rfl) rfl pu1 .nil) (.cons .nil) L) t1 t0 (swb (apP (sz:=1) un43 un43 ti119 rfl rfl rfl dC (by exact sM) oF sM rfl rfl rfl (by first | (simp [Tryz.t119]; done) | (simp [Tryz.t119]; omega)) oM (P0 _ rfl) L) t2 t1 t0 ?_)))))
   refine aV L rfl ?_
   refine seq_nil ⟨[(5,.ref 34 0 (ys++[c % 4294967296]).length (ys++[c % 4294967296]).length)],[(34,⟨119,1,.pure (encW (ys++[c % 4294967296]))⟩)],⟨ov rfl sM,trivial⟩,⟨obl rfl (by rw [encW_app]),trivial⟩,?_⟩
   refine ex_cv [34] (sl:=[(5,_)]) (hb:=[]) (own_none hX0) ⟨⟨_,rfl,(.ref rfl rfl (by exact sM) (by first | rfl | omega))⟩,trivial⟩ t0 ?_
   refine exr (mV L rfl (cK hG hX cl147 hN (rtrim_says (ys++[c % 4294967296]) sO) L t1 (aV L rfl (zn [(4,_)] [] t1 trivial (ex_ret ?_)))))
   refine ⟨.inr rfl,ResVs.cast (.cons (.tmp rfl) .nil) ?_⟩
   rw [trim_eq_digs hwd,he]
theorem rsub_says (ws vs:List Int)(hl:ws.length<1000000000000)(hl2:vs.length≤ws.length)(h:Wd ws)(h2:Wd vs)(hle0:val vs≤val ws):Says E 144 [pW ws,pW vs] (pW (digs (val ws - val vs).toNat)):=by
 refine says_of (xs:=[pW (digs (val ws - val vs).toNat)]) Tryz.func144 rfl Tryz.ntmps144 Tryz.results144 sM fun F hG hX0 hnt hdf P0=>?_
 obtain ⟨L,hX,hN⟩:=pro hnt hX0 hG
 have hv:=val_nonneg h
 have hv2:=val_nonneg h2
 obtain ⟨n,hn⟩:∃ n,n=ws.length:=⟨_,rfl⟩
 refine exr (aV L rfl (zn [(0,_),(1,_)] [] t2 trivial (exr (aV L rfl (zn [(0,_),(1,_),(5,_)] [] t3 trivial (exr (aV L rfl (zn [(0,_),(1,_),(5,_),(6,_)] [] t4 trivial (ex_seq (exr (aV L rfl ?_)))))))))))
 refine zn [(0,_),(1,_),(5,_),(6,_),(7,_)] [] t5 trivial (ex_block ?_)
 refine exlp (α:=(Nat×List Int×Int)) (fun x=>[(7,vi (x.1:Int)),(6,vw x.2.2),(5,.ref 29 0 x.2.1.length x.2.1.length)]) (fun x=>[(29,⟨119,1,.pure (encW x.2.1)⟩)]) (fun x=>SubAt ws vs n x∧0<x.1) (fun x=>n - x.1) (n+1) (sl:=[(0,_),(1,_)]) (hb:=[]) t2 t0 ?_ ?_
 ·refine ex_seq (exr (mV L rfl (mV L rfl (sw (c_ln un43 L) t1 t0 (sw (c_ls L) t2 t0 (zn [(0,_),(1,_),(5,_),(6,_),(7,_),(12,_)] [] t6 trivial ?_))))))
  refine ex_if rfl (fun hd=>?_) (fun hd=>?_)
  ·have hd:=dt hd
   have hw:=h.getD 0
   have hw2:=h2.getD 0
   have key:=(SubAt.zero ws vs n).next h h2 oM
   refine ex_skip (xq ?_)
   refine ex_seq (ex_block (exr (mV L rfl (mV L rfl (cK hG hX cl145 hN (rword_says ws oM h 0 oM) L t2 (sw (c_ad L (fu64 oM oM)) t2 t0 (mV L rfl (mV L rfl (cK hG hX cl145 hN (rword_says vs oM h2 0 oM) L t2 (sw (c_su L (fu64 oM oM)) t2 t0 (mV L rfl ?_)))))))))))
   refine sw (c_su L (fu64 oM oM)) t2 t0 (aV L rfl (zn [(0,_),(1,_),(5,_),(7,_),(8,_)] [] t5 trivial (exr (mV L rfl (mV L rfl (sw (c_cv un127 un119 L wu32) t1 t0 (sw (c_bI (vs:=[_]) un43 ti119 rfl rfl dC dC rfl (zs_made (.cons rfl .nil) rfl) rfl (.cons rfl (.atom rfl) rfl pu1 .nil) (.cons .nil) L) t1 t0 (swb (apN (k:=29) (sz:=1) un43 un43 ti119 rfl rfl rfl dC sM rfl (by first | (simp [Tryz.t119]; done) | (simp [Tryz.t119]; omega)) oM (P0 _ rfl) L) t2 t0 ⟨rfl,rfl⟩ ?_))))))))
   refine aV L rfl (zn [(0,_),(1,_),(5,_),(7,_),(8,_)] [(29,_)] t5 t1 (exr0 (mV L rfl (sw (c_sr L dC (shrE (c:=4294967296) rF dC)) t2 t0 ?_))))
   refine sw (c_su L (fu64 oM oM)) t2 t0 (aV L rfl (seq_nil (exr0 (mV L rfl (sw (c_ad L (w64 oM oM)) t2 t0 (aV L rfl (seq_nil ?_)))))))
   exact ⟨(1,[(ws.getD 0 0 - vs.getD 0 0 - 0) % 4294967296],if ws.getD 0 0<vs.getD 0 0+0 then 1 else 0),⟨key,Nat.one_pos⟩,(by simp only; omega),le_of ⟨oR,oi (by simp only; split <;> omega) rfl,oR,rfl,rfl,trivial⟩ ⟨obl rfl (by simp only [encW,List.map_cons,List.map_nil]; rw [sub_word]),trivial⟩⟩
  ·have hd:=df hd
   have e1:ws=[]:=List.eq_nil_of_length_eq_zero oM
   have e2:vs=[]:=List.eq_nil_of_length_eq_zero oM
   refine ex_exit (xq ?_)
   refine ex_cv [] (sl:=[(5,_)]) (hb:=[]) (own_none hX0) ⟨⟨_,rfl,(.p .nil)⟩,trivial⟩ t0 (exr (mV L rfl (cK hG hX cl147 hN (rtrim_says [] sM) L t1 ?_)))
   refine aV L rfl (zn [(4,_)] [] t1 trivial (ex_ret ?_))
   refine ⟨.inr rfl,ResVs.cast (.cons (.tmp rfl) .nil) ?_⟩
   rw [e1,e2]; simp [trim,trimN,val,digs_zero]
 ·intro x hx
  obtain ⟨i,ys,c⟩:=x
  obtain ⟨hx,hi0⟩:=hx
  have hlen:=hx.len
  have hle:=hx.le
  have hc0:=hx.c0
  have hc1:=hx.c1
  simp only at hlen hle hc0 hc1 hi0
  dsimp only
  have hw:=h.getD i
  have hw2:=h2.getD i
  refine ex_seq (exr (mV L rfl (mV L rfl (sw (c_ln un43 L) t1 t0 (sw (c_ls L) t2 t0 (zn [(0,_),(1,_),(5,_),(6,_),(7,_),(12,_)] [(29,_)] t6 t1 ?_))))))
  refine ex_if rfl (fun hd=>?_) (fun hd=>?_)
  ·have hd:=dt hd
   have key:=hx.next h h2 oM
   refine ex_skip (xq ?_)
   refine ex_seq (ex_block (exr (mV L rfl (mV L rfl (cK hG hX cl145 hN (rword_says ws oM h i oM) L t2 (sw (c_ad L (fu64 oM oM)) t2 t0 (mV L rfl (mV L rfl (cK hG hX cl145 hN (rword_says vs oM h2 i oM) L t2 (sw (c_su L (fu64 oM oM)) t2 t0 (mV L rfl ?_)))))))))))
   refine sw (c_su L (fu64 oM oM)) t2 t0 (aV L rfl (zn [(0,_),(1,_),(5,_),(7,_),(8,_)] [(29,_)] t5 t1 (exr (mV L rfl (mV L rfl (sw (c_cv un127 un119 L wu32) t1 t0 (sw (c_bI (vs:=[_]) un43 ti119 rfl rfl dC dC rfl (zs_made (.cons rfl .nil) rfl) rfl (.cons rfl (.atom rfl) rfl pu1 .nil) (.cons .nil) L) t1 t0 (swb (apP (sz:=1) un43 un43 ti119 rfl rfl rfl dC (by exact sM) oF sM rfl rfl rfl (by first | (simp [Tryz.t119]; done) | (simp [Tryz.t119]; omega)) oM (P0 _ rfl) L) t2 t1 t0 ?_))))))))
   refine aV L rfl (zn [(0,_),(1,_),(5,_),(7,_),(8,_)] [(29,_)] t5 t1 (exr0 (mV L rfl (sw (c_sr L dC (shrE (c:=4294967296) rF dC)) t2 t0 ?_))))
   refine sw (c_su L (fu64 oM oM)) t2 t0 (aV L rfl (seq_nil (exr0 (mV L rfl (sw (c_ad L (w64 oM oM)) t2 t0 (aV L rfl (seq_nil ?_)))))))
   exact ⟨(i+1,ys++[(ws.getD i 0 - vs.getD i 0 - c) % 4294967296],if ws.getD i 0<vs.getD i 0+c then 1 else 0),⟨key,Nat.succ_pos _⟩,(by simp only; omega),le_of ⟨oR,oi (by simp only; split <;> omega) rfl,ov rfl sM,rfl,rfl,trivial⟩ ⟨obl rfl (by rw [encW_app,sub_word]),trivial⟩⟩
  ·have hd:=df hd
   have hi:i=n:=by omega
   subst hi
   obtain ⟨e1,e2⟩:c=0∧ys=digN i (val ws - val vs):=sub_end h h2 hle0 oM oM hx
   refine ex_exit (xq ?_)
   refine ex_cv [29] (sl:=[(5,_)]) (hb:=[]) (own_none hX0) ⟨⟨_,rfl,(.ref rfl rfl (by exact sM) (by first | rfl | omega))⟩,trivial⟩ t0 ?_
   refine exr (mV L rfl (cK hG hX cl147 hN (rtrim_says ys oM) L t1 (aV L rfl (zn [(4,_)] [] t1 trivial (ex_ret ?_)))))
   refine ⟨.inr rfl,ResVs.cast (.cons (.tmp rfl) .nil) ?_⟩
   have hy:val ys=val ws - val vs:=by rw [e2,val_digN oM (by have:=val_lt h; rw [← hn] at this; omega)]
   rw [trim_eq_digs hx.wd]; simp only; rw [hy]
theorem rmul_says (ws vs:List Int)(hl:ws.length<4000000000000)(hl2:vs.length<4000000000000)(h:Wd ws)(h2:Wd vs):Says E 123 [pW ws,pW vs] (pW (digs (val ws*val vs).toNat)):=by
 refine says_of (xs:=[pW (digs (val ws*val vs).toNat)]) Tryz.func123 rfl Tryz.ntmps123 Tryz.results123 sM fun F hG hX0 hnt hdf P0=>?_
 obtain ⟨L,hX,hN⟩:=pro hnt hX0 hG
 refine exr (aV L rfl (zn [(0,_),(1,_)] [] t2 trivial (exr (mV L rfl (sw (c_ln un43 L) t1 t0 (mV L rfl (sw (c_ln un43 L) t1 t0 (sw (c_ad L (w64 oM oM)) t2 t0 (swb (c_mk (k:=15) un43 ti119 rfl rfl rfl rfl (show _=((ws.length+vs.length:Nat):Int) by omega) (show _=((ws.length+vs.length:Nat):Int) by omega) (Nat.le_refl _) (by simp [Tryz.t119]; omega) oM (P0 _ rfl) L) t2 t0 ⟨rfl,rfl⟩ ?_)))))))))
 refine aV L rfl (zn [(0,_),(1,_),(5,_)] [(15,_)] t3 t1 (ex_seq (exr (aV L rfl (zn [(0,_),(1,_),(5,_),(6,_)] [(15,_)] t4 t1 (ex_block ?_))))))
 refine exl (α:=(Nat×List Int)) (fun x=>[(6,vi (x.1:Int))]) (fun x=>[(15,⟨119,1,.pure (encW x.2)⟩)]) (fun x=>MulAt ws vs x) (fun x=>ws.length - x.1) (((0:Nat),List.replicate (ws.length+vs.length) (0:Int))) (sl:=[(0,_),(1,_),(5,_)]) (hb:=[]) ?_ ⟨oR,rfl,rfl,rfl,trivial⟩ ⟨obl rfl (by rw [encW_rep]),trivial⟩ ?_
 ·exact MulAt.zero ws vs
 intro x hx
 obtain ⟨i,r⟩:=x
 have hlen:=hx.len
 have hle:=hx.le
 simp only at hlen hle
 dsimp only
 refine ex_seq (exr (mV L rfl (mV L rfl (sw (c_ln un43 L) t1 t0 (sw (c_ls L) t2 t0 (zn [(0,_),(1,_),(5,_),(6,_),(19,_)] [(15,_)] t5 t1 ?_))))))
 refine ex_if rfl (fun he=>?_) (fun he=>?_)
 ·have he:=dt he
  have hw:=h.getD i
  refine ex_skip (xq ?_)
  refine ex_seq (ex_block (exr (aV L rfl (zn [(0,_),(1,_),(5,_),(6,_),(7,_)] [(15,_)] t5 t1 (ex_seq (exr (aV L rfl (zn [(0,_),(1,_),(5,_),(6,_),(7,_),(8,_)] [(15,_)] t6 t1 (ex_block ?_)))))))))
  refine exl (α:=(Nat×List Int×Int)) (fun y=>[(8,vi (y.1:Int)),(7,vw y.2.2)]) (fun y=>[(15,⟨119,1,.pure (encW y.2.1)⟩)]) (fun y=>MulIn ws vs i y) (fun y=>vs.length - y.1) (((0:Nat),r,(0:Int))) (sl:=[(0,_),(1,_),(5,_),(6,_)]) (hb:=[]) ?_ ⟨oR,oR,rfl,rfl,rfl,rfl,trivial⟩ t1 ?_
  ·exact MulIn.zero h h2 hx oM
  intro y hy
  obtain ⟨j,s,c⟩:=y
  have hlen2:=hy.len
  have hle2:=hy.le
  have hc0:=hy.c0
  have hc1:=hy.c1
  simp only at hlen2 hle2 hc0 hc1
  dsimp only
  refine ex_seq (exr (mV L rfl (mV L rfl (sw (c_ln un43 L) t1 t0 (sw (c_ls L) t2 t0 (zn [(0,_),(1,_),(5,_),(6,_),(7,_),(8,_),(25,_)] [(15,_)] t7 t1 ?_))))))
  refine ex_if rfl (fun hf=>?_) (fun hf=>?_)
  ·have hf:=dt hf
   have hv:=h2.getD j
   have hb:=mul_bd hw hv
   have hs:=hy.wd.getD (i+j)
   simp only at hs
   obtain ⟨key,k1,k2⟩:=hy.next h h2 oM oM rfl
   refine ex_skip (xq ?_)
   refine ex_seq (ex_block (exd rF ?_))
   refine mV L rfl (mV L rfl (sw (ixJ un43 sz119 (j:=i) rO oM sM L) t2 t0 ?_))
   refine sw (c_li ag119 (by first | exact getW oM | rfl) L) t1 t0 ?_
   refine sw (c_cv un119 un127 L (fu64 oM oM)) t1 t0 (mV L rfl (mV L rfl (sw (ixJ un43 sz119 (j:=j) rO oM sM L) t2 t0 ?_)))
   refine sw (c_li ag119 (by first | exact getW oM | rfl) L) t1 t0 ?_
   refine sw (c_cv un119 un127 L (fu64 oM oM)) t1 t0 (sw (c_mu L (fu64 oM oM)) t2 t0 (mV L rfl (mV L rfl (mV L rfl (sw (c_ad L (w64 oM oM)) t2 t0 (sw (ixR0 un43 sz119 (by exact sO) (j:=i+j) rO oM L) t2 t1 ?_))))))
   refine sw (c_l1 ag119 (by exact sO) (getC (by first | exact getW oM | rfl)) L) t1 t1 ?_
   refine sw (c_cv un119 un127 L (fu64 oM oM)) t1 t0 (sw (c_ad L (fu64 oM oM)) t2 t0 (mV L rfl (sw (c_ad L (fu64 oM oM)) t2 t0 (aV L rfl ?_))))
   refine seq_nil ⟨aoks [⟨[0],[],[28],[]⟩,⟨[6],[],[29],[]⟩,⟨[28,29],[],[30],[]⟩,⟨[30],[],[31],[]⟩,⟨[31],[],[32],[]⟩,⟨[1],[],[33],[]⟩,⟨[8],[],[34],[]⟩,⟨[33,34],[],[35],[]⟩,⟨[35],[],[36],[]⟩,⟨[36],[],[37],[]⟩,⟨[32,37],[],[38],[]⟩,⟨[5],[],[39],[]⟩,⟨[6],[],[40],[]⟩,⟨[8],[],[41],[]⟩,⟨[40,41],[],[42],[]⟩,⟨[39,42],[15],[43],[]⟩,⟨[43],[15],[44],[]⟩,⟨[44],[],[45],[]⟩,⟨[38,45],[],[46],[]⟩,⟨[7],[],[47],[]⟩,⟨[46,47],[],[48],[]⟩,⟨[48],[],[9],[]⟩] rF rF dC,[(0,_),(1,_),(5,_),(6,_),(8,_),(9,_)],[(15,_)],t6,t1,?_⟩
   refine exr (mV L rfl (mV L rfl (mV L rfl (sw (c_ad L (w64 oM oM)) t2 t0 (mV L rfl (sw (c_cv un127 un119 L wu32) t1 t0 (sw (ixR0 un43 sz119 (by exact sO) (j:=i+j) rO oM L) t2 t1 ?_)))))))
   refine sb (c_s1 sz119 (by exact sO) (.atom rfl) oM) t2 t1 ?_
   refine zn [(0,_),(1,_),(5,_),(6,_),(8,_),(9,_)] [(15,_)] t6 t1 (exr0 (mV L rfl (sw (c_sr L dC (shrE (c:=4294967296) rF dC)) t2 t0 ?_)))
   refine aV L rfl (seq_nil (exr0 (mV L rfl (sw (c_ad L (w64 oM oM)) t2 t0 (aV L rfl (seq_nil ?_))))))
   exact ⟨(j+1,s.set (i+j) ((ws.getD i 0*vs.getD j 0+s.getD (i+j) 0+c) % 4294967296),(ws.getD i 0*vs.getD j 0+s.getD (i+j) 0+c) / 4294967296),key,(by simp only; omega),le_of ⟨oR,oR,rfl,rfl,rfl,rfl,trivial⟩ ⟨obl rfl (by rw [encW_set]),trivial⟩⟩
  ·have hf:=df hf
   have hj:j=vs.length:=by omega
   subst hj
   refine ex_exit (xq ?_)
   refine exr0 (mV L rfl (mV L rfl (mV L rfl (sw (c_ln un43 L) t1 t0 (sw (c_ad L (w64 oM oM)) t2 t0 (mV L rfl (sw (c_cv un127 un119 L (fu32 oM oM)) t1 t0 (sw (ixR0 un43 sz119 (by exact sO) (j:=i+vs.length) rO oM L) t2 t1 ?_))))))))
   refine sb (c_s1 sz119 (by exact sO) (.atom rfl) oM) t2 t1 ?_
   refine seq_nil (exr0 (mV L rfl (sw (c_ad L (w64 oM oM)) t2 t0 (aV L rfl (seq_nil ?_)))))
   exact ⟨(i+1,s.set (i+vs.length) c),hy.done oM,(by simp only; omega),le_of ⟨oR,rfl,rfl,rfl,trivial⟩ ⟨obl rfl (by rw [encW_set]),trivial⟩⟩
 ·have he:=df he
  have hi:i=ws.length:=by omega
  subst hi
  have e:val r=val ws*val vs:=by
   have:=hx.eq
   simpa only [List.take_length] using this
  refine ex_exit (xq ?_)
  refine ex_cv [15] (sl:=[(5,_)]) (hb:=[]) (own_none hX0) ⟨⟨_,rfl,(.ref rfl rfl (by exact sO) (by first | rfl | omega))⟩,trivial⟩ t0 ?_
  rw [← hlen]
  refine exr (mV L rfl (cK hG hX cl147 hN (rtrim_says r oM) L t1 (aV L rfl (zn [(4,_)] [] t1 trivial (ex_ret ?_)))))
  refine ⟨.inr rfl,ResVs.cast (.cons (.tmp rfl) .nil) ?_⟩
  rw [trim_eq_digs hx.wd]; simp only; rw [e]
theorem rmulI_says (m n:Bool)(ws vs:List Int)(hl:ws.length<4000000000000)(hl2:vs.length<4000000000000)(h:Wd ws)(h2:Wd vs):Says E 83 [pI m ws,pI n vs] (pZ (if canon m ws=true∧canon n vs=true then sg m (val ws)*sg n (val vs) else 0)):=by
 refine says_of (xs:=[pZ (if canon m ws=true∧canon n vs=true then sg m (val ws)*sg n (val vs) else 0)]) Tryz.func83 rfl Tryz.ntmps83 Tryz.results83 sM fun F hG hX0 hnt hdf P0=>?_
 obtain ⟨L,hX,hN⟩:=pro hnt hX0 hG
 have hv:=val_nonneg h
 have hv2:=val_nonneg h2
 have hvv:0≤val ws*val vs:=Int.mul_nonneg hv hv2
 have hml:=mul_len h h2
 refine exr (swb (c_bx (k:=2) (n:=2) pa2 rfl rfl (P0 _ rfl) L) t1 t0 ⟨rfl,rfl⟩ (swb (c_bx (k:=3) (n:=2) pa2 rfl rfl (P0 _ rfl) L) t1 t0 ⟨rfl,rfl⟩ (swb (c_al (k:=4) (n:=2) zv45 (.cons rfl (.cons rfl .nil)) rfl (P0 _ rfl) L) t0 t0 ⟨rfl,rfl⟩ (zn [(2,_),(3,_),(4,_)] [(2,_),(3,_),(4,_)] t3 t3 (ex_seq ?_)))))
 refine exm (sl:=[(12,vb (!(canon m ws && canon n vs)))]) (sl0:=[(2,_),(3,_),(4,_)]) (hb:=[]) (hb0:=[(2,_),(3,_),(4,_)]) t3 t3 ?_ ?_
 ·by_cases hc:canon m ws=true
  ·refine lp2 ag45 sz45 L rfl rfl (cK hG hX cl77 hN (ris_says m ws oM) L t1 (sw (c_no L) t1 t0 (mV L rfl (swg (g:=8) rfl (by simp [hc]) (c_lp ag45 sz45 rF (by exact al2) rfl L) rfl t1 t1 ?_))))
   refine swg (g:=8) rfl (by simp [hc]) (c_c hG hX cl77 rfl hN (ris_says n vs oM) L) rfl t1 t0 ?_
   refine swg (g:=8) rfl (by simp [hc]) (c_no L) rfl t1 t0 ?_
   refine sw (c_pf (by simp [hc]) L) t2 t0 ?_
   exact seq_nil ⟨⟨ob rfl (by simp [hc]),rfl,rfl,rfl,trivial⟩,t3⟩
  ·refine lp2 ag45 sz45 L rfl rfl (cK hG hX cl77 hN (ris_says m ws oM) L t1 (sw (c_no L) t1 t0 (mV L rfl (swn (g:=8) rfl (by simp [hc]) L rfl ?_))))
   refine swn (g:=8) rfl (by simp [hc]) L rfl ?_
   refine swn (g:=8) rfl (by simp [hc]) L rfl ?_
   refine sw (c_pt (by simp [hc]) L) t2 t0 ?_
   exact seq_nil ⟨⟨ob rfl (by simp [hc]),rfl,rfl,rfl,trivial⟩,t3⟩
 refine ex_if rfl (fun hc=>?_) (fun hc=>?_)
 ·have hc:¬ (canon m ws=true∧canon n vs=true):=by rintro ⟨h1,h2⟩; simp [h1,h2] at hc
  refine exr (sw (c_pc (c_bp (vs:=[]) un45 zv45 (.cons rfl (.cons rfl .nil)) ((Places.cons sz4 (Places.cons sz43 Places.nil))).to rfl .nil (.cons (.cons .nil)) L) (.agg (.cons .same (.cons .nil .nil)))) t0 t0 (sb (c_sm sz45 rF pa2 rfl pu2) t2 t1 ?_))
  refine zn [(4,_)] [(4,_)] t1 t1 (ex_ret ?_)
  refine ⟨.inr rfl,ResVs.cast (.cons (.agg rfl rfl rfl ag45 sz45 (.cons (.cons .nil))) .nil) ?_⟩
  rw [if_neg hc,pZ_zero]; rfl
 ·have hc:canon m ws=true∧canon n vs=true:=by simpa using hc
  have es:sg (m != n) (val ws*val vs)=sg m (val ws)*sg n (val vs):=by cases m <;> cases n <;> simp [sg,Int.mul_neg,Int.neg_mul]
  refine ex_skip (xq ?_)
  refine exd rF ?_
  refine sw (c_fa un45 rfl sz4 dC rX L) t1 t1 ?_
  refine sw (c_l1 ag4 rF rF L) t1 t1 ?_
  refine sw (c_fa un45 rfl sz4 dC rX L) t1 t1 ?_
  refine sw (c_l1 ag4 rF rF L) t1 t1 ?_
  refine sw (c_bn un4 L) t2 t0 (sw (c_fa un45 rfl sz43 dC rX L) t1 t1 ?_)
  refine sw (c_l1 ag43 rF rF L) t1 t1 ?_
  refine sw (c_fa un45 rfl sz43 dC rX L) t1 t1 ?_
  refine sw (c_l1 ag43 rF rF L) t1 t1 ?_
  refine cK hG hX cl123 hN (rmul_says ws vs hl hl2 h h2) L t2 (cK hG hX cl122 hN (rmade_says (m != n) (digs (val ws*val vs).toNat) oM (wd_digs _)) L t2 (sb (c_sm sz45 rF pa2 rfl pu2) t2 t1 ?_))
  refine seq_nil ⟨aoks [⟨[2],[2],[14],[]⟩,⟨[14],[2],[15],[]⟩,⟨[3],[3],[16],[]⟩,⟨[16],[3],[17],[]⟩,⟨[15,17],[],[18],[]⟩,⟨[2],[2],[19],[]⟩,⟨[19],[2],[20],[]⟩,⟨[3],[3],[21],[]⟩,⟨[21],[3],[22],[]⟩,⟨[20,22],[],[23],[]⟩,⟨[18,23],[],[24],[]⟩,⟨[4,24],[4],[],[4]⟩] rF rF dC,[(4,_)],[(4,_)],t1,t1,?_⟩
  refine ex_ret ?_
  refine ⟨.inr rfl,ResVs.cast (.cons (.agg rfl rfl rfl ag45 sz45 (.cons (.cons .nil))) .nil) ?_⟩
  rw [if_pos hc,val_digs_int hvv,es]
theorem raddI_says (m n:Bool)(ws vs:List Int)(hl:ws.length<999999999999)(hl2:vs.length<999999999999)(h:Wd ws)(h2:Wd vs):Says E 116 [pI m ws,pI n vs] (pZ (if canon m ws=true∧canon n vs=true then sg m (val ws)+sg n (val vs) else 0)):=by
 refine says_of (xs:=[pZ (if canon m ws=true∧canon n vs=true then sg m (val ws)+sg n (val vs) else 0)]) Tryz.func116 rfl Tryz.ntmps116 Tryz.results116 sM fun F hG hX0 hnt hdf P0=>?_
 obtain ⟨L,hX,hN⟩:=pro hnt hX0 hG
 have hv:=val_nonneg h
 have hv2:=val_nonneg h2
 have hal:=add_len h h2
 refine exr (swb (c_bx (k:=2) (n:=2) pa2 rfl rfl (P0 _ rfl) L) t1 t0 ⟨rfl,rfl⟩ (swb (c_bx (k:=3) (n:=2) pa2 rfl rfl (P0 _ rfl) L) t1 t0 ⟨rfl,rfl⟩ (swb (c_al (k:=4) (n:=2) zv45 (.cons rfl (.cons rfl .nil)) rfl (P0 _ rfl) L) t0 t0 ⟨rfl,rfl⟩ (zn [(2,_),(3,_),(4,_)] [(2,_),(3,_),(4,_)] t3 t3 (ex_seq ?_)))))
 refine exm (sl:=[(16,vb (!(canon m ws && canon n vs)))]) (sl0:=[(2,_),(3,_),(4,_)]) (hb:=[]) (hb0:=[(2,_),(3,_),(4,_)]) t3 t3 ?_ ?_
 ·by_cases hc:canon m ws=true
  ·refine lp2 ag45 sz45 L rfl rfl (cK hG hX cl77 hN (ris_says m ws oM) L t1 (sw (c_no L) t1 t0 (mV L rfl (swg (g:=12) rfl (by simp [hc]) (c_lp ag45 sz45 rF (by exact al2) rfl L) rfl t1 t1 ?_))))
   refine swg (g:=12) rfl (by simp [hc]) (c_c hG hX cl77 rfl hN (ris_says n vs oM) L) rfl t1 t0 ?_
   refine swg (g:=12) rfl (by simp [hc]) (c_no L) rfl t1 t0 ?_
   refine sw (c_pf (by simp [hc]) L) t2 t0 ?_
   exact seq_nil ⟨⟨ob rfl (by simp [hc]),rfl,rfl,rfl,trivial⟩,t3⟩
  ·refine lp2 ag45 sz45 L rfl rfl (cK hG hX cl77 hN (ris_says m ws oM) L t1 (sw (c_no L) t1 t0 (mV L rfl (swn (g:=12) rfl (by simp [hc]) L rfl ?_))))
   refine swn (g:=12) rfl (by simp [hc]) L rfl ?_
   refine swn (g:=12) rfl (by simp [hc]) L rfl ?_
   refine sw (c_pt (by simp [hc]) L) t2 t0 ?_
   exact seq_nil ⟨⟨ob rfl (by simp [hc]),rfl,rfl,rfl,trivial⟩,t3⟩
 refine ex_if rfl (fun hc=>?_) (fun hc=>?_)
 ·have hc:¬ (canon m ws=true∧canon n vs=true):=by rintro ⟨h1,h2⟩; simp [h1,h2] at hc
  refine exr (sw (c_pc (c_bp (vs:=[]) un45 zv45 (.cons rfl (.cons rfl .nil)) ((Places.cons sz4 (Places.cons sz43 Places.nil))).to rfl .nil (.cons (.cons .nil)) L) (.agg (.cons .same (.cons .nil .nil)))) t0 t0 (sb (c_sm sz45 rF pa2 rfl pu2) t2 t1 ?_))
  refine zn [(4,_)] [(4,_)] t1 t1 (ex_ret ?_)
  refine ⟨.inr rfl,ResVs.cast (.cons (.agg rfl rfl rfl ag45 sz45 (.cons (.cons .nil))) .nil) ?_⟩
  rw [if_neg hc,pZ_zero]; rfl
 ·have hc:canon m ws=true∧canon n vs=true:=by simpa using hc
  have ht:=(canon_tr hc.1).1
  have ht2:=(canon_tr hc.2).1
  rw [if_pos hc]
  refine ex_skip (xq ?_)
  refine exr (lp2 ag45 sz45 L rfl rfl (cK hG hX cl118 hN (rnative_says m ws oM h ht) L t1 (mV L rfl (sw (c_ex rfl L) t1 t0 (sw (c_ex rfl L) t1 t0 (aV L rfl (aV L rfl (zn [(2,_),(3,_),(4,_),(5,_),(6,_)] [(2,_),(3,_),(4,_)] t5 t3 (exr (lp2 ag45 sz45 L rfl rfl (cK hG hX cl118 hN (rnative_says n vs oM h2 ht2) L t1 ?_)))))))))))
  refine mV L rfl (sw (c_ex rfl L) t1 t0 (sw (c_ex rfl L) t1 t0 (aV L rfl (aV L rfl (zn [(2,_),(3,_),(4,_),(5,_),(6,_),(7,_),(8,_)] [(2,_),(3,_),(4,_)] t7 t3 (ex_seq ?_))))))
  refine exm (sl:=[(31,vb (decide (val ws<4611686018427387904∧val vs<4611686018427387904)))]) (sl0:=[(2,_),(3,_),(4,_),(5,_),(7,_)]) (hb:=[]) (hb0:=[(2,_),(3,_),(4,_)]) t5 t3 ?_ ?_
  ·by_cases hd:val ws<4611686018427387904
   ·refine mV L rfl (mV L rfl (gV (g:=29) rfl (decide_eq_true hd) L rfl rfl (sw (c_pt (decide_eq_true hd) L) t2 t0 ?_)))
    exact seq_nil ⟨⟨ob rfl (dec_eq oM),rfl,rfl,rfl,rfl,rfl,trivial⟩,t3⟩
   ·refine mV L rfl (mV L rfl (swn (g:=29) rfl (decide_eq_false hd) L rfl (sw (c_pf (decide_eq_false hd) L) t2 t0 ?_)))
    exact seq_nil ⟨⟨ob rfl (by simp [hd]),rfl,rfl,rfl,rfl,rfl,trivial⟩,t3⟩
  refine ex_if rfl (fun hd=>?_) (fun hd=>?_)
  ·have hd:=dt hd
   rw [if_pos hd.1,if_pos hd.2]
   have b1:=sg_bd m hv hd.1
   have b2:=sg_bd n hv2 hd.2
   refine exr (mV L rfl (mV L rfl (sw (c_ad L (w64 oM oM)) t2 t0 (cK hG hX cl119 hN (rof_says (sg m (val ws)+sg n (val vs)) oM oM) L t1 (sb (c_sm sz45 rF pa2 rfl pu2) t2 t1 ?_)))))
   refine zn [(4,_)] [(4,_)] t1 t1 (ex_ret ?_)
   refine ⟨.inr rfl,ResVs.cast (.cons (.agg rfl rfl rfl ag45 sz45 (.cons (.cons .nil))) .nil) ?_⟩
   rfl
  ·refine ex_skip (xq ?_)
   refine ex_seq (exr (sw (c_fa un45 rfl sz4 dC rX L) t1 t1 ?_))
   refine sw (c_l1 ag4 rF rF L) t1 t1 ?_
   refine sw (c_fa un45 rfl sz4 dC rX L) t1 t1 ?_
   refine sw (c_l1 ag4 rF rF L) t1 t1 ?_
   refine sw (c_be un4 L) t2 t0 (zn [(2,_),(3,_),(4,_),(40,_)] [(2,_),(3,_),(4,_)] t4 t3 ?_)
   refine ex_if rfl (fun hs=>?_) (fun hs=>?_)
   ·have hs:m=n:=by simpa using hs
    subst hs
    refine exd rF ?_
    refine sw (c_fa un45 rfl sz4 dC rX L) t1 t1 ?_
    refine sw (c_l1 ag4 rF rF L) t1 t1 ?_
    refine sw (c_fa un45 rfl sz43 dC rX L) t1 t1 ?_
    refine sw (c_l1 ag43 rF rF L) t1 t1 ?_
    refine sw (c_fa un45 rfl sz43 dC rX L) t1 t1 ?_
    refine sw (c_l1 ag43 rF rF L) t1 t1 ?_
    refine cK hG hX cl142 hN (radd_says ws vs oM oM h h2) L t2 (cK hG hX cl122 hN (rmade_says m (digs (val ws+val vs).toNat) oM (wd_digs _)) L t2 (sb (c_sm sz45 rF pa2 rfl pu2) t2 t1 ?_))
    refine seq_nil ⟨aoks [⟨[2],[2],[41],[]⟩,⟨[41],[2],[42],[]⟩,⟨[2],[2],[43],[]⟩,⟨[43],[2],[44],[]⟩,⟨[3],[3],[45],[]⟩,⟨[45],[3],[46],[]⟩,⟨[44,46],[],[47],[]⟩,⟨[42,47],[],[48],[]⟩,⟨[4,48],[4],[],[4]⟩] rF rF dC,[(4,_)],[(4,_)],t1,t1,?_⟩
    refine ex_ret ?_
    refine ⟨.inr rfl,ResVs.cast (.cons (.agg rfl rfl rfl ag45 sz45 (.cons (.cons .nil))) .nil) ?_⟩
    rw [val_digs_int oM,sg_add]
   ·have hs:m≠n:=by simpa using hs
    refine ex_skip (xq ?_)
    refine ex_seq (exr (sw (c_fa un45 rfl sz43 dC rX L) t1 t1 ?_))
    refine sw (c_l1 ag43 rF rF L) t1 t1 ?_
    refine sw (c_fa un45 rfl sz43 dC rX L) t1 t1 ?_
    refine sw (c_l1 ag43 rF rF L) t1 t1 ?_
    refine cK hG hX cl143 hN (rcmp_says ws vs oM oM h h2 ht ht2) L t2 (sw (c_ge L) t2 t0 (zn [(2,_),(3,_),(4,_),(54,_)] [(2,_),(3,_),(4,_)] t4 t3 ?_))
    refine ex_if rfl (fun he=>?_) (fun he=>?_)
    ·have he:=cmpI_ge (dt he)
     have hsl:=sub_len h h2 he
     refine exd rF ?_
     refine sw (c_fa un45 rfl sz4 dC rX L) t1 t1 ?_
     refine sw (c_l1 ag4 rF rF L) t1 t1 ?_
     refine sw (c_fa un45 rfl sz43 dC rX L) t1 t1 ?_
     refine sw (c_l1 ag43 rF rF L) t1 t1 ?_
     refine sw (c_fa un45 rfl sz43 dC rX L) t1 t1 ?_
     refine sw (c_l1 ag43 rF rF L) t1 t1 ?_
     refine cK hG hX cl144 hN (rsub_says ws vs oM (len_le h h2 ht2 he) h h2 he) L t2 (cK hG hX cl122 hN (rmade_says m (digs (val ws - val vs).toNat) oM (wd_digs _)) L t2 (sb (c_sm sz45 rF pa2 rfl pu2) t2 t1 ?_))
     refine seq_nil ⟨aoks [⟨[2],[2],[55],[]⟩,⟨[55],[2],[56],[]⟩,⟨[2],[2],[57],[]⟩,⟨[57],[2],[58],[]⟩,⟨[3],[3],[59],[]⟩,⟨[59],[3],[60],[]⟩,⟨[58,60],[],[61],[]⟩,⟨[56,61],[],[62],[]⟩,⟨[4,62],[4],[],[4]⟩] rF rF dC,[(4,_)],[(4,_)],t1,t1,?_⟩
     refine ex_ret ?_
     refine ⟨.inr rfl,ResVs.cast (.cons (.agg rfl rfl rfl ag45 sz45 (.cons (.cons .nil))) .nil) ?_⟩
     rw [val_digs_int oM,sg_sub hs]
    ·have he:=cmpI_lt (df he)
     have hsl:=sub_len h2 h oM
     refine ex_skip (xq ?_)
     refine exd rF ?_
     refine sw (c_fa un45 rfl sz4 dC rX L) t1 t1 ?_
     refine sw (c_l1 ag4 rF rF L) t1 t1 ?_
     refine sw (c_fa un45 rfl sz43 dC rX L) t1 t1 ?_
     refine sw (c_l1 ag43 rF rF L) t1 t1 ?_
     refine sw (c_fa un45 rfl sz43 dC rX L) t1 t1 ?_
     refine sw (c_l1 ag43 rF rF L) t1 t1 ?_
     refine cK hG hX cl144 hN (rsub_says vs ws oM (len_le h2 h ht oM) h2 h oM) L t2 (cK hG hX cl122 hN (rmade_says n (digs (val vs - val ws).toNat) oM (wd_digs _)) L t2 (sb (c_sm sz45 rF pa2 rfl pu2) t2 t1 ?_))
     refine seq_nil ⟨aoks [⟨[3],[3],[63],[]⟩,⟨[63],[3],[64],[]⟩,⟨[3],[3],[65],[]⟩,⟨[65],[3],[66],[]⟩,⟨[2],[2],[67],[]⟩,⟨[67],[2],[68],[]⟩,⟨[66,68],[],[69],[]⟩,⟨[64,69],[],[70],[]⟩,⟨[4,70],[4],[],[4]⟩] rF rF dC,[(4,_)],[(4,_)],t1,t1,?_⟩
     refine ex_ret ?_
     refine ⟨.inr rfl,ResVs.cast (.cons (.agg rfl rfl rfl ag45 sz45 (.cons (.cons .nil))) .nil) ?_⟩
     rw [val_digs_int oM,sg_sub hs.symm,Int.add_comm]
theorem short_says (ws:List Int)(d:Int)(hl:ws.length<10000000000000)(h:Wd ws)(hd:0<d∧d<4294967296):SaysX E 156 [.ref 1000 0 ws.length ws.length,.p (oZ d)] [(1000,⟨119,1,.pure (encW ws)⟩)] [(1000,⟨119,1,.pure (encW (digN ws.length (val ws / d)))⟩)] (oZ (val ws % d)):=by
 refine saysX_of (xs:=[oZ (val ws % d)]) Tryz.func156 rfl Tryz.ntmps156 Tryz.results156 sM rfl (sub_of rfl) fun F hG hX hnt hdf P0 hXp=>?_
 have L:=@lti _ _ hnt
 have hN:=ng_le hG
 refine exr (aV L rfl (zn [(0,_),(1,_)] [(1000,_)] t2 t1 (exr (aV L rfl (zn [(0,_),(1,_),(5,_)] [(1000,_)] t3 t1 (ex_seq (exr (mV L rfl (sw (c_lr un43 (by exact sM) L) t1 t1 ?_)))))))))
 refine sw (c_su L (w64 oM oM)) t2 t0 (aV L rfl (zn [(0,_),(1,_),(5,_),(6,_)] [(1000,_)] t4 t1 (ex_block ?_)))
 refine exl (α:=(Nat×List Int×Int)) (fun x=>[(6,vi ((x.1:Int) - 1)),(5,vw x.2.2)]) (fun x=>[(1000,⟨119,1,.pure (encW (ws.take x.1++x.2.1))⟩)]) (fun x=>ShortAt ws d x) (fun x=>x.1) ((ws.length,([]:List Int),(0:Int))) (sl:=[(0,_),(1,_)]) (hb:=[]) ?_ ⟨oR,oR,rfl,rfl,trivial⟩ ⟨obl rfl sM,trivial⟩ ?_
 ·exact ShortAt.start ws d
 intro x hx
 obtain ⟨n,qs,r⟩:=x
 have hle:=hx.le
 have hq:qs.length=ws.length - n:=by have:=hx.q; simp only at this; rw [this,digN_length]
 have hr:0≤r∧r<d:=by have:=hx.r; simp only at this; rw [this]; exact ⟨Int.emod_nonneg _ oM,Int.emod_lt_of_pos _ hd.1⟩
 simp only at hle
 dsimp only
 refine ex_seq (exr (mV L rfl (sw (c_ge L) t2 t0 (zn [(0,_),(1,_),(5,_),(6,_),(11,_)] [(1000,_)] t5 t1 ?_))))
 refine ex_if rfl (fun he=>?_) (fun he=>?_)
 ·have he:=dt he
  obtain ⟨key,k1,k2⟩:=hx.next h hd.1 oM
  have hw:=h.getD (n - 1)
  have hg:(ws.take n++qs).getD (n - 1) 0=ws.getD (n - 1) 0:=getD_head oM oM
  refine ex_skip (xq ?_)
  refine ex_seq (ex_block (exr (mV L rfl (sw (c_sl L dC (shlE (c:=4294967296) rF (fu64 oM oM))) t2 t0 ?_))))
  refine mV L rfl (mV L rfl (sw (ixR0 un43 sz119 (by exact sO) (j:=n - 1) rO oM L) t2 t1 ?_))
  refine sw (c_l1 ag119 (by exact sO) (getC (getW (ws:=ws.take n++qs) (i:=n - 1) sO)) L) t1 t1 ?_
  refine sw (c_cv un119 un127 L (show _=ws.getD (n - 1) 0 by rw [hg]; exact w64u oM oM)) t1 t0 ?_
  refine sw (c_or L (or64' (b:=r) 32 rfl hw.1 hw.2 hr.1 dC oM oM)) t2 t0 (aV L rfl ?_)
  refine seq_nil ⟨[(0,_),(1,_),(5,vw (r*4294967296+ws.getD (n - 1) 0)),(6,_)],[(1000,_)],⟨rfl,rfl,oi oM rfl,rfl,trivial⟩,t1,?_⟩
  refine exr (mV L rfl (mV L rfl (mV L rfl (mV L rfl (sw (c_cv un119 un127 L (fu64 oM oM)) t1 t0 (sw (c_q L oM (tdivE oM oM)) t2 t0 (sw (c_cv un127 un119 L (fu32 oM oM)) t1 t0 (sw (ixR0 un43 sz119 (by exact sO) (j:=n - 1) rO oM L) t2 t1 ?_))))))))
  refine sb (c_s1 sz119 (by exact sO) (.atom rfl) oM) t2 t1 ?_
  refine zn [(0,_),(1,_),(5,_),(6,_)] [(1000,_)] t4 t1 (exr0 (mV L rfl (mV L rfl (sw (c_cv un119 un127 L (fu64 oM oM)) t1 t0 (sw (c_r L oM (tmodE oM oM)) t2 t0 (aV L rfl (seq_nil (exr0 (mV L rfl (sw (c_su L (w64 oM oM)) t2 t0 (aV L rfl ?_)))))))))))
  refine seq_nil ?_
  exact ⟨(n - 1,(r*4294967296+ws.getD (n - 1) 0) / d :: qs,(r*4294967296+ws.getD (n - 1) 0) % d),key,(by simp only; omega),le_of ⟨oR,oR,rfl,rfl,trivial⟩ ⟨obl rfl (by rw [encW_set,set_last sO,List.take_take,Nat.min_eq_left oM]),trivial⟩⟩
 ·have he:=df he
  have hn:n=0:=by omega
  subst hn
  have e1:r=val ws % d:=by simpa using hx.r
  have e2:qs=digN ws.length (val ws / d):=by simpa using hx.q
  refine ex_exit (xq ?_)
  refine exr (mV L rfl (sw (c_cv un127 un119 L (fu32 oM oM)) t1 t0 (aV L rfl (zn [(4,_)] [(1000,_)] t1 t1 (ex_ret ?_)))))
  refine ⟨.inr rfl,ResVs.cast (.cons (.tmp rfl) .nil) ?_,⟨obl rfl (by simp [e2]),trivial⟩⟩
  rw [e1]
theorem shifted_says (ws:List Int)(k:Nat)(hl:ws.length<9999999999999)(h:Wd ws)(hk:k<32):SaysO E 158 [pW ws,vZ k] 119 1 (ws.length+1) (encW (digN (ws.length+1) (val ws*2 ^ k))):=by
 refine saysO_of (k:=11) (tot:=ws.length+1) Tryz.func158 rfl Tryz.ntmps158 Tryz.results158 sM fun F hG hX0 hnt hdf P0=>?_
 obtain ⟨L,hX,hN⟩:=pro hnt hX0 hG
 refine exr (aV L rfl (zn [(0,_),(1,_)] [] t2 trivial (exr (mV L rfl (sw (c_ln un43 L) t1 t0 (sw (c_ad L (w64 oM oM)) t2 t0 (swb (c_mk (k:=11) un43 ti119 rfl rfl rfl rfl (show _=((ws.length+1:Nat):Int) by omega) (show _=((ws.length+1:Nat):Int) by omega) (Nat.le_refl _) (by simp [Tryz.t119]; omega) oM (P0 _ rfl) L) t2 t0 ⟨rfl,rfl⟩ ?_)))))))
 refine aV L rfl (zn [(0,_),(1,_),(5,_)] [(11,_)] t3 t1 (ex_seq (exr (mV L rfl (sw (c_ln un43 L) t1 t0 (mV L rfl (zn [(1,_),(5,_),(12,_),(13,_),(14,_)] [(11,_)] t5 t1 (ex_block ?_))))))))
 refine exl (α:=(Nat×List Int×Int)) (fun x=>[(14,vi (x.1:Int))]) (fun x=>[(11,⟨119,1,.pure (encW (x.2.1++x.2.2 :: List.replicate (ws.length - x.1) 0))⟩)]) (fun x=>ShiftAt ws k x) (fun x=>ws.length - x.1) (((0:Nat),([]:List Int),(0:Int))) (sl:=[(1,_),(5,_),(12,_),(13,_)]) (hb:=[]) ?_ ⟨oR,rfl,rfl,rfl,rfl,trivial⟩ ⟨obl rfl (by rw [encW_rep]; rfl),trivial⟩ ?_
 ·exact ShiftAt.zero ws k
 intro x hx
 obtain ⟨i,ys,c⟩:=x
 have hlen:=hx.len
 have hle:=hx.le
 have h0:=hx.h0
 have h1:=hx.h1
 simp only at hlen hle h0 h1
 dsimp only
 refine exr (sw (c_ls L) t2 t0 (zn [(1,_),(5,_),(12,_),(13,_),(14,_),(15,_)] [(11,_)] t6 t1 (ex_seq ?_)))
 refine ex_if rfl (fun he=>?_) (fun he=>?_)
 ·have he:=dt he
  have hw:=h.getD i
  have key:=hx.next h oM
  have kq0:=key.h0
  have kq1:=key.h1
  simp only at kq0 kq1
  have hp:=pow32 (Nat.le_of_lt hk)
  have sa:=shl_add (Nat.le_of_lt hk) (ws.getD i 0) h0 h1
  have hg:(ys++c :: List.replicate (ws.length - i) 0).getD i 0=c:=by rw [List.getD_eq_getElem?_getD,List.getElem?_append_right oM,hlen,Nat.sub_self]; rfl
  refine ex_skip (xq ?_)
  refine ex_seq (ex_block (exr (mV L rfl (sw (ixJ un43 sz119 (j:=i) rO oM sM L) t2 t0 ?_))))
  refine sw (c_li ag119 (by first | exact getW oM | rfl) L) t1 t0 ?_
  refine aV L rfl (aV L rfl (zn [(1,_),(5,_),(6,_),(7,_),(12,_),(13,_),(14,_)] [(11,_)] t7 t1 (exd rF ?_)))
  refine mV L rfl (mV L rfl (sw (ixR0 un43 sz119 (by exact sO) (j:=i) rO oM L) t2 t1 ?_))
  refine sw (c_l1 ag119 (by exact sO) (getC (getW sO)) L) t1 t1 ?_
  refine mV L rfl (mV L rfl (sw (c_sl L oM (shl32k (Nat.le_of_lt hk))) t2 t0 (sw (c_or L (show _=(ws.getD i 0*2 ^ k+c) % 4294967296 by rw [hg,or32 (b:=ws.getD i 0 % 2 ^ (32 - k)) k rfl h0 h1 sa.2.2.1 (Nat.le_of_lt hk) sa.2.2.2 sa.2.1,sa.1])) t2 t0 ?_)))
  refine sw (ixR0 un43 sz119 (by exact sO) (j:=i) rO oM L) t2 t1 ?_
  refine sb (c_s1 sz119 (by exact sO) (.atom rfl) oM) t2 t1 ?_
  refine seq_nil ⟨aoks [⟨[5],[],[19],[]⟩,⟨[6],[],[20],[]⟩,⟨[19,20],[11],[21],[]⟩,⟨[21],[11],[22],[]⟩,⟨[7],[],[23],[]⟩,⟨[1],[],[24],[]⟩,⟨[23,24],[],[25],[]⟩,⟨[22,25],[],[26],[]⟩,⟨[19,20],[11],[27],[]⟩,⟨[27,26],[11],[],[11]⟩] rF rF dC,[(1,_),(5,_),(6,_),(7,_),(12,_),(13,_),(14,_)],[(11,_)],t7,t1,?_⟩
  refine exr0 (mV L rfl (mV L rfl (sw (c_ad L (w64 oM oM)) t2 t0 (mV L rfl (sw (c_cv un119 un127 L (fu64 oM oM)) t1 t0 (mV L rfl (sw (c_su L (w64 oM oM)) t2 t0 (sw (c_sr L oM (show _=(ws.getD i 0*2 ^ k+c) / 4294967296 by rw [shl_div (Nat.le_of_lt hk) _ h0 h1]; exact shr64s hk)) t2 t0 ?_))))))))
  refine sw (c_cv un127 un119 L (fu32 oM oM)) t1 t0 (sw (ixR0 un43 sz119 (by exact (List.length_set.trans sO)) (j:=i+1) rO oM L) t2 t1 ?_)
  refine sb (c_s1 sz119 (by exact (List.length_set.trans sO)) (.atom rfl) oM) t2 t1 ?_
  refine seq_nil (exr0 (sw (c_ad L (w64 oM oM)) t2 t0 (mV L rfl (seq_nil ?_))))
  exact ⟨(i+1,ys++[(ws.getD i 0*2 ^ k+c) % 4294967296],(ws.getD i 0*2 ^ k+c) / 4294967296),key,(by simp only; omega),le_of ⟨oR,rfl,rfl,rfl,rfl,trivial⟩ ⟨obl rfl (by simp only; rw [encW_set,encW_set,shift_fill hlen oM]),trivial⟩⟩
 ·have he:=df he
  have hi:i=ws.length:=by omega
  subst hi
  obtain ⟨e1,e2⟩:=hx.end_ oM
  refine ex_exit (xq ?_)
  refine exr (mV L rfl (aV L rfl (zn [(4,_)] [(11,_)] t1 t1 (ex_ret ?_))))
  refine ⟨.inr rfl,rfl,_,rfl,by simp; omega,?_,by simp [digN_length]⟩
  rw [← e1,Nat.sub_self]; exact List.take_of_length_le sO
theorem pair_says (ws:List Int)(hl:ws.length<10000000000000)(h:Wd ws):Says E 150 [pW ws] (.tup [uZ (if ws.length≤2 then val ws else 0),bZ (decide (ws.length≤2))]):=by
 refine says_of (xs:=[uZ (if ws.length≤2 then val ws else 0),bZ (decide (ws.length≤2))]) Tryz.func150 rfl Tryz.ntmps150 Tryz.results150 sM fun F hG hX0 hnt hdf P0=>?_
 obtain ⟨L,hX,hN⟩:=pro hnt hX0 hG
 have hw:=h.getD 0
 have hw1:=h.getD 1
 refine exr (aV L rfl (aV L rfl (zn [(0,_)] [] t1 trivial (ex_seq (exr (mV L rfl (sw (c_ln un43 L) t1 t0 (zn [(0,_),(5,_)] [] t2 trivial (ex_block (exr (sw (c_e L) t2 t0 ?_)))))))))))
 refine aV L rfl (zn [(0,_),(5,_),(6,_)] [] t3 trivial ?_)
 refine ex_if rfl (fun h0=>?_) (fun h0=>?_)
 ·have h0:=dt h0
  have e:ws=[]:=List.eq_nil_of_length_eq_zero oM
  refine exr (aV L rfl (aV L rfl (zn [(2,_),(3,_)] [] t2 trivial (ex_ret ?_))))
  refine ⟨.inr rfl,ResVs.cast (.cons (.tmp rfl) (.cons (.tmp rfl) .nil)) ?_⟩
  rw [e]; rfl
 ·have h0:=df h0
  refine exr (sw (c_e L) t2 t0 (aV L rfl (zn [(0,_),(5,_),(8,_)] [] t3 trivial ?_)))
  refine ex_if rfl (fun h1=>?_) (fun h1=>?_)
  ·have h1:=dt h1
   refine exr (mV L rfl (sw (ixJ un43 sz119 (j:=0) rfl oM sM L) t2 t0 ?_))
   refine sw (c_li ag119 (by first | exact getW oM | rfl) L) t1 t0 ?_
   refine sw (c_cv un119 un127 L (fu64 oM oM)) t1 t0 (aV L rfl (aV L rfl (zn [(2,_),(3,_)] [] t2 trivial (ex_ret ?_))))
   refine ⟨.inr rfl,ResVs.cast (.cons (.tmp rfl) (.cons (.tmp rfl) .nil)) ?_⟩
   rw [if_pos oM,decide_eq_true oM,val_one oM]
  ·have h1:=df h1
   refine exr (sw (c_e L) t2 t0 (aV L rfl (zn [(0,_),(14,_)] [] t2 trivial ?_)))
   refine ex_if rfl (fun h2=>?_) (fun h2=>?_)
   ·have h2:=dt h2
    refine exd rF ?_
    refine mV L rfl (sw (ixJ un43 sz119 (j:=1) rfl oM sM L) t2 t0 ?_)
    refine sw (c_li ag119 (by first | exact getW oM | rfl) L) t1 t0 ?_
    refine sw (c_cv un119 un127 L (fu64 oM oM)) t1 t0 (sw (c_sl L dC (shlE (c:=4294967296) rF (fu64 oM oM))) t2 t0 ?_)
    refine mV L rfl (sw (ixJ un43 sz119 (j:=0) rfl oM sM L) t2 t0 ?_)
    refine sw (c_li ag119 (by first | exact getW oM | rfl) L) t1 t0 ?_
    refine sw (c_cv un119 un127 L (fu64 oM oM)) t1 t0 (sw (c_or L (or64' (b:=ws.getD 1 0) 32 rfl hw.1 hw.2 hw1.1 dC oM oM)) t2 t0 (aV L rfl (aV L rfl ?_)))
    refine seq_nil ⟨aoks [⟨[0],[],[16],[]⟩,⟨[16],[],[17],[]⟩,⟨[17],[],[18],[]⟩,⟨[18],[],[19],[]⟩,⟨[19],[],[20],[]⟩,⟨[0],[],[21],[]⟩,⟨[21],[],[22],[]⟩,⟨[22],[],[23],[]⟩,⟨[23],[],[24],[]⟩,⟨[20,24],[],[25],[]⟩,⟨[25],[],[2],[]⟩,⟨[],[],[3],[]⟩] rF rF dC,[(2,_),(3,_)],[],t2,trivial,?_⟩
    refine ex_ret ?_
    refine ⟨.inr rfl,ResVs.cast (.cons (.tmp rfl) (.cons (.tmp rfl) .nil)) ?_⟩
    rw [if_pos oM,decide_eq_true oM,← two_words h oM]; rfl
   ·have h2:=df h2
    refine ex_skip (xq ?_)
    refine exr (aV L rfl (aV L rfl (zn [(2,_),(3,_)] [] t2 trivial (ex_ret ?_))))
    refine ⟨.inr rfl,ResVs.cast (.cons (.tmp rfl) (.cons (.tmp rfl) .nil)) ?_⟩
    rw [if_neg oM,decide_eq_false oM]
theorem words_says (n:Int)(h0:0≤n)(h1:n<18446744073709551616):Says E 155 [uZ n] (pW (digN 2 n)):=by
 refine says_of (xs:=[pW (digN 2 n)]) Tryz.func155 rfl Tryz.ntmps155 Tryz.results155 sM fun F hG hX0 hnt hdf P0=>?_
 obtain ⟨L,hX,hN⟩:=pro hnt hX0 hG
 refine exr (aV L rfl (zn [(0,_)] [] t1 trivial (exr (mV L rfl (sw (c_cv un127 un119 L wu32) t1 t0 (mV L rfl (sw (c_sr L dC (shrE (c:=4294967296) rF dC)) t2 t0 ?_)))))))
 refine sw (c_cv un127 un119 L wu32) t1 t0 (sw (c_bI (vs:=[_,_]) un43 ti119 rfl rfl dC dC rfl (zs_made (.cons rfl .nil) rfl) rfl (.cons rfl (.atom rfl) rfl pu1 (.cons rfl (.atom rfl) rfl (.skip pu1) .nil)) (.cons (.cons .nil)) L) t2 t0 (aV L rfl (zn [(2,_)] [] t1 trivial (ex_ret ?_))))
 refine ⟨.inr rfl,ResVs.cast (.cons (.tmp rfl) .nil) ?_⟩
 simp [digN,encW]
theorem lz_says (x:Int)(h0:0≤x)(h1:x<4294967296):Says E 157 [oZ x] (vZ (32 - (bl x.toNat:Int))):=by
 refine says_of (xs:=[vZ (32 - (bl x.toNat:Int))]) Tryz.func157 rfl Tryz.ntmps157 Tryz.results157 sM fun F hG hX0 hnt hdf P0=>?_
 obtain ⟨L,hX,hN⟩:=pro hnt hX0 hG
 have hb:=bl32 h1
 refine exr (aV L rfl (zn [(0,_)] [] t1 trivial (exr (mV L rfl (cK hG hX cl169 hN (len32_says x h0 h1) L t1 (sw (c_su L (w64 oM oM)) t2 t0 (aV L rfl (zn [(2,_)] [] t1 trivial (ex_ret ?_)))))))))
 refine ⟨.inr rfl,ResVs.cast (.cons (.tmp rfl) .nil) ?_⟩
 rfl
theorem rbyWord_says (ws:List Int)(d:Int)(hl:ws.length<9999999999999)(h:Wd ws)(hd:0<d∧d<4294967296):Says E 165 [pW ws,uZ d] (.tup [pW (digs (val ws / d).toNat),pW (digs (val ws % d).toNat)]):=by
 refine says_of (xs:=[pW (digs (val ws / d).toNat),pW (digs (val ws % d).toNat)]) Tryz.func165 rfl Tryz.ntmps165 Tryz.results165 sM fun F hG hX0 hnt hdf P0=>?_
 obtain ⟨L,hX,hN⟩:=pro hnt hX0 hG
 have hv:=val_nonneg h
 refine exr (aV L rfl (aV L rfl (zn [(0,_),(1,_)] [] t2 trivial (exr (mV L rfl (sw (c_ln un43 L) t1 t0 (swb (c_mk (k:=11) un43 ti119 rfl rfl rfl rfl rfl rfl (Nat.le_refl _) (by simp [Tryz.t119]; omega) oM (P0 _ rfl) L) t2 t0 ⟨rfl,rfl⟩ ?_)))))))
 refine aV L rfl (zn [(0,_),(1,_),(4,_)] [(11,_)] t3 t1 (exr (aV L rfl (zn [(0,_),(1,_),(4,_),(6,_)] [(11,_)] t4 t1 (ex_seq (exr (mV L rfl (sw (c_ln un43 L) t1 t0 (sw (c_su L (w64 oM oM)) t2 t0 (aV L rfl (zn [(0,_),(1,_),(4,_),(6,_),(7,_)] [(11,_)] t5 t1 ?_)))))))))))
 refine ex_block ?_
 refine exl (α:=(Nat×List Int×Int)) (fun x=>[(7,vi ((x.1:Int) - 1)),(6,vw x.2.2)]) (fun x=>[(11,⟨119,1,.pure (encW (List.replicate x.1 0++x.2.1))⟩)]) (fun x=>ShortAt ws d x) (fun x=>x.1) ((ws.length,([]:List Int),(0:Int))) (sl:=[(0,_),(1,_),(4,_)]) (hb:=[]) ?_ ⟨oR,oR,rfl,rfl,rfl,trivial⟩ ⟨obl rfl (by rw [encW_rep]; simp),trivial⟩ ?_
 ·exact ShortAt.start ws d
 intro x hx
 obtain ⟨n,qs,r⟩:=x
 have hle:=hx.le
 have hq:qs.length=ws.length - n:=by have:=hx.q; simp only at this; rw [this,digN_length]
 have hr:0≤r∧r<d:=by have:=hx.r; simp only at this; rw [this]; exact ⟨Int.emod_nonneg _ oM,Int.emod_lt_of_pos _ hd.1⟩
 simp only at hle
 dsimp only
 refine ex_seq (exr (mV L rfl (sw (c_ge L) t2 t0 (zn [(0,_),(1,_),(4,_),(6,_),(7,_),(16,_)] [(11,_)] t6 t1 ?_))))
 refine ex_if rfl (fun he=>?_) (fun he=>?_)
 ·have he:=dt he
  obtain ⟨key,k1,k2⟩:=hx.next h hd.1 oM
  have hw:=h.getD (n - 1)
  refine ex_skip (xq ?_)
  refine ex_seq (ex_block (exr (mV L rfl (sw (c_sl L dC (shlE (c:=4294967296) rF (fu64 oM oM))) t2 t0 ?_))))
  refine mV L rfl (mV L rfl (sw (ixJ un43 sz119 (j:=n - 1) rO oM sM L) t2 t0 ?_))
  refine sw (c_li ag119 (by first | exact getW oM | rfl) L) t1 t0 ?_
  refine sw (c_cv un119 un127 L (fu64 oM oM)) t1 t0 (sw (c_or L (or64' (b:=r) 32 rfl hw.1 hw.2 hr.1 dC oM oM)) t2 t0 (aV L rfl ?_))
  refine seq_nil ⟨[(0,_),(1,_),(4,_),(7,_),(8,vw (r*4294967296+ws.getD (n - 1) 0))],[(11,_)],⟨rfl,rfl,rfl,rfl,oi oM rfl,trivial⟩,t1,?_⟩
  refine exr (mV L rfl (mV L rfl (mV L rfl (mV L rfl (sw (c_q L oM (tdivE oM oM)) t2 t0 (sw (c_cv un127 un119 L (fu32 oM oM)) t1 t0 (sw (ixR0 un43 sz119 (by exact sO) (j:=n - 1) rO oM L) t2 t1 ?_)))))))
  refine sb (c_s1 sz119 (by exact sO) (.atom rfl) oM) t2 t1 ?_
  refine zn [(0,_),(1,_),(4,_),(7,_),(8,_)] [(11,_)] t5 t1 (exr0 (mV L rfl (mV L rfl (sw (c_r L oM (tmodE oM oM)) t2 t0 (aV L rfl (seq_nil (exr0 (mV L rfl (sw (c_su L (w64 oM oM)) t2 t0 (aV L rfl (seq_nil ?_)))))))))))
  exact ⟨(n - 1,(r*4294967296+ws.getD (n - 1) 0) / d :: qs,(r*4294967296+ws.getD (n - 1) 0) % d),key,(by simp only; omega),le_of ⟨oR,oR,rfl,rfl,rfl,trivial⟩ ⟨obl rfl (by rw [encW_set,set_last sO]; simp),trivial⟩⟩
 ·have he:=df he
  have hn:n=0:=by omega
  subst hn
  have e1:r=val ws % d:=by simpa using hx.r
  have e2:qs=digN ws.length (val ws / d):=by simpa using hx.q
  have hql:qs.length=ws.length:=by omega
  refine ex_exit (xq ?_)
  refine ex_cv [11] (sl:=[(4,_),(6,_)]) (hb:=[]) (own_none hX0) ⟨⟨_,rfl,(.ref rfl rfl (by exact sO) (by first | rfl | omega))⟩,⟨_,rfl,.same⟩,trivial⟩ t0 ?_
  rw [← hql]
  simp only [List.replicate_zero,List.nil_append]
  refine exr (mV L rfl (cK hG hX cl147 hN (rtrim_says qs oM) L t1 (mV L rfl (sw (c_cv un127 un119 L (fu32 oM oM)) t1 t0 (sw (c_bI (vs:=[_]) un43 ti119 rfl rfl dC dC rfl (zs_made (.cons rfl .nil) rfl) rfl (.cons rfl (.atom rfl) rfl pu1 .nil) (.cons .nil) L) t1 t0 (cK hG hX cl147 hN (rtrim_says [r] sM) L t1 ?_))))))
  refine aV L rfl (aV L rfl (zn [(4,_),(5,_)] [] t2 trivial (ex_ret ?_)))
  refine ⟨.inr rfl,ResVs.cast (.cons (.tmp rfl) (.cons (.tmp rfl) .nil)) ?_⟩
  have q1:0≤val ws / d:=Int.ediv_nonneg hv oM
  have q2:val ws / d<4294967296 ^ ws.length:=by
   have:=val_lt h
   have h3:val ws / d≤val ws:=Int.ediv_le_self _ hv
   omega
  rw [trim_eq_digs (by rw [e2]; exact digN_wd _ _),trim_eq_digs (ws:=[r]) (by simp [Wd]; omega),e2,val_digN q1 q2,← e1]
  simp [val]
theorem runshift_says (ws:List Int)(s:Nat)(hl:ws.length<1000000000000)(h:Wd ws)(hs:s≤32):Says E 168 [pW ws,vZ s] (pW (digs (val ws / 2 ^ s).toNat)):=by
 refine says_of (xs:=[pW (digs (val ws / 2 ^ s).toNat)]) Tryz.func168 rfl Tryz.ntmps168 Tryz.results168 sM fun F hG hX0 hnt hdf P0=>?_
 obtain ⟨L,hX,hN⟩:=pro hnt hX0 hG
 have hv:=val_nonneg h
 obtain ⟨n,hn⟩:∃ n,n=ws.length:=⟨_,rfl⟩
 refine exr (aV L rfl (zn [(0,_),(1,_)] [] t2 trivial (exr (aV L rfl (zn [(0,_),(1,_),(5,_)] [] t3 trivial (ex_seq (exr (aV L rfl (zn [(0,_),(1,_),(5,_),(6,_)] [] t4 trivial (ex_block ?_))))))))))
 refine exlp (α:=(Nat×List Int)) (fun x=>[(6,vi (x.1:Int)),(5,.ref 27 0 x.2.length x.2.length)]) (fun x=>[(27,⟨119,1,.pure (encW x.2)⟩)]) (fun x=>UnAt ws s x∧0<x.1) (fun x=>n - x.1) (n+1) (sl:=[(0,_),(1,_)]) (hb:=[]) t2 t0 ?_ ?_
 ·refine ex_seq (exr (mV L rfl (mV L rfl (sw (c_ln un43 L) t1 t0 (sw (c_ls L) t2 t0 (zn [(0,_),(1,_),(5,_),(6,_),(10,_)] [] t5 trivial ?_))))))
  refine ex_if rfl (fun hd=>?_) (fun hd=>?_)
  ·have hd:=dt hd
   have hw:=h.getD 0
   have hw1:=h.getD 1
   have key:=(UnAt.zero ws s).next h hs oM
   have hb:=shr_bd (s:=s) (a:=ws.getD 0 0+ws.getD 1 0*4294967296) oM oM
   refine ex_skip (xq ?_)
   refine ex_seq (ex_block (exr0 (mV L rfl (mV L rfl (mV L rfl (cK hG hX cl145 hN (rword_says ws oM h 0 oM) L t2 (mV L rfl (mV L rfl (sw (c_ad L (w64 oM oM)) t2 t0 (cK hG hX cl145 hN (rword_says ws oM h 1 oM) L t2 (sw (c_sl L dC (shlE (c:=4294967296) rF (fu64 oM oM))) t2 t0 ?_)))))))))))
   refine sw (c_or L (or64 (b:=ws.getD 1 0) 32 rfl hw.1 hw.2 hw1.1 dC oM oM)) t2 t0 (mV L rfl (sw (c_sr L oM (shr64k oM)) t2 t0 (sw (c_cv un127 un119 L wu32) t1 t0 (sw (c_bI (vs:=[_]) un43 ti119 rfl rfl dC dC rfl (zs_made (.cons rfl .nil) rfl) rfl (.cons rfl (.atom rfl) rfl pu1 .nil) (.cons .nil) L) t1 t0 (swb (apN (k:=27) (sz:=1) un43 un43 ti119 rfl rfl rfl dC sM rfl (by first | (simp [Tryz.t119]; done) | (simp [Tryz.t119]; omega)) oM (P0 _ rfl) L) t2 t0 ⟨rfl,rfl⟩ ?_)))))
   refine aV L rfl (seq_nil (exr0 (mV L rfl (sw (c_ad L (w64 oM oM)) t2 t0 (aV L rfl (seq_nil ?_))))))
   exact ⟨(1,[(ws.getD 0 0+ws.getD 1 0*4294967296) / 2 ^ s % 4294967296]),⟨key,Nat.one_pos⟩,(by simp only; omega),le_of ⟨oR,oR,rfl,rfl,trivial⟩ t1⟩
  ·have hd:=df hd
   have e1:ws=[]:=List.eq_nil_of_length_eq_zero oM
   refine ex_exit (xq ?_)
   refine ex_cv [] (sl:=[(5,_)]) (hb:=[]) (own_none hX0) ⟨⟨_,rfl,(.p .nil)⟩,trivial⟩ t0 (exr (mV L rfl (cK hG hX cl147 hN (rtrim_says [] sM) L t1 ?_)))
   refine aV L rfl (zn [(4,_)] [] t1 trivial (ex_ret ?_))
   refine ⟨.inr rfl,ResVs.cast (.cons (.tmp rfl) .nil) ?_⟩
   rw [e1]; simp [trim,trimN,val,digs_zero]
 ·intro x hx
  obtain ⟨i,ys⟩:=x
  obtain ⟨hx,hi0⟩:=hx
  have hlen:=hx.len
  have hle:=hx.le
  simp only at hlen hle hi0
  dsimp only
  refine ex_seq (exr (mV L rfl (mV L rfl (sw (c_ln un43 L) t1 t0 (sw (c_ls L) t2 t0 (zn [(0,_),(1,_),(5,_),(6,_),(10,_)] [(27,_)] t5 t1 ?_))))))
  refine ex_if rfl (fun hd=>?_) (fun hd=>?_)
  ·have hd:=dt hd
   have hw:=h.getD i
   have hw1:=h.getD (i+1)
   have key:=hx.next h hs oM
   have hb:=shr_bd (s:=s) (a:=ws.getD i 0+ws.getD (i+1) 0*4294967296) oM oM
   refine ex_skip (xq ?_)
   refine ex_seq (ex_block (exr0 (mV L rfl (mV L rfl (mV L rfl (cK hG hX cl145 hN (rword_says ws oM h i oM) L t2 (mV L rfl (mV L rfl (sw (c_ad L (w64 oM oM)) t2 t0 (cK hG hX cl145 hN (rword_says ws oM h (i+1) oM) L t2 (sw (c_sl L dC (shlE (c:=4294967296) rF (fu64 oM oM))) t2 t0 ?_)))))))))))
   refine sw (c_or L (or64 (b:=ws.getD (i+1) 0) 32 rfl hw.1 hw.2 hw1.1 dC oM oM)) t2 t0 (mV L rfl (sw (c_sr L oM (shr64k oM)) t2 t0 (sw (c_cv un127 un119 L wu32) t1 t0 (sw (c_bI (vs:=[_]) un43 ti119 rfl rfl dC dC rfl (zs_made (.cons rfl .nil) rfl) rfl (.cons rfl (.atom rfl) rfl pu1 .nil) (.cons .nil) L) t1 t0 (swb (apP (sz:=1) un43 un43 ti119 rfl rfl rfl dC (by exact sM) oF sM rfl rfl rfl (by first | (simp [Tryz.t119]; done) | (simp [Tryz.t119]; omega)) oM (P0 _ rfl) L) t2 t1 t0 ?_)))))
   refine aV L rfl (seq_nil (exr0 (mV L rfl (sw (c_ad L (w64 oM oM)) t2 t0 (aV L rfl (seq_nil ?_))))))
   exact ⟨(i+1,ys++[(ws.getD i 0+ws.getD (i+1) 0*4294967296) / 2 ^ s % 4294967296]),⟨key,Nat.succ_pos _⟩,(by simp only; omega),le_of ⟨oR,ov rfl sM,rfl,rfl,trivial⟩ ⟨obl rfl (by rw [encW_app]; rfl),trivial⟩⟩
  ·have hd:=df hd
   have hi:i=ws.length:=by omega
   subst hi
   have e:=hx.end_
   refine ex_exit (xq ?_)
   refine ex_cv [27] (sl:=[(5,_)]) (hb:=[]) (own_none hX0) ⟨⟨_,rfl,(.ref rfl rfl (by exact sM) (by first | rfl | omega))⟩,trivial⟩ t0 ?_
   refine exr (mV L rfl (cK hG hX cl147 hN (rtrim_says ys oM) L t1 (aV L rfl (zn [(4,_)] [] t1 trivial (ex_ret ?_)))))
   refine ⟨.inr rfl,ResVs.cast (.cons (.tmp rfl) .nil) ?_⟩
   rw [trim_eq_digs hx.wd]; simp only; rw [e]
theorem rtrimR_says (ws:List Int)(hl:ws.length<10000000000000):SaysR E 147 [.ref 1000 0 ws.length ws.length] [(1000,⟨119,1,.pure (encW ws)⟩)] [(1000,⟨119,1,.pure (encW ws)⟩)] (.ref 1000 0 (trimN ws ws.length) ws.length):=by
 refine saysR_of Tryz.func147 rfl Tryz.ntmps147 Tryz.results147 sM rfl (sub_of rfl) fun F hG hX hnt hdf P0 hXp=>?_
 have L:=@lti _ _ hnt
 have hN:=ng_le hG
 refine exr (aV L rfl (zn [(0,_)] [(1000,_)] t1 t1 (exr (mV L rfl (sw (c_lr un43 (by exact sM) L) t1 t1 ?_)))))
 refine aV L rfl (zn [(0,_),(3,_)] [(1000,_)] t2 t1 (ex_seq (ex_block ?_)))
 refine exl (α:=Nat) (fun n=>[(3,vi (n:Int))]) (fun n=>[]) (fun n=>n≤ws.length∧trimN ws n=trimN ws ws.length) (fun n=>n) (ws.length) (sl:=[(0,_)]) (hb:=[(1000,_)]) ?_ ⟨oR,rfl,trivial⟩ t1 ?_
 ·exact ⟨Nat.le_refl _,rfl⟩
 intro n hn
 refine ex_seq ?_
 refine exm (sl:=[(15,vb (decide (0<n∧ws.getD (n - 1) 0=0)))]) (sl0:=[(0,_),(3,_)]) (hb:=[]) (hb0:=[(1000,_)]) t2 t1 ?_ ?_
 ·by_cases h:n=0
  ·refine mV L rfl (sw (c_gt L) t2 t0 (mV L rfl (swn (g:=8) rfl (by simp [h]) L rfl ?_)))
   refine swn (g:=8) rfl (by simp [h]) L rfl ?_
   refine swn (g:=8) rfl (by simp [h]) L rfl ?_
   refine swn (g:=8) rfl (by simp [h]) L rfl ?_
   refine swn (g:=8) rfl (by simp [h]) L rfl ?_
   refine swn (g:=8) rfl (by simp [h]) L rfl ?_
   refine sw (c_pf (by simp [h]) L) t2 t0 ?_
   exact seq_nil ⟨⟨ob rfl (by simp [h]),rfl,rfl,trivial⟩,t1⟩
  ·refine mV L rfl (sw (c_gt L) t2 t0 (mV L rfl (gV (g:=8) rfl sO L rfl rfl (gV (g:=8) rfl sO L rfl rfl (swg (g:=8) rfl sO (c_su L (w64 oM oM)) rfl t2 t0 (swg (g:=8) rfl sO (ixR0 un43 sz119 (by exact sM) (j:=n - 1) rO oM L) rfl t2 t1 ?_))))))
   refine swg (g:=8) rfl sO (c_l1 ag119 (by exact sM) (getC (by first | exact getW oM | rfl)) L) rfl t1 t1 ?_
   refine swg (g:=8) rfl sO (c_e L) rfl t2 t0 (sw (c_pt sO L) t2 t0 ?_)
   exact seq_nil ⟨⟨ob rfl sO,rfl,rfl,trivial⟩,t1⟩
 refine ex_if rfl (fun hc=>?_) (fun hc=>?_)
 ·have hc:=dt hc
  refine ex_skip (xq ?_)
  refine ex_block (exr0 (mV L rfl (sw (c_su L (w64 oM oM)) t2 t0 (aV L rfl (seq_nil ?_)))))
  exact ⟨n - 1,⟨by omega,by rw [← hn.2]; conv=>rhs; rw [show n=(n - 1)+1 by omega]; simp only [trimN,hc.2,if_true]⟩,by omega,le_of ⟨oR,rfl,trivial⟩ t1⟩
 ·have hc:=df hc
  have e:trimN ws ws.length=n:=by
   rw [← hn.2]
   cases n with
   | zero=>rfl
   | succ n=>simp only [trimN]; rw [if_neg]; intro h; exact hc ⟨by omega,by simpa using h⟩
  rw [e]
  refine ex_exit (xq ?_)
  refine exr (mV L rfl (mV L rfl (sw (slR_hi un43 sz119 rfl (by exact sM) (h:=n) rO oM L) t2 t1 ?_)))
  refine aV L rfl (zn [(2,_)] [(1000,_)] t1 t1 (ex_ret ?_))
  refine ⟨.inr rfl,rfl,t1⟩
theorem rshifted_says (ws:List Int)(k:Nat)(hl:ws.length<1000000000000)(h:Wd ws)(hk:k<1000000000000):SaysO E 167 [pW ws,vZ k] 119 1 (digs (val ws*2 ^ k).toNat).length (encW (digs (val ws*2 ^ k).toNat)):=by
 refine saysO_of (k:=14) (tot:=k / 32+ws.length+1) Tryz.func167 rfl Tryz.ntmps167 Tryz.results167 sM fun F hG hX0 hnt hdf P0=>?_
 obtain ⟨L,hX,hN⟩:=pro hnt hX0 hG
 obtain ⟨q,hq⟩:∃ q,q=k / 32:=⟨_,rfl⟩
 obtain ⟨s,hs⟩:∃ s,s=k % 32:=⟨_,rfl⟩
 have hs32:s<32:=by omega
 rw [← hq]
 refine exr (aV L rfl (zn [(0,_),(1,_)] [] t2 trivial (exr (mV L rfl (sw (c_q L dC (tdiv64 (show _=(q:Int) by omega))) t2 t0 ?_)))))
 refine mV L rfl (sw (c_ln un43 L) t1 t0 (sw (c_ad L (w64 oM oM)) t2 t0 (sw (c_ad L (w64 oM oM)) t2 t0 (swb (c_mk (k:=14) un43 ti119 rfl rfl rfl rfl (show _=((q+ws.length+1:Nat):Int) by omega) (show _=((q+ws.length+1:Nat):Int) by omega) (Nat.le_refl _) (by simp [Tryz.t119]; omega) oM (P0 _ rfl) L) t2 t0 ⟨rfl,rfl⟩ ?_))))
 refine aV L rfl (zn [(0,_),(1,_),(5,_)] [(14,_)] t3 t1 (ex_seq (exr (aV L rfl (zn [(0,_),(1,_),(5,_),(6,_)] [(14,_)] t4 t1 (ex_block ?_))))))
 refine exl (α:=(Nat×List Int×Int)) (fun x=>[(6,vi (x.1:Int))]) (fun x=>[(14,⟨119,1,.pure (encW (List.replicate q 0++(x.2.1++x.2.2 :: List.replicate (ws.length - x.1) 0)))⟩)]) (fun x=>ShiftAt ws s x) (fun x=>ws.length - x.1) (((0:Nat),([]:List Int),(0:Int))) (sl:=[(0,_),(1,_),(5,_)]) (hb:=[]) ?_ ⟨oR,rfl,rfl,rfl,trivial⟩ ⟨obl rfl (by rw [encW_rep,shift_start]),trivial⟩ ?_
 ·exact ShiftAt.zero ws s
 intro x hx
 obtain ⟨i,ys,c⟩:=x
 have hlen:=hx.len
 have hle:=hx.le
 have h0:=hx.h0
 have h1:=hx.h1
 simp only at hlen hle h0 h1
 dsimp only
 refine ex_seq (exr (mV L rfl (mV L rfl (sw (c_ln un43 L) t1 t0 (sw (c_ls L) t2 t0 (zn [(0,_),(1,_),(5,_),(6,_),(18,_)] [(14,_)] t5 t1 ?_))))))
 refine ex_if rfl (fun he=>?_) (fun he=>?_)
 ·have he:=dt he
  have hw:=h.getD i
  have key:=hx.next h oM
  have kq0:=key.h0
  have kq1:=key.h1
  simp only at kq0 kq1
  have hp:=pow32 (Nat.le_of_lt hs32)
  have sa:=shl_add (Nat.le_of_lt hs32) (ws.getD i 0) h0 h1
  have sbd:=shl_bd hs32 hw
  have sd:ws.getD i 0*2 ^ s / 4294967296=(ws.getD i 0*2 ^ s+c) / 4294967296:=by
   rw [shl_div (Nat.le_of_lt hs32) _ h0 h1]
   have:=shl_div (Nat.le_of_lt hs32) (ws.getD i 0) (c:=0) (Int.le_refl _) oM
   simpa using this
  have hg:(List.replicate q 0++(ys++c :: List.replicate (ws.length - i) 0)).getD (i+q) 0=c:=shift_get hlen
  refine ex_skip (xq ?_)
  refine ex_seq (ex_block (exr (mV L rfl (mV L rfl (sw (ixJ un43 sz119 (j:=i) rO oM sM L) t2 t0 ?_)))))
  refine sw (c_li ag119 (by first | exact getW oM | rfl) L) t1 t0 ?_
  refine sw (c_cv un119 un127 L (fu64 oM oM)) t1 t0 (mV L rfl (sw (c_r L dC (show _=(s:Int) by rw [Int.tmod_eq_emod_of_nonneg oM]; omega)) t2 t0 ?_))
  refine sw (c_sl L oM (shl64k oM sbd)) t2 t0 (aV L rfl (zn [(0,_),(1,_),(5,_),(6,_),(7,_)] [(14,_)] t5 t1 (exr (mV L rfl (mV L rfl (mV L rfl (sw (c_q L dC (tdiv64 (show _=(q:Int) by omega))) t2 t0 ?_)))))))
  refine sw (c_ad L (w64 oM oM)) t2 t0 (mV L rfl (mV L rfl (mV L rfl (sw (c_q L dC (tdiv64 (show _=(q:Int) by omega))) t2 t0 ?_))))
  refine sw (c_ad L (w64 oM oM)) t2 t0 (sw (ixR0 un43 sz119 (by exact sO) (j:=i+q) rO oM L) t2 t1 ?_)
  refine sw (c_l1 ag119 (by exact sO) (getC (getW sO)) L) t1 t1 ?_
  refine mV L rfl (sw (c_cv un127 un119 L wu32) t1 t0 (sw (c_or L (show _=(ws.getD i 0*2 ^ s+c) % 4294967296 by rw [hg,or32 (b:=ws.getD i 0 % 2 ^ (32 - s)) s (shl_mod (Nat.le_of_lt hs32) _) h0 h1 sa.2.2.1 (Nat.le_of_lt hs32) sa.2.2.2 sa.2.1,sa.1])) t2 t0 ?_))
  refine sw (ixR0 un43 sz119 (by exact sO) (j:=i+q) rO oM L) t2 t1 ?_
  refine sb (c_s1 sz119 (by exact sO) (.atom rfl) oM) t2 t1 ?_
  refine zn [(0,_),(1,_),(5,_),(6,_),(7,_)] [(14,_)] t5 t1 (exr0 (mV L rfl (mV L rfl (mV L rfl (sw (c_q L dC (tdiv64 (show _=(q:Int) by omega))) t2 t0 ?_)))))
  refine sw (c_ad L (w64 oM oM)) t2 t0 (sw (c_ad L (w64 oM oM)) t2 t0 (mV L rfl (sw (c_sr L dC (shrE (c:=4294967296) rF dC)) t2 t0 ?_)))
  refine sw (c_cv un127 un119 L (show _=(ws.getD i 0*2 ^ s+c) / 4294967296 by rw [sd]; exact fu32 oM oM)) t1 t0 ?_
  refine sw (ixR0 un43 sz119 (by exact (List.length_set.trans sO)) (j:=i+q+1) rO oM L) t2 t1 ?_
  refine sb (c_s1 sz119 (by exact (List.length_set.trans sO)) (.atom rfl) oM) t2 t1 ?_
  refine seq_nil (exr0 (mV L rfl (sw (c_ad L (w64 oM oM)) t2 t0 (aV L rfl (seq_nil ?_)))))
  exact ⟨(i+1,ys++[(ws.getD i 0*2 ^ s+c) % 4294967296],(ws.getD i 0*2 ^ s+c) / 4294967296),key,(by simp only; omega),le_of ⟨oR,rfl,rfl,rfl,trivial⟩ ⟨obl rfl (by simp only; rw [encW_set,encW_set,shift_fill2 hlen oM]),trivial⟩⟩
 ·have he:=df he
  have hi:i=ws.length:=by omega
  subst hi
  obtain ⟨X,hX1⟩:∃ X,X=List.replicate q 0++(ys++[c]):=⟨_,rfl⟩
  have hXl:X.length=q+ws.length+1:=by rw [hX1]; simp; omega
  have hXt:=shift_end hx oM hX1 (show k=32*q+s by omega)
  rw [Nat.sub_self,List.replicate_zero,← hX1,← hXl,hXt.2]
  refine ex_exit (xq ?_)
  refine exr (mV L rfl (swB (c_cr hG hX [14] hN (rtrimR_says X oM) rfl rfl (args_fn (ys:=[_]) cl147 rfl rF) rF rF rF rF (SameH.to (.cons rfl .nil)) rF rF L) t1 t1 ?_))
  refine aV L rfl (zn [(4,_)] [(14,_)] t1 t1 (ex_ret ?_))
  refine ⟨.inr rfl,rfl,_,rfl,by simp,?_,by rw [encW_length,hXt.2]; simp⟩
  rw [Nat.mul_one,encW_take,← hXt.1,trim]
end Go.Proofs.YtjagfionflbjbaaGreat.N
namespace Go.Proofs.YtjagfionflbjbaaGreat.NumA
theorem guess_down {U u2 u3 d1 d2 d3 P R D q r Q:Int}(hR:R=(U*4294967296+u2)*P+u3)(hD:D=(d1*4294967296+d2)*P+d3)(hP:0<P)(hu3:0≤u3∧u3<P)(hd3:0≤d3)(hq0:0≤q)(hqr:q*d1+r=U)(hQ:Q*D≤R)(hQB:Q<4294967296)(hDpos:0<D)(hbig:4294967296≤q∨r*4294967296+u2<q*d2):Q≤q - 1:=by
  rcases hbig with h | h
  · omega
  · by_cases e:Q≤q - 1
    · exact e
    · have h1:q*D≤Q*D:=Int.mul_le_mul_of_nonneg_right (by omega) (Int.le_of_lt hDpos)
      have h2:(U*4294967296+u2+1)*P≤(q*(d1*4294967296+d2))*P:=Int.mul_le_mul_of_nonneg_right (by rw [← hqr]; grind) (Int.le_of_lt hP)
      have h3:q*D=q*(d1*4294967296+d2)*P+q*d3:=by rw [hD]; grind
      have h4:0≤q*d3:=Int.mul_nonneg hq0 hd3
      have h5:(U*4294967296+u2+1)*P=(U*4294967296+u2)*P+P:=by grind
      omega
end Go.Proofs.YtjagfionflbjbaaGreat.NumA
namespace Go.Proofs.YtjagfionflbjbaaGreat.NumA
theorem guess_end {U u2 u3 d1 d2 d3 P R D q r:Int}(hR:R=(U*4294967296+u2)*P+u3)(hD:D=(d1*4294967296+d2)*P+d3)(hP:0<P)(hu2:0≤u2)(hu3:0≤u3)(hd1:1≤d1)(hd2:0≤d2∧d2<4294967296)(hd3:0≤d3∧d3<P)(hq0:0≤q)(hqB:q<4294967296)(hqr:q*d1+r=U)(hend:4294967296≤r∨q*d2≤r*4294967296+u2):(q - 1)*D≤R:=by
  have h3:q*D=q*(d1*4294967296+d2)*P+q*d3:=by rw [hD]; grind
  have h4:q*d3≤q*P:=Int.mul_le_mul_of_nonneg_left (by omega) hq0
  have h5:q*P≤4294967296*P:=Int.mul_le_mul_of_nonneg_right (by omega) (Int.le_of_lt hP)
  have h6:1*(4294967296*P)≤d1*(4294967296*P):=Int.mul_le_mul_of_nonneg_right hd1 (by omega)
  have h7:0≤d2*P:=Int.mul_nonneg hd2.1 (Int.le_of_lt hP)
  have h8:D=d1*(4294967296*P)+d2*P+d3:=by rw [hD]; grind
  have h9:q*(d1*4294967296+d2)≤U*4294967296+u2:=by
    rcases hend with h | h
    · have h10:q*d2≤q*4294967296:=Int.mul_le_mul_of_nonneg_left (by omega) hq0
      have h11:q*(d1*4294967296+d2)=(U - r)*4294967296+q*d2:=by rw [← hqr]; grind
      have h12:(U - r)*4294967296=U*4294967296 - r*4294967296:=by grind
      omega
    · have h11:q*(d1*4294967296+d2)=(U - r)*4294967296+q*d2:=by rw [← hqr]; grind
      have h12:(U - r)*4294967296=U*4294967296 - r*4294967296:=by grind
      omega
  have h13:q*(d1*4294967296+d2)*P≤(U*4294967296+u2)*P:=Int.mul_le_mul_of_nonneg_right h9 (Int.le_of_lt hP)
  have h14:(q - 1)*D=q*D - D:=by grind
  omega
end Go.Proofs.YtjagfionflbjbaaGreat.NumA
namespace Go.Proofs.YtjagfionflbjbaaGreat.NumA
def gL (u2 d1 d2:Int):Nat→Int→Int→Int
  | 0,q,_=>q
  | n+1,q,r=>if 4294967296≤q∨r*4294967296+u2<q*d2 then (if 4294967296≤r+d1 then q - 1 else gL u2 d1 d2 n (q - 1) (r+d1)) else q
def guessW (u0 u1 u2 d1 d2:Int):Int:=gL u2 d1 d2 2 ((u0*4294967296+u1) / d1) ((u0*4294967296+u1) % d1)
theorem gL_ok {U u2 u3 d1 d2 d3 P R D Q : Int} (hR : R = (U * 4294967296 + u2) * P + u3) (hD : D = (d1 * 4294967296 + d2) * P + d3) (hP : 0 < P) (hu2 : 0 ≤ u2) (hu3 : 0 ≤ u3 ∧ u3 < P) (hd1 : 1 ≤ d1) (hd2 : 0 ≤ d2 ∧ d2 < 4294967296) (hd3 : 0 ≤ d3 ∧ d3 < P) (hU : U ≤ d1 * 4294967296 + 4294967295) (hQ0 : 0 ≤ Q) (hQ : Q * D ≤ R) (hQB : Q < 4294967296) (hDpos : 0 < D) :
    ∀ (n:Nat) (q r:Int),0≤q→q*d1+r=U→0≤r→r<4294967296→4294967296≤r+n*d1→Q≤q→Q≤gL u2 d1 d2 n q r∧gL u2 d1 d2 n q r<4294967296∧(gL u2 d1 d2 n q r - 1)*D≤R:=by
  intro n
  induction n with
  | zero=>intro q r _ _ _ h1 h2; omega
  | succ n ih =>
    intro q r hq0 hqr hr0 hr1 hn hQq
    rw [gL]
    split
    · rename_i hbad
      have hdn:=guess_down hR hD hP hu3 hd3.1 hq0 hqr hQ hQB hDpos hbad
      have hqr':(q - 1)*d1+(r+d1)=U:=by rw [← hqr]; grind
      split
      · rename_i hb
        have hqB:q - 1<4294967296:=by
          by_cases e:q - 1<4294967296
          · exact e
          · have h1:4294967297*d1≤q*d1:=Int.mul_le_mul_of_nonneg_right (by omega) (by omega)
            omega
        exact ⟨hdn,hqB,guess_end hR hD hP hu2 hu3.1 hd1 hd2 hd3 (by omega) hqB hqr' (.inl hb)⟩
      · rename_i hb
        refine ih (q - 1) (r+d1) (by omega) hqr' (by omega) (by omega) ?_ hdn
        have:((n+1:Nat):Int)*d1=n*d1+d1:=by rw [Int.natCast_succ,Int.add_mul,Int.one_mul]
        omega
    · rename_i hg
      exact ⟨hQq,by omega,guess_end hR hD hP hu2 hu3.1 hd1 hd2 hd3 hq0 (by omega) hqr (.inr (by omega))⟩
structure TakeAt (win vs:List Int) (q:Int) (x:Nat×List Int×Int×Int):Prop where
  le:x.1≤win.length
  len:x.2.1.length=x.1
  wd:Wd x.2.1
  c0:0≤x.2.2.1
  c1:x.2.2.1<4294967296
  b:x.2.2.2=0∨x.2.2.2=1
  eq:val x.2.1+q*val (vs.take x.1)=val (win.take x.1)+4294967296 ^ x.1*(x.2.2.1+x.2.2.2)
  cb:4294967296 ^ x.1*x.2.2.1≤q*val (vs.take x.1)
theorem TakeAt.zero (win vs:List Int)(q:Int):TakeAt win vs q (0,[],0,0):=⟨Nat.zero_le _,rfl,Wd.nil,Int.le_refl _,(by decide),.inl rfl,by simp [val],by simp [val]⟩
theorem take_bd {q w c:Int}(hq:0≤q∧q<4294967296)(hw:0≤w∧w<4294967296)(hc:0≤c∧c<4294967296):0≤q*w+c∧q*w+c≤18446744069414584320:=by
  have:=mul_bd hq hw
  omega
theorem TakeAt.next {win vs : List Int} {q : Int} (h2 : Wd vs) (hq : 0 ≤ q ∧ q < 4294967296) {j : Nat} {ys : List Int} {c b : Int} (ha : TakeAt win vs q (j, ys, c, b)) (hj : j < win.length) {p d b' : Int} (hp : p = q * vs.getD j 0 + c) (hd : d = (win.getD j 0 - p % 4294967296 - b) % 4294967296) (hb' : b' = if win.getD j 0 < p % 4294967296 + b then 1 else 0) (hu : 0 ≤ win.getD j 0 ∧ win.getD j 0 < 4294967296) :
    TakeAt win vs q (j+1,ys++[d],p / 4294967296,b'):=by
  obtain ⟨h1,hl,hw,c0,c1,hb,heq,hcb⟩:=ha
  simp only at h1 hl hw c0 c1 hb heq hcb
  have hv:=h2.getD j
  have hbd:=take_bd hq hv ⟨c0,c1⟩
  rw [← hp] at hbd
  have hd2:d=win.getD j 0 - p % 4294967296 - b+4294967296*b':=by rw [hd,hb']; split <;> omega
  have hP:(0:Int)<4294967296 ^ j:=Int.pow_pos (by decide)
  refine ⟨hj,by simp [hl],hw.snoc (by omega) (by omega),by simp only; omega,by simp only; omega,?_,?_,?_⟩
  · simp only; rw [hb']; split <;> simp
  · simp only
    have hpp:p=p % 4294967296+4294967296*(p / 4294967296):=by omega
    rw [val_snoc,hl,val_take_succ' j,val_take_succ' j,Int.pow_succ,hd2]
    generalize p / 4294967296=ph at *
    generalize p % 4294967296=pl at *
    generalize val (vs.take j)=A at *
    generalize val (win.take j)=B at *
    generalize win.getD j 0=u at *
    generalize vs.getD j 0=w at *
    have hc2:c=pl+4294967296*ph - q*w:=by omega
    subst hc2
    grind
  · simp only
    rw [val_take_succ' j,Int.pow_succ]
    have h5:4294967296 ^ j*(4294967296*(p / 4294967296))≤4294967296 ^ j*p:=Int.mul_le_mul_of_nonneg_left (by omega) (Int.le_of_lt hP)
    have h6:4294967296 ^ j*p=q*(4294967296 ^ j*vs.getD j 0)+4294967296 ^ j*c:=by rw [hp]; grind
    have h7:(4294967296:Int) ^ j*4294967296*(p / 4294967296)=4294967296 ^ j*(4294967296*(p / 4294967296)):=by grind
    have h8:q*(val (vs.take j)+4294967296 ^ j*vs.getD j 0)=q*val (vs.take j)+q*(4294967296 ^ j*vs.getD j 0):=by grind
    omega
theorem TakeAt.end_ {win vs ys:List Int}{q c b:Int}(h:Wd win)(hl:vs.length<win.length)(h2:Wd vs)(hq:0≤q∧q<4294967296)(ha:TakeAt win vs q (win.length,ys,c,b)):c=0∧val ys=val win - q*val vs+4294967296 ^ win.length*b∧(b=0↔q*val vs≤val win):=by
  obtain ⟨h1,hlen,hw,c0,c1,hb,heq,hcb⟩:=ha
  simp only at h1 hlen hw c0 c1 hb heq hcb
  rw [List.take_of_length_le (by omega)] at heq hcb
  rw [List.take_length] at heq
  have hP:(0:Int)<4294967296 ^ win.length:=Int.pow_pos (by decide)
  have hvl:=val_lt h2
  have hvn:=val_nonneg h2
  have hD:q*val vs<4294967296 ^ win.length:=by
    have e:(4294967296:Int) ^ win.length=4294967296*4294967296 ^ (win.length - 1):=by
      rw [show win.length=(win.length - 1)+1 by omega,Int.pow_succ,Nat.add_sub_cancel,Int.mul_comm]
    have h3:(4294967296:Int) ^ vs.length≤4294967296 ^ (win.length - 1):=by
      have h2:((4294967296 ^ vs.length:Nat):Int)≤((4294967296 ^ (win.length - 1):Nat):Int):=Int.ofNat_le.2 (Nat.pow_le_pow_right (by decide) (show vs.length≤win.length - 1 by omega))
      rw [Int.natCast_pow,Int.natCast_pow] at h2
      exact h2
    have h4:q*val vs≤4294967295*val vs:=Int.mul_le_mul_of_nonneg_right (by omega) hvn
    omega
  have hc:c=0:=by
    by_cases e:c=0
    · exact e
    · have:(4294967296:Int) ^ win.length*1≤4294967296 ^ win.length*c:=Int.mul_le_mul_of_nonneg_left (by omega) (Int.le_of_lt hP)
      omega
  subst hc
  rw [Int.zero_add] at heq
  have hy:=val_nonneg hw
  have hy2:=val_lt hw
  have hwv:=val_lt h
  have hwn:=val_nonneg h
  rw [hlen] at hy2
  refine ⟨rfl,by omega,?_⟩
  rcases hb with hb | hb
  · subst hb; rw [Int.mul_zero] at heq; exact ⟨fun _=>by omega,fun _=>rfl⟩
  · subst hb; rw [Int.mul_one] at heq; exact ⟨fun h=>by omega,fun h=>by omega⟩
structure BackAt (win vs:List Int) (x:Nat×List Int×Int):Prop where
  le:x.1≤win.length
  len:x.2.1.length=x.1
  wd:Wd x.2.1
  c:x.2.2=0∨x.2.2=1
  eq:val x.2.1+4294967296 ^ x.1*x.2.2=val (win.take x.1)+val (vs.take x.1)
theorem BackAt.zero (win vs:List Int):BackAt win vs (0,[],0):=⟨Nat.zero_le _,rfl,Wd.nil,.inl rfl,by simp [val]⟩
theorem BackAt.next {win vs : List Int} (h : Wd win) (h2 : Wd vs) {j : Nat} {ys : List Int} {c : Int} (ha : BackAt win vs (j, ys, c)) (hj : j < win.length) {s : Int} (hs : s = win.getD j 0 + vs.getD j 0 + c) :
    BackAt win vs (j+1,ys++[s % 4294967296],s / 4294967296):=by
  obtain ⟨h1,hl,hw,hc,heq⟩:=ha
  simp only at h1 hl hw hc heq
  have hu:=h.getD j
  have hv:=h2.getD j
  refine ⟨hj,by simp [hl],hw.snoc (by omega) (by omega),by simp only; omega,?_⟩
  simp only
  rw [val_snoc,hl,val_take_succ' j,val_take_succ' j,Int.pow_succ]
  have hpp:s=s % 4294967296+4294967296*(s / 4294967296):=by omega
  generalize s / 4294967296=ph at *
  generalize s % 4294967296=pl at *
  generalize val (vs.take j)=A at *
  generalize val (win.take j)=B at *
  generalize win.getD j 0=u at *
  generalize vs.getD j 0=w at *
  have hc2:c=pl+4294967296*ph - u - w:=by omega
  subst hc2
  grind
end Go.Proofs.YtjagfionflbjbaaGreat.NumA
