/- Part E of the proof: lemmas for the walks of the given functions. No statement of its own. -/
import Derived.Lib.Bytealg
import Derived.RecoverIn
import Derived.LaidEql
import Derived.Test.YtcifhkfpmhifaaaGreatDoorPD
set_option linter.unusedVariables false
set_option linter.unusedSimpArgs false
set_option linter.deprecated false
namespace Go.Proofs.YtcifhkfpmhifaaaGreatDoor.SH
open Go Go.RowKit
theorem says_ofR {E : Env} {f : FuncId} {fn : Func} {c : Code} {args xs : List Pure} {rs : List ResultVar} {n : Nat} (hf : E.P.funcs[f]? = some fn) (hb : fn.body = some c) (hn : fn.ntmps = n) (hr : fn.results = rs.toArray) (hle : args.length ≤ n)
    (h : ∀ F : Fr,E.G F.w0 → (∀ b,¬ F.X b) → F.nt = n → F.df = [] → (∀ k,Nat.blt k 1000 = true → F.pin k = none) → F.ro = none → Exec E.P F c ⟨argSlots 0 args,[]⟩ (fun e S=>(e = .normal ∨ e = .ret) ∧ ResVs E.P S rs xs)) : Says E f args (resOf xs):=by
  intro ok w vals hG hrel
  have hvl:=hrel.length
  let F : Fr:=⟨w,ok,fun _=>False,n,[],fun _=>none,none,fun _ _=>False,fun k=>Nat.blt k 1000⟩
  have hS : Sat F ⟨argSlots 0 args,[]⟩ { tmps:=vals.toArray ++ Array.replicate (fn.ntmps - vals.toArray.size) undef,defers:=[] } w:=by
    refine ⟨fun _=>0,⟨fun t v ht=>?_,fun k B hB=>by simp [St.blk] at hB,fun k k' hk=>by simp [St.blk] at hk,⟨rfl,rfl,rfl,Nat.le_refl _,fun _ _ _=>rfl⟩,?_,Marks.nil rfl,fun j b n hj=>by cases hj⟩⟩
    · obtain ⟨j,x,rfl,hx,rfl⟩:=argSlots_get ht
      obtain ⟨u,hu,hru⟩:=hrel.get hx
      refine ⟨u,?_,?_⟩
      · rw [Nat.zero_add,Array.getElem?_append_left (by have:=(List.getElem?_eq_some_iff.1 hu).1; simpa using this)]
        simpa using hu
      · simp only [RelV]
        exact Rel.mono (fun b hb _=>⟨⟨.inl hb,fun k hk=>by simp [St.blk] at hk⟩,rfl⟩) _ _ hru
    · simp [F,hn]; omega
  refine calls_exec hf hb rfl rfl (fun _ _ h=>h) hS (h F hG (fun _ h=>h) rfl rfl (fun _ _=>rfl) rfl) fun e S' hq=>⟨hq.1,fun ρ tmps w' hS'=>?_⟩
  obtain ⟨v,hv,hrv⟩:=results_run hS' hr hq.2
  exact ⟨v,hv,v,rfl,Rel.mono (fun b hb _=>⟨hb.1,rfl⟩) _ _ hrv,⟨hS'.frame.os,hS'.frame.tape,hS'.frame.output,hS'.frame.size,fun k hk=>hS'.frame.block k hk (fun h=>h)⟩⟩
theorem saysX_ofR {E : Env} {f : FuncId} {fn : Func} {c : Code} {args : List PV} {H H' : List (Nat × Blk)} {xs : List Pure} {rs : List ResultVar} {n : Nat} (hf : E.P.funcs[f]? = some fn) (hb : fn.body = some c) (hn : fn.ntmps = n) (hr : fn.results = rs.toArray) (hle : args.length ≤ n)
    (hk : H.all (fun p=>decide (1000 ≤ p.1)) = true) (hk' : ∀ j B',H'.lookup j = some B' → ∃ B,H.lookup j = some B)
    (h : ∀ F : Fr,E.G F.w0 → (∀ b,F.X b → E.ng ≤ b) → F.nt = n → F.df = [] → (∀ k,Nat.blt k 1000 = true → F.pin k = none) → (∀ b,F.X b → ∃ j n,F.pin j = some (b,n) ∧ H.lookup j ≠ none) → F.ro = none → (∀ k,F.lo k = Nat.blt k 1000) → (∀ k,H.lookup k = none → F.pin k = none) → Exec E.P F c ⟨argSlotsV 0 args,H⟩ (fun e S=>(e = .normal ∨ e = .ret) ∧ ResVs E.P S rs xs ∧ HasB S H')) : SaysX E f args H H' (resOf xs):=by
  intro ok ρ w vals hG hH hinj hrel
  have hvl:=relVL_length hrel
  let F : Fr:=⟨w,ok,fun b=>∃ j,H.lookup j ≠ none ∧ b = ρ j,n,[],fun j=>if H.lookup j ≠ none then match hp w (ρ j) with | some (.cells c _ _)=>some (ρ j,c.size) | _=>none else none,none,fun _ _=>False,fun k=>Nat.blt k 1000⟩
  have hblk : ∀ j,H.lookup j ≠ none → ∃ B,H.lookup j = some B:=fun j hj=>by cases e : H.lookup j with
    | none=>exact absurd e hj
    | some B=>exact ⟨B,rfl⟩
  have hpin : ∀ j B c,H.lookup j = some B → hp w (ρ j) = some (.cells c B.T (0,0)) → F.pin j = some (ρ j,c.size):=fun j B c hj hc=>by
    simp only [F]
    rw [if_pos (by simp [hj]),hc]
  have hcarry : Carry ok (okI F (lk H) ρ) (hp w) (hp w):=fun b hb _=>⟨⟨.inl hb,fun k hk e=>by obtain ⟨B,hB⟩:=hblk k hk; exact (hH k B hB).2.2 (e ▸ hb)⟩,rfl⟩
  have hkeep : Keep (fun _=>True) (lk H) (lk H) ρ ρ (hp w) (hp w):=fun k _ B hB=>⟨B,hB,rfl,Nat.le_refl _,fun _=>⟨rfl,fun c T fr hc=>⟨c,T,fr,hc,rfl⟩⟩⟩
  have hS : SatR F ρ ⟨argSlotsV 0 args,H⟩ { tmps:=vals.toArray ++ Array.replicate (fn.ntmps - vals.toArray.size) undef,defers:=[] } w:=by
    refine ⟨fun t v ht=>?_,fun k B hB=>?_,hinj,⟨rfl,rfl,rfl,Nat.le_refl _,fun _ _ _=>rfl⟩,?_,Marks.nil rfl,fun j b m hj hS=>?_⟩
    · obtain ⟨j,rfl,hx⟩:=argSlotsV_get ht
      obtain ⟨u,hu,hru⟩:=relVL_get hrel hx
      refine ⟨u,?_,RelV.mono hcarry hkeep v u (fun _ _=>trivial) hru⟩
      rw [Nat.zero_add,Array.getElem?_append_left (by have:=(List.getElem?_eq_some_iff.1 hu).1; simpa using this)]
      simpa using hu
    · obtain ⟨⟨c,h1,h2,h3⟩,h4,h5⟩:=hH k B hB
      refine ⟨c,h1,.inl ⟨⟨k,by simp only [St.blk] at hB; simp [hB],rfl⟩,by cases e : Nat.blt k 1000 with | false=>exact e | true=>exact absurd hB (by simp [St.blk,lookup_high hk e])⟩,h2,fun i x hx=>?_⟩
      obtain ⟨u,hu,ho,hru⟩:=h3 i x hx
      exact ⟨u,hu,ho,RelV.mono hcarry hkeep x u (fun _ _=>trivial) hru⟩
    · simp [F,hn]; omega
    · obtain ⟨B,hB⟩:=hblk j hS
      obtain ⟨⟨c,h1,_⟩,_⟩:=hH j B hB
      rw [hpin j B c hB h1] at hj
      injection hj with hj
      injection hj with hj1 hj2
      subst hj1 hj2
      exact ⟨rfl,c,B.T,h1,rfl⟩
  refine calls_exec hf hb rfl rfl (fun _ _ h=>h) ⟨ρ,hS⟩ (h F hG (fun b ⟨j,hj,e⟩=>by obtain ⟨B,hB⟩:=hblk j hj; subst e; exact (hH j B hB).2.1) rfl rfl (fun k hk2=>by simp only [F]; rw [if_neg (by simp [lookup_high hk hk2])]) (fun b ⟨j,hj,e⟩=>by obtain ⟨B,hB⟩:=hblk j hj; obtain ⟨⟨c,h1,_⟩,_⟩:=hH j B hB; subst e; exact ⟨j,_,hpin j B c hB h1,hj⟩) rfl (fun _=>rfl) (fun k hk2=>by simp only [F]; rw [if_neg (by simp [hk2])])) fun e S' hq=>⟨hq.1,fun ρ' tmps w' hS'=>?_⟩
  obtain ⟨-,hres,hHB⟩:=hq
  obtain ⟨v,hv,hrv⟩:=results_run hS' hr hres
  have hpin' : ∀ j B',H'.lookup j = some B' → ρ' j = ρ j ∧ S'.blk j = some B' ∧ ∀ c T,hp w (ρ j) = some (.cells c T (0,0)) → ∃ c' T',hp w' (ρ j) = some (.cells c' T' (0,0)) ∧ c'.size = c.size:=fun j B' hj=>by
    have hsb:=hHB.all j B' hj
    obtain ⟨B,hB⟩:=hk' j B' hj
    obtain ⟨⟨c,h1,_⟩,_⟩:=hH j B hB
    obtain ⟨e1,c',T',e2,e3⟩:=hS'.pin j _ _ (hpin j B c hB h1) (by simp [hsb])
    refine ⟨e1,hsb,fun c2 T2 hc2=>⟨c',T',e2,?_⟩⟩
    rw [h1] at hc2
    injection hc2 with hc2
    injection hc2 with hc2
    rw [e3,hc2]
  have hcar : Carry (okI F S'.blk ρ') (fun b=>(ok b ∨ w.heap.size ≤ b) ∧ ∀ j,H'.lookup j ≠ none → b ≠ ρ j) (hp w') (hp w'):=fun b hb _=>⟨⟨hb.1,fun j hj e=>by
    cases hj' : H'.lookup j with
    | none=>exact hj hj'
    | some B' =>
      obtain ⟨e1,e2,_⟩:=hpin' j B' hj'
      exact hb.2 j (by simp [e2]) (by rw [e1]; exact e)⟩,rfl⟩
  have hfin : ∃ v0, Ending.returned v = .returned v0 ∧ Rel (fun b => (ok b ∨ w.heap.size ≤ b) ∧ ∀ j, H'.lookup j ≠ none → b ≠ ρ j) (hp w') (resOf xs) v0 ∧
      (∀ j B',H'.lookup j = some B' → BlkAt (lk H') ρ (fun b=>(ok b ∨ w.heap.size ≤ b) ∧ ∀ j,H'.lookup j ≠ none → b ≠ ρ j) (hp w') j B' ∧
        ∀ c T,hp w (ρ j) = some (.cells c T (0,0)) → ∃ c' T',hp w' (ρ j) = some (.cells c' T' (0,0)) ∧ c'.size = c.size) ∧
      w'.os = w.os ∧ w'.tape = w.tape ∧ w'.output = w.output ∧ w.heap.size ≤ w'.heap.size ∧ ∀ b,b < w.heap.size → (∀ j,H.lookup j ≠ none → b ≠ ρ j) → w'.heap[b]? = w.heap[b]?:=by
    refine ⟨v,rfl,Rel.mono hcar _ _ hrv,fun j B' hj=>?_,hS'.frame.os,hS'.frame.tape,hS'.frame.output,hS'.frame.size,fun b hb hx=>hS'.frame.block b hb (fun ⟨j,hj,e⟩=>hx j hj e)⟩
    obtain ⟨e1,e2,e3⟩:=hpin' j B' hj
    obtain ⟨c',f1,_,f3,f4⟩:=hS'.blks j B' e2
    refine ⟨⟨c',by rw [← e1]; exact f1,f3,fun i x hx=>?_⟩,e3⟩
    obtain ⟨u,hu,ho,hru⟩:=f4 i x hx
    refine ⟨u,hu,ho,RelV.mono (K:=fun _=>True) hcar (fun k _ B hB=>?_) x u (fun _ _=>trivial) hru⟩
    obtain ⟨g1,g2,_⟩:=hpin' k B hB
    exact ⟨B,g2,rfl,Nat.le_refl _,fun _=>⟨g1.symm,fun c T fr hc=>⟨c,T,fr,hc,rfl⟩⟩⟩
  exact ⟨v,hv,hfin⟩
section
variable {P : Program} {F : Fr} {ops : Array Oper} {sl : List (Nat × PV)} {hb : List (Nat × Blk)} {op : Op} {T : TypeId} {pos : String} {aft : Array Edge} {os : List Oper} {dst : Option Nat} {rs : List (Operand × PV)} {rb : List (Nat × Blk)} {K : St → Prop}
theorem nswB {d : Nat} {v : PV} {wb : List (Nat × Blk)} (hc : CoreOk P F ⟨dst,op,T,pos,aft,none⟩ ⟨rs,rb,none,[(d,v)],wb⟩) (h1 : Reads ⟨sl,hb⟩ rs) (h2 : ReadsB ⟨sl,hb⟩ rb) (hn : SeqS P F ops os ⟨(d,v) :: sl,wb ++ hb⟩ K) : SeqS P F ops (⟨dst,op,T,pos,aft,none⟩ :: os) ⟨sl,hb⟩ K :=
  .cons (fun a w hS Q K' hK=>opok_plain rfl hc _ a w hS (holds_of h1 h2 trivial) Q K' hK) hn
end
theorem lkL_none {l : List (Nat × Blk)} {k : Nat} (h : ∀ p ∈ l,p.1 ≠ k) : l.lookup k = none:=by
  rw [List.lookup_eq_none_iff]; intro p hp; simpa using (fun e=>h p hp e.symm)
theorem p0L {E : Env} {lq : List Nat} {H : List (Nat × Blk)} {n : Nat} {F : Fr} (X : XFrL E lq H n F) (ns : List Nat) (h : (H.all fun p=>ns.contains p.1 || lq.contains p.1) = true) : ∀ k,(!ns.contains k) = true → F.pin k = none:=fun k hk=>by
  refine X.p0 k ?_
  by_cases hl : k ∈ lq
  · exact .inr hl
  · refine .inl (lkL_none fun p hp e=>?_)
    rw [List.all_eq_true] at h
    have:=h p hp
    subst e
    simp only [Bool.or_eq_true,List.contains_iff_mem] at this
    rcases this with c | c
    · simp [c] at hk
    · exact hl c
theorem ncNew {F : Fr} {sl slR : List (Nat × PV)} {hb pre H' : List (Nat × Blk)} (ns : List Nat) (P0 : ∀ k, Nat.blt k 1000 = true → F.pin k = none) (hns : (H'.all fun p => ns.contains p.1) = true) (hf : (ns.all fun q => Nat.blt q 1000 && ((hb.all fun p => !(p.1 == q)) && (freeHb q pre && freeSl q slR))) = true) (hS : HasS ⟨sl, hb⟩ slR) (hp : HasB ⟨sl, hb⟩ pre) (hw : Whole H') :
    NCall (fun k=>!ns.contains k) F ⟨sl,hb⟩ [] H' slR (pre ++ H'):=by
  rw [List.all_eq_true] at hf hns
  have hin : ∀ {q},(!ns.contains q) = false → q ∈ ns:=fun {q} h=>by simpa using h
  have hH : ∀ {q B},H'.lookup q = some B → q ∈ ns:=fun {q B} h=>by simpa using hns _ (lookup_mem h)
  have hf' : ∀ q,q ∈ ns → Nat.blt q 1000 = true ∧ hb.lookup q = none ∧ freeHb q pre = true ∧ freeSl q slR = true:=fun q hq=>by
    have:=hf q hq
    simp only [Bool.and_eq_true,List.all_eq_true] at this
    exact ⟨this.1,lkL_none fun p hp=>by have:=this.2.1 p hp; simpa using this,this.2.2.1,this.2.2.2⟩
  refine ⟨fun j B h=>by simp at h,hS,fun k B h=>?_,fun q B1 hq h=>?_,fun t v ht q hq hs=>?_,fun j h=>by simp at h,fun j hj=>?_,hw⟩
  · rw [lookup_append] at h
    cases e : pre.lookup k with
    | none=>rw [e,Option.none_or] at h; exact .inl h
    | some C =>
      rw [e,Option.some_or] at h
      injection h with h; subst h
      have e3 : hb.lookup k = some C:=hp.all k C e
      have hk : H'.lookup k = none:=by
        cases e2 : H'.lookup k with
        | none=>rfl
        | some D=>have:=(hf' k (hH e2)).2.1; rw [e3] at this; cases this
      refine .inr ⟨e3,rfl,hk,fun i x hx q hq hs=>?_⟩
      have:=Cells.free_get (freeHb_get (hf' q (hin hs)).2.2.1 e) hx
      rw [this] at hq; cases hq
  · have:=hH h
    simp [this] at hq
  · have:=freeSl_get (hf' q (hin hs)).2.2.2 ht
    rw [this] at hq; cases hq
  · cases e : (!ns.contains j) with
    | true=>rfl
    | false=>exact absurd (P0 j (hf' j (hin e)).1) hj
end Go.Proofs.YtcifhkfpmhifaaaGreatDoor.SH
set_option maxRecDepth 100000
set_option maxHeartbeats 4000000
namespace Go.Proofs.YtcifhkfpmhifaaaGreatDoor.N
open Go Go.Proofs.YtcifhkfpmhifaaaGreatDoor.SH Go.Proofs.YtcifhkfpmhifaaaGreatDoor.NumA
open Go.Proofs.Tryz renaming call17 → cl17,call26 → cl26,call31 → cl31,call35 → cl35,call63 → cl63,call67 → cl67,call76 → cl76,isAgg24 → ag24,isAgg26 → ag26,sizeOf24 → sz24,sizeOf26 → sz26,zeroValue24 → zv24
theorem hbI {S : St} {l l' : List (Nat × Blk)} (e : l = l') (h : HasB S l') : HasB S l:=e ▸ h
theorem cmpQ_eq {a b : Rat} : cmpQ a b = 0 ↔ a = b:=by
 unfold cmpQ; split
 ·rename_i h; constructor
  ·intro c; cases c
  ·rintro rfl; exact absurd h (by grind)
 ·split
  ·rename_i h; constructor
   ·intro c; cases c
   ·rintro rfl; exact absurd h (by grind)
  ·constructor
   ·intro _; grind
   ·intro _; rfl
theorem cmpQ_le {a b : Rat} : cmpQ a b ≤ 0 ↔ a ≤ b:=by
 unfold cmpQ; split
 ·constructor
  ·intro _; grind
  ·intro _; decide
 ·split
  ·constructor
   ·intro c; exact absurd c (by decide)
   ·intro _; grind
  ·constructor
   ·intro _; grind
   ·intro _; decide
theorem qw_int (n : Int) : qw (n : Rat) = max (nw n) 1:=by rw [qw,Rat.num_intCast,Rat.den_intCast]; rw [show ((1 : Nat) : Int) = 1 from rfl,nw_one]
theorem nw_floor (a : Rat) : nw a.floor ≤ qw a:=by rw [Rat.floor_def]; exact Nat.le_trans quo_le' (nw_num_le a)
@[reducible] def hA (xs : List Int) : Nat → List (Nat × Blk)
 | 0=>[(2,⟨48,1,.mix [.p (.a (.slice none 0 0))]⟩)]
 | k + 1=>[(2,⟨48,1,.mix [.ref 1061 0 (k + 1) ((k + 1) * 2)]⟩),(1061,rowZ (xs.take (k + 1)))]
theorem cf_succ {xs : List Int} {k m : Nat} {lo hi : Rat} (h : xs.drop k = cf (m + 1) lo hi) : k < xs.length ∧ xs.getD k 0 = cfX lo hi ∧ xs.drop (k + 1) = if cfE lo hi = true then [] else cf m (cfN lo hi).1 (cfN lo hi).2:=by
 have hk : k < xs.length:=by
  have:=congrArg List.length h
  rw [List.length_drop,cf,List.length_cons] at this; omega
 rw [List.drop_eq_getElem_cons hk,cf] at h
 injection h with h1 h2
 exact ⟨hk,by simp [List.getD_eq_getElem?_getD,hk,h1],h2⟩
structure TermsAt (B : Nat) (xs : List Int) (z : Rat × Rat) (x : Nat × Nat × Rat × Rat) : Prop where
 d : xs.drop x.1 = cf x.2.1 x.2.2.1 x.2.2.2
 f : Fin' x.2.1 x.2.2.1 x.2.2.2
 h0 : 0 < x.2.2.1
 le : x.2.2.1 ≤ x.2.2.2
 q1 : qw x.2.2.1 ≤ B
 q2 : qw x.2.2.2 ≤ B
 z : cfZ x.2.1 x.2.2.1 x.2.2.2 = z
theorem nw_le_abs {a b : Int} (h : a.natAbs ≤ b.natAbs) : nw a ≤ nw b:=nw_mono h
theorem TermsAt.step {B : Nat} {xs : List Int} {z : Rat × Rat} {k m : Nat} {lo hi : Rat} (h : TermsAt B xs z (k,m + 1,lo,hi)) (he : ¬ cfE lo hi = true) : TermsAt B xs z (k + 1,m,(hi - (lo.floor : Rat))⁻¹,(lo - (lo.floor : Rat))⁻¹):=by
 obtain ⟨d,f,h0,le,q1,q2,hz⟩:=h
 simp only at d f h0 le q1 q2 hz
 obtain ⟨-,-,d3⟩:=cf_succ d
 rw [if_neg he] at d3
 obtain ⟨a1,a2⟩:=cfN_le le he
 obtain ⟨n1,n2,n3,n4⟩:=cfN_nd le he
 obtain ⟨e1,e2,e3,e4⟩:=cfE_not le he
 have b1:=nw_num_le lo
 have b2:=nw_den_le lo
 have b3:=nw_num_le hi
 have b4:=nw_den_le hi
 have k1:=num_lt e2
 have k2:=num_lt (show lo < (lo.floor : Rat) + 1 by grind)
 have p1:=(cfN lo hi).1.den_pos
 have p2:=(cfN lo hi).2.den_pos
 have w1 : nw ((cfN lo hi).1.den : Int) ≤ nw (hi.den : Int):=nw_le_abs (by omega)
 have w2 : nw ((cfN lo hi).2.den : Int) ≤ nw (lo.den : Int):=nw_le_abs (by omega)
 refine ⟨d3,f.resolve_left he,by show 0 < (cfN lo hi).1; grind,a2,?_,?_,?_⟩
 ·show max (nw (cfN lo hi).1.num) (nw ((cfN lo hi).1.den : Int)) ≤ B
  rw [n1]; omega
 ·show max (nw (cfN lo hi).2.num) (nw ((cfN lo hi).2.den : Int)) ≤ B
  rw [n3]; omega
 ·rw [← hz]; show _ = cfZ (m + 1) lo hi; rw [cfZ,if_neg he]; rfl
theorem TermsAt.last {B : Nat} {xs : List Int} {z : Rat × Rat} {k m : Nat} {lo hi : Rat} (h : TermsAt B xs z (k,m + 1,lo,hi)) (he : cfE lo hi = true) : xs.length = k + 1 ∧ z = (lo,hi):=by
 obtain ⟨hk,-,d3⟩:=cf_succ h.d
 rw [if_pos he] at d3
 have:=congrArg List.length d3
 rw [List.length_drop,List.length_nil] at this
 refine ⟨by simp only at this hk; omega,?_⟩
 have hz:=h.z
 simp only [cfZ,if_pos he] at hz
 exact hz.symm
theorem terms_hit (xs : List Int) (n0 : Nat) (lo hi : Rat) (B : Nat) (hB : B < 1000000) (hx : TermsAt B xs (cfZ n0 lo hi) (0,n0,lo,hi)) : ∀ (F : Fr) (code : Code) (l : Nat),Tryz.f122.body = some code → XFrL E [1061] ([(1000,bQ lo),(1001,bQ hi)] ++ hA xs 0) 44 F → YieldsL E.P F [1061] l xs.length (fun k=>[pZ (xs.getD k 0)]) (hA xs) → Exec E.P F code ⟨[(0,.clo (.yield l) [] []),(1,.at_ 1000 0 4),(2,.at_ 1001 0 4)],[(1000,bQ lo),(1001,bQ hi)] ++ hA xs 0⟩ (fun e S'=>(e = .normal ∨ e = .ret) ∧ HasB S' ([(1000,bQ (cfZ n0 lo hi).1),(1001,bQ (cfZ n0 lo hi).2)] ++ hA xs xs.length)):=by
 intro F code l hcode XF hY
 injection (show some _ = some code from hcode) with hcode
 subst hcode
 have hG:=XF.g
 have hX:=XF.x
 have hN:=XF.ng
 have L:=lti XF.nt
 have P0:=p0L XF [1000,1001,2] rfl
 obtain ⟨z,hz⟩ : ∃ z,z = cfZ n0 lo hi:=⟨_,rfl⟩
 rw [← hz] at hx ⊢
 refine ex_block ?_
 refine exl (α:=(Nat × Nat × Rat × Rat)) (fun x=>[]) (fun x=>[(1000,bQ x.2.2.1),(1001,bQ x.2.2.2)] ++ hA xs x.1) (fun x=>TermsAt B xs z x) (fun x=>x.2.1) ((0,n0,lo,hi)) (sl:=[(0,_),(1,_),(2,_)]) (hb:=[]) ?_ t3 (hbI (l':=[(1000,_),(1001,_),(2,_)]) rfl t3) ?_
 ·exact hx
 intro x hx
 obtain ⟨k,m,lo,hi⟩:=x
 rcases m with _ | m
 ·exact hx.f.elim
 have hle:=hx.le
 have q1:=hx.q1
 have q2:=hx.q2
 have hfw:=nw_floor lo
 obtain ⟨hk,hck,hdr⟩:=cf_succ hx.d
 simp only at hle q1 q2 hk hck
 have q3 : qw (lo.floor : Rat) ≤ B + 1:=by rw [qw_int]; omega
 have hfu:=nw_add lo.floor 1
 rw [nw_one] at hfu
 have q4 : qw ((lo.floor + 1 : Int) : Rat) ≤ B + 2:=by rw [qw_int]; omega
 dsimp only
 rcases k with _ | k
 ·dsimp only [hA,List.append_nil]
  refine ex_block (exr (lp4 ag26 sz26 (L rfl) rfl rfl (cK hG hX cl31 hN (qfloor_says lo (by omega)) (L rfl) t1 ?_)))
  refine swb (c_al (k:=4) (n:=2) zv24 (.cons rfl (.cons rfl .nil)) rfl (P0 _ rfl) (L rfl)) t0 t0 ⟨rfl,rfl⟩ (sb (c_sm sz24 (by rfl) pa2 rfl pu2) t2 t1 ?_)
  refine zn [(0,_),(1,_),(2,_),(4,_)] [(2,_),(4,_),(1000,_),(1001,_)] t4 t4 (exd (by rfl) ?_)
  refine lp2 ag24 sz24 (L rfl) rfl rfl (cK hG hX cl63 hN one_says (L rfl) t0 (cK hG hX cl76 hN (addZ lo.floor 1 (by omega) (by rw [nw_one]; decide)) (L rfl) t2 ?_))
  refine swb (c_al (k:=5) (n:=2) zv24 (.cons rfl (.cons rfl .nil)) rfl (P0 _ rfl) (L rfl)) t0 t0 ⟨rfl,rfl⟩ (sb (c_sm sz24 (by rfl) pa2 rfl pu2) t2 t1 ?_)
  refine seq_nil ⟨aok rfl rfl,[(0,_),(1,_),(2,_),(4,_),(5,_)],[(2,_),(4,_),(5,_),(1000,_),(1001,_)],t5,t5,?_⟩
  refine ex_seq (ex_block (exd (by rfl) ?_))
  refine lp2 ag24 sz24 (L rfl) rfl rfl (cK hG hX cl17 hN (qwhole_says lo.floor) (L rfl) t1 (lp4 ag26 sz26 (L rfl) rfl rfl (cK hG hX cl26 hN (qcmp_says (lo.floor : Rat) lo (by omega) (by omega)) (L rfl) t2 ?_)))
  refine sw (c_e (L rfl)) t2 t0 (aV (L rfl) rfl ?_)
  refine seq_nil ⟨aoks [⟨[4],[4],[12],[]⟩,⟨[12],[],[13],[]⟩,⟨[1],[1000],[14],[]⟩,⟨[13,14],[],[15],[]⟩,⟨[15],[],[16],[]⟩,⟨[16],[],[11],[]⟩] (by rfl) (by rfl) (by decide),[(0,_),(1,_),(2,_),(4,_),(5,_),(11,_)],[(2,_),(4,_),(5,_),(1000,_),(1001,_)],t6,t5,?_⟩
  refine ex_if rfl (fun hc=>?_) (fun hc=>?_)
  ·have hc:=cmpQ_eq.1 (dt hc)
   have he : cfE lo hi = true:=by simp [cfE,hc]
   obtain ⟨hl,hz2⟩:=hx.last he
   rw [cfX,if_pos hc] at hck
   rw [hz2]
   refine exrN (nsw (c_m (L rfl)) t1 t0 (nsw (c_lp ag24 sz24 (by rfl) (by exact al2) rfl (L rfl)) t1 t1 ?_))
   refine nsY hY (0) hk (L rfl) rfl ⟨rfl,ov rfl (by rw [hck]),trivial⟩ t1 rfl ?_
   refine .nil ⟨[],(2,_) :: (1000,_) :: (1001,_) :: (1061,_) :: [],trivial,t4,?_⟩
   rw [hl]
   exact ex_ret ⟨.inr rfl,hbI (l':=[(1000,_),(1001,_),(2,_),(1061,_)]) rfl t4⟩
  ·have hc : ¬ (lo.floor : Rat) = lo:=fun c=>df hc (cmpQ_eq.2 c)
   rw [cfX,if_neg hc] at hck
   refine exd (by rfl) ?_
   refine lp2 ag24 sz24 (L rfl) rfl rfl (cK hG hX cl17 hN (qwhole_says (lo.floor + 1)) (L rfl) t1 (lp4 ag26 sz26 (L rfl) rfl rfl (cK hG hX cl26 hN (qcmp_says ((lo.floor + 1 : Int) : Rat) hi (by omega) (by omega)) (L rfl) t2 ?_)))
   refine sw (c_le (L rfl)) t2 t0 (aV (L rfl) rfl ?_)
   refine seq_nil ⟨aoks [⟨[5],[5],[21],[]⟩,⟨[21],[],[22],[]⟩,⟨[2],[1001],[23],[]⟩,⟨[22,23],[],[24],[]⟩,⟨[24],[],[25],[]⟩,⟨[25],[],[20],[]⟩] (by rfl) (by rfl) (by decide),[(0,_),(1,_),(2,_),(4,_),(5,_),(20,_)],[(2,_),(4,_),(5,_),(1000,_),(1001,_)],t6,t5,?_⟩
   refine ex_if rfl (fun hd=>?_) (fun hd=>?_)
   ·have hd:=cmpQ_le.1 (dt hd)
    have he : cfE lo hi = true:=by rw [cfE,decide_eq_true hd,Bool.or_true]
    obtain ⟨hl,hz2⟩:=hx.last he
    rw [if_pos hd] at hck
    rw [hz2]
    refine exrN (nsw (c_m (L rfl)) t1 t0 (nsw (c_lp ag24 sz24 (by rfl) (by exact al2) rfl (L rfl)) t1 t1 ?_))
    refine nsY hY (0) hk (L rfl) rfl ⟨rfl,ov rfl (by rw [hck]),trivial⟩ t1 rfl ?_
    refine .nil ⟨[],(2,_) :: (1000,_) :: (1001,_) :: (1061,_) :: [],trivial,t4,?_⟩
    rw [hl]
    exact ex_ret ⟨.inr rfl,hbI (l':=[(1000,_),(1001,_),(2,_),(1061,_)]) rfl t4⟩
   ·have hd : ¬ ((lo.floor + 1 : Int) : Rat) ≤ hi:=fun c=>df hd (cmpQ_le.2 c)
    have he : ¬ cfE lo hi = true:=by simp only [cfE,Bool.or_eq_true,decide_eq_true_eq]; rintro (c | c); exact hc c; exact hd c
    rw [if_neg hd] at hck
    obtain ⟨e1,e2,e3,e4⟩:=cfE_not hle he
    have w1:=qw_sub hi (lo.floor : Rat)
    have w2:=qw_sub lo (lo.floor : Rat)
    refine exrN (nsw (c_m (L rfl)) t1 t0 (nsw (c_lp ag24 sz24 (by rfl) (by exact al2) rfl (L rfl)) t1 t1 ?_))
    refine nsY hY (0) hk (L rfl) rfl ⟨rfl,ov rfl (by rw [hck]),trivial⟩ t1 rfl ?_
    refine nsw (c_no (L rfl)) t1 t0 (nsw (c_a (L rfl)) t1 t0 ?_)
    refine .nil ⟨[(0,_),(1,_),(2,_),(4,_),(29,_)],(2,_) :: (4,_) :: (1000,_) :: (1001,_) :: (1061,_) :: [],t5,t5,?_⟩
    refine ex_false rfl rfl ?_
    refine ex_skip (show Exec _ _ _ _ _ from ?_)
    refine exd0 (by rfl) ?_
    refine lp4 ag26 sz26 (L rfl) rfl rfl (lp2 ag24 sz24 (L rfl) rfl rfl (cK hG hX cl17 hN (qwhole_says lo.floor) (L rfl) t1 (cK hG hX cl35 hN (qsub_says hi (lo.floor : Rat) (by omega) (by omega)) (L rfl) t2 ?_)))
    refine cK hG hX cl67 hN (qinv_says (hi - (lo.floor : Rat)) (by omega) (by grind)) (L rfl) t1 ?_
    refine lp4 ag26 sz26 (L rfl) rfl rfl (lp2 ag24 sz24 (L rfl) rfl rfl (cK hG hX cl17 hN (qwhole_says lo.floor) (L rfl) t1 (cK hG hX cl35 hN (qsub_says lo (lo.floor : Rat) (by omega) (by omega)) (L rfl) t2 ?_)))
    refine cK hG hX cl67 hN (qinv_says (lo - (lo.floor : Rat)) (by omega) (by grind)) (L rfl) t1 ?_
    refine sb (c_sm sz26 (by rfl) pa4 rfl pu4) t2 t1 ?_
    refine sb (c_sm sz26 (by rfl) pa4 rfl pu4) t2 t1 ?_
    refine seq_nil ⟨aoks [⟨[2],[1001],[34],[]⟩,⟨[4],[4],[35],[]⟩,⟨[35],[],[36],[]⟩,⟨[34,36],[],[37],[]⟩,⟨[37],[],[38],[]⟩,⟨[1],[1000],[39],[]⟩,⟨[4],[4],[40],[]⟩,⟨[40],[],[41],[]⟩,⟨[39,41],[],[42],[]⟩,⟨[42],[],[43],[]⟩,⟨[1,38],[1000],[],[1000]⟩,⟨[2,43],[1001],[],[1001]⟩] (by rfl) (by rfl) (by decide),?_⟩
    exact ⟨(0 + 1,m,(hi - (lo.floor : Rat))⁻¹,(lo - (lo.floor : Rat))⁻¹),(hx.step he),(by simp only; omega),le_of t3 (hbI (l':=[(1000,_),(1001,_),(2,_),(1061,_)]) rfl t4)⟩
 ·dsimp only [hA,List.append_nil]
  refine ex_block (exr (lp4 ag26 sz26 (L rfl) rfl rfl (cK hG hX cl31 hN (qfloor_says lo (by omega)) (L rfl) t1 ?_)))
  refine swb (c_al (k:=4) (n:=2) zv24 (.cons rfl (.cons rfl .nil)) rfl (P0 _ rfl) (L rfl)) t0 t0 ⟨rfl,rfl⟩ (sb (c_sm sz24 (by rfl) pa2 rfl pu2) t2 t1 ?_)
  refine zn [(0,_),(1,_),(2,_),(4,_)] [(2,_),(4,_),(1000,_),(1001,_),(1061,_)] t4 t5 (exd (by rfl) ?_)
  refine lp2 ag24 sz24 (L rfl) rfl rfl (cK hG hX cl63 hN one_says (L rfl) t0 (cK hG hX cl76 hN (addZ lo.floor 1 (by omega) (by rw [nw_one]; decide)) (L rfl) t2 ?_))
  refine swb (c_al (k:=5) (n:=2) zv24 (.cons rfl (.cons rfl .nil)) rfl (P0 _ rfl) (L rfl)) t0 t0 ⟨rfl,rfl⟩ (sb (c_sm sz24 (by rfl) pa2 rfl pu2) t2 t1 ?_)
  refine seq_nil ⟨aok rfl rfl,[(0,_),(1,_),(2,_),(4,_),(5,_)],[(2,_),(4,_),(5,_),(1000,_),(1001,_),(1061,_)],t5,t6,?_⟩
  refine ex_seq (ex_block (exd (by rfl) ?_))
  refine lp2 ag24 sz24 (L rfl) rfl rfl (cK hG hX cl17 hN (qwhole_says lo.floor) (L rfl) t1 (lp4 ag26 sz26 (L rfl) rfl rfl (cK hG hX cl26 hN (qcmp_says (lo.floor : Rat) lo (by omega) (by omega)) (L rfl) t2 ?_)))
  refine sw (c_e (L rfl)) t2 t0 (aV (L rfl) rfl ?_)
  refine seq_nil ⟨aoks [⟨[4],[4],[12],[]⟩,⟨[12],[],[13],[]⟩,⟨[1],[1000],[14],[]⟩,⟨[13,14],[],[15],[]⟩,⟨[15],[],[16],[]⟩,⟨[16],[],[11],[]⟩] (by rfl) (by rfl) (by decide),[(0,_),(1,_),(2,_),(4,_),(5,_),(11,_)],[(2,_),(4,_),(5,_),(1000,_),(1001,_),(1061,_)],t6,t6,?_⟩
  refine ex_if rfl (fun hc=>?_) (fun hc=>?_)
  ·have hc:=cmpQ_eq.1 (dt hc)
   have he : cfE lo hi = true:=by simp [cfE,hc]
   obtain ⟨hl,hz2⟩:=hx.last he
   rw [cfX,if_pos hc] at hck
   rw [hz2]
   refine exrN (nsw (c_m (L rfl)) t1 t0 (nsw (c_lp ag24 sz24 (by rfl) (by exact al2) rfl (L rfl)) t1 t1 ?_))
   refine nsY hY (k + 1) hk (L rfl) rfl ⟨rfl,ov rfl (by rw [hck]),trivial⟩ t2 rfl ?_
   refine .nil ⟨[],(2,_) :: (1000,_) :: (1001,_) :: (1061,_) :: [],trivial,t4,?_⟩
   rw [hl]
   exact ex_ret ⟨.inr rfl,hbI (l':=[(1000,_),(1001,_),(2,_),(1061,_)]) rfl t4⟩
  ·have hc : ¬ (lo.floor : Rat) = lo:=fun c=>df hc (cmpQ_eq.2 c)
   rw [cfX,if_neg hc] at hck
   refine exd (by rfl) ?_
   refine lp2 ag24 sz24 (L rfl) rfl rfl (cK hG hX cl17 hN (qwhole_says (lo.floor + 1)) (L rfl) t1 (lp4 ag26 sz26 (L rfl) rfl rfl (cK hG hX cl26 hN (qcmp_says ((lo.floor + 1 : Int) : Rat) hi (by omega) (by omega)) (L rfl) t2 ?_)))
   refine sw (c_le (L rfl)) t2 t0 (aV (L rfl) rfl ?_)
   refine seq_nil ⟨aoks [⟨[5],[5],[21],[]⟩,⟨[21],[],[22],[]⟩,⟨[2],[1001],[23],[]⟩,⟨[22,23],[],[24],[]⟩,⟨[24],[],[25],[]⟩,⟨[25],[],[20],[]⟩] (by rfl) (by rfl) (by decide),[(0,_),(1,_),(2,_),(4,_),(5,_),(20,_)],[(2,_),(4,_),(5,_),(1000,_),(1001,_),(1061,_)],t6,t6,?_⟩
   refine ex_if rfl (fun hd=>?_) (fun hd=>?_)
   ·have hd:=cmpQ_le.1 (dt hd)
    have he : cfE lo hi = true:=by rw [cfE,decide_eq_true hd,Bool.or_true]
    obtain ⟨hl,hz2⟩:=hx.last he
    rw [if_pos hd] at hck
    rw [hz2]
    refine exrN (nsw (c_m (L rfl)) t1 t0 (nsw (c_lp ag24 sz24 (by rfl) (by exact al2) rfl (L rfl)) t1 t1 ?_))
    refine nsY hY (k + 1) hk (L rfl) rfl ⟨rfl,ov rfl (by rw [hck]),trivial⟩ t2 rfl ?_
    refine .nil ⟨[],(2,_) :: (1000,_) :: (1001,_) :: (1061,_) :: [],trivial,t4,?_⟩
    rw [hl]
    exact ex_ret ⟨.inr rfl,hbI (l':=[(1000,_),(1001,_),(2,_),(1061,_)]) rfl t4⟩
   ·have hd : ¬ ((lo.floor + 1 : Int) : Rat) ≤ hi:=fun c=>df hd (cmpQ_le.2 c)
    have he : ¬ cfE lo hi = true:=by simp only [cfE,Bool.or_eq_true,decide_eq_true_eq]; rintro (c | c); exact hc c; exact hd c
    rw [if_neg hd] at hck
    obtain ⟨e1,e2,e3,e4⟩:=cfE_not hle he
    have w1:=qw_sub hi (lo.floor : Rat)
    have w2:=qw_sub lo (lo.floor : Rat)
    refine exrN (nsw (c_m (L rfl)) t1 t0 (nsw (c_lp ag24 sz24 (by rfl) (by exact al2) rfl (L rfl)) t1 t1 ?_))
    refine nsY hY (k + 1) hk (L rfl) rfl ⟨rfl,ov rfl (by rw [hck]),trivial⟩ t2 rfl ?_
    refine nsw (c_no (L rfl)) t1 t0 (nsw (c_a (L rfl)) t1 t0 ?_)
    refine .nil ⟨[(0,_),(1,_),(2,_),(4,_),(29,_)],(2,_) :: (4,_) :: (1000,_) :: (1001,_) :: (1061,_) :: [],t5,t5,?_⟩
    refine ex_false rfl rfl ?_
    refine ex_skip (show Exec _ _ _ _ _ from ?_)
    refine exd0 (by rfl) ?_
    refine lp4 ag26 sz26 (L rfl) rfl rfl (lp2 ag24 sz24 (L rfl) rfl rfl (cK hG hX cl17 hN (qwhole_says lo.floor) (L rfl) t1 (cK hG hX cl35 hN (qsub_says hi (lo.floor : Rat) (by omega) (by omega)) (L rfl) t2 ?_)))
    refine cK hG hX cl67 hN (qinv_says (hi - (lo.floor : Rat)) (by omega) (by grind)) (L rfl) t1 ?_
    refine lp4 ag26 sz26 (L rfl) rfl rfl (lp2 ag24 sz24 (L rfl) rfl rfl (cK hG hX cl17 hN (qwhole_says lo.floor) (L rfl) t1 (cK hG hX cl35 hN (qsub_says lo (lo.floor : Rat) (by omega) (by omega)) (L rfl) t2 ?_)))
    refine cK hG hX cl67 hN (qinv_says (lo - (lo.floor : Rat)) (by omega) (by grind)) (L rfl) t1 ?_
    refine sb (c_sm sz26 (by rfl) pa4 rfl pu4) t2 t1 ?_
    refine sb (c_sm sz26 (by rfl) pa4 rfl pu4) t2 t1 ?_
    refine seq_nil ⟨aoks [⟨[2],[1001],[34],[]⟩,⟨[4],[4],[35],[]⟩,⟨[35],[],[36],[]⟩,⟨[34,36],[],[37],[]⟩,⟨[37],[],[38],[]⟩,⟨[1],[1000],[39],[]⟩,⟨[4],[4],[40],[]⟩,⟨[40],[],[41],[]⟩,⟨[39,41],[],[42],[]⟩,⟨[42],[],[43],[]⟩,⟨[1,38],[1000],[],[1000]⟩,⟨[2,43],[1001],[],[1001]⟩] (by rfl) (by rfl) (by decide),?_⟩
    exact ⟨(k + 1 + 1,m,(hi - (lo.floor : Rat))⁻¹,(lo - (lo.floor : Rat))⁻¹),(hx.step he),(by simp only; omega),le_of t3 (hbI (l':=[(1000,_),(1001,_),(2,_),(1061,_)]) rfl t4)⟩
end Go.Proofs.YtcifhkfpmhifaaaGreatDoor.N
set_option maxRecDepth 100000
set_option maxHeartbeats 4000000
namespace Go.Proofs.YtcifhkfpmhifaaaGreatDoor.N
open Go Go.Proofs.YtcifhkfpmhifaaaGreatDoor.SH Go.Proofs.YtcifhkfpmhifaaaGreatDoor.NumA
open Go.Proofs.Tryz renaming call121 → cl121,call122 → cl122,call17 → cl17,call33 → cl33,call67 → cl67,isAgg24 → ag24,isAgg26 → ag26,isAgg48 → ag48,sizeOf24 → sz24,sizeOf26 → sz26,sizeOf48 → sz48,typeInfo24 → ti24,underlying48 → un48,zeroValue24 → zv24
theorem lk_iff {l : List (Nat × Blk)} {q : Nat} : l.lookup q ≠ none ↔ q ∈ l.map (·.1):=by
 rw [Ne,List.lookup_eq_none_iff,List.mem_map]
 constructor
 ·intro h
  refine Decidable.byContradiction fun c=>h fun p hp=>?_
  rw [bne_iff_ne]
  exact fun e=>c ⟨p,hp,e.symm⟩
 ·rintro ⟨p,hp,rfl⟩ h
  have:=h p hp
  simp at this
theorem hA_key {xs : List Int} {k q : Nat} (h : q ≠ 1061) : (hA xs k).lookup q ≠ none ↔ q = 2:=by
 rw [lk_iff]; cases k <;> simp [hA,h]
theorem whole_of {H : List (Nat × Blk)} (h : (H.all fun p=>p.2.cs.only (H.map (·.1))) = true) : Whole H:=by
 intro j B hj i x hx q hq
 rw [List.all_eq_true] at h
 rw [lk_iff]
 exact PV.only_mem (Cells.only_get (h _ (lookup_mem hj)) hx) hq
theorem take0 {xs : List Int} (h : 0 < xs.length) : xs.take 1 = [xs.getD 0 0]:=by rw [takeZ h]; rfl
theorem appseq_says (xs : List Int) (n0 : Nat) (lo hi : Rat) (B : Nat) (hB : B < 1000000) (hl : xs.length < 1000000) (hx : TermsAt B xs (cfZ n0 lo hi) (0,n0,lo,hi)) : SaysX E 121 [.p (.a (.slice none 0 0)),.clo (.func 122) [] [.at_ 1000 0 4,.at_ 1001 0 4]] [(1000,bQ lo),(1001,bQ hi)] [(1000,bQ (cfZ n0 lo hi).1),(1001,bQ (cfZ n0 lo hi).2)] (pVZ xs):=by
 refine saysX_ofR (xs:=[pVZ xs]) Tryz.func121 rfl Tryz.ntmps121 Tryz.results121 (by simp) rfl (sub_of rfl) fun F hG hX hnt hdf P0 hXp hro hlo hpn=>?_
 have L:=lti hnt
 have hN:=ng_le hG
 have hpos : 0 < xs.length:=by
  obtain ⟨d,f,-⟩:=hx
  have:=cf_len f
  rw [← d] at this; simpa using this
 refine exr (swb (c_bx (k:=2) (n:=1) (.atom rfl) rfl rfl (P0 _ rfl) (L rfl)) t1 t0 ⟨rfl,rfl⟩ (aV (L rfl) rfl (zn [(1,_),(2,_),(4,_)] [(2,_),(1000,_),(1001,_)] t3 t3 (ex_seq (exr (mV (L rfl) rfl (zn [(2,_),(4,_),(6,_)] [(2,_),(1000,_),(1001,_)] t3 t3 (ex_block ?_))))))))
 refine ex_rangeL (fn:=Tryz.f122) (ps:=[7]) (nI:=44) (caps:=[.at_ 1000 0 4,.at_ 1001 0 4]) (Hc:=[(1000,bQ lo),(1001,bQ hi)]) (Hc':=[(1000,bQ (cfZ n0 lo hi).1),(1001,bQ (cfZ n0 lo hi).2)]) [1061] (hA xs) (fun k=>[pZ (xs.getD k 0)]) (n:=xs.length) (sl:=[(2,.at_ 2 0 1)]) hG hX hN hro (fun b _ q hq=>by rw [hlo,List.mem_singleton.1 hq]; rfl) (fun q hq=>hpn q (by rw [List.mem_singleton.1 hq]; rfl)) rfl (le_of t1 t3) cl122 Tryz.func122 rfl Tryz.ntmps122 rfl (by decide) (by decide) (fun p hp=>?_) (fun _ _=>rfl) ?_ ?_ ?_ ?_ ?_ ?_ ?_ ?_ ?_ ?_
 ·obtain rfl : p = 7:=by simpa using hp
  exact L rfl
 ·intro q hq
  rw [lk_iff] at hq
  simp only [List.map_cons,List.map_nil,List.mem_cons,List.not_mem_nil,or_false] at hq
  rcases hq with rfl | rfl
  ·exact ⟨by decide,fun k _=>by cases k <;> rfl⟩
  ·exact ⟨by decide,fun k _=>by cases k <;> rfl⟩
 ·intro k _ q hq
  rw [hA_key (by simpa using hq),hA_key (by simpa using hq)]
 ·intro k _ q hq _
  rw [List.mem_singleton.1 hq]; exact fun c=>by cases c
 ·intro k _ q hq B B' h1 h2
  have e : q = 2:=(hA_key (xs:=xs) (k:=k) (by simpa using hq)).1 (by rw [h1]; exact fun c=>by cases c)
  subst e
  cases k <;> (injection h1 with h1; injection h2 with h2; subst h1 h2; exact ⟨rfl,rfl⟩)
 ·intro k _
  cases k
  ·exact whole_of rfl
  ·exact whole_of rfl
 ·intro q hq
  rw [lk_iff] at hq ⊢
  simpa using hq
 ·intro t v ht q hq
  simp only [List.lookup_cons,List.lookup_nil] at ht
  split at ht
  ·injection ht with ht; subst ht
   have e : q = 2:=Eq.symm (by simpa [PV.free] using hq)
   subst e
   exact ⟨fun c=>(by cases c),by decide⟩
  ·cases ht
 ·intro l F' XF hro' hY
  exact terms_hit xs n0 lo hi B hB hx F' _ l rfl XF hY
 ·intro k hk
  rcases k with _ | k
  ·refine ⟨⟨[(5,.at_ 5 0 2),(2,.at_ 2 0 1)],[(5,bI (xs.getD 0 0)),(2,⟨48,1,.mix [.p (.a (.slice none 0 0))]⟩)]⟩,fun F' XF=>?_,fun F' XF=>?_⟩
   ·have L:=lti (XF.nt.trans hnt)
    have P0:=p0L XF [2] rfl
    skip
    refine exr0 (swb (c_al (k:=5) (n:=2) zv24 (.cons rfl (.cons rfl .nil)) rfl (P0 _ rfl) (L rfl)) t0 t0 ⟨rfl,rfl⟩ (sb (c_sm sz24 (by rfl) pa2 rfl pu2) t2 t1 ?_))
    refine seq_nil ?_
    exact ⟨rfl,le_of t2 t2⟩
   ·have L:=lti (XF.nt.trans hnt)
    have P0:=p0L XF [2] rfl
    skip
    refine ex_block (exr0 (sw (c_l1 ag48 (by rfl) (by rfl) (L rfl)) t1 t1 ?_))
    refine lp2 ag24 sz24 (L rfl) rfl rfl (sw (c_bI (vs:=[_]) un48 ti24 rfl rfl (by decide) (by decide) rfl (zs_made (.cons rfl (.cons rfl .nil)) rfl) rfl (.cons rfl pa2 rfl pu2 .nil) (.cons (.cons .nil)) (L rfl)) t1 t0 ?_)
    refine swb (apN (k:=1061) (sz:=2) un48 un48 ti24 rfl rfl rfl (by decide) (by simp) rfl (by first | (simp [Tryz.t24]; done) | (simp [Tryz.t24]; omega)) (by omega) (P0 _ rfl) (L rfl)) t2 t0 ⟨rfl,rfl⟩ ?_
    refine sb (c_sm sz48 (by rfl) .ref rfl pu1) t2 t1 ?_
    refine seq_nil ?_
    exact ⟨rfl,⟨rfl,obl rfl (by rw [take0 hpos]; rfl),trivial⟩⟩
  ·refine ⟨⟨[(5,.at_ 5 0 2),(2,.at_ 2 0 1)],[(5,bI (xs.getD (k + 1) 0)),(2,⟨48,1,.mix [.ref 1061 0 (k + 1) ((k + 1) * 2)]⟩),(1061,rowZ (xs.take (k + 1)))]⟩,fun F' XF=>?_,fun F' XF=>?_⟩
   ·have L:=lti (XF.nt.trans hnt)
    have P0:=p0L XF [2] rfl
    skip
    refine exr0 (swb (c_al (k:=5) (n:=2) zv24 (.cons rfl (.cons rfl .nil)) rfl (P0 _ rfl) (L rfl)) t0 t0 ⟨rfl,rfl⟩ (sb (c_sm sz24 (by rfl) pa2 rfl pu2) t2 t1 ?_))
    refine seq_nil ?_
    exact ⟨rfl,le_of t2 t3⟩
   ·have L:=lti (XF.nt.trans hnt)
    have P0:=p0L XF [2] rfl
    skip
    refine ex_block (exr0 (sw (c_l1 ag48 (by rfl) (by rfl) (L rfl)) t1 t1 ?_))
    refine lp2 ag24 sz24 (L rfl) rfl rfl (sw (c_bI (vs:=[_]) un48 ti24 rfl rfl (by decide) (by decide) rfl (zs_made (.cons rfl (.cons rfl .nil)) rfl) rfl (.cons rfl pa2 rfl pu2 .nil) (.cons (.cons .nil)) (L rfl)) t1 t0 ?_)
    refine swb (apP (sz:=2) un48 un48 ti24 rfl rfl rfl (by decide) (by exact (by simp; omega)) (by first | omega | rfl) (by simp) rfl rfl rfl (by first | (simp [Tryz.t24]; done) | (simp [Tryz.t24]; omega)) (by omega) (P0 _ rfl) (L rfl)) t2 t1 t0 ?_
    refine sb (c_sm sz48 (by rfl) .ref rfl pu1) t2 t1 ?_
    refine seq_nil ?_
    exact ⟨rfl,⟨obl rfl (by simp; omega),obl rfl (by rw [takeZ hk]; exact rowZn _ _),trivial⟩⟩
 ·show Exec _ _ _ _ _
  obtain ⟨m,hm⟩ : ∃ m,xs.length = m + 1:=⟨xs.length - 1,by omega⟩
  rw [hm]
  dsimp only [hA]
  rw [show xs.take (m + 1) = xs from List.take_of_length_le (by omega)]
  skip
  refine exr (sw (c_l1 ag48 (by rfl) (by rfl) (L rfl)) t1 t1 ?_)
  refine aV (L rfl) rfl (zn [(4,_)] [(1000,_),(1001,_),(1061,_)] t1 t3 (ex_cv [1061] (sl:=[(4,_)]) (hb:=[(1000,_),(1001,_)]) (own_of hXp rfl) ⟨⟨_,rfl,(.ref rfl rfl (by exact (by simp; omega)) (by first | rfl | omega))⟩,trivial⟩ ⟨⟨rfl,_,rfl,.same⟩,⟨rfl,_,rfl,.same⟩,trivial⟩ ?_))
  refine ex_ret ?_
  refine ⟨.inr rfl,ResVs.cast (.cons (.tmp rfl) .nil) ?_,t2⟩
  rw [pVZ,hm]
theorem collect_says (xs : List Int) (n0 : Nat) (lo hi : Rat) (B : Nat) (hB : B < 1000000) (hl : xs.length < 1000000) (hx : TermsAt B xs (cfZ n0 lo hi) (0,n0,lo,hi)) : SaysX E 88 [.clo (.func 122) [] [.at_ 1000 0 4,.at_ 1001 0 4]] [(1000,bQ lo),(1001,bQ hi)] [(1000,bQ (cfZ n0 lo hi).1),(1001,bQ (cfZ n0 lo hi).2)] (pVZ xs):=by
 refine saysX_of (xs:=[pVZ xs]) Tryz.func88 rfl Tryz.ntmps88 Tryz.results88 (by simp) rfl (sub_of rfl) fun F hG hX hnt hdf P0 hXp=>?_
 have L:=lti hnt
 have hN:=ng_le hG
 refine exr (aV (L rfl) rfl (zn [(0,_)] [(1000,_),(1001,_)] t1 t2 (exr (mV (L rfl) rfl (swB (c_cx hG hX [1000,1001] hN (appseq_says xs n0 lo hi B hB hl hx) rfl (args_fn (ys:=[_,_]) cl121 rfl (by rfl)) (by rfl) (by rfl) (by rfl) (by rfl) (SameH.to (.cons rfl (.cons rfl .nil))) (by rfl) (by rfl) (L rfl)) t2 t2 ?_)))))
 refine aV (L rfl) rfl (zn [(2,_)] [(1000,_),(1001,_)] t1 t2 (ex_ret ?_))
 refine ⟨.inr rfl,ResVs.cast (.cons (.tmp rfl) .nil) ?_,t2⟩
 rfl
theorem terms_says (lo hi : Rat) : SaysG E (fun k=>!([602,603].contains k)) 89 [.p (pQ lo),.p (pQ hi)] ([]) ([(602,bQ lo),(603,bQ hi)]) (.clo (.func 122) [] [.at_ 602 0 4,.at_ 603 0 4]):=by
 refine saysG_tmp Tryz.func89 rfl Tryz.ntmps89 Tryz.results89 (by simp) fun F G=>?_
 have L:=lti G.nt
 have hG:=G.g
 have hX:=G.x
 have hN:=ng_le hG
 have P0:=G.p0
 refine exr (swb (c_bx (k:=602) (n:=4) pa4 rfl rfl (P0 _ rfl) (L rfl)) t1 t0 ⟨rfl,rfl⟩ (swb (c_bx (k:=603) (n:=4) pa4 rfl rfl (P0 _ rfl) (L rfl)) t1 t0 ⟨rfl,rfl⟩ (aV (L rfl) rfl (zn [(2,_),(3,_)] [(602,_),(603,_)] t2 t2 (exr (sw (c_fn (vs:=[]) (us:=[_,_]) rfl rfl (L rfl)) t2 t0 (aV (L rfl) rfl (zn [(4,_)] [(602,_),(603,_)] t1 t2 (ex_ret ?_)))))))))
 refine ⟨.inr rfl,rfl,t2⟩
theorem simp1_says (f : Int) (x : Rat) (hf : nw f < 100000) (hx : qw x < 100000000) (h0 : x ≠ 0) : SaysX E 90 [.p (pZ f),.at_ 1000 0 4] [(1000,bQ x)] [(1000,bQ ((f : Rat) + x⁻¹))] (.tup []):=by
 refine saysX_of (xs:=[]) Tryz.func90 rfl Tryz.ntmps90 Tryz.results90 (by simp) rfl (sub_of rfl) fun F hG hX hnt hdf P0 hXp=>?_
 have L:=lti hnt
 have hN:=ng_le hG
 have h1:=qw_inv h0
 have h2:=qw_int f
 refine exr (swb (c_bx (k:=2) (n:=2) pa2 rfl rfl (P0 _ rfl) (L rfl)) t1 t0 ⟨rfl,rfl⟩ (zn [(1,_),(2,_)] [(2,_),(1000,_)] t2 t2 (exd0 (by rfl) ?_)))
 refine lp2 ag24 sz24 (L rfl) rfl rfl (cK hG hX cl17 hN (qwhole_says f) (L rfl) t1 (lp4 ag26 sz26 (L rfl) rfl rfl (cK hG hX cl67 hN (qinv_says x (by omega) h0) (L rfl) t1 ?_)))
 refine cK hG hX cl33 hN (qadd_says (f : Rat) x⁻¹ (by omega) (by omega)) (L rfl) t2 ?_
 refine sb (c_sm sz26 (by rfl) pa4 rfl pu4) t2 t1 ?_
 refine seq_nil ⟨aoks [⟨[2],[2],[3],[]⟩,⟨[3],[],[4],[]⟩,⟨[1],[1000],[5],[]⟩,⟨[5],[],[6],[]⟩,⟨[4,6],[],[7],[]⟩,⟨[1,7],[1000],[],[1000]⟩] (by rfl) (by rfl) (by decide),?_⟩
 refine ⟨.inl rfl,ResVs.cast .nil ?_,t1⟩
 rfl
theorem back_says (ys : List Int) : SaysC E 91 [pVZ ys] 123 48 (pVZ ys):=by
 refine saysC_of (k:=1) Tryz.func91 rfl Tryz.ntmps91 Tryz.results91 (by simp) fun F hG hX0 hnt hdf P0=>?_
 obtain ⟨L,hX,hN⟩:=pro hnt hX0 hG
 refine exr (swb (c_bx (k:=1) (n:=1) .sl rfl rfl (P0 _ rfl) (L rfl)) t1 t0 ⟨rfl,rfl⟩ (aV (L rfl) rfl (zn [(1,_)] [(1,_)] t1 t1 (exr (sw (c_fn (vs:=[]) (us:=[_]) rfl rfl (L rfl)) t1 t0 (aV (L rfl) rfl (zn [(2,_)] [(1,_)] t1 t1 (ex_ret ?_))))))))
 exact ⟨.inr rfl,rfl,rfl⟩
end Go.Proofs.YtcifhkfpmhifaaaGreatDoor.N
set_option maxRecDepth 100000
set_option maxHeartbeats 4000000
namespace Go.Proofs.YtcifhkfpmhifaaaGreatDoor.N
open Go Go.Proofs.YtcifhkfpmhifaaaGreatDoor.SH Go.Proofs.YtcifhkfpmhifaaaGreatDoor.NumA
open Go.Proofs.Tryz renaming call123 → cl123,call17 → cl17,call19 → cl19,call24 → cl24,call26 → cl26,call88 → cl88,call89 → cl89,call90 → cl90,call91 → cl91,isAgg24 → ag24,isAgg26 → ag26,isAgg48 → ag48,isAgg86 → ag86,sizeOf24 → sz24,sizeOf26 → sz26,sizeOf86 → sz86,underlying48 → un48,zeroValue24 → zv24,zeroValue26 → zv26,zeroValue86 → zv86
@[reducible] def bxL (ys : List Int) : Blk:=⟨48,1,.mix [.p (pVZ ys)]⟩
@[reducible] def hS9 (xk : Nat → Rat) (k : Nat) : List (Nat × Blk):=[(9,bQ (xk k)),(10,⟨86,1,.mix [.clo (.func 90) [] [.at_ 9 0 4]]⟩),(4,⟨26,4,.mix [.p (.a (.bool false)),.p (.a (.slice none 0 0)),.p (.a (.bool false)),.p (.a (.slice none 0 0))]⟩)]
theorem back_hit (ys : List Int) (xk : Nat → Rat) (hl : ys.length < 1000000) : ∀ (F : Fr) (code : Code) (l : Nat),Tryz.f123.body = some code → XFrL E [] ([(71,bxL ys)] ++ hS9 xk 0) 19 F → YieldsL E.P F [] l ys.length (fun k=>[vZ ((ys.length : Int) - 1 - k),pZ (ys.getD ((ys.length : Int) - 1 - k).toNat 0)]) (hS9 xk) → Exec E.P F code ⟨[(0,.clo (.yield l) [] []),(1,.at_ 71 0 1)],[(71,bxL ys)] ++ hS9 xk 0⟩ (fun e S'=>(e = .normal ∨ e = .ret) ∧ HasB S' ([(71,bxL ys)] ++ hS9 xk ys.length)):=by
 intro F code l hcode XF hY
 injection (show some _ = some code from hcode) with hcode
 subst hcode
 have hG:=XF.g
 have hX:=XF.x
 have hN:=XF.ng
 have L:=lti XF.nt
 refine exr (sw (c_l1 ag48 (by rfl) (by rfl) (L rfl)) t1 t1 ?_)
 refine sw (c_ln un48 (L rfl)) t1 t0 (sw (c_su (L rfl) (w64 (by omega) (by omega))) t2 t0 ?_)
 refine aV (L rfl) rfl (zn [(0,_),(1,_),(3,_)] [(4,_),(9,_),(10,_),(71,_)] t3 t4 (ex_block ?_))
 refine exl (α:=Nat) (fun k=>[(3,vi ((ys.length : Int) - 1 - k))]) (fun k=>[(9,bQ (xk k))]) (fun k=>k ≤ ys.length) (fun k=>ys.length - k) (0) (sl:=[(0,_),(1,_)]) (hb:=[(4,_),(10,_),(71,_)]) ?_ ⟨(by first | exact rfl | exact oi (by omega) rfl),rfl,rfl,trivial⟩ t4 ?_
 ·exact Nat.zero_le _
 intro k hk
 refine ex_seq (exr (mV (L rfl) rfl (sw (c_ge (L rfl)) t2 t0 (zn [(0,_),(1,_),(3,_),(8,_)] [(4,_),(9,_),(10,_),(71,_)] t4 t4 ?_))))
 refine ex_if rfl (fun hc=>?_) (fun hc=>?_)
 ·have hc:=dt hc
  have hkl : k < ys.length:=by omega
  have hix : ((ys.length : Int) - 1 - k).toNat < ys.length:=by omega
  refine ex_skip (show Exec _ _ _ _ _ from ?_)
  refine ex_seq (ex_block (exrN (nsw (c_m (L rfl)) t1 t0 (nsw (c_m (L rfl)) t1 t0 (nsw (c_l1 ag48 (by rfl) (by rfl) (L rfl)) t1 t1 ?_)))))
  refine nsw (c_m (L rfl)) t1 t0 (nsw (core_indexAddrJ un48 sz24 (by omega) (by omega) (by simp) (by decide) (L rfl)) t2 t0 ?_)
  refine nsw (c_la ag24 sz24 (getZ hix) rfl (L rfl)) t1 t0 (nsY hY (k) hkl (L rfl) rfl t3 t3 rfl (nsw (c_no (L rfl)) t1 t0 ?_))
  refine .nil ⟨[(0,_),(1,_),(3,_),(18,_)],(4,_) :: (9,_) :: (10,_) :: (71,_) :: [],t4,t4,?_⟩
  refine ex_false rfl rfl ?_
  refine ex_skip (show Exec _ _ _ _ _ from ?_)
  refine exr0 (mV (L rfl) rfl (sw (c_su (L rfl) (w64 (by omega) (by omega))) t2 t0 ?_))
  refine aV (L rfl) rfl (seq_nil ?_)
  exact ⟨k + 1,(by omega),by omega,le_of ⟨(by first | exact rfl | exact oi (by omega) rfl),rfl,rfl,trivial⟩ t4⟩
 ·have hc:=df hc
  obtain rfl : k = ys.length:=by omega
  refine ex_exit ?_
  exact ⟨.inl rfl,t4⟩
theorem terms_all {B : Nat} {xs : List Int} {z : Rat × Rat} : ∀ {m k : Nat} {lo hi : Rat},TermsAt B xs z (k,m,lo,hi) → ∀ j,k ≤ j → j < xs.length → ∃ m' lo' hi',TermsAt B xs z (j,m' + 1,lo',hi') ∧ (k < j → 1 < lo') ∧ (j = k → lo' = lo)
 | 0,k,lo,hi,h,_,_,_=>h.f.elim
 | m + 1,k,lo,hi,h,j,hj,hl=>by
  by_cases e : j = k
  ·subst e; exact ⟨m,lo,hi,h,fun c=>absurd c (Nat.lt_irrefl _),fun _=>rfl⟩
  ·by_cases he : cfE lo hi = true
   ·have:=(h.last he).1; omega
   ·obtain ⟨m',lo',hi',h1,h2,h3⟩:=terms_all (h.step he) j (by omega) hl
    refine ⟨m',lo',hi',h1,fun _=>?_,fun c=>absurd c e⟩
    by_cases e2 : j = k + 1
    ·rw [h3 e2]; exact (cfN_le h.le he).1
    ·exact h2 (by omega)
theorem terms_bd {B m : Nat} {xs : List Int} {z : Rat × Rat} {lo hi : Rat} (h : TermsAt B xs z (0,m,lo,hi)) : (∀ t ∈ xs,nw t ≤ B + 1) ∧ ∀ j,0 < j → ∀ t ∈ xs.drop j,1 ≤ t:=by
 have key : ∀ i,i < xs.length → nw (xs.getD i 0) ≤ B + 1 ∧ (0 < i → 1 ≤ xs.getD i 0):=fun i hi=>by
  obtain ⟨m',lo',hi',h1,h2,-⟩:=terms_all h i (Nat.zero_le _) hi
  obtain ⟨-,e,-⟩:=cf_succ h1.d
  have hb:=cfX_ge (lo:=lo') (hi:=hi')
  have hf:=nw_floor lo'
  have hq:=h1.q1
  simp only at e hq
  have h3:=nw_add lo'.floor 1
  rw [nw_one] at h3
  rw [e]
  constructor
  ·rcases (show cfX lo' hi' = lo'.floor ∨ cfX lo' hi' = lo'.floor + 1 by omega) with c | c <;> rw [c]
   ·omega
   ·have h4 : nw (lo'.floor + 1) ≤ max (nw lo'.floor) 1 + 1:=h3
    by_cases c0 : nw lo'.floor = 0
    ·rw [nw_zero] at c0
     rw [c0,Int.zero_add,nw_one]; omega
    ·omega
  ·intro h0
   have:=floor_ge1 (h2 h0)
   omega
 constructor
 ·intro t ht
  obtain ⟨i,hi,rfl⟩:=List.getElem_of_mem ht
  have:=(key i hi).1
  simpa [List.getD_eq_getElem?_getD,hi] using this
 ·intro j hj t ht
  obtain ⟨i,hi,rfl⟩:=List.getElem_of_mem ht
  rw [List.length_drop] at hi
  have:=(key (j + i) (by omega)).2 (by omega)
  rw [List.getElem_drop]
  simpa [List.getD_eq_getElem?_getD,show j + i < xs.length by omega] using this
def cfL (lo hi : Rat) : List Int:=cf (2 * bl lo.den) lo hi
theorem terms_start {lo hi : Rat} {B : Nat} (h0 : 0 < lo) (hle : lo ≤ hi) (h1 : qw lo ≤ B) (h2 : qw hi ≤ B) : TermsAt B (cfL lo hi) (cfZ (2 * bl lo.den) lo hi) (0,2 * bl lo.den,lo,hi):=⟨rfl,fin_of _ lo hi hle (bl_lt _),h0,hle,h1,h2,rfl⟩
theorem cfL_len {lo hi : Rat} : (cfL lo hi).length ≤ 64 * qw lo:=by
 have h1:=cf_le (2 * bl lo.den) lo hi
 have h2:=bl_le_nw' (lo.den : Int)
 rw [Int.natAbs_natCast] at h2
 have h3:=nw_den_le lo
 unfold cfL; omega
theorem simp_step {xs : List Int} {k : Nat} (hk : k + 1 < xs.length) : cfV (xs.drop (xs.length - 1 - (k + 1))) = ((xs.getD (xs.length - 2 - k) 0 : Int) : Rat) + (cfV (xs.drop (xs.length - 1 - k)))⁻¹:=by
 rw [List.drop_eq_getElem_cons (show xs.length - 1 - (k + 1) < xs.length by omega),cfV]
 congr 2
 ·have e : xs.length - 1 - (k + 1) = xs.length - 2 - k:=by omega
  simp only [e,List.getD_eq_getElem?_getD]
  rw [List.getElem?_eq_getElem (by omega)]; rfl
 ·congr 2; omega
theorem qisQ (a : Rat) (h : qw a < 1000000000) : Says E 19 [pQ a] (bZ true):=by
 have h1:=RQ.sm_of h
 have:=qis_says h1.1 h1.2.1 h1.2.2
 rwa [RQ.is_of] at this
theorem cmpQ_pos {a : Rat} (h : 0 < a) : cmpQ a 0 = 1:=by
 unfold cmpQ; rw [if_neg (by grind),if_pos h]
theorem encZ_take : ∀ {v : List Int} {n : Nat},(encZ v).take (n * 2) = encZ (v.take n)
 | [],n=>by simp [encZ]
 | a :: v,0=>by simp [encZ]
 | a :: v,n + 1=>by
  rw [show (n + 1) * 2 = n * 2 + 1 + 1 by omega]
  simp only [encZ,cZ,List.cons_append,List.nil_append,List.take_succ_cons,encZ_take]
theorem last_v {xs : List Int} {m : Nat} (hm : xs.length = m + 1) : ((xs.getD ((xs.length : Int) - 1).toNat 0 : Int) : Rat) = cfV (xs.drop (xs.length - 1 - 0)):=by
 have e : ((xs.length : Int) - 1).toNat = m:=by omega
 rw [e,show xs.length - 1 - 0 = m by omega,List.drop_eq_getElem_cons (by omega),cfV,List.drop_of_length_le (by omega),cfV,Rat.inv_zero,Rat.add_zero]
 simp [List.getD_eq_getElem?_getD,hm]
theorem y_get {xs ys : List Int} {m k : Nat} (hm : xs.length = m + 1) (hys : ys = xs.take m) (hk : k < m) : ys.getD ((ys.length : Int) - 1 - k).toNat 0 = xs.getD (xs.length - 2 - k) 0:=by
 have hyl : ys.length = m:=by rw [hys,List.length_take]; omega
 have e : ((ys.length : Int) - 1 - k).toNat = xs.length - 2 - k:=by omega
 rw [e,hys,List.getD_eq_getElem?_getD,List.getD_eq_getElem?_getD,List.getElem?_take,if_pos (by omega)]
theorem drop_qw {xs : List Int} {B j : Nat} (h : ∀ t ∈ xs,nw t ≤ B + 1) (hB : B < 1000) (hl : xs.length ≤ 64 * B) : qw (cfV (xs.drop j)) < 100000000:=by
 have h1:=cfV_qw (l:=xs.drop j) (B:=B + 1) (fun t ht=>h t (List.mem_of_mem_drop ht))
 have h2 : (xs.drop j).length * (B + 1 + 2) ≤ (64 * 1000) * 1003:=Nat.mul_le_mul (by rw [List.length_drop]; omega) (by omega)
 omega
theorem simp_pos (lo hi : Rat) (B : Nat) (h0 : 0 < lo) (hle : lo ≤ hi) (hq : qw lo ≤ B) (hq2 : qw hi ≤ B) (hB : B < 1000) : Says E 46 [pQ lo,pQ hi] (.tup [pQ (simpP lo hi),vZ 0]):=by
 refine says_ofR (xs:=[pQ (simpP lo hi),vZ 0]) Tryz.func46 rfl Tryz.ntmps46 Tryz.results46 (by simp) fun F hG hX0 hnt hdf P0 hro=>?_
 obtain ⟨L,hX,hN⟩:=pro hnt hX0 hG
 have hs:=terms_start h0 hle hq hq2
 obtain ⟨xs,hxs⟩ : ∃ xs,xs = cfL lo hi:=⟨_,rfl⟩
 have hln : xs.length ≤ 64 * qw lo:=by rw [hxs]; exact cfL_len
 have hres : simpP lo hi = cfV xs:=by rw [hxs]; rfl
 rw [← hxs] at hs
 rw [hres]
 obtain ⟨hb1,hb2⟩:=terms_bd hs
 have hpos : 0 < xs.length:=by
  have h1:=cf_len hs.f
  have hd:=hs.d
  simp only at h1 hd
  rw [List.drop_zero] at hd
  rw [← hd] at h1; exact h1
 obtain ⟨m,hm⟩ : ∃ m,xs.length = m + 1:=⟨xs.length - 1,by omega⟩
 have hc:=cmpQ_le.2 hle
 have hsl:=cmpQ_pos h0
 have hsh:=cmpQ_pos (show 0 < hi by grind)
 refine exr (swb (c_bx (k:=2) (n:=4) pa4 rfl rfl (P0 _ rfl) (L rfl)) t1 t0 ⟨rfl,rfl⟩ (swb (c_bx (k:=3) (n:=4) pa4 rfl rfl (P0 _ rfl) (L rfl)) t1 t0 ⟨rfl,rfl⟩ (swb (c_al (k:=4) (n:=4) zv26 (.cons rfl (.cons rfl (.cons rfl (.cons rfl .nil)))) rfl (P0 _ rfl) (L rfl)) t0 t0 ⟨rfl,rfl⟩ (aV (L rfl) rfl (zn [(2,_),(3,_),(4,_),(5,_)] [(2,_),(3,_),(4,_)] t4 t3 (ex_seq (ex_block (exr (lp4 ag26 sz26 (L rfl) rfl rfl (cK hG hX cl19 hN (qisQ lo (by omega)) (L rfl) t1 ?_))))))))))
 refine sw (c_no (L rfl)) t1 t0 (mV (L rfl) rfl (swg (g:=17) rfl rfl (c_lp ag26 sz26 (by rfl) (by exact al4) rfl (L rfl)) rfl t1 t1 ?_))
 refine swg (g:=17) rfl rfl (c_c hG hX cl19 rfl hN (qisQ hi (by omega)) (L rfl)) rfl t1 t0 ?_
 refine swg (g:=17) rfl rfl (c_no (L rfl)) rfl t1 t0 (sw (c_pf rfl (L rfl)) t2 t0 (mV (L rfl) rfl (swg (g:=22) rfl rfl (c_lp ag26 sz26 (by rfl) (by exact al4) rfl (L rfl)) rfl t1 t1 ?_)))
 refine swg (g:=22) rfl rfl (c_lp ag26 sz26 (by rfl) (by exact al4) rfl (L rfl)) rfl t1 t1 ?_
 refine swg (g:=22) rfl rfl (c_c hG hX cl26 rfl hN (qcmp_says lo hi (by omega) (by omega)) (L rfl)) rfl t2 t0 ?_
 refine swg (g:=22) rfl rfl (c_gt (L rfl)) rfl t2 t0 (sw (c_pf rfl (L rfl)) t2 t0 (aV (L rfl) rfl (zn [(2,_),(3,_),(4,_),(5,_),(13,_)] [(2,_),(3,_),(4,_)] t5 t3 (ex_false rfl (decide_eq_false (by omega)) ?_))))
 refine exr (lp4 ag26 sz26 (L rfl) rfl rfl (cK hG hX cl24 hN (qsign_says lo (by omega)) (L rfl) t1 ?_))
 refine sw (c_le (L rfl)) t2 t0 (mV (L rfl) rfl (swn (g:=33) rfl (decide_eq_false (by omega)) (L rfl) rfl ?_))
 refine swn (g:=33) rfl (decide_eq_false (by omega)) (L rfl) rfl ?_
 refine swn (g:=33) rfl (decide_eq_false (by omega)) (L rfl) rfl ?_
 refine sw (c_pf (decide_eq_false (by omega)) (L rfl)) t2 t0 ?_
 refine aV (L rfl) rfl (zn [(2,_),(3,_),(4,_),(5,_),(29,_)] [(2,_),(3,_),(4,_)] t5 t3 (ex_false rfl rfl (exr (lp4 ag26 sz26 (L rfl) rfl rfl (cK hG hX cl24 hN (qsign_says hi (by omega)) (L rfl) t1 ?_)))))
 refine sw (c_ls (L rfl)) t2 t0 (aV (L rfl) rfl (zn [(2,_),(3,_),(4,_),(5,_),(39,_)] [(2,_),(3,_),(4,_)] t5 t3 (ex_false rfl (decide_eq_false (by omega)) ?_)))
 refine ex_skip (show Exec _ _ _ _ _ from ?_)
 refine exrN (nsw (c_lp ag26 sz26 (by rfl) (by exact al4) rfl (L rfl)) t1 t1 ?_)
 refine nsw (c_lp ag26 sz26 (by rfl) (by exact al4) rfl (L rfl)) t1 t1 ?_
 refine nsI hG hX hN [(4,.at_ 4 0 4),(5,vi 0)] ([(4,_)] ++ ([(602,bQ lo),(603,bQ hi)])) (terms_says lo hi) (L rfl) (args_fn (ys:=[_,_]) cl89 rfl rfl) t2 (by exact ncNew (pre:=[(4,_)]) [602,603] P0 rfl rfl t2 t1 (whole_of rfl)) (fun q h=>lk_iff.2 (PV.only_mem (ks:=[602,603]) rfl h)) rfl ?_
 refine nswB (c_cx hG hX [602,603] hN (collect_says xs (2 * bl lo.den) lo hi B (by omega) (by omega) hs) rfl (args_fn (ys:=[_]) cl88 rfl (by rfl)) (by rfl) (by rfl) (by rfl) (by rfl) (SameH.to (.cons rfl (.cons rfl .nil))) (by rfl) (by rfl) (L rfl)) t1 t2 ?_
 refine nsw (c_a (L rfl)) t1 t0 ?_
 refine .nil ⟨[(4,_),(5,_),(8,_)],(4,_) :: [],t3,t1,?_⟩
 have hlx:=last_v hm
 have hix : ((xs.length : Int) - 1).toNat < xs.length:=by omega
 refine exr (mV (L rfl) rfl (mV (L rfl) rfl (sw (c_ln un48 (L rfl)) t1 t0 (sw (c_su (L rfl) (w64 (by omega) (by omega))) t2 t0 ?_))))
 refine sw (core_indexAddrJ un48 sz24 (by omega) (by omega) (by simp) (by decide) (L rfl)) t2 t0 ?_
 refine sw (c_la ag24 sz24 (getZ hix) rfl (L rfl)) t1 t0 (cK hG hX cl17 hN (qwhole_says (xs.getD ((xs.length : Int) - 1).toNat 0)) (L rfl) t1 (swb (c_al (k:=9) (n:=4) zv26 (.cons rfl (.cons rfl (.cons rfl (.cons rfl .nil)))) rfl (P0 _ rfl) (L rfl)) t0 t0 ⟨rfl,rfl⟩ (sb (c_sm sz26 (by rfl) pa4 rfl pu4) t2 t1 ?_)))
 refine seq_nil ⟨[(4,_),(5,_),(8,_),(9,_)],[(4,_),(9,bQ (cfV (xs.drop (xs.length - 1 - 0))))],t4,⟨rfl,obl rfl (by rw [← hlx]),trivial⟩,?_⟩
 refine exr (sw (c_fn (vs:=[]) (us:=[_]) rfl rfl (L rfl)) t1 t0 (swb (c_al (k:=10) (n:=1) zv86 (.cons rfl .nil) rfl (P0 _ rfl) (L rfl)) t0 t0 ⟨rfl,rfl⟩ (sb (c_sm sz86 (by rfl) .clo rfl pu1) t2 t1 ?_)))
 refine zn [(4,_),(5,_),(8,_),(9,_),(10,_)] [(4,_),(9,_),(10,_)] t5 t3 ?_
 obtain ⟨ys,hys⟩ : ∃ ys,ys = xs.take m:=⟨_,rfl⟩
 have hyl : ys.length = m:=by rw [hys,List.length_take]; omega
 have hbk:=back_says ys
 rw [pVZ,hyl] at hbk
 refine ex_seq (exr (mV (L rfl) rfl (mV (L rfl) rfl (sw (c_ln un48 (L rfl)) t1 t0 (sw (c_su (L rfl) (w64 (by omega) (by omega))) t2 t0 ?_)))))
 refine sw (slI_hi un48 sz24 (h:=m) (by first | exact rfl | omega) (by omega) (show _ = encZ ys by rw [hys]; exact encZ_take) (L rfl)) t2 t0 ?_
 refine swb (core_callC (k:=71) hG hX cl91 rfl hN hbk (P0 _ rfl) (L rfl)) t1 t0 ⟨rfl,rfl⟩ (zn [(4,_),(5,_),(9,_),(10,_),(71,_)] [(4,_),(9,_),(10,_),(71,_)] t5 t4 (ex_block ?_))
 refine ex_rangeL (fn:=Tryz.f123) (ps:=[72,73]) (nI:=19) (caps:=[.at_ 71 0 1]) (Hc:=[(71,bxL ys)]) (Hc':=[(71,bxL ys)]) [] (hS9 fun k=>cfV (xs.drop (xs.length - 1 - k))) (fun k=>[vZ ((ys.length : Int) - 1 - k),pZ (ys.getD ((ys.length : Int) - 1 - k).toNat 0)]) (n:=ys.length) (sl:=[(4,.at_ 4 0 4),(5,vi 0),(9,.at_ 9 0 4),(10,.at_ 10 0 1)]) hG hX hN hro (fun b hb=>absurd hb (hX0 b)) (fun q hq=>by cases hq) rfl (le_of t4 ⟨obl rfl (by rw [bxL,pVZ,hyl]),rfl,rfl,rfl,trivial⟩) cl123 Tryz.func123 rfl Tryz.ntmps123 rfl (by decide) (by decide) (fun p hp=>?_) (fun _ _=>rfl) ?_ ?_ ?_ ?_ ?_ ?_ ?_ ?_ ?_ ?_
 ·simp only [List.mem_cons,List.not_mem_nil,or_false] at hp
  rcases hp with rfl | rfl
  ·exact L rfl
  ·exact L rfl
 ·intro q hq
  rw [lk_iff] at hq
  simp only [List.map_cons,List.map_nil,List.mem_cons,List.not_mem_nil,or_false] at hq
  subst hq
  exact ⟨by decide,fun k _=>rfl⟩
 ·intro k _ q _
  rw [lk_iff,lk_iff]; exact Iff.rfl
 ·intro k _ q hq
  cases hq
 ·intro k _ q _ B B' h1 h2
  have hm1:=lookup_mem h1
  have hm2:=lookup_mem h2
  simp only [hS9,List.mem_cons,List.not_mem_nil,or_false,Prod.mk.injEq] at hm1 hm2
  rcases hm1 with ⟨rfl,rfl⟩ | ⟨rfl,rfl⟩ | ⟨rfl,rfl⟩ <;> rcases hm2 with ⟨e,rfl⟩ | ⟨e,rfl⟩ | ⟨e,rfl⟩ <;> first | exact ⟨rfl,rfl⟩ | (cases e)
 ·intro k _
  exact whole_of rfl
 ·intro q hq; exact hq
 ·intro t v ht q hq
  have hnm : ((hS9 (fun k=>cfV (xs.drop (xs.length - 1 - k))) 0).map (·.1)) = [9,10,4]:=rfl
  have ho : ([(4,.at_ 4 0 4),(5,vi 0),(9,.at_ 9 0 4),(10,.at_ 10 0 1)] : List (Nat × PV)).all (fun p=>p.2.only [4,9,10]) = true:=rfl
  rw [List.all_eq_true] at ho
  have:=PV.only_mem (ho _ (lookup_mem' ht)) hq
  refine ⟨lk_iff.2 ?_,by simp⟩
  rw [hnm]
  simp only [List.mem_cons,List.not_mem_nil,or_false] at this ⊢
  omega
 ·intro l F' XF hro' hY
  exact back_hit ys _ (by omega) F' _ l rfl XF hY
 ·intro k hk
  have hkm : k + 1 < xs.length:=by omega
  have hst:=simp_step hkm
  have hfx:=y_get hm hys (show k < m by omega)
  have hfw : nw (ys.getD ((ys.length : Int) - 1 - k).toNat 0) < 100000:=by
   rw [hfx]; have:=hb1 _ (gDZ (show xs.length - 2 - k < xs.length by omega)); omega
  have hxq:=drop_qw (j:=xs.length - 1 - k) hb1 hB (by omega)
  have hx1:=cfV_pos (l:=xs.drop (xs.length - 1 - k)) (fun c=>by have:=congrArg List.length c; simp at this; omega) (hb2 _ (by omega))
  refine ⟨⟨[(12,.at_ 12 0 2),(10,.at_ 10 0 1)],(12,bI (ys.getD ((ys.length : Int) - 1 - k).toNat 0)) :: hS9 (fun k=>cfV (xs.drop (xs.length - 1 - k))) k⟩,fun F' XF=>?_,fun F' XF=>?_⟩
  ·have L:=lti (XF.nt.trans hnt)
   have P0:=p0L XF [9,10,4] rfl
   skip
   refine exr0 (swb (c_al (k:=12) (n:=2) zv24 (.cons rfl (.cons rfl .nil)) rfl (P0 _ rfl) (L rfl)) t0 t0 ⟨rfl,rfl⟩ (sb (c_sm sz24 (by rfl) pa2 rfl pu2) t2 t1 ?_))
   refine seq_nil ?_
   exact ⟨rfl,le_of t2 t4⟩
  ·have L:=lti (XF.nt.trans hnt)
   have P0:=p0L XF [9,10,4] rfl
   have hG:=XF.g
   have hX:=XF.x
   have hN:=XF.ng
   skip
   refine ex_block (exr0 (sw (c_l1 ag86 (by rfl) (by rfl) (L rfl)) t1 t1 ?_))
   refine lp2 ag24 sz24 (L rfl) rfl rfl (swB (c_cx hG hX [9] hN (simp1_says (ys.getD ((ys.length : Int) - 1 - k).toNat 0) (cfV (xs.drop (xs.length - 1 - k))) hfw hxq (by grind)) rfl (args_clo (fst:=[]) (ys:=[_]) (cap:=[_]) cl90 rfl (by rfl)) (by rfl) (by rfl) (by rfl) (by rfl) (SameH.to (.cons rfl .nil)) (by rfl) (by rfl) (L rfl)) t2 t1 ?_)
   refine seq_nil ?_
   exact ⟨rfl,⟨obl rfl (by show bQ _ = bQ (cfV (xs.drop (xs.length - 1 - (k + 1)))); rw [hst,hfx]),rfl,rfl,trivial⟩⟩
 ·show Exec _ _ _ _ _
  have e : cfV (xs.drop (xs.length - 1 - ys.length)) = cfV xs:=by rw [hyl,show xs.length - 1 - m = 0 by omega,List.drop_zero]
  skip
  refine exr (lp4 ag26 sz26 (L rfl) rfl rfl (sb (c_sm sz26 (by rfl) pa4 rfl pu4) t2 t1 ?_))
  refine aV (L rfl) rfl (zn [(4,_),(5,_)] [(4,_)] t2 t1 (ex_ret ?_))
  refine ⟨.inr rfl,ResVs.cast (.cons (.agg rfl rfl rfl ag26 sz26 (.cons (.cons (.cons (.cons .nil))))) (.cons (.tmp rfl) .nil)) ?_⟩
  show [pQ (cfV (xs.drop (xs.length - 1 - ys.length))),vZ 0] = _
  rw [e]
end Go.Proofs.YtcifhkfpmhifaaaGreatDoor.N
set_option maxRecDepth 100000
set_option maxHeartbeats 4000000
namespace Go.Proofs.YtcifhkfpmhifaaaGreatDoor.N
open Go Go.Proofs.YtcifhkfpmhifaaaGreatDoor.SH Go.Proofs.YtcifhkfpmhifaaaGreatDoor.NumA
open Go.Proofs.Tryz renaming call19 → cl19,call24 → cl24,call26 → cl26,call28 → cl28,call46 → cl46,call87 → cl87,isAgg26 → ag26,sizeOf24 → sz24,sizeOf26 → sz26,underlying26 → un26,zeroValue26 → zv26
end Go.Proofs.YtcifhkfpmhifaaaGreatDoor.N
set_option maxRecDepth 100000
set_option maxHeartbeats 4000000
namespace Go.Proofs.YtcifhkfpmhifaaaGreatDoor.N
open Go Go.Proofs.YtcifhkfpmhifaaaGreatDoor.SH Go.Proofs.YtcifhkfpmhifaaaGreatDoor.NumA
open Go.Proofs.Tryz renaming isAgg5 → ag5,isAgg9 → ag9,sizeOf5 → sz5,sizeOf9 → sz9,underlying116 → un116,underlying5 → un5,underlying68 → un68,underlying9 → un9
theorem blocks_says (s : ByteArray) : SaysC E 142 [.a (.string s)] 154 9 (.a (.string s)):=by
 refine saysC_of (k:=1) Tryz.func142 rfl Tryz.ntmps142 Tryz.results142 (by simp) fun F hG hX0 hnt hdf P0=>?_
 obtain ⟨L,hX,hN⟩:=pro hnt hX0 hG
 refine exr (swb (c_bx (k:=1) (n:=1) (.atom rfl) rfl rfl (P0 _ rfl) (L rfl)) t1 t0 ⟨rfl,rfl⟩ (aV (L rfl) rfl (zn [(1,_)] [(1,_)] t1 t1 (exr (sw (c_fn (vs:=[]) (us:=[_]) rfl rfl (L rfl)) t1 t0 (aV (L rfl) rfl (zn [(2,_)] [(1,_)] t1 t1 (ex_ret ?_))))))))
 exact ⟨.inr rfl,rfl,rfl⟩
@[reducible] def b4P : Blk:=⟨127,10,.mix [vu 1,vu 10,vu 100,vu 1000,vu 10000,vu 100000,vu 1000000,vu 10000000,vu 100000000,vu 1000000000]⟩
@[reducible] def hPw (ws : List Int) : List (Nat × Blk):=[(2,⟨24,2,.mix [.p (.a (.bool false)),.p (.a (.slice none 0 0))]⟩),(4,b4P),(9,⟨22,1,.mix [.ref 68 0 ws.length ws.length]⟩),(68,⟨68,1,.pure (encW ws)⟩)]
@[reducible] def hP (ds : List UInt8) (k : Nat) : List (Nat × Blk):=hPw (wsK (chunks ds) k)
@[reducible] def bxS (ds : List UInt8) : Blk:=⟨9,1,.mix [.p (pS ds)]⟩
@[reducible] def encC (b : Int × Int) : List Pure:=[.a (.int .u32 b.1),.a (.int .i64 b.2)]
theorem blocks_hit (ds : List UInt8) (hl0 : ds.length < 100000000) (hdg : Digits ds) : ∀ (F : Fr) (code : Code) (l : Nat),Tryz.f154.body = some code → XFrL E [68] ([(70,bxS ds)] ++ hP ds 0) 39 F → YieldsL E.P F [68] l (chunks ds).length (fun k=>encC ((chunks ds).getD k (0,0))) (hP ds) → Exec E.P F code ⟨[(0,.clo (.yield l) [] []),(1,.at_ 70 0 1)],[(70,bxS ds)] ++ hP ds 0⟩ (fun e S'=>(e = .normal ∨ e = .ret) ∧ HasB S' ([(70,bxS [])] ++ hP ds (chunks ds).length)):=by
 intro F code l hcode XF hY
 injection (show some _ = some code from hcode) with hcode
 subst hcode
 have hG:=XF.g
 have hX:=XF.x
 have hN:=XF.ng
 have L:=lti XF.nt
 refine ex_block ?_
 refine exl (α:=(Nat × List UInt8)) (fun x=>[]) (fun x=>[(70,bxS x.2),(9,⟨22,1,.mix [.ref 68 0 (wsK (chunks ds) x.1).length (wsK (chunks ds) x.1).length]⟩),(68,⟨68,1,.pure (encW (wsK (chunks ds) x.1))⟩)]) (fun x=>(chunks ds).drop x.1 = chunks x.2 ∧ Digits x.2 ∧ x.1 ≤ (chunks ds).length ∧ x.2.length ≤ ds.length) (fun x=>x.2.length) ((0,ds)) (sl:=[(0,_),(1,_)]) (hb:=[(2,_),(4,_)]) ?_ t2 t5 ?_
 ·exact ⟨rfl,hdg,Nat.zero_le _,Nat.le_refl _⟩
 intro x hx
 obtain ⟨k,rest⟩:=x
 obtain ⟨hc,hd,hk,hrl⟩:=hx
 simp only at hc hd hk hrl
 dsimp only
 have hsz:=str_size rest
 refine ex_seq (exr (sw (c_l1 ag9 (by rfl) (by rfl) (L rfl)) t1 t1 ?_))
 refine sw (c_lS un9 (L rfl)) t1 t0 (sw (c_gt (L rfl)) t2 t0 (zn [(0,_),(1,_),(9,_)] [(2,_),(4,_),(9,_),(68,_),(70,_)] t3 t5 ?_))
 refine ex_if rfl (fun he=>?_) (fun he=>?_)
 ·have he:=dt he
  rw [hsz] at he
  have hne : rest ≠ []:=by intro e; subst e; simp at he
  obtain ⟨n,hn⟩ : ∃ n,n = (rest.length - 1) % 9 + 1:=⟨_,rfl⟩
  have hnl : n ≤ rest.length:=by omega
  have hcc:=chunks_cons hne
  rw [← hn] at hcc
  have hck : (chunks ds)[k]? = some (numI (rest.take n),(n : Int)):=by
   have : ((chunks ds).drop k)[0]? = some (numI (rest.take n),(n : Int)):=by rw [hc,hcc]; rfl
   simpa using this
  have htl : (rest.take n).length = n:=by simp; omega
  have hdt:=hd.take n
  refine ex_skip (show Exec _ _ _ _ _ from ?_)
  refine ex_block (exr (sw (c_l1 ag9 (by rfl) (by rfl) (L rfl)) t1 t1 ?_))
  refine sw (c_lS un9 (L rfl)) t1 t0 (sw (c_su (L rfl) (w64 (by omega) (by omega))) t2 t0 ?_)
  refine sw (c_r (L rfl) (by decide) (show _ = (((rest.length - 1) % 9 : Nat) : Int) by rw [Int.tmod_eq_emod_of_nonneg (by omega)]; omega)) t2 t0 ?_
  refine sw (c_ad (L rfl) (show _ = (n : Int) by rw [w64 (by omega) (by omega)]; omega)) t2 t0 ?_
  refine aV (L rfl) rfl (zn [(0,_),(1,_),(3,_)] [(2,_),(4,_),(9,_),(68,_),(70,_)] t3 t5 (exr (aV (L rfl) rfl (zn [(0,_),(1,_),(3,_),(4,_)] [(2,_),(4,_),(9,_),(68,_),(70,_)] t4 t5 (ex_seq (exr (sw (c_l1 ag9 (by rfl) (by rfl) (L rfl)) t1 t1 ?_)))))))
  refine mV (L rfl) rfl (sw (slS_hi un9 (h:=n) (by first | exact rfl | omega) (by rw [hsz]; exact hnl) (L rfl)) t2 t0 ?_)
  refine sw (c_s2 (n:=n) (xs:=encB (rest.take n)) un9 un116 un5 (by rw [str_extract,str_size]; simp; omega) (by rw [str_extract]; simp [str,encB]) (L rfl)) t1 t0 ?_
  refine sw (c_ln un116 (L rfl)) t1 t0 (mV (L rfl) rfl (zn [(0,_),(1,_),(3,_),(4,_),(18,_),(19,_),(20,_)] [(2,_),(4,_),(9,_),(68,_),(70,_)] t7 t5 (ex_block ?_)))
  refine exl (α:=Nat) (fun y=>[(20,vi (y : Int)),(4,vu (numI ((rest.take n).take y)))]) (fun y=>[]) (fun y=>y ≤ n) (fun y=>n - y) (0) (sl:=[(0,_),(1,_),(3,_),(18,_),(19,_)]) (hb:=[(2,_),(4,_),(9,_),(68,_),(70,_)]) ?_ ⟨(by first | exact rfl | exact oi (by omega) rfl),(by first | exact rfl | exact oi (by omega) rfl),rfl,rfl,rfl,rfl,rfl,trivial⟩ t5 ?_
  ·exact Nat.zero_le _
  intro y hy2
  refine exr (sw (c_ls (L rfl)) t2 t0 (zn [(0,_),(1,_),(3,_),(4,_),(18,_),(19,_),(20,_),(21,_)] [(2,_),(4,_),(9,_),(68,_),(70,_)] t8 t5 (ex_seq ?_)))
  refine ex_if rfl (fun hf=>?_) (fun hf=>?_)
  ·have hf:=dt hf
   have hb9:=numI_bd (hdt.take y)
   have hg:=hdt.get (i:=y) (by omega)
   have hlen9 : ((rest.take n).take y).length = y:=by simp; omega
   rw [hlen9] at hb9
   have hp10 : (10 : Int) ^ y ≤ 100000000:=by
    have h2 : ((10 ^ y : Nat) : Int) ≤ ((10 ^ 8 : Nat) : Int):=Int.ofNat_le.2 (Nat.pow_le_pow_right (by decide) (by omega))
    rw [Int.natCast_pow] at h2
    exact h2
   refine ex_skip (show Exec _ _ _ _ _ from ?_)
   refine ex_seq (ex_block (exr (sw (ixJ un116 sz5 (j:=y) (by first | exact rfl | omega) (by omega) (by simp; omega) (L rfl)) t2 t0 ?_)))
   refine sw (c_li ag5 (by first | exact getB (by omega) | rfl) (L rfl)) t1 t0 ?_
   refine aV (L rfl) rfl (zn [(0,_),(1,_),(3,_),(4,_),(6,_),(18,_),(19,_),(20,_)] [(2,_),(4,_),(9,_),(68,_),(70,_)] t8 t5 (exr0 (mV (L rfl) rfl (sw (c_mu (L rfl) (fu32 (by omega) (by omega))) t2 t0 ?_))))
   refine mV (L rfl) rfl (sw (c_su (L rfl) (fu8 (by omega) (by omega))) t2 t0 ?_)
   refine sw (c_cv un5 un68 (L rfl) (fu32 (by omega) (by omega))) t1 t0 ?_
   refine sw (c_ad (L rfl) (show _ = numI ((rest.take n).take (y + 1)) by rw [numI_take_succ (by omega),dg]; exact fu32 (by omega) (by omega))) t2 t0 ?_
   refine aV (L rfl) rfl (seq_nil (exr0 (sw (c_ad (L rfl) (w64 (by omega) (by omega))) t2 t0 ?_)))
   refine mV (L rfl) rfl (seq_nil ?_)
   exact ⟨y + 1,(by omega),(by omega),le_of ⟨(by first | exact rfl | exact oi (by omega) rfl),(by first | exact rfl | exact oi (by omega) rfl),rfl,rfl,rfl,rfl,rfl,trivial⟩ t5⟩
  ·have hf:=df hf
   have hyn : y = n:=by omega
   subst hyn
   have hnum : (rest.take y).take y = rest.take y:=List.take_of_length_le (by omega)
   rw [hnum]
   have hkn : k < (chunks ds).length:=(List.getElem?_eq_some_iff.1 hck).1
   have hgd : (chunks ds).getD k (0,0) = (numI (rest.take y),(y : Int)):=by rw [List.getD_eq_getElem?_getD,hck]; rfl
   refine ex_exit (show Exec _ _ _ _ _ from ?_)
   refine ex_seq (exrN (nsw (c_m (L rfl)) t1 t0 (nsw (c_m (L rfl)) t1 t0 (nsw (c_m (L rfl)) t1 t0 (nsY hY (k) hkn (L rfl) rfl ⟨rfl,ov rfl (by rw [hgd]),ov rfl (by rw [hgd]),trivial⟩ t4 rfl ?_)))))
   refine nsw (c_no (L rfl)) t1 t0 ?_
   refine .nil ⟨[(0,_),(1,_),(3,_),(35,_)],(2,_) :: (4,_) :: (9,_) :: (68,_) :: (70,_) :: [],t4,t5,?_⟩
   refine ex_false rfl rfl ?_
   refine ex_skip (show Exec _ _ _ _ _ from ?_)
   refine exr0 (sw (c_l1 ag9 (by rfl) (by rfl) (L rfl)) t1 t1 ?_)
   refine mV (L rfl) rfl (sw (slS_lo un9 (l:=y) (by first | exact rfl | omega) (by rw [hsz]; exact hnl) (L rfl)) t2 t0 ?_)
   refine sb (c_sm sz9 (by rfl) (.atom rfl) rfl pu1) t2 t1 ?_
   refine seq_nil ?_
   exact ⟨(k + 1,rest.drop y),⟨by rw [show (chunks ds).drop (k + 1) = ((chunks ds).drop k).drop 1 by simp,hc,hcc]; rfl,hd.drop y,by have:=(List.getElem?_eq_some_iff.1 hck).1; simp only; omega,by simp only [List.length_drop]; omega⟩,(by simp only [List.length_drop]; omega),le_of t2 ⟨obl rfl (by rw [hsz,str_extract]; simp only; rw [List.take_of_length_le (by simp)]),rfl,rfl,rfl,rfl,trivial⟩⟩
 ·have he:=df he
  rw [hsz] at he
  have hr0 : rest = []:=List.eq_nil_of_length_eq_zero (by omega)
  subst hr0
  rw [chunks_nil] at hc
  have hkl : k = (chunks ds).length:=by
   have:=congrArg List.length hc
   simp at this; omega
  subst hkl
  refine ex_exit ?_
  exact ⟨.inl rfl,t5⟩
end Go.Proofs.YtcifhkfpmhifaaaGreatDoor.N
set_option maxRecDepth 100000
set_option maxHeartbeats 4000000
namespace Go.Proofs.YtcifhkfpmhifaaaGreatDoor.N
open Go Go.Proofs.YtcifhkfpmhifaaaGreatDoor.SH Go.Proofs.YtcifhkfpmhifaaaGreatDoor.NumA
open Go.Proofs.Tryz renaming call109 → cl109,call142 → cl142,call154 → cl154,isAgg22 → ag22,isAgg24 → ag24,isAgg5 → ag5,isAgg68 → ag68,sizeOf127 → sz127,sizeOf22 → sz22,sizeOf24 → sz24,sizeOf4 → sz4,sizeOf5 → sz5,sizeOf68 → sz68,typeInfo68 → ti68,underlying116 → un116,underlying127 → un127,underlying22 → un22,underlying24 → un24,underlying5 → un5,underlying68 → un68,underlying78 → un78,underlying9 → un9,zeroValue127 → zv127,zeroValue22 → zv22,zeroValue24 → zv24
theorem pow_get {n : Nat} (h : n ≤ 9) : (Cells.mix [vu 1,vu 10,vu 100,vu 1000,vu 10000,vu 100000,vu 1000000,vu 10000000,vu 100000000,vu 1000000000]).get n = some (vu (10 ^ n)):=by
 rcases (show n = 0 ∨ n = 1 ∨ n = 2 ∨ n = 3 ∨ n = 4 ∨ n = 5 ∨ n = 6 ∨ n = 7 ∨ n = 8 ∨ n = 9 by omega) with rfl | rfl | rfl | rfl | rfl | rfl | rfl | rfl | rfl | rfl <;> rfl
theorem parse_says (bs : List UInt8) (hl : bs.length < 100000000) : Says E 126 [pS bs] (.tup [pZ (parseV bs),vZ (parseE bs)]):=by
 refine says_ofR (xs:=[pZ (parseV bs),vZ (parseE bs)]) Tryz.func126 rfl Tryz.ntmps126 Tryz.results126 (by simp) fun F hG hX0 hnt hdf P0 hro=>?_
 obtain ⟨L,hX,hN⟩:=pro hnt hX0 hG
 have hsz:=str_size bs
 refine exr (swb (c_al (k:=2) (n:=2) zv24 (.cons rfl (.cons rfl .nil)) rfl (P0 _ rfl) (L rfl)) t0 t0 ⟨rfl,rfl⟩ (aV (L rfl) rfl (zn [(0,_),(2,_),(3,_)] [(2,_)] t3 t1 (exr (sw (core_buildArr (vs:=[_,_,_,_,_,_,_,_,_,_]) un127 zv127 (.cons rfl (.cons rfl (.cons rfl (.cons rfl (.cons rfl (.cons rfl (.cons rfl (.cons rfl (.cons rfl (.cons rfl .nil)))))))))) sz68 rfl (.cons rfl (.atom rfl) rfl pu1 (.cons rfl (.atom rfl) rfl (.skip pu1) (.cons rfl (.atom rfl) rfl (.skip (.skip pu1)) (.cons rfl (.atom rfl) rfl (.skip (.skip (.skip pu1))) (.cons rfl (.atom rfl) rfl (.skip (.skip (.skip (.skip pu1)))) (.cons rfl (.atom rfl) rfl (.skip (.skip (.skip (.skip (.skip pu1))))) (.cons rfl (.atom rfl) rfl (.skip (.skip (.skip (.skip (.skip (.skip pu1)))))) (.cons rfl (.atom rfl) rfl (.skip (.skip (.skip (.skip (.skip (.skip (.skip pu1))))))) (.cons rfl (.atom rfl) rfl (.skip (.skip (.skip (.skip (.skip (.skip (.skip (.skip pu1)))))))) (.cons rfl (.atom rfl) rfl (.skip (.skip (.skip (.skip (.skip (.skip (.skip (.skip (.skip pu1))))))))) .nil)))))))))) (.cons (.cons (.cons (.cons (.cons (.cons (.cons (.cons (.cons (.cons .nil)))))))))) (L rfl)) t10 t0 (swb (c_al (k:=4) (n:=10) zv127 (.cons rfl (.cons rfl (.cons rfl (.cons rfl (.cons rfl (.cons rfl (.cons rfl (.cons rfl (.cons rfl (.cons rfl .nil)))))))))) rfl (P0 _ rfl) (L rfl)) t0 t0 ⟨rfl,rfl⟩ (sb (c_sm sz127 (by rfl) pa10 rfl pu10) t2 t1 ?_)))))))
 refine zn [(0,_),(2,_),(3,_),(4,_)] [(2,_),(4,_)] t4 t2 (exr (mV (L rfl) rfl (aV (L rfl) rfl (aV (L rfl) rfl (zn [(0,_),(2,_),(3,_),(4,_),(5,_),(6,_)] [(2,_),(4,_)] t6 t2 (ex_seq ?_))))))
 refine exm (sl:=[(25,vb (pNeg bs))]) (sl0:=[(0,_),(2,_),(3,_),(4,_),(5,_),(6,_)]) (hb:=[]) (hb0:=[(2,_),(4,_)]) t6 t2 ?_ ?_
 ·by_cases h0 : 0 < bs.length
  ·refine mV (L rfl) rfl (sw (c_lS un9 (L rfl)) t1 t0 (sw (c_gt (L rfl)) t2 t0 (mV (L rfl) rfl (gV (g:=21) rfl (by rw [hsz]; exact decide_eq_true (by omega)) (L rfl) rfl rfl ?_))))
   refine swg (g:=21) rfl (by rw [hsz]; exact decide_eq_true (by omega)) (c_is un9 (by decide) (by exact str_get (i:=0) h0) (L rfl)) rfl t2 t0 ?_
   refine swg (g:=21) rfl (by rw [hsz]; exact decide_eq_true (by omega)) (c_e (L rfl)) rfl t2 t0 ?_
   refine sw (c_pt (by rw [hsz]; exact decide_eq_true (by omega)) (L rfl)) t2 t0 ?_
   exact seq_nil ⟨⟨ob rfl (by rw [pNeg]; exact dec_eq ⟨fun c=>⟨h0,c⟩,fun c=>c.2⟩),rfl,rfl,rfl,rfl,rfl,rfl,trivial⟩,t2⟩
  ·refine mV (L rfl) rfl (sw (c_lS un9 (L rfl)) t1 t0 (sw (c_gt (L rfl)) t2 t0 (mV (L rfl) rfl (swn (g:=21) rfl (by rw [hsz]; exact decide_eq_false (by omega)) (L rfl) rfl ?_))))
   refine swn (g:=21) rfl (by rw [hsz]; exact decide_eq_false (by omega)) (L rfl) rfl ?_
   refine swn (g:=21) rfl (by rw [hsz]; exact decide_eq_false (by omega)) (L rfl) rfl ?_
   refine sw (c_pf (by rw [hsz]; exact decide_eq_false (by omega)) (L rfl)) t2 t0 ?_
   exact seq_nil ⟨⟨ob rfl (by rw [pNeg]; exact (decide_eq_false (fun c=>h0 c.1)).symm),rfl,rfl,rfl,rfl,rfl,rfl,trivial⟩,t2⟩
 obtain ⟨ds,hds⟩ : ∃ ds,ds = pDs bs:=⟨_,rfl⟩
 have hdl : ds.length < 100000000:=by rw [hds,pDs]; split <;> (try simp only [List.length_drop]) <;> omega
 obtain ⟨neg,hneg⟩ : ∃ neg,neg = pNeg bs:=⟨_,rfl⟩
 have f3 : (pBad ds neg = true ∨ ¬ Digits ds) → parseV bs = 0 ∧ parseE bs = 3:=fun h=>by
  have e : parseE bs = 3:=by rw [parseE,← hds,← hneg,if_pos h]
  exact ⟨by rw [parseV,e]; rfl,e⟩
 have f2 : ¬ (pBad ds neg = true ∨ ¬ Digits ds) → 20000 < ds.length → parseV bs = 0 ∧ parseE bs = 2:=fun h h2=>by
  have e : parseE bs = 2:=by rw [parseE,← hds,← hneg,if_neg h,if_pos h2]
  exact ⟨by rw [parseV,e]; rfl,e⟩
 have f0 : ¬ (pBad ds neg = true ∨ ¬ Digits ds) → ¬ 20000 < ds.length → parseV bs = sg neg (numI ds) ∧ parseE bs = 0:=fun h h2=>by
  have e : parseE bs = 0:=by rw [parseE,← hds,← hneg,if_neg h,if_neg h2]
  exact ⟨by rw [parseV,if_pos e,← hds,← hneg],e⟩
 refine ex_cut (sl:=[(5,.p (pS ds)),(6,vb neg)]) (sl0:=[(2,_),(3,_),(4,_)]) (hb:=[]) (hb0:=[(2,_),(4,_)]) t3 t2 ?_ ?_
 ·refine ex_if rfl (fun hc=>?_) (fun hc=>?_)
  ·have hb : pNeg bs = true:=hc
   have h0 : 0 < bs.length:=by rw [pNeg] at hb; exact (of_decide_eq_true hb).1
   refine exr0 (mV (L rfl) rfl (sw (slS_lo un9 (l:=1) (by first | exact rfl | omega) (by rw [hsz]; omega) (L rfl)) t2 t0 ?_))
   refine aV (L rfl) rfl (aV (L rfl) rfl (seq_nil ?_))
   exact ⟨⟨ov rfl (by rw [hsz,str_extract,hds,pDs,if_pos hb,List.take_of_length_le (show (bs.drop 1).length ≤ bs.length - 1 by simp)]),ob rfl (by rw [hneg]; exact hc.symm),(by first | exact rfl | exact oi (by omega) rfl),(by first | exact rfl | exact oi (by omega) rfl),(by first | exact rfl | exact oi (by omega) rfl),trivial⟩,t2⟩
  ·have hb : ¬ pNeg bs = true:=by rw [hc]; simp
   refine ex_skip ?_
   exact ⟨⟨ov rfl (by rw [hds,pDs,if_neg hb]),ob rfl (by rw [hneg]; exact hc.symm),(by first | exact rfl | exact oi (by omega) rfl),(by first | exact rfl | exact oi (by omega) rfl),(by first | exact rfl | exact oi (by omega) rfl),trivial⟩,t2⟩
 ·have hsd:=str_size ds
  refine ex_seq ?_
  refine exm (sl:=[(43,vb (pBad ds neg))]) (sl0:=[(2,_),(3,_),(4,_),(5,_),(6,_)]) (hb:=[]) (hb0:=[(2,_),(4,_)]) t5 t2 ?_ ?_
  ·rcases pcases ds with h1 | ⟨h1,h2⟩ | ⟨h2,h3⟩ | ⟨h1,h2,h3⟩
   ·refine mV (L rfl) rfl (sw (c_lS un9 (L rfl)) t1 t0 (sw (c_e (L rfl)) t2 t0 (mV (L rfl) rfl (swn (g:=31) rfl (by rw [hsd]; exact decide_eq_true (by omega)) (L rfl) rfl ?_))))
    refine swn (g:=31) rfl (by rw [hsd]; exact decide_eq_true (by omega)) (L rfl) rfl ?_
    refine swn (g:=31) rfl (by rw [hsd]; exact decide_eq_true (by omega)) (L rfl) rfl ?_
    refine swn (g:=31) rfl (by rw [hsd]; exact decide_eq_true (by omega)) (L rfl) rfl ?_
    refine swu (g:=35) rfl (L rfl) rfl (swu (g:=35) rfl (L rfl) rfl (swu (g:=35) rfl (L rfl) rfl (swu (g:=35) rfl (L rfl) rfl (swu (g:=39) rfl (L rfl) rfl (swu (g:=35) rfl (L rfl) rfl (swn (g:=31) rfl (by rw [hsd]; exact decide_eq_true (by omega)) (L rfl) rfl ?_))))))
    refine sw (c_pt (by rw [hsd]; exact decide_eq_true (by omega)) (L rfl)) t2 t0 ?_
    exact seq_nil ⟨⟨ob rfl (by rw [pBad]; exact (decide_eq_true (.inl h1)).symm),rfl,rfl,rfl,rfl,rfl,trivial⟩,t2⟩
   ·refine mV (L rfl) rfl (sw (c_lS un9 (L rfl)) t1 t0 (sw (c_e (L rfl)) t2 t0 (mV (L rfl) rfl (gV (g:=31) rfl (by rw [hsd]; exact decide_eq_false (by omega)) (L rfl) rfl rfl ?_))))
    refine swg (g:=31) rfl (by rw [hsd]; exact decide_eq_false (by omega)) (c_is un9 (by decide) (by exact str_get (i:=0) (by omega)) (L rfl)) rfl t2 t0 ?_
    refine swg (g:=31) rfl (by rw [hsd]; exact decide_eq_false (by omega)) (c_e (L rfl)) rfl t2 t0 ?_
    refine gV (g:=31) rfl (by rw [hsd]; exact decide_eq_false (by omega)) (L rfl) rfl rfl ?_
    refine swn (g:=35) rfl (decide_eq_false h2) (L rfl) rfl (swn (g:=35) rfl (decide_eq_false h2) (L rfl) rfl (swn (g:=35) rfl (decide_eq_false h2) (L rfl) rfl (swn (g:=35) rfl (decide_eq_false h2) (L rfl) rfl (swu (g:=39) rfl (L rfl) rfl (swn (g:=35) rfl (decide_eq_false h2) (L rfl) rfl (swg (g:=31) rfl (by rw [hsd]; exact decide_eq_false (by omega)) (c_pf (decide_eq_false h2) (L rfl)) rfl t2 t0 ?_))))))
    refine sw (c_pf (by rw [hsd]; exact decide_eq_false (by omega)) (L rfl)) t2 t0 ?_
    exact seq_nil ⟨⟨ob rfl (by rw [pBad]; exact (decide_eq_false (fun c=>c.elim h1 (fun c=>h2 c.1))).symm),rfl,rfl,rfl,rfl,rfl,trivial⟩,t2⟩
   ·refine mV (L rfl) rfl (sw (c_lS un9 (L rfl)) t1 t0 (sw (c_e (L rfl)) t2 t0 (mV (L rfl) rfl (gV (g:=31) rfl (by rw [hsd]; exact decide_eq_false (by omega)) (L rfl) rfl rfl ?_))))
    refine swg (g:=31) rfl (by rw [hsd]; exact decide_eq_false (by omega)) (c_is un9 (by decide) (by exact str_get (i:=0) (by omega)) (L rfl)) rfl t2 t0 ?_
    refine swg (g:=31) rfl (by rw [hsd]; exact decide_eq_false (by omega)) (c_e (L rfl)) rfl t2 t0 ?_
    refine gV (g:=31) rfl (by rw [hsd]; exact decide_eq_false (by omega)) (L rfl) rfl rfl ?_
    refine gV (g:=35) rfl (decide_eq_true h2) (L rfl) rfl rfl (swg (g:=35) rfl (decide_eq_true h2) (c_lS un9 (L rfl)) rfl t1 t0 (swg (g:=35) rfl (decide_eq_true h2) (c_gt (L rfl)) rfl t2 t0 (gV (g:=35) rfl (decide_eq_true h2) (L rfl) rfl rfl (swn (g:=39) rfl (by rw [hsd]; exact decide_eq_true (by omega)) (L rfl) rfl ?_))))
    refine swg (g:=35) rfl (decide_eq_true h2) (c_pt (by rw [hsd]; exact decide_eq_true (by omega)) (L rfl)) rfl t2 t0 ?_
    refine swg (g:=31) rfl (by rw [hsd]; exact decide_eq_false (by omega)) (c_pt (decide_eq_true h2) (L rfl)) rfl t2 t0 ?_
    refine sw (c_pf (by rw [hsd]; exact decide_eq_false (by omega)) (L rfl)) t2 t0 ?_
    exact seq_nil ⟨⟨ob rfl (by rw [pBad]; exact (decide_eq_true (.inr ⟨h2,.inl h3⟩)).symm),rfl,rfl,rfl,rfl,rfl,trivial⟩,t2⟩
   ·refine mV (L rfl) rfl (sw (c_lS un9 (L rfl)) t1 t0 (sw (c_e (L rfl)) t2 t0 (mV (L rfl) rfl (gV (g:=31) rfl (by rw [hsd]; exact decide_eq_false (by omega)) (L rfl) rfl rfl ?_))))
    refine swg (g:=31) rfl (by rw [hsd]; exact decide_eq_false (by omega)) (c_is un9 (by decide) (by exact str_get (i:=0) (by omega)) (L rfl)) rfl t2 t0 ?_
    refine swg (g:=31) rfl (by rw [hsd]; exact decide_eq_false (by omega)) (c_e (L rfl)) rfl t2 t0 ?_
    refine gV (g:=31) rfl (by rw [hsd]; exact decide_eq_false (by omega)) (L rfl) rfl rfl ?_
    refine gV (g:=35) rfl (decide_eq_true h2) (L rfl) rfl rfl (swg (g:=35) rfl (decide_eq_true h2) (c_lS un9 (L rfl)) rfl t1 t0 (swg (g:=35) rfl (decide_eq_true h2) (c_gt (L rfl)) rfl t2 t0 (gV (g:=35) rfl (decide_eq_true h2) (L rfl) rfl rfl (gV (g:=39) rfl (by rw [hsd]; exact decide_eq_false (by omega)) (L rfl) rfl rfl ?_))))
    refine swg (g:=35) rfl (decide_eq_true h2) (c_pf (by rw [hsd]; exact decide_eq_false (by omega)) (L rfl)) rfl t2 t0 ?_
    refine swg (g:=31) rfl (by rw [hsd]; exact decide_eq_false (by omega)) (c_pt (decide_eq_true h2) (L rfl)) rfl t2 t0 ?_
    refine sw (c_pf (by rw [hsd]; exact decide_eq_false (by omega)) (L rfl)) t2 t0 ?_
    exact seq_nil ⟨⟨ob rfl (by rw [pBad]; cases neg; exact (decide_eq_false (fun c=>c.elim h1 (fun c=>c.2.elim h3 (fun e=>by cases e)))).symm; exact (decide_eq_true (.inr ⟨h2,.inr rfl⟩)).symm),rfl,rfl,rfl,rfl,rfl,trivial⟩,t2⟩
  refine ex_if rfl (fun hbad=>?_) (fun hbad=>?_)
  ·refine exr (sw (c_pc (c_bp (vs:=[]) un24 zv24 (.cons rfl (.cons rfl .nil)) ((Places.cons sz4 (Places.cons sz22 Places.nil))).to rfl .nil (.cons (.cons .nil)) (L rfl)) (.agg (.cons .same (.cons .nil .nil)))) t0 t0 (sb (c_sm sz24 (by rfl) pa2 rfl pu2) t2 t1 ?_))
   refine aV (L rfl) rfl (zn [(2,_),(3,_)] [(2,_)] t2 t1 (ex_ret ?_))
   refine ⟨.inr rfl,ResVs.cast (.cons (.agg rfl rfl rfl ag24 sz24 (.cons (.cons .nil))) (.cons (.tmp rfl) .nil)) ?_⟩
   rw [(f3 (.inl hbad)).1,(f3 (.inl hbad)).2,pZ_zero]; rfl
  ·refine ex_skip (show Exec _ _ _ _ _ from ?_)
   refine ex_seq (exr (mV (L rfl) rfl (sw (c_s2 (n:=ds.length) (xs:=encB ds) un9 un116 un5 hsd (by simp [str,encB]) (L rfl)) t1 t0 ?_)))
   refine sw (c_ln un116 (L rfl)) t1 t0 (mV (L rfl) rfl (zn [(2,_),(3,_),(4,_),(5,_),(6,_),(46,_),(47,_),(48,_)] [(2,_),(4,_)] t8 t2 (ex_block ?_)))
   refine exl (α:=Nat) (fun j=>[(48,vi (j : Int))]) (fun j=>[]) (fun j=>j ≤ ds.length ∧ Digits (ds.take j)) (fun j=>ds.length - j) (0) (sl:=[(2,_),(3,_),(4,_),(5,_),(6,_),(46,_),(47,_)]) (hb:=[(2,_),(4,_)]) ?_ ⟨(by first | exact rfl | exact oi (by omega) rfl),rfl,rfl,rfl,rfl,rfl,rfl,rfl,trivial⟩ t2 ?_
   ·exact ⟨Nat.zero_le _,by intro c hc; simp at hc⟩
   intro j hj
   obtain ⟨hjl,hjd⟩:=hj
   refine exr (sw (c_ls (L rfl)) t2 t0 (zn [(2,_),(3,_),(4,_),(5,_),(6,_),(46,_),(47,_),(48,_),(49,_)] [(2,_),(4,_)] t9 t2 (ex_seq ?_)))
   refine ex_if rfl (fun he=>?_) (fun he=>?_)
   ·have he:=dt he
    refine ex_skip (show Exec _ _ _ _ _ from ?_)
    refine ex_seq (ex_block (exr (sw (ixJ un116 sz5 (j:=j) (by first | exact rfl | omega) (by omega) (by simp) (L rfl)) t2 t0 ?_)))
    refine sw (c_li ag5 (by first | exact getB (by omega) | rfl) (L rfl)) t1 t0 ?_
    refine aV (L rfl) rfl (zn [(2,_),(3,_),(4,_),(5,_),(6,_),(8,_),(46,_),(47,_),(48,_)] [(2,_),(4,_)] t9 t2 ?_)
    refine exm (sl:=[(57,vb (decide (¬ (48 ≤ (ds.getD j 0).toNat ∧ (ds.getD j 0).toNat ≤ 57))))]) (sl0:=[(2,_),(3,_),(4,_),(5,_),(6,_),(46,_),(47,_),(48,_)]) (hb:=[]) (hb0:=[(2,_),(4,_)]) t8 t2 ?_ ?_
    ·by_cases h8 : ((ds.getD j 0).toNat : Int) < 48
     ·refine mV (L rfl) rfl (sw (c_ls (L rfl)) t2 t0 (mV (L rfl) rfl (swn (g:=54) rfl (decide_eq_true h8) (L rfl) rfl (swn (g:=54) rfl (decide_eq_true h8) (L rfl) rfl (sw (c_pt (decide_eq_true h8) (L rfl)) t2 t0 ?_)))))
      exact seq_nil ⟨⟨ob rfl (decide_eq_true (by omega)).symm,rfl,rfl,rfl,rfl,rfl,rfl,rfl,rfl,trivial⟩,t2⟩
     ·refine mV (L rfl) rfl (sw (c_ls (L rfl)) t2 t0 (mV (L rfl) rfl (gV (g:=54) rfl (decide_eq_false h8) (L rfl) rfl rfl (swg (g:=54) rfl (decide_eq_false h8) (c_gt (L rfl)) rfl t2 t0 (sw (c_pf (decide_eq_false h8) (L rfl)) t2 t0 ?_)))))
      exact seq_nil ⟨⟨ob rfl (dec_eq (by omega)),rfl,rfl,rfl,rfl,rfl,rfl,rfl,rfl,trivial⟩,t2⟩
    refine ex_if rfl (fun hq=>?_) (fun hq=>?_)
    ·have hq:=dt hq
     have hnd : ¬ Digits ds:=fun hd=>hq (hd.get (by omega))
     refine exr (sw (c_pc (c_bp (vs:=[]) un24 zv24 (.cons rfl (.cons rfl .nil)) ((Places.cons sz4 (Places.cons sz22 Places.nil))).to rfl .nil (.cons (.cons .nil)) (L rfl)) (.agg (.cons .same (.cons .nil .nil)))) t0 t0 (sb (c_sm sz24 (by rfl) pa2 rfl pu2) t2 t1 ?_))
     refine aV (L rfl) rfl (zn [(2,_),(3,_)] [(2,_)] t2 t1 (ex_ret ?_))
     refine ⟨.inr rfl,ResVs.cast (.cons (.agg rfl rfl rfl ag24 sz24 (.cons (.cons .nil))) (.cons (.tmp rfl) .nil)) ?_⟩
     rw [(f3 (.inr hnd)).1,(f3 (.inr hnd)).2,pZ_zero]; rfl
    ·have hq:=Decidable.not_not.1 (df hq)
     refine ex_skip (show Exec _ _ _ _ _ from ?_)
     refine exr0 (sw (c_ad (L rfl) (w64 (by omega) (by omega))) t2 t0 ?_)
     refine mV (L rfl) rfl (seq_nil ?_)
     exact ⟨j + 1,⟨by omega,Digits.snoc hjd (by omega) hq⟩,(by omega),le_of ⟨(by first | exact rfl | exact oi (by omega) rfl),rfl,rfl,rfl,rfl,rfl,rfl,rfl,trivial⟩ t2⟩
   ·have he:=df he
    have hje : j = ds.length:=by omega
    subst hje
    have hdg : Digits ds:=by rwa [List.take_length] at hjd
    have hnb : ¬ (pBad ds neg = true ∨ ¬ Digits ds):=by rintro (c | c); rw [hbad] at c; cases c; exact c hdg
    refine ex_exit (show Exec _ _ _ _ _ from ?_)
    refine ex_seq (exr (mV (L rfl) rfl (sw (c_lS un9 (L rfl)) t1 t0 (sw (c_gt (L rfl)) t2 t0 (zn [(2,_),(3,_),(4,_),(5,_),(6,_),(62,_)] [(2,_),(4,_)] t6 t2 ?_)))))
    refine ex_if rfl (fun hlim=>?_) (fun hlim=>?_)
    ·have hlim : 20000 < ds.length:=by have:=dt hlim; rw [hsd] at this; omega
     refine exr (sw (c_pc (c_bp (vs:=[]) un24 zv24 (.cons rfl (.cons rfl .nil)) ((Places.cons sz4 (Places.cons sz22 Places.nil))).to rfl .nil (.cons (.cons .nil)) (L rfl)) (.agg (.cons .same (.cons .nil .nil)))) t0 t0 (sb (c_sm sz24 (by rfl) pa2 rfl pu2) t2 t1 ?_))
     refine aV (L rfl) rfl (zn [(2,_),(3,_)] [(2,_)] t2 t1 (ex_ret ?_))
     refine ⟨.inr rfl,ResVs.cast (.cons (.agg rfl rfl rfl ag24 sz24 (.cons (.cons .nil))) (.cons (.tmp rfl) .nil)) ?_⟩
     rw [(f2 hnb hlim).1,(f2 hnb hlim).2,pZ_zero]; rfl
    ·have hlim:=df hlim
     rw [hsd] at hlim
     rw [(f0 hnb (by omega)).1,(f0 hnb (by omega)).2]
     refine ex_skip (show Exec _ _ _ _ _ from ?_)
     refine exr (mV (L rfl) rfl (sw (c_lS un9 (L rfl)) t1 t0 (sw (c_q (L rfl) (by decide) (tdiv64 (show _ = ((ds.length / 9 : Nat) : Int) by rw [hsd]; omega))) t2 t0 ?_)))
     refine sw (c_ad (L rfl) (show _ = ((ds.length / 9 + 1 : Nat) : Int) by rw [w64 (by omega) (by omega)]; omega)) t2 t0 ?_
     refine swb (c_mk (k:=68) un22 ti68 rfl rfl rfl rfl rfl (show _ = ((ds.length / 9 + 1 : Nat) : Int) from rfl) (Nat.zero_le _) (by simp [Tryz.t68]; omega) (by omega) (P0 _ rfl) (L rfl)) t2 t0 ⟨rfl,rfl⟩ ?_
     refine swb (c_al (k:=9) (n:=1) zv22 (.cons rfl .nil) rfl (P0 _ rfl) (L rfl)) t0 t0 ⟨rfl,rfl⟩ (sb (c_sm sz22 (by rfl) .ref rfl pu1) t2 t1 ?_)
     refine zn [(2,_),(3,_),(4,_),(5,_),(6,_),(9,_)] [(2,_),(4,_),(9,_),(68,_)] t6 t4 (ex_seq (exr (mV (L rfl) rfl (swb (core_callC (k:=70) hG hX cl142 rfl hN (blocks_says (str ds)) (P0 _ rfl) (L rfl)) t1 t0 ⟨rfl,rfl⟩ (zn [(2,_),(3,_),(4,_),(6,_),(9,_),(70,_)] [(2,_),(4,_),(9,_),(68,_),(70,_)] t6 t5 ?_)))))
     have hL9:=chunks_len ds
     refine ex_block ?_
     refine ex_rangeL (fn:=Tryz.f154) (ps:=[71,72]) (nI:=39) (caps:=[.at_ 70 0 1]) (Hc:=[(70,bxS ds)]) (Hc':=[(70,bxS [])]) [68] (hP ds) (fun k=>encC ((chunks ds).getD k (0,0))) (n:=(chunks ds).length) (sl:=[(2,.at_ 2 0 2),(3,vi 0),(4,.at_ 4 0 10),(6,vb neg),(9,.at_ 9 0 1)]) hG hX hN hro (fun b hb=>absurd hb (hX0 b)) (fun q hq=>by rw [List.mem_singleton.1 hq]; exact P0 68 rfl) rfl (le_of t5 ⟨rfl,rfl,rfl,obl rfl (by simp [wsK]),obl rfl (by simp [wsK,encW]),trivial⟩) cl154 Tryz.func154 rfl Tryz.ntmps154 rfl (by decide) (by decide) (fun p hp=>?_) (fun _ _=>rfl) ?_ ?_ ?_ ?_ ?_ ?_ ?_ ?_ ?_ ?_
     ·simp only [List.mem_cons,List.not_mem_nil,or_false] at hp
      rcases hp with rfl | rfl
      ·exact L rfl
      ·exact L rfl
     ·intro q hq
      rw [lk_iff] at hq
      simp only [List.map_cons,List.map_nil,List.mem_cons,List.not_mem_nil,or_false] at hq
      subst hq
      exact ⟨by decide,fun k _=>rfl⟩
     ·intro k _ q _
      rw [lk_iff,lk_iff]; exact Iff.rfl
     ·intro k _ q _ h
      rw [lk_iff] at h ⊢; exact h
     ·intro k _ q hq B B' h1 h2
      have hm1:=lookup_mem h1
      have hm2:=lookup_mem h2
      simp only [List.mem_cons,List.not_mem_nil,or_false,Prod.mk.injEq] at hm1 hm2 hq
      rcases hm1 with ⟨rfl,rfl⟩ | ⟨rfl,rfl⟩ | ⟨rfl,rfl⟩ | ⟨rfl,rfl⟩ <;> rcases hm2 with ⟨e,rfl⟩ | ⟨e,rfl⟩ | ⟨e,rfl⟩ | ⟨e,rfl⟩ <;> first | exact ⟨rfl,rfl⟩ | (exact absurd rfl hq) | (cases e)
     ·intro k _
      exact whole_of rfl
     ·intro q hq
      rw [lk_iff] at hq ⊢; exact hq
     ·intro t v ht q hq
      have hnm : ((hP ds 0).map (·.1)) = [2,4,9,68]:=rfl
      have ho : ([(2,.at_ 2 0 2),(3,vi 0),(4,.at_ 4 0 10),(6,vb neg),(9,.at_ 9 0 1)] : List (Nat × PV)).all (fun p=>p.2.only [2,4,9]) = true:=rfl
      rw [List.all_eq_true] at ho
      have:=PV.only_mem (ho _ (lookup_mem' ht)) hq
      simp only [List.mem_cons,List.not_mem_nil,or_false] at this
      refine ⟨lk_iff.2 ?_,?_⟩
      ·rw [hnm]
       simp only [List.mem_cons,List.not_mem_nil,or_false]
       omega
      ·simp only [List.mem_singleton]; omega
     ·intro l F' XF hro' hY
      exact blocks_hit ds (by omega) hdg F' _ l rfl XF hY
     ·intro k hk
      have hb : (chunks ds)[k]? = some ((chunks ds).getD k (0,0)):=by rw [List.getD_eq_getElem?_getD,List.getElem?_eq_getElem hk]; rfl
      obtain ⟨b,hbb⟩ : ∃ b,b = (chunks ds).getD k (0,0):=⟨_,rfl⟩
      rw [← hbb] at hb
      have hck:=chunks_get hdg b (List.mem_of_getElem? hb)
      rw [← hbb]
      refine ⟨⟨[(11,vi b.2),(10,vu b.1),(2,.at_ 2 0 2),(3,vi 0),(4,.at_ 4 0 10),(6,vb neg),(9,.at_ 9 0 1)],hP ds k⟩,fun F' XF=>?_,fun F' XF=>?_⟩
      ·have L:=lti (XF.nt.trans hnt)
       skip
       refine exr (aV (L rfl) rfl (zn [(2,_),(3,_),(4,_),(6,_),(9,_),(10,_),(71,_),(72,_)] [(2,_),(4,_),(9,_),(68,_)] t8 t4 (exr0 (aV (L rfl) rfl (seq_nil ?_)))))
       exact ⟨rfl,le_of t7 t4⟩
      ·have L:=lti (XF.nt.trans hnt)
       have P0:=p0L XF [2,4,9] rfl
       have hG:=XF.g
       have hX:=XF.x
       have hN:=XF.ng
       have hW:=wsK_wd (chunks ds) k
       have hWl:=wsK_len (chunks ds) k
       have hkl : k < (chunks ds).length:=hk
       have hstep:=wsK_succ hb
       obtain ⟨n,hn⟩ : ∃ n : Nat,b.2 = (n : Int):=⟨b.2.toNat,by omega⟩
       rw [hn]
       have hp10 : (10 : Int) ^ n ≤ 1000000000 ∧ 0 < (10 : Int) ^ n:=by
        have h2 : ((10 ^ n : Nat) : Int) ≤ ((10 ^ 9 : Nat) : Int):=Int.ofNat_le.2 (Nat.pow_le_pow_right (by decide) (by omega))
        rw [Int.natCast_pow] at h2
        exact ⟨h2,Int.pow_pos (by decide)⟩
       have ebn : (b.1,(n : Int)) = b:=by rw [← hn]
       have hend : ∀ {ys c},TenAt (wsK (chunks ds) k) (10 ^ n) b.1 ((wsK (chunks ds) k).length,ys,c) → (c = 0 → ys = wsK (chunks ds) (k + 1)) ∧ (0 < c → ys ++ [c] = wsK (chunks ds) (k + 1)):=fun {ys c} h=>by
        have:=TenAt.end_ (n:=(n : Int)) h
        rwa [ebn,← hstep] at this
       rw [show hP ds k = hPw (wsK (chunks ds) k) from rfl]
       obtain ⟨ws,hws⟩ : ∃ ws,ws = wsK (chunks ds) k:=⟨_,rfl⟩
       rw [← hws] at hW hWl hend ⊢
       skip
       refine ex_block (exr (mV (L rfl) rfl (sw (c_cv un68 un78 (L rfl) (fu64 (by omega) (by omega))) t1 t0 ?_)))
       refine aV (L rfl) rfl (zn [(2,_),(3,_),(4,_),(6,_),(9,_),(10,_),(11,_),(12,_)] [(2,_),(4,_),(9,_),(68,_)] t8 t4 (ex_seq (exr (sw (c_l1 ag22 (by rfl) (by rfl) (L rfl)) t1 t1 ?_))))
       refine sw (c_lr un22 (by exact (by simp)) (L rfl)) t1 t1 ?_
       refine mV (L rfl) rfl (zn [(2,_),(3,_),(4,_),(6,_),(9,_),(10,_),(11,_),(12,_),(75,_),(76,_),(77,_)] [(2,_),(4,_),(9,_),(68,_)] t11 t4 (ex_block ?_))
       refine exl (α:=(Nat × List Int × Int)) (fun x=>[(77,vi (x.1 : Int)),(12,vw x.2.2)]) (fun x=>[(68,⟨68,1,.pure (encW (x.2.1 ++ ws.drop x.1))⟩)]) (fun x=>TenAt ws (10 ^ n) b.1 x) (fun x=>ws.length - x.1) (((0 : Nat),([] : List Int),b.1)) (sl:=[(2,_),(3,_),(4,_),(6,_),(9,_),(10,_),(11,_),(75,_),(76,_)]) (hb:=[(2,_),(4,_),(9,_)]) ?_ ⟨(by first | exact rfl | exact oi (by omega) rfl),(by first | exact rfl | exact oi (by omega) rfl),rfl,rfl,rfl,rfl,rfl,rfl,rfl,rfl,rfl,trivial⟩ ⟨obl rfl (by simp),rfl,rfl,rfl,trivial⟩ ?_
       ·exact TenAt.zero ws hck.1 (by omega)
       intro x hx
       obtain ⟨i,ys,c⟩:=x
       have hle:=hx.le
       have hyl:=hx.len
       have c0:=hx.c0
       have c1:=hx.c1
       simp only at hle hyl c0 c1
       dsimp only
       refine exr (sw (c_ls (L rfl)) t2 t0 (zn [(2,_),(3,_),(4,_),(6,_),(9,_),(10,_),(11,_),(12,_),(75,_),(76,_),(77,_),(78,_)] [(2,_),(4,_),(9,_),(68,_)] t12 t4 (ex_seq ?_)))
       refine ex_if rfl (fun hf=>?_) (fun hf=>?_)
       ·have hf:=dt hf
        have hw:=hW.getD i
        have tb:=take_bd hw (show 0 ≤ (10 : Int) ^ n ∧ (10 : Int) ^ n < 4294967296 by omega) ⟨c0,c1⟩
        have mb:=mul_bd hw (show 0 ≤ (10 : Int) ^ n ∧ (10 : Int) ^ n < 4294967296 by omega)
        refine ex_skip (show Exec _ _ _ _ _ from ?_)
        refine ex_seq (ex_block (exr (mV (L rfl) rfl (sw (ixR0 un22 sz68 (by exact (by simp; omega)) (j:=i) (by first | exact rfl | omega) (by omega) (L rfl)) t2 t1 ?_))))
        refine sw (c_l1 ag68 (by exact (by simp; omega)) (getC (getU (L:=ws) (p:=i) (q:=i) (i:=0) hyl rfl rfl (by omega))) (L rfl)) t1 t1 ?_
        refine aV (L rfl) rfl (aV (L rfl) rfl (zn [(2,_),(3,_),(4,_),(6,_),(9,_),(10,_),(11,_),(12,_),(13,_),(14,_),(75,_),(76,_),(77,_)] [(2,_),(4,_),(9,_),(68,_)] t13 t4 (exr (mV (L rfl) rfl (sw (c_cv un68 un78 (L rfl) (fu64 (by omega) (by omega))) t1 t0 ?_)))))
        refine mV (L rfl) rfl (sw (core_indexAddrA un127 sz68 (by rfl) (by omega) (by omega) (L rfl)) t2 t1 ?_)
        refine sw (c_l1 ag68 (by rfl) (by rw [Int.toNat_natCast,Nat.mul_one,Nat.zero_add]; exact pow_get (by omega)) (L rfl)) t1 t1 ?_
        refine sw (c_cv un68 un78 (L rfl) (fu64 (by omega) (by omega))) t1 t0 ?_
        refine sw (c_mu (L rfl) (fu64 (by omega) (by omega))) t2 t0 ?_
        refine mV (L rfl) rfl (sw (c_ad (L rfl) (fu64 (by omega) (by omega))) t2 t0 ?_)
        refine aV (L rfl) rfl (zn [(2,_),(3,_),(4,_),(6,_),(9,_),(10,_),(11,_),(13,_),(15,_),(75,_),(76,_),(77,_)] [(2,_),(4,_),(9,_),(68,_)] t12 t4 (exr (sw (c_l1 ag22 (by rfl) (by rfl) (L rfl)) t1 t1 ?_)))
        refine mV (L rfl) rfl (mV (L rfl) rfl (sw (c_cv un78 un68 (L rfl) wu32) t1 t0 (sw (ixR0 un22 sz68 (by exact (by simp; omega)) (j:=i) (by first | exact rfl | omega) (by omega) (L rfl)) t2 t1 ?_)))
        refine sb (c_s1 sz68 (by exact (by simp; omega)) (.atom rfl) (by omega)) t2 t1 ?_
        refine zn [(2,_),(3,_),(4,_),(6,_),(9,_),(10,_),(11,_),(15,_),(75,_),(76,_),(77,_)] [(2,_),(4,_),(9,_),(68,_)] t11 t4 (exr0 (mV (L rfl) rfl (sw (c_sr (L rfl) (by decide) (shrE (c:=4294967296) (by rfl) (by decide))) t2 t0 ?_)))
        refine aV (L rfl) rfl (seq_nil (exr0 (sw (c_ad (L rfl) (w64 (by omega) (by omega))) t2 t0 ?_)))
        refine mV (L rfl) rfl (seq_nil ?_)
        exact ⟨(i + 1,ys ++ [(ws.getD i 0 * 10 ^ n + c) % 4294967296],(ws.getD i 0 * 10 ^ n + c) / 4294967296),hx.next hW (by omega) (by omega),(by simp only; omega),le_of ⟨(by first | exact rfl | exact oi (by omega) rfl),(by first | exact rfl | exact oi (by omega) rfl),rfl,rfl,rfl,rfl,rfl,rfl,rfl,rfl,rfl,trivial⟩ ⟨obl rfl (by rw [encW_set,tail_set hyl (by omega)]),rfl,rfl,rfl,trivial⟩⟩
       ·have hf:=df hf
        have hi : i = ws.length:=by omega
        subst hi
        obtain ⟨h1,h2⟩:=hend hx
        refine ex_exit (show Exec _ _ _ _ _ from ?_)
        refine exr (mV (L rfl) rfl (sw (c_gt (L rfl)) t2 t0 (zn [(2,_),(3,_),(4,_),(6,_),(9,_),(10,_),(11,_),(12,_),(100,_)] [(2,_),(4,_),(9,_),(68,_)] t9 t4 ?_)))
        refine ex_if rfl (fun hz=>?_) (fun hz=>?_)
        ·have hz:=dt hz
         refine exr0 (sw (c_l1 ag22 (by rfl) (by rfl) (L rfl)) t1 t1 ?_)
         refine mV (L rfl) rfl (sw (c_cv un78 un68 (L rfl) (fu32 (by omega) (by omega))) t1 t0 ?_)
         refine sw (c_bI (vs:=[_]) un22 ti68 rfl rfl (by decide) (by decide) rfl (zs_made (.cons rfl .nil) rfl) rfl (.cons rfl (.atom rfl) rfl pu1 .nil) (.cons .nil) (L rfl)) t1 t0 ?_
         refine swb (apP (sz:=1) un22 un22 ti68 rfl rfl rfl (by decide) (by exact (by simp; omega)) (by first | omega | rfl) (by simp) rfl rfl rfl (by first | (simp [Tryz.t68]; done) | (simp [Tryz.t68]; omega)) (by omega) (P0 _ rfl) (L rfl)) t2 t1 t0 ?_
         refine sb (c_sm sz22 (by rfl) .ref rfl pu1) t2 t1 ?_
         refine seq_nil ?_
         exact ⟨rfl,⟨rfl,rfl,obl rfl (by rw [← h2 hz]; simp [hyl]),obl rfl (by rw [← h2 hz]; simp [encW]),trivial⟩⟩
        ·have hz:=df hz
         have h1:=h1 (by omega)
         refine ex_skip ?_
         exact ⟨rfl,⟨rfl,rfl,obl rfl (by rw [← h1]; simp [hyl]),obl rfl (by rw [← h1]; simp),trivial⟩⟩
     ·show Exec _ _ _ _ _
      have hWl:=wsK_len (chunks ds) (chunks ds).length
      have md:=made_says neg (wsK (chunks ds) (chunks ds).length) (by omega) (wsK_wd _ _)
      rw [wsK_end hdg] at md
      skip
      refine ex_cv [68] (sl:=[(2,_),(6,_),(9,_)]) (hb:=[(2,_),(9,_)]) (own_none hX0) ⟨⟨_,rfl,.same⟩,⟨_,rfl,.same⟩,⟨_,rfl,.same⟩,trivial⟩ ⟨⟨rfl,_,rfl,.same⟩,⟨rfl,_,rfl,(.mix (.cons (.ref rfl rfl (by exact (by simp)) (by first | rfl | omega)) .nil))⟩,trivial⟩ ?_
      refine exr (mV (L rfl) rfl (sw (c_l1 ag22 (by rfl) (by rfl) (L rfl)) t1 t1 ?_))
      refine cK hG hX cl109 hN md (L rfl) t2 (sb (c_sm sz24 (by rfl) pa2 rfl pu2) t2 t1 ?_)
      refine aV (L rfl) rfl (zn [(2,_),(3,_)] [(2,_)] t2 t1 (ex_ret ?_))
      refine ⟨.inr rfl,ResVs.cast (.cons (.agg rfl rfl rfl ag24 sz24 (.cons (.cons .nil))) (.cons (.tmp rfl) .nil)) ?_⟩
      rfl
end Go.Proofs.YtcifhkfpmhifaaaGreatDoor.N
set_option maxRecDepth 100000
set_option maxHeartbeats 4000000
namespace Go.Proofs.YtcifhkfpmhifaaaGreatDoor.SH
open Go
section
variable {P : Program} {F : Fr} {d : Nat} {x y : Operand} {T : TypeId} {pos : String} {aft : Array Edge} {g : Option (Nat × Bool)}
theorem core_ibs {f : FuncId} {ts : Array TypeId} {s : ByteArray} {c : Int} (hf : ∀ (s : ByteArray) (c : Int) (w : World),(callFunc f #[.string s,.int .u8 c]).run P w = .ok (.value (.int .i64 (Lib.indexByte s.data.toList c.toNat.toUInt8))) w) (hlt : d < F.nt) :
  CoreOk P F ⟨some d,.call ⟨.value (.func f),#[x,y],ts⟩,T,pos,aft,g⟩ { rs:=[(x,.p (.a (.string s))),(y,.p (.a (.int .u8 c)))],ws:=[(d,.p (.a (.int .i64 (Lib.indexByte s.data.toList c.toNat.toUInt8))))] } :=
 core_val rfl hlt rfl rfl fun ρ S a w h hA=>by
  have h1:=atom_eval h (v:=.string s) (hA.rs (x,_) (by simp))
  have h2:=atom_eval h (v:=.int .u8 c) (hA.rs (y,_) (by simp))
  refine ⟨.int .i64 (Lib.indexByte s.data.toList c.toNat.toUInt8),?_,by simp only [RelV,Rel]⟩
  have hef : a.eval (.func f) = .func (.func f) #[] #[]:=rfl
  simp [execOp,resolve,hef,Deferred.ofValue,invoke,h1,h2,hf]
end
end Go.Proofs.YtcifhkfpmhifaaaGreatDoor.SH
namespace Go.Proofs.YtcifhkfpmhifaaaGreatDoor.N
open Go Go.Proofs.YtcifhkfpmhifaaaGreatDoor.SH Go.Proofs.YtcifhkfpmhifaaaGreatDoor.NumA
open Go.Proofs.Tryz renaming call124 → cl124,call125 → cl125,call141 → cl141,call150 → cl150,underlying9 → un9
theorem ibs : ∀ (s : ByteArray) (c : Int) (w : World),(callFunc 156 #[.string s,.int .u8 c]).run Tryz.prog w = .ok (.value (.int .i64 (Lib.indexByte s.data.toList c.toNat.toUInt8))) w:=fun s c w=>by
 rw [run_callFunc_extern Tryz.func156 (by rfl) (by rfl) (by rfl) (show Extern.find _ = some Extern.BytealgIndexByte.indexByte by rfl) #[.string s,.int .u8 c] w,Lib.run_indexByteString s c w]
 rfl
theorem ib_cut : ∀ bs : List UInt8,Lib.indexByte bs 47 = if cutN bs = bs.length then -1 else (cutN bs : Int)
 | []=>rfl
 | c :: l=>by
  rw [Lib.indexByte,cutN,ib_cut l]
  have hle:=cutN_le l
  by_cases h : c.toNat = 47
  ·have e : c = 47:=UInt8.toNat_inj.1 h
   subst e
   simp
  ·have e : ¬ (c == 47) = true:=by
    rw [beq_iff_eq]; rintro rfl; exact h rfl
   rw [if_neg e,if_neg h,List.length_cons]
   by_cases h2 : cutN l = l.length
   ·rw [if_pos h2,if_pos (show cutN l + 1 = l.length + 1 by omega)]; rfl
   ·have h3 : ¬ (((cutN l : Nat) : Int) == -1) = true:=by rw [beq_iff_eq]; omega
    rw [if_neg h2,if_neg (show ¬ cutN l + 1 = l.length + 1 by omega),if_neg h3]; omega
def ixN (bs : List UInt8) : Int:=if cutN bs = bs.length then -1 else (cutN bs : Int)
theorem ib_says (bs : List UInt8) : Says E 150 [pS bs,.a (.int .u8 47)] (vZ (ixN bs)):=by
 refine says_of (xs:=[vZ (ixN bs)]) Tryz.func150 rfl Tryz.ntmps150 Tryz.results150 (by simp) fun F hG hX0 hnt hdf P0=>?_
 obtain ⟨L,hX,hN⟩:=pro hnt hX0 hG
 refine exr (aV (L rfl) rfl (zn [(0,_),(1,_)] [] t2 trivial (exr (mV (L rfl) rfl (mV (L rfl) rfl (sw (core_ibs ibs (L rfl)) t2 t0 (aV (L rfl) rfl (zn [(4,_)] [] t1 trivial (ex_ret ?_)))))))))
 refine ⟨.inr rfl,ResVs.cast (.cons (.tmp rfl) .nil) ?_⟩
 exact vcong (ib_cut bs)
theorem str_list (bs : List UInt8) : (str bs).data.toList = bs:=rfl
theorem index_says (bs : List UInt8) : Says E 141 [pS bs,pS [47]] (vZ (ixN bs)):=by
 refine says_of (xs:=[vZ (ixN bs)]) Tryz.func141 rfl Tryz.ntmps141 Tryz.results141 (by simp) fun F hG hX0 hnt hdf P0=>?_
 obtain ⟨L,hX,hN⟩:=pro hnt hX0 hG
 refine exr (aV (L rfl) rfl (zn [(0,_),(1,_)] [] t2 trivial (exr (mV (L rfl) rfl (sw (c_lS un9 (L rfl)) t1 t0 (aV (L rfl) rfl (zn [(0,_),(1,_),(5,_)] [] t3 trivial (ex_seq (ex_block ?_)))))))))
 refine exm (sl:=[(16,vb (decide (bs = [47])))]) (sl0:=[(0,_),(1,_),(5,_)]) (hb:=[]) (hb0:=[]) t3 t0 ?_ ?_
 ·skip
  ·refine mV (L rfl) rfl (sw (c_e (L rfl)) t2 t0 (mV (L rfl) rfl (gV (g:=19) rfl rfl (L rfl) rfl rfl (gV (g:=19) rfl rfl (L rfl) rfl rfl (swg (g:=19) rfl rfl (c_se (L rfl)) rfl t2 t0 (sw (c_pf rfl (L rfl)) t2 t0 (aV (L rfl) rfl ?_)))))))
   exact seq_nil ⟨⟨ob rfl (dec_eq ⟨fun h=>h.symm,fun h=>h.symm⟩),rfl,rfl,rfl,trivial⟩,trivial⟩
 refine ex_if rfl (fun hc=>?_) (fun hc=>?_)
 ·have hc:=dt hc
  refine exr (aV (L rfl) rfl (zn [(4,_)] [] t1 trivial (ex_ret ?_)))
  refine ⟨.inr rfl,ResVs.cast (.cons (.tmp rfl) .nil) ?_⟩
  rw [hc]; rfl
 ·refine exr (mV (L rfl) rfl (sw (c_e (L rfl)) t2 t0 (aV (L rfl) rfl (zn [(0,_),(1,_),(5,_),(24,_)] [] t4 trivial (ex_true rfl rfl (exr (mV (L rfl) rfl (mV (L rfl) rfl (sw (c_is un9 (by decide) (by exact str_get (bs:=[47]) (i:=0) (by decide)) (L rfl)) t2 t0 ?_)))))))))
  refine cK hG hX cl150 hN (ib_says bs) (L rfl) t2 (aV (L rfl) rfl (zn [(4,_)] [] t1 trivial (ex_ret ?_)))
  refine ⟨.inr rfl,ResVs.cast (.cons (.tmp rfl) .nil) ?_⟩
  rfl
theorem ixN_ge {bs : List UInt8} : 0 ≤ ixN bs ↔ cutN bs < bs.length:=by
 have:=cutN_le bs
 unfold ixN; split <;> omega
theorem ab_all {bs : List UInt8} (h : ¬ cutN bs < bs.length) : ab bs = bs ∧ be bs = []:=by
 have:=cutN_le bs
 exact ⟨List.take_of_length_le (by omega),List.drop_of_length_le (by omega)⟩
theorem ext_ab {bs : List UInt8} : (str bs).extract 0 (cutN bs) = str (ab bs):=by rw [str_extract]; rfl
theorem ext_be {bs : List UInt8} : (str bs).extract (cutN bs + 1) (str bs).size = str (be bs):=by
 rw [str_extract,str_size,List.take_of_length_le (by simp)]; rfl
theorem cut_says (bs : List UInt8) (hl : bs.length < 1000000000) : Says E 124 [pS bs,pS [47]] (.tup [pS (ab bs),pS (be bs),bZ (decide (cutN bs < bs.length))]):=by
 refine says_of (xs:=[pS (ab bs),pS (be bs),bZ (decide (cutN bs < bs.length))]) Tryz.func124 rfl Tryz.ntmps124 Tryz.results124 (by simp) fun F hG hX0 hnt hdf P0=>?_
 obtain ⟨L,hX,hN⟩:=pro hnt hX0 hG
 have hsz:=str_size bs
 refine exr (aV (L rfl) rfl (aV (L rfl) rfl (aV (L rfl) rfl (zn [(0,_),(1,_)] [] t2 trivial (ex_seq (exr (mV (L rfl) rfl (mV (L rfl) rfl (cK hG hX cl141 hN (index_says bs) (L rfl) t2 (aV (L rfl) rfl (zn [(0,_),(1,_),(7,_)] [] t3 trivial ?_)))))))))))
 refine exr (mV (L rfl) rfl (sw (c_ge (L rfl)) t2 t0 (zn [(0,_),(1,_),(7,_),(12,_)] [] t4 trivial ?_)))
 refine ex_if rfl (fun hc=>?_) (fun hc=>?_)
 ·have hc:=ixN_ge.1 (dt hc)
  have e : ixN bs = (cutN bs : Int):=by rw [ixN,if_neg (by omega)]
  rw [e]
  refine exd (by rfl) ?_
  refine mV (L rfl) rfl (mV (L rfl) rfl (sw (slS_hi un9 (h:=cutN bs) (by first | exact rfl | omega) (by rw [hsz]; omega) (L rfl)) t2 t0 ?_))
  refine mV (L rfl) rfl (mV (L rfl) rfl (mV (L rfl) rfl (sw (c_lS un9 (L rfl)) t1 t0 (sw (c_ad (L rfl) (show _ = ((cutN bs + 1 : Nat) : Int) from w64 (show -9223372036854775808 ≤ (cutN bs : Int) + 1 by omega) (show (cutN bs : Int) + 1 < 9223372036854775808 by omega))) t2 t0 ?_))))
  refine sw (slS_lo un9 (l:=cutN bs + 1) (by first | exact rfl | omega) (by rw [hsz]; omega) (L rfl)) t2 t0 ?_
  refine aV (L rfl) rfl (aV (L rfl) rfl (aV (L rfl) rfl ?_))
  refine seq_nil ⟨aoks [⟨[0],[],[13],[]⟩,⟨[7],[],[14],[]⟩,⟨[13,14],[],[15],[]⟩,⟨[0],[],[16],[]⟩,⟨[7],[],[17],[]⟩,⟨[1],[],[18],[]⟩,⟨[18],[],[19],[]⟩,⟨[17,19],[],[20],[]⟩,⟨[16,20],[],[21],[]⟩,⟨[15],[],[4],[]⟩,⟨[21],[],[5],[]⟩,⟨[],[],[6],[]⟩] (by rfl) (by rfl) (by decide),[(4,_),(5,_),(6,_)],[],t3,trivial,?_⟩
  refine ex_ret ?_
  refine ⟨.inr rfl,ResVs.cast (.cons (.tmp rfl) (.cons (.tmp rfl) (.cons (.tmp rfl) .nil))) ?_⟩
  rw [ext_ab,ext_be,decide_eq_true hc]
 ·have hc : ¬ cutN bs < bs.length:=fun c=>df hc (ixN_ge.2 c)
  refine ex_skip (show Exec _ _ _ _ _ from ?_)
  refine exr (mV (L rfl) rfl (aV (L rfl) rfl (aV (L rfl) rfl (aV (L rfl) rfl (zn [(4,_),(5,_),(6,_)] [] t3 trivial (ex_ret ?_))))))
  refine ⟨.inr rfl,ResVs.cast (.cons (.tmp rfl) (.cons (.tmp rfl) (.cons (.tmp rfl) .nil))) ?_⟩
  rw [(ab_all hc).1,(ab_all hc).2,decide_eq_false hc]; rfl
theorem scut_says (bs : List UInt8) (hl : bs.length < 1000000000) : Says E 94 [pS bs,pS [47]] (.tup [pS (ab bs),pS (be bs),bZ (decide (cutN bs < bs.length))]):=by
 refine says_of (xs:=[pS (ab bs),pS (be bs),bZ (decide (cutN bs < bs.length))]) Tryz.func94 rfl Tryz.ntmps94 Tryz.results94 (by simp) fun F hG hX0 hnt hdf P0=>?_
 obtain ⟨L,hX,hN⟩:=pro hnt hX0 hG
 refine exr (aV (L rfl) rfl (aV (L rfl) rfl (aV (L rfl) rfl (zn [(0,_),(1,_)] [] t2 trivial (exr (mV (L rfl) rfl (mV (L rfl) rfl (cK hG hX cl124 hN (cut_says bs hl) (L rfl) t2 (sw (c_ex rfl (L rfl)) t1 t0 (sw (c_ex rfl (L rfl)) t1 t0 (sw (c_ex rfl (L rfl)) t1 t0 ?_)))))))))))
 refine aV (L rfl) rfl (aV (L rfl) rfl (aV (L rfl) rfl (zn [(4,_),(5,_),(6,_)] [] t3 trivial (ex_ret ?_))))
 refine ⟨.inr rfl,ResVs.cast (.cons (.tmp rfl) (.cons (.tmp rfl) (.cons (.tmp rfl) .nil))) ?_⟩
 rfl
theorem head45 {bs : List UInt8} (h : 0 < bs.length) : (bs.take 1 = [45]) ↔ pNeg bs = true:=by
 obtain ⟨c,l,rfl⟩:=List.exists_cons_of_ne_nil (List.ne_nil_of_length_pos h)
 unfold pNeg
 rw [decide_eq_true_eq]
 simp only [List.take_succ_cons,List.take_zero,List.cons.injEq,and_true,List.getD_cons_zero,List.length_cons]
 constructor
 ·rintro rfl; exact ⟨by omega,rfl⟩
 ·intro hc
  have h45 : (45 : UInt8).toNat = 45:=rfl
  have : c.toNat = (45 : UInt8).toNat:=by omega
  exact UInt8.toNat_inj.1 this
theorem hp_says (bs : List UInt8) : Says E 125 [pS bs,pS [45]] (bZ (pNeg bs)):=by
 refine says_of (xs:=[bZ (pNeg bs)]) Tryz.func125 rfl Tryz.ntmps125 Tryz.results125 (by simp) fun F hG hX0 hnt hdf P0=>?_
 obtain ⟨L,hX,hN⟩:=pro hnt hX0 hG
 have hsz:=str_size bs
 refine exr (aV (L rfl) rfl (zn [(0,_),(1,_)] [] t2 trivial ?_))
 refine exm (sl:=[(4,vb (pNeg bs))]) (sl0:=[]) (hb:=[]) (hb0:=[]) t0 t0 ?_ ?_
 ·by_cases h0 : 1 ≤ bs.length
  ·refine mV (L rfl) rfl (sw (c_lS un9 (L rfl)) t1 t0 (mV (L rfl) rfl (sw (c_lS un9 (L rfl)) t1 t0 (sw (c_ge (L rfl)) t2 t0 (mV (L rfl) rfl (gV (g:=10) rfl (by rw [hsz]; exact decide_eq_true (by show (1 : Int) ≤ _; omega)) (L rfl) rfl rfl ?_))))))
   refine gV (g:=10) rfl (by rw [hsz]; exact decide_eq_true (by show (1 : Int) ≤ _; omega)) (L rfl) rfl rfl ?_
   refine swg (g:=10) rfl (by rw [hsz]; exact decide_eq_true (by show (1 : Int) ≤ _; omega)) (c_lS un9 (L rfl)) rfl t1 t0 ?_
   refine swg (g:=10) rfl (by rw [hsz]; exact decide_eq_true (by show (1 : Int) ≤ _; omega)) (slS_hi un9 (h:=1) (by first | exact rfl | omega) (by rw [hsz]; exact h0) (L rfl)) rfl t2 t0 ?_
   refine gV (g:=10) rfl (by rw [hsz]; exact decide_eq_true (by show (1 : Int) ≤ _; omega)) (L rfl) rfl rfl ?_
   refine swg (g:=10) rfl (by rw [hsz]; exact decide_eq_true (by show (1 : Int) ≤ _; omega)) (c_se (L rfl)) rfl t2 t0 ?_
   refine sw (c_pt (by rw [hsz]; exact decide_eq_true (by show (1 : Int) ≤ _; omega)) (L rfl)) t2 t0 ?_
   refine aV (L rfl) rfl ?_
   exact seq_nil ⟨⟨ob rfl (by rw [str_extract,str_list,str_list]; have:=head45 (bs:=bs) (by omega); rw [Bool.eq_iff_iff,decide_eq_true_iff]; exact this),trivial⟩,trivial⟩
  ·refine mV (L rfl) rfl (sw (c_lS un9 (L rfl)) t1 t0 (mV (L rfl) rfl (sw (c_lS un9 (L rfl)) t1 t0 (sw (c_ge (L rfl)) t2 t0 (mV (L rfl) rfl (swn (g:=10) rfl (by rw [hsz]; exact decide_eq_false (by show ¬ (1 : Int) ≤ _; omega)) (L rfl) rfl ?_))))))
   refine swn (g:=10) rfl (by rw [hsz]; exact decide_eq_false (by show ¬ (1 : Int) ≤ _; omega)) (L rfl) rfl ?_
   refine swn (g:=10) rfl (by rw [hsz]; exact decide_eq_false (by show ¬ (1 : Int) ≤ _; omega)) (L rfl) rfl ?_
   refine swn (g:=10) rfl (by rw [hsz]; exact decide_eq_false (by show ¬ (1 : Int) ≤ _; omega)) (L rfl) rfl ?_
   refine swn (g:=10) rfl (by rw [hsz]; exact decide_eq_false (by show ¬ (1 : Int) ≤ _; omega)) (L rfl) rfl ?_
   refine swn (g:=10) rfl (by rw [hsz]; exact decide_eq_false (by show ¬ (1 : Int) ≤ _; omega)) (L rfl) rfl ?_
   refine sw (c_pf (by rw [hsz]; exact decide_eq_false (by show ¬ (1 : Int) ≤ _; omega)) (L rfl)) t2 t0 ?_
   refine aV (L rfl) rfl ?_
   exact seq_nil ⟨⟨ob rfl (by rw [pNeg]; exact (decide_eq_false (fun c=>h0 c.1)).symm),trivial⟩,trivial⟩
 refine ex_ret ?_
 refine ⟨.inr rfl,ResVs.cast (.cons (.tmp rfl) .nil) ?_⟩
 rfl
theorem shp_says (bs : List UInt8) : Says E 95 [pS bs,pS [45]] (bZ (pNeg bs)):=by
 refine says_of (xs:=[bZ (pNeg bs)]) Tryz.func95 rfl Tryz.ntmps95 Tryz.results95 (by simp) fun F hG hX0 hnt hdf P0=>?_
 obtain ⟨L,hX,hN⟩:=pro hnt hX0 hG
 refine exr (aV (L rfl) rfl (zn [(0,_),(1,_)] [] t2 trivial (exr (mV (L rfl) rfl (mV (L rfl) rfl (cK hG hX cl125 hN (hp_says bs) (L rfl) t2 (aV (L rfl) rfl (zn [(4,_)] [] t1 trivial (ex_ret ?_)))))))))
 refine ⟨.inr rfl,ResVs.cast (.cons (.tmp rfl) .nil) ?_⟩
 rfl
end Go.Proofs.YtcifhkfpmhifaaaGreatDoor.N
namespace Go.Proofs.YtcifhkfpmhifaaaGreatDoor.SH
open Go Go.RowKit
theorem leave_listD {P : Program} {F : Fr} {fn : Func} {R : Ending → World → Prop} {ρ : Nat → Nat} {S : St} {tmps : Array Value} {u : FrameMode} (hu : u ≠ .run) (hfin : ∀ w', SatR F ρ S ⟨tmps, F.df⟩ w' → LeavesInM Fence.wide 0 P fn tmps R F.df u w') :
    ∀ (Ds : List Nat) (w : World),SatR F ρ S ⟨tmps,Ds.map (fun D=>({ target:=.collected D,args:=#[] } : Deferred)) ++ F.df⟩ w → Ds.Nodup → (∀ D ∈ Ds,F.w0.heap.size ≤ D ∧ w.heap[D]? = some (.deferred (some []))) →
      LeavesInM Fence.wide 0 P fn tmps R (Ds.map (fun D=>({ target:=.collected D,args:=#[] } : Deferred)) ++ F.df) u w
  | [],w,h,_,_=>hfin w h
  | D :: Ds,w,h,hn,hD=>by
    obtain ⟨h1,h2⟩:=hD D (by simp)
    have hn':=List.nodup_cons.1 hn
    have hDs : ∀ D' ∈ Ds,F.w0.heap.size ≤ D' ∧ (w.putObj D (.deferred none)).heap[D']? = some (.deferred (some [])):=fun D' hD'=>by
      obtain ⟨h3,h4⟩:=hD D' (by simp [hD'])
      exact ⟨h3,(World.putObj_heap_other (fun e : D' = D=>hn'.1 (e ▸ hD'))).trans h4⟩
    refine ⟨hu,.inl ⟨D,_,rfl,run_takeDeferred h2,?_⟩⟩
    refine leave_listD hu hfin Ds _ ?_ hn'.2 hDs
    have hfr:=h.frame
    exact h.agree ⟨hfr.os,hfr.tape,hfr.output,by simpa using hfr.size,fun b hb hx=>(World.putObj_heap_other (by omega)).trans (hfr.block b hb hx)⟩ (agree_mark h2 (by intros; simp) _) rfl ⟨Ds,rfl,hn'.2,hDs⟩
theorem leave_D {P : Program} {F : Fr} {fn : Func} {R : Ending → World → Prop} {ρ : Nat → Nat} {S : St} {a : Act} {w : World} {u : FrameMode} (hu : u ≠ .run) (h : SatR F ρ S a w) (hfin : ∀ w', SatR F ρ S ⟨a.tmps, F.df⟩ w' → LeavesInM Fence.wide 0 P fn a.tmps R F.df u w') :
    LeavesInM Fence.wide 0 P fn a.tmps R a.defers u w:=by
  obtain ⟨Ds,h1,h2,h3⟩:=h.df
  rw [h1]
  exact leave_listD hu hfin Ds w (by rw [← h1]; exact h) h2 h3
theorem steps_of_leavesM {P : Program} {F : Fence} {n : Nat} {fn : Func} {tmps : Array Value} {R : Ending → World → Prop} : ∀ (ds : List Deferred) (w : World) (fr : Go.Frame) (cs : List Go.Frame), fr.mode = .returning → fr.defers = ds → fr.tmps = tmps → (∀ d ∈ ds, ∃ r, d.target = .collected r) → F.fn fr.fn → F.room (cs.length + 1 + n) → LeavesInM F n P fn tmps R ds .returning w →
    ∃ v w',StepsIn (Machine.fenced P F) P (lone fr cs w) (lone { fr with defers:=[] } cs w') ∧ (results fn tmps).run P w' = .ok v w' ∧ R (.returned v) w':=by
  intro ds
  induction ds with
  | nil =>
    intro w fr cs hu hd ht _ _ _ h
    obtain ⟨v,hr,hR⟩:=h
    have e : ({ fr with defers:=[] } : Go.Frame) = fr:=by rw [← hd]
    exact ⟨v,w,by rw [e]; exact StepsIn.refl _,hr,hR⟩
  | cons d ds ih =>
    intro w fr cs hu hd ht hall hb hroom h
    obtain ⟨hrun,h⟩:=h
    obtain ⟨r0,hr0⟩:=hall d (by simp)
    rcases h with ⟨r,w',htar,htake,hrest⟩ | ⟨hn,fv,cap,f,args,htar,_⟩
    · have h1:=step_collected (cs:=cs) (hu ▸ hrun) hd htar htake
      have i1 : (lone fr cs w).fenced P F:=fenced_out hb hroom (hu ▸ hrun) hd (fun g hg=>by rw [htar] at hg; simp [Target.leads] at hg)
      obtain ⟨v,w'',hs,hr,hR⟩:=ih w' { fr with defers:=[] ++ ds } cs hu rfl ht (fun d hd=>hall d (by simp [hd])) hb hroom hrest
      exact ⟨v,w'',StepsIn.trans (.one i1 h1) hs,hr,hR⟩
    · rw [htar] at hr0; cases hr0
def bodyPostSM (F : Fence) (n : Nat) (P : Program) (fn : Func) (c₀ : Go.Frame) (cs : List Go.Frame) (R : Ending → FrameMode → World → Prop) : Exit → Act → List Go.Frame → World → Prop
  | .normal,a,cs',w | .ret,a,cs',w=>∃ u',cs' = { c₀ with mode:=u' } :: cs ∧ (∀ d ∈ a.defers,∃ r,d.target = .collected r) ∧ LeavesInM F n P fn a.tmps (fun e w'=>R e u' w') a.defers .returning w
  | _,_,_,_=>False
theorem callsDIn_of_wpSInM {P : Program} {F : Fence} {n : Nat} {f : FuncId} {fn : Func} {c : Code} {args : Array Value} {u : FrameMode} {w : World} {R : Ending → FrameMode → World → Prop}
    (hf : P.funcs[f]? = some fn) (hb : fn.body = some c) (hF : F.fn f)
    (h : ∀ (c₀ : Go.Frame) (cs : List Go.Frame),c₀.mode = u →
      c.wpSIn F n P (bodyPostSM F n P fn c₀ cs R) { tmps:=args ++ Array.replicate (fn.ntmps - args.size) undef,defers:=[] } (c₀ :: cs) w) :
    CallsDIn F n P f args u w R:=by
  refine ⟨hF,fun c₀ cs hu hroom=>?_⟩
  let b : Go.Frame:={ (default : Go.Frame) with fn:=f,kind:=.deferred,roundOf:=none }
  have henter : Go.Frame.enter P f args .deferred =
      b.atR { tmps:=args ++ Array.replicate (fn.ntmps - args.size) undef,defers:=[] } [.code c]:=by
    simp [Go.Frame.enter,Go.Frame.atR,hf,hb,b]
  obtain ⟨e,a',cs',w',hl,hq,harr⟩:=h c₀ cs hu b [] rfl rfl hF hroom
  rw [← henter] at harr
  cases e with
  | normal =>
    obtain ⟨u',rfl,hall,hL⟩:=hq
    obtain ⟨v,w'',hs,hr,hR⟩:=steps_of_leavesM a'.defers w' { b.atR a' [] with mode:=.returning } ({ c₀ with mode:=u' } :: cs) rfl rfl rfl hall hF (by simpa using hroom) hL
    exact ⟨.returned v,u',w'',_,hR,StepsIn.trans (StepsIn.trans harr (.one (fenced_calm (fr:=b.atR a' []) hF hroom rfl) (stepR_end rfl))) hs,rfl,rfl,rfl,rfl,fn,hf,hr⟩
  | ret =>
    obtain ⟨u',rfl,hall,hL⟩:=hq
    obtain ⟨todo,hs0⟩:=harr.1 rfl
    obtain ⟨v,w'',hs,hr,hR⟩:=steps_of_leavesM a'.defers w' { b.atR a' todo with mode:=.returning } ({ c₀ with mode:=u' } :: cs) rfl rfl rfl hall hF (by simpa using hroom) hL
    exact ⟨.returned v,u',w'',_,hR,StepsIn.trans hs0 hs,rfl,rfl,rfl,rfl,fn,hf,hr⟩
  | panic chain=>exact hq.elim
  | exit id=>exact hq.elim
  | goto l=>exact hq.elim
  | outgrown=>exact hq.elim
theorem opsS_none {n : Nat} {P : Program} {ops : Array Oper} {Q : Exit → Act → List Go.Frame → World → Prop} {i : Nat} {rest : List Nat} {a : Act} {cs : List Go.Frame} {w w' : World} {o : Oper} (ho : ops[i]? = some o) (hw : Region.wanted o (yielded ops a.tmps) = true) (hrun : (execOp a.eval o).run P w = .ok .recover w') (hr : recoverD cs = none)
    (h : wpOpsSIn Fence.wide n P ops Q rest (a.put o.dst .nilIface) cs w') : wpOpsSIn Fence.wide n P ops Q (i :: rest) a cs w:=by
  unfold wpOpsSIn
  simp only [ho,hw,hrun,hr,if_true]
  exact ⟨fun _ _=>trivial,h⟩
theorem opsS_some {n : Nat} {P : Program} {ops : Array Oper} {Q : Exit → Act → List Go.Frame → World → Prop} {i : Nat} {rest : List Nat} {a : Act} {cs cs' : List Go.Frame} {w w' : World} {o : Oper} {v : Value} (ho : ops[i]? = some o) (hw : Region.wanted o (yielded ops a.tmps) = true) (hrun : (execOp a.eval o).run P w = .ok .recover w') (hr : recoverD cs = some (v, cs'))
    (h : wpOpsSIn Fence.wide n P ops Q rest (a.put o.dst v) cs' w') : wpOpsSIn Fence.wide n P ops Q (i :: rest) a cs w:=by
  unfold wpOpsSIn
  simp only [ho,hw,hrun,hr,if_true]
  exact ⟨fun _ _=>trivial,h⟩
theorem opsS_value {n : Nat} {P : Program} {ops : Array Oper} {Q : Exit → Act → List Go.Frame → World → Prop} {i : Nat} {rest : List Nat} {a : Act} {cs : List Go.Frame} {w w' : World} {o : Oper} {v : Value} (ho : ops[i]? = some o) (hw : Region.wanted o (yielded ops a.tmps) = true) (hrun : (execOp a.eval o).run P w = .ok (.value v) w')
    (h : wpOpsSIn Fence.wide n P ops Q rest (a.put o.dst v) cs w') : wpOpsSIn Fence.wide n P ops Q (i :: rest) a cs w:=by
  unfold wpOpsSIn
  simp only [ho,hw,hrun,if_true]
  exact ⟨fun _ _=>trivial,h⟩
theorem opsS_nil {n : Nat} {P : Program} {ops : Array Oper} {Q : Exit → Act → List Go.Frame → World → Prop} {a : Act} {cs : List Go.Frame} {w : World} (h : Q .normal a cs w) : wpOpsSIn Fence.wide n P ops Q [] a cs w:=by unfold wpOpsSIn; exact h
def DefG (E : Env) (f : FuncId) (args : List PV) (H H' : List (Nat × Blk)) (u U : FrameMode) : Prop :=
  ∀ (ok : Nat → Prop) (ρ : Nat → Nat) (w : World) (vals : List Value),E.G w →
    (∀ j B,H.lookup j = some B → BlkAt (lk H) ρ ok (hp w) j B ∧ E.ng ≤ ρ j ∧ ¬ ok (ρ j)) →
    (∀ j j',H.lookup j ≠ none → H.lookup j' ≠ none → ρ j = ρ j' → j = j') → RelVL (lk H) ρ ok (hp w) args vals →
    CallsDIn Fence.wide 0 E.P f vals.toArray u w fun e u' w'=>∃ v ρ',e = .returned v ∧ u' = U ∧ GPost E (fun _=>true) ok ρ w H H' (.p (.tup [])) v ρ' w'
theorem defG_of {E : Env} {f : FuncId} {fn : Func} {rest : Code} {args : List PV} {H H' : List (Nat × Blk)} {id d0 d1 n : Nat} {T0 T1 : TypeId} {q0 q1 : String} {b0 b1 : Array Edge} {rv : Value} {pv : PV} {u U : FrameMode}
    (hf : E.P.funcs[f]? = some fn) (hb : fn.body = some (.seq (.region id #[⟨some d0,.call ⟨.builtin .recover,#[],#[]⟩,T0,q0,b0,none⟩,⟨some d1,.assign (.tmp d0),T1,q1,b1,none⟩] false) rest)) (hn : fn.ntmps = n) (hr : fn.results = #[]) (hle : args.length ≤ n) (h0 : args.length ≤ d0 ∧ d0 < n) (h1 : args.length ≤ d1 ∧ d1 < n)
    (hrec : ∀ (c₀ : Go.Frame) (cs : List Go.Frame),c₀.mode = u → (recoverD (c₀ :: cs) = none ∧ rv = .nilIface ∧ U = u) ∨ recoverD (c₀ :: cs) = some (rv,{ c₀ with mode:=U } :: cs))
    (hpv : ∀ β ρ ok Hp,RelV β ρ ok Hp pv rv)
    (h : ∀ F : Fr,GFr E (fun _=>true) H n F → Exec E.P F rest ⟨(d1,pv) :: argSlotsV 0 args,H⟩ (fun e S=>(e = .normal ∨ e = .ret) ∧ HasB S H')) : DefG E f args H H' u U:=by
  intro ok ρ w vals hG hH hinj hrel
  have hvl:=relVL_length hrel
  let F : Fr:=⟨w,ok,fun b=>∃ j,H.lookup j ≠ none ∧ b = ρ j,n,[],fun j=>if H.lookup j ≠ none then match hp w (ρ j) with | some (.cells c _ _)=>some (ρ j,c.size) | _=>none else none,none,fun _ _=>False,fun k=>(H.lookup k).isNone⟩
  have hpin : ∀ j B c,H.lookup j = some B → hp w (ρ j) = some (.cells c B.T (0,0)) → F.pin j = some (ρ j,c.size):=fun j B c hj hc=>by
    simp only [F]
    rw [if_pos (by simp [hj]),hc]
  have hcarry : Carry ok (okI F (lk H) ρ) (hp w) (hp w):=fun b hb _=>⟨⟨.inl hb,fun k hk e=>by obtain ⟨B,hB⟩:=lookup_some hk; exact (hH k B hB).2.2 (e ▸ hb)⟩,rfl⟩
  have hkeep : Keep (fun _=>True) (lk H) (lk H) ρ ρ (hp w) (hp w):=fun k _ B hB=>⟨B,hB,rfl,Nat.le_refl _,fun _=>⟨rfl,fun c T fr hc=>⟨c,T,fr,hc,rfl⟩⟩⟩
  have hS : SatR F ρ ⟨argSlotsV 0 args,H⟩ { tmps:=vals.toArray ++ Array.replicate (fn.ntmps - vals.toArray.size) undef,defers:=[] } w:=by
    refine ⟨fun t v ht=>?_,fun k B hB=>?_,hinj,⟨rfl,rfl,rfl,Nat.le_refl _,fun _ _ _=>rfl⟩,?_,Marks.nil rfl,fun j b m hj hS=>?_⟩
    · obtain ⟨j,rfl,hx⟩:=argSlotsV_get ht
      obtain ⟨u,hu,hru⟩:=relVL_get hrel hx
      refine ⟨u,?_,RelV.mono hcarry hkeep v u (fun _ _=>trivial) hru⟩
      rw [Nat.zero_add,Array.getElem?_append_left (by have:=(List.getElem?_eq_some_iff.1 hu).1; simpa using this)]
      simpa using hu
    · obtain ⟨⟨c,h1,h2,h3⟩,h4,h5⟩:=hH k B hB
      have hB' : H.lookup k = some B:=hB
      refine ⟨c,h1,.inl ⟨⟨k,by simp [hB'],rfl⟩,by simp [F,hB']⟩,h2,fun i x hx=>?_⟩
      obtain ⟨u,hu,ho,hru⟩:=h3 i x hx
      exact ⟨u,hu,ho,RelV.mono hcarry hkeep x u (fun _ _=>trivial) hru⟩
    · simp [F,hn]; omega
    · obtain ⟨B,hB⟩:=lookup_some (l:=H) (j:=j) hS
      obtain ⟨⟨c,h1,_⟩,_⟩:=hH j B hB
      rw [hpin j B c hB h1] at hj
      injection hj with hj
      injection hj with hj1 hj2
      subst hj1 hj2
      exact ⟨rfl,c,B.T,h1,rfl⟩
  have hfr : GFr E (fun _=>true) H n F:=⟨hG,fun b ⟨j,hj,e⟩=>by obtain ⟨B,hB⟩:=lookup_some hj; subst e; exact (hH j B hB).2.1,rfl,rfl,fun k hk2=>(by simp only [F]; rw [if_neg (fun h=>h hk2)]),fun k hk2=>(by cases hk2),fun _=>rfl,rfl⟩
  obtain ⟨T,hT⟩ : ∃ T,T = vals.toArray ++ Array.replicate (fn.ntmps - vals.toArray.size) undef:=⟨_,rfl⟩
  rw [← hT] at hS
  have hTs : T.size = n:=hS.nt
  refine callsDIn_of_wpSInM hf hb trivial fun c₀ cs hu=>?_
  rw [← hT]
  obtain ⟨T2,hT2⟩ : ∃ T2,T2 = (T.setIfInBounds d0 rv).setIfInBounds d1 rv:=⟨_,rfl⟩
  have hS2 : SatR F ρ ⟨(d1,pv) :: argSlotsV 0 args,H⟩ ⟨T2,[]⟩ w:=by
    refine ⟨fun t v ht=>?_,hS.blks,hS.inj,hS.frame,by rw [hT2]; simpa using hTs,hS.df,hS.pin⟩
    simp only [St.slot,List.lookup_cons] at ht
    split at ht
    · rename_i e
      injection ht with ht; subst ht
      obtain rfl : t = d1:=by simpa using e
      exact ⟨rv,by rw [hT2,Array.getElem?_setIfInBounds_self_of_lt (by simp [hTs]; exact h1.2)],hpv _ _ _ _⟩
    · rename_i e
      obtain ⟨u',hu',hr'⟩:=hS.slots t v ht
      obtain ⟨j,rfl,hx⟩:=argSlotsV_get ht
      have hj:=(List.getElem?_eq_some_iff.1 hx).1
      exact ⟨u',by rw [hT2,Array.getElem?_setIfInBounds_ne (by omega),Array.getElem?_setIfInBounds_ne (by omega)]; exact hu',hr'⟩
  have hrest : ∀ mode,mode = U → rest.wpSIn Fence.wide 0 E.P (bodyPostSM Fence.wide 0 E.P fn c₀ cs fun e u' w'=>∃ v ρ',e = .returned v ∧ u' = U ∧ GPost E (fun _=>true) ok ρ w H H' (.p (.tup [])) v ρ' w') ⟨T2,[]⟩ ({ c₀ with mode:=mode } :: cs) w:=fun mode hm=>by
    subst hm
    have h2:=(h F hfr).run 0 _ w ⟨ρ,hS2⟩
    rw [show fen F = Fence.wide from rfl] at h2
    refine wpSIn_of_wpIn rfl (wpIn_mono h2 fun e a' w' hq=>?_)
    obtain ⟨S',⟨he,hHB⟩,ρ',hS'⟩:=hq.resolve_right (fun h=>h.2)
    have hall : ∀ d ∈ a'.defers,∃ r,d.target = .collected r:=fun d hd=>by
      obtain ⟨Ds,e1,_⟩:=hS'.df
      rw [e1,show F.df = [] from rfl,List.append_nil] at hd
      obtain ⟨D,_,rfl⟩:=List.mem_map.1 hd
      exact ⟨D,rfl⟩
    have hL : LeavesInM Fence.wide 0 E.P fn a'.tmps (fun e w'=>∃ v ρ',e = .returned v ∧ mode = mode ∧ GPost E (fun _=>true) ok ρ w H H' (.p (.tup [])) v ρ' w') a'.defers .returning w':=by
      refine leave_D (by simp) hS' fun w' hS'=>?_
      refine ⟨.tuple #[],by unfold results; rw [hr]; simp,?_⟩
      have hsb : ∀ j B',H'.lookup j = some B' → S'.blk j = some B':=fun j B' hj=>hHB.all j B' hj
      have hcar : Carry (okI F S'.blk ρ') (okG ok w H' ρ') (hp w') (hp w'):=fun b hb _=>⟨⟨hb.1,fun j hj e=>by
        obtain ⟨B',hB'⟩:=lookup_some hj
        exact hb.2 j (by simp [hsb j B' hB']) e⟩,rfl⟩
      have hkp : ∀ K : Nat → Prop,Keep K S'.blk (lk H') ρ' ρ' (hp w') (hp w'):=fun K k _ B hB=>⟨B,hsb k B hB,rfl,Nat.le_refl _,fun _=>⟨rfl,fun c T fr hc=>⟨c,T,fr,hc,rfl⟩⟩⟩
      refine ⟨.tuple #[],ρ',rfl,rfl,by simp only [RelV,Rel,RelL]; exact ⟨[],rfl,rfl⟩,fun j B' hj=>?_,fun j j' h1 h2 e=>?_,fun j h1 h2=>?_,fun j h1 h2=>?_,fun j h1 h2 h3=>?_,hS'.frame.os,hS'.frame.tape,hS'.frame.output,hS'.frame.size,fun b hb hx=>hS'.frame.block b hb (fun ⟨j,hj,e⟩=>hx j hj e)⟩
      · obtain ⟨c',f1,_,f3,f4⟩:=hS'.blks j B' (hsb j B' hj)
        refine ⟨c',f1,f3,fun i x hx=>?_⟩
        obtain ⟨u,hu,ho,hru⟩:=f4 i x hx
        exact ⟨u,hu,ho,RelV.mono (K:=fun _=>True) hcar (hkp _) x u (fun _ _=>trivial) hru⟩
      · obtain ⟨B,hB⟩:=lookup_some h1
        obtain ⟨B',hB'⟩:=lookup_some h2
        exact hS'.inj j j' (by simp [hsb j B hB]) (by simp [hsb j' B' hB']) e
      · obtain ⟨B,hB⟩:=lookup_some h1
        obtain ⟨_,_,f2,_⟩:=hS'.blks j B (hsb j B hB)
        rcases f2 with ⟨⟨i,hi,e⟩,_⟩ | f2
        · exact .inl ⟨i,hi,e⟩
        · exact .inr f2
      · obtain ⟨B,hB⟩:=lookup_some h1
        obtain ⟨_,_,f2,_⟩:=hS'.blks j B (hsb j B hB)
        rcases f2 with ⟨_,f2⟩ | f2
        · simp only [F,h2] at f2; cases f2
        · exact f2
      · obtain ⟨B',hB'⟩:=lookup_some h1
        obtain ⟨B,hB⟩:=lookup_some h2
        obtain ⟨⟨c,g1,_⟩,_⟩:=hH j B hB
        obtain ⟨e1,c',T',e2,e3⟩:=hS'.pin j _ _ (hpin j B c hB g1) (by simp [hsb j B' hB'])
        refine ⟨e1,fun c2 T2 hc2=>⟨c',T',e2,?_⟩⟩
        rw [g1] at hc2
        injection hc2 with hc2
        injection hc2 with hc2
        rw [e3,hc2]
    rcases he with rfl | rfl <;> exact ⟨mode,rfl,hall,hL⟩
  refine wpSIn_seq (wpSIn_region ?_)
  have hr2 : List.range (#[(⟨some d0,.call ⟨.builtin .recover,#[],#[]⟩,T0,q0,b0,none⟩ : Oper),⟨some d1,.assign (.tmp d0),T1,q1,b1,none⟩] : Array Oper).size = [0,1]:=rfl
  rw [hr2]
  have hex0 : ∀ (a : Act),(execOp a.eval (⟨some d0,.call ⟨.builtin .recover,#[],#[]⟩,T0,q0,b0,none⟩ : Oper)).run E.P w = .ok .recover w:=fun a=>by simp [execOp,resolve,invoke,builtin]
  have hex1 : ∀ (a : Act),(execOp a.eval (⟨some d1,.assign (.tmp d0),T1,q1,b1,none⟩ : Oper)).run E.P w = .ok (.value (a.eval (.tmp d0))) w:=fun a=>by simp [execOp]
  have hfin : ∀ v,v = rv → (Act.eval ⟨T.setIfInBounds d0 v,[]⟩ (.tmp d0)) = rv:=fun v hv=>by
    subst hv; simp [Act.eval,Array.getD_eq_getD_getElem?,Array.getElem?_setIfInBounds_self_of_lt (show d0 < T.size by rw [hTs]; exact h0.2)]
  have hb0 : ∀ (a : Act) (o : Oper),o = ⟨some d0,.call ⟨.builtin .recover,#[],#[]⟩,T0,q0,b0,none⟩ ∨ o = ⟨some d1,.assign (.tmp d0),T1,q1,b1,none⟩ → (∀ f,o.about E.P w a.eval = some f → Fence.wide.fn f):=fun _ _ _ _ _=>trivial
  have hput : ∀ v,v = rv → ((⟨T,[]⟩ : Act).put (some d0) v).put (some d1) (((⟨T,[]⟩ : Act).put (some d0) v).eval (.tmp d0)) = ⟨T2,[]⟩:=fun v hv=>by
    have:=hfin v hv
    simp only [Act.put]
    rw [this,hT2,hv]
  show wpOpsSIn Fence.wide 0 E.P _ _ [0,1] _ _ _
  rcases hrec c₀ cs hu with ⟨hr0,hrv,hU⟩ | hr0
  · refine opsS_none (o:=⟨some d0,.call ⟨.builtin .recover,#[],#[]⟩,T0,q0,b0,none⟩) rfl rfl (hex0 _) hr0 ?_
    refine opsS_value (o:=⟨some d1,.assign (.tmp d0),T1,q1,b1,none⟩) rfl rfl (hex1 _) ?_
    have:=hrest u hU.symm
    rw [← hu] at this
    exact opsS_nil (by rw [hput _ hrv.symm]; exact this)
  · refine opsS_some (o:=⟨some d0,.call ⟨.builtin .recover,#[],#[]⟩,T0,q0,b0,none⟩) rfl rfl (hex0 _) hr0 ?_
    refine opsS_value (o:=⟨some d1,.assign (.tmp d0),T1,q1,b1,none⟩) rfl rfl (hex1 _) ?_
    exact opsS_nil (by rw [hput _ rfl]; exact hrest U rfl)
end Go.Proofs.YtcifhkfpmhifaaaGreatDoor.SH
namespace Go.Proofs.YtcifhkfpmhifaaaGreatDoor.SH
open Go Go.RowKit
theorem opsI_value {F : Fr} {n : Nat} {P : Program} {ops : Array Oper} {Q : Exit → Act → World → Prop} {i : Nat} {rest : List Nat} {a : Act} {w w' : World} {o : Oper} {v : Value} (ho : ops[i]? = some o) (hw : Region.wanted o (yielded ops a.tmps) = true) (hd : ∀ c, o.op ≠ .defer c) (hrun : (execOp a.eval o).run P w = .ok (.value v) w')
    (h : wpOpsIn (fen F) n P ops Q rest (a.put o.dst v) w') : wpOpsIn (fen F) n P ops Q (i :: rest) a w:=by
  unfold wpOpsIn
  simp only [ho,hw,if_true]
  refine ⟨fun _ _=>trivial,?_⟩
  rw [Oper.semAt_eq _ _ _ hd,hrun]
  exact h
theorem opsI_defer {F : Fr} {n : Nat} {P : Program} {ops : Array Oper} {Q : Exit → Act → World → Prop} {i : Nat} {rest : List Nat} {a : Act} {w w' : World} {o : Oper} {D : Deferred} (hro : F.ro = none) (ho : ops[i]? = some o) (hw : Region.wanted o (yielded ops a.tmps) = true) (hrun : (execOp a.eval o).run P w = .ok (.defer D) w')
    (h : wpOpsIn (fen F) n P ops Q rest ({ a with defers:=D :: a.defers }.put o.dst undef) w') : wpOpsIn (fen F) n P ops Q (i :: rest) a w:=by
  unfold wpOpsIn
  simp only [ho,hw,if_true]
  refine ⟨fun _ _=>trivial,?_⟩
  rw [show (fen F).round = none from hro,Oper.semAt_none,hrun]
  exact h
theorem opsI_nil {F : Fr} {n : Nat} {P : Program} {ops : Array Oper} {Q : Exit → Act → World → Prop} {a : Act} {w : World} (h : Q .normal a w) : wpOpsIn (fen F) n P ops Q [] a w:=by unfold wpOpsIn; exact h
def DPost (E : Env) (g : FuncId) (t2 t3 k2 k3 n2 n3 : Nat) (H' : List (Nat × Blk)) (e : Exit) (S : St) : Prop :=
  S.slot t2 = some (.at_ k2 0 n2) ∧ S.slot t3 = some (.at_ k3 0 n3) ∧ ∃ u U B2 B3,(((e = .normal ∨ e = .ret) ∧ u = .returning) ∨ ∃ ch,e = .panic ch ∧ u = .panicking ch) ∧ HasB S [(k2,B2),(k3,B3)] ∧ B2.cs.len = n2 ∧ B3.cs.len = n3 ∧ DefG E g [.at_ k2 0 n2,.at_ k3 0 n3] [(k2,B2),(k3,B3)] H' u U ∧ settle U = .returning
theorem freeSl_args (k : Nat) : ∀ (xs : List Pure) (i : Nat),freeSl k (argSlots i xs) = true
  | [],_=>rfl
  | x :: xs,i=>by simp only [argSlots,freeSl,PV.free,Bool.true_and]; exact freeSl_args k xs (i + 1)
theorem says_defer {E : Env} {f g : FuncId} {fn : Func} {rest : Code} {args xs : List Pure} {n t2 t3 tf k2 k3 n2 n3 id0 id1 : Nat} {X2 X3 Y2 Y3 Y4 Y5 : TypeId} {s0 s1 s2 s3 : String} {e0 e1 e2 e3 : Array Edge} {ts : Array TypeId} {z2 z3 : Value} {vs2 vs3 : List PV} {H' : List (Nat × Blk)} {B2' B3' : Blk}
    (hgs : ∀ w,E.G w → E.ng ≤ w.heap.size)
    (hf : E.P.funcs[f]? = some fn) (hb : fn.body = some (.seq (.region id0 #[⟨some t2,.alloc X2,Y2,s0,e0,none⟩,⟨some t3,.alloc X3,Y3,s1,e1,none⟩] false) (.seq (.region id1 #[⟨some tf,.makeFunc (.func g) #[] #[.tmp t2,.tmp t3],Y4,s2,e2,none⟩,⟨none,.defer ⟨.value (.tmp tf),#[],ts⟩,Y5,s3,e3,none⟩] false) rest)))
    (hn : fn.ntmps = n) (hr : fn.results = #[.cell t2 X2,.cell t3 X3]) (hle : args.length ≤ n)
    (hz2 : ∀ w,(zeroValue X2).run E.P w = .ok z2 w) (hv2 : Zs z2.cells.toList vs2) (hl2 : vs2.length = n2) (hz3 : ∀ w,(zeroValue X3).run E.P w = .ok z3 w) (hv3 : Zs z3.cells.toList vs3) (hl3 : vs3.length = n3)
    (ht2 : args.length ≤ t2 ∧ t2 < n) (ht3 : args.length ≤ t3 ∧ t3 < n) (htf : args.length ≤ tf ∧ tf < n) (hne : t2 ≠ t3 ∧ t2 ≠ tf ∧ t3 ≠ tf) (hk : k2 ≠ k3) (hk2 : 1000 ≤ k2) (hk3 : 1000 ≤ k3)
    (hcall : ∀ args w,(callFunc g args).run E.P w = .ok (.enter g args) w)
    (hH2 : H'.lookup k2 = some B2') (hH3 : H'.lookup k3 = some B3') (hHn : ∀ j,H'.lookup j ≠ none → j = k2 ∨ j = k3) (hB2 : B2'.cs.len = n2) (hB3 : B3'.cs.len = n3)
    (hres : ResVs E.P ⟨[(t2,.at_ k2 0 n2),(t3,.at_ k3 0 n3)],H'⟩ [.cell t2 X2,.cell t3 X3] xs)
    (h : ∀ F : Fr,E.G F.w0 → (∀ b,¬ F.X b) → F.nt = n → (∀ k,Nat.blt k 1000 = true → F.pin k = none) → F.ro = none → Exec E.P F rest ⟨(t3,.at_ k3 0 n3) :: (t2,.at_ k2 0 n2) :: argSlots 0 args,[(k3,⟨X3,n3,.mix vs3⟩),(k2,⟨X2,n2,.mix vs2⟩)]⟩ (DPost E g t2 t3 k2 k3 n2 n3 H')) : Says E f args (resOf xs):=by
  intro ok w0 vals hG hrel
  have hvl:=hrel.length
  let F : Fr:=⟨w0,ok,fun _=>False,n,[],fun _=>none,none,fun _ _=>False,fun k=>Nat.blt k 1000⟩
  obtain ⟨a,ha⟩ : ∃ a : Act,a = { tmps:=vals.toArray ++ Array.replicate (fn.ntmps - vals.toArray.size) undef,defers:=[] }:=⟨_,rfl⟩
  have had : a.defers = []:=by rw [ha]
  have hS : Sat F ⟨argSlots 0 args,[]⟩ a w0:=by
    rw [ha]
    refine ⟨fun _=>0,⟨fun t v ht=>?_,fun k B hB=>by simp [St.blk] at hB,fun k k' hk=>by simp [St.blk] at hk,⟨rfl,rfl,rfl,Nat.le_refl _,fun _ _ _=>rfl⟩,?_,Marks.nil rfl,fun j b n hj=>by cases hj⟩⟩
    · obtain ⟨j,x,rfl,hx,rfl⟩:=argSlots_get ht
      obtain ⟨u,hu,hru⟩:=hrel.get hx
      refine ⟨u,?_,?_⟩
      · rw [Nat.zero_add,Array.getElem?_append_left (by have:=(List.getElem?_eq_some_iff.1 hu).1; simpa using this)]
        simpa using hu
      · simp only [RelV]
        exact Rel.mono (fun b hb _=>⟨⟨.inl hb,fun k hk=>by simp [St.blk] at hk⟩,rfl⟩) _ _ hru
    · simp [F,hn]; omega
  refine callsIn_wide.1 (callsIn_of_wp_marks (n:=0) hf hb trivial ?_)
  rw [← ha]
  clear ha
  have alloc : ∀ {S : St} {a : Act} {w : World} {t k m : Nat} {X Y : TypeId} {s : String} {ed : Array Edge} {z : Value} {vs : List PV}, (∀ w, (zeroValue X).run E.P w = .ok z w) → Zs z.cells.toList vs → vs.length = m → t < n → Sat F S a w → S.blk k = none → S.free k = true →
      ∃ v w',(execOp a.eval (⟨some t,.alloc X,Y,s,ed,none⟩ : Oper)).run E.P w = .ok (.value v) w' ∧ Sat F ⟨(t,.at_ k 0 m) :: S.sl,(k,⟨X,m,.mix vs⟩) :: S.hb⟩ (a.put (some t) v) w':=by
    intro S a w t k m X Y s ed z vs hz hv hl ht hS hb hfr
    have hc : CoreOk E.P F ⟨some t,.alloc X,Y,s,ed,none⟩ { fresh:=some k,ws:=[(t,.at_ k 0 m)],wb:=[(k,⟨X,m,.mix vs⟩)] }:=c_al hz hv hl rfl ht
    have hrun : ∃ v w',(execOp a.eval (⟨some t,.alloc X,Y,s,ed,none⟩ : Oper)).run E.P w = .ok (.value v) w':=⟨_,_,by simp [execOp,Instr.alloc,hz,newVar,newRow]; exact ⟨rfl,rfl⟩⟩
    obtain ⟨v,w',hrun⟩:=hrun
    refine ⟨v,w',hrun,?_⟩
    have:=hc S a w hS ⟨by simp,by simp,fun j hj=>by injection hj with hj; subst hj; exact ⟨hb,hfr⟩⟩ (fun _ _ _=>False) (Sat F (S.app _)) (fun _ _ h=>h)
    unfold Oper.wp at this
    rw [hrun] at this
    exact this
  refine wpIn_seq (wpIn_region ?_)
  show wpOpsIn (fen F) 0 E.P _ _ [0,1] _ _
  obtain ⟨v2,w1,hr1,hS1⟩:=alloc (t:=t2) (k:=k2) (Y:=Y2) (s:=s0) (ed:=e0) hz2 hv2 hl2 ht2.2 hS rfl (by simp [St.free,freeSl_args,freeHb])
  refine opsI_value (o:=⟨some t2,.alloc X2,Y2,s0,e0,none⟩) rfl rfl (by simp) hr1 ?_
  obtain ⟨v3,w2,hr2,hS2⟩:=alloc (t:=t3) (k:=k3) (Y:=Y3) (s:=s1) (ed:=e1) hz3 hv3 hl3 ht3.2 hS1 (by simp [St.blk,Ne.symm hk]) (by simp only [St.free,freeSl,freeHb,PV.free,Cells.free,freeSl_args,(hv2.rel (β:=fun _=>none) (ρ:=id) (ok:=fun _=>True) (H:=fun _=>none)).2.2 k3]; simp [hk])
  refine opsI_value (o:=⟨some t3,.alloc X3,Y3,s1,e1,none⟩) rfl rfl (by simp) hr2 (opsI_nil ?_)
  obtain ⟨a2,ha2⟩ : ∃ a2,a2 = (a.put (some t2) v2).put (some t3) v3:=⟨_,rfl⟩
  have had2 : a2.defers = []:=by rw [ha2]; simp [Act.put,had]
  rw [← ha2] at hS2
  show Code.wpIn _ _ _ _ _ (Act.put (Act.put a _ _) _ _) _
  rw [← ha2]
  clear ha2 hr1 hr2 hS1
  obtain ⟨ρ,hS2⟩:=hS2
  have h23 : (t2 == t3) = false:=by simpa using hne.1
  have hk23 : (k2 == k3) = false:=by simpa using hk
  have hk32 : (k3 == k2) = false:=by simpa using Ne.symm hk
  have hp2 : a2.eval (.tmp t2) = .pointer (some ⟨ρ k2,0,none⟩):=at_eval hS2 (x:=.tmp t2) (k:=k2) (off:=0) (tot:=n2) (B:=⟨X2,n2,.mix vs2⟩) (by simp [St.opd,St.slot,List.lookup_cons,h23]) (by simp [St.blk,List.lookup_cons,hk23]) (by simp [Cells.len,hl2])
  have hp3 : a2.eval (.tmp t3) = .pointer (some ⟨ρ k3,0,none⟩):=at_eval hS2 (x:=.tmp t3) (k:=k3) (off:=0) (tot:=n3) (B:=⟨X3,n3,.mix vs3⟩) (by simp [St.opd,St.slot,List.lookup_cons]) (by simp [St.blk,List.lookup_cons]) (by simp [Cells.len,hl3])
  obtain ⟨p2,hq2⟩ : ∃ p,p = Value.pointer (some ⟨ρ k2,0,none⟩):=⟨_,rfl⟩
  obtain ⟨p3,hq3⟩ : ∃ p,p = Value.pointer (some ⟨ρ k3,0,none⟩):=⟨_,rfl⟩
  rw [← hq2] at hp2
  rw [← hq3] at hp3
  have h2s : a2.tmps.size = n:=hS2.nt
  let D : Deferred:={ target:=.fn (.func g) #[p2,p3],args:=#[] }
  obtain ⟨a3,ha3⟩ : ∃ a3,a3 = a2.put (some tf) (.func (.func g) #[] #[p2,p3]):=⟨_,rfl⟩
  have he3 : a3.eval (.tmp tf) = .func (.func g) #[] #[p2,p3]:=by
    rw [ha3]; simp [Act.put,Act.eval,Array.getD_eq_getD_getElem?,Array.getElem?_setIfInBounds_self_of_lt (show tf < a2.tmps.size by rw [h2s]; exact htf.2)]
  refine wpIn_seq (wpIn_region ?_)
  show wpOpsIn (fen F) 0 E.P _ _ [0,1] _ _
  refine opsI_value (o:=⟨some tf,.makeFunc (.func g) #[] #[.tmp t2,.tmp t3],Y4,s2,e2,none⟩) (w:=w2) (w':=w2) (v:=.func (.func g) #[] #[p2,p3]) rfl rfl (by simp) (by simp [execOp,Instr.makeFunc,hp2,hp3]) ?_
  show wpOpsIn _ _ _ _ _ _ (a2.put (some tf) _) _
  rw [← ha3]
  refine opsI_defer (o:=⟨none,.defer ⟨.value (.tmp tf),#[],ts⟩,Y5,s3,e3,none⟩) (w:=w2) (w':=w2) (D:=D) rfl rfl rfl (by simp [execOp,resolve,he3,Deferred.ofValue,D]) (opsI_nil ?_)
  obtain ⟨a4,ha4⟩ : ∃ a4 : Act,a4 = ⟨a3.tmps,[D]⟩:=⟨_,rfl⟩
  have ha4' : (({ a3 with defers:=D :: a3.defers } : Act).put none undef) = a4:=by rw [ha4,ha3]; simp [Act.put,had2]
  show Code.wpIn _ _ _ _ _ (({ a3 with defers:=D :: a3.defers } : Act).put none undef) _
  rw [ha4']
  obtain ⟨c2,hc2,hX2,-,-⟩:=hS2.blks k2 ⟨X2,n2,.mix vs2⟩ (by simp [St.blk,List.lookup_cons,hk23])
  obtain ⟨c3,hc3,hX3,-,-⟩:=hS2.blks k3 ⟨X3,n3,.mix vs3⟩ (by simp [St.blk,List.lookup_cons])
  have hX2 : w0.heap.size ≤ ρ k2:=hX2.resolve_left (fun h=>h.1)
  have hX3 : w0.heap.size ≤ ρ k3:=hX3.resolve_left (fun h=>h.1)
  let F1 : Fr:=⟨w0,ok,fun _=>False,n,[D],fun j=>if j = k2 then some (ρ k2,c2.size) else if j = k3 then some (ρ k3,c3.size) else none,none,fun _ _=>False,fun k=>Nat.blt k 1000⟩
  have hS4 : SatR F1 ρ ⟨(t3,.at_ k3 0 n3) :: (t2,.at_ k2 0 n2) :: argSlots 0 args,[(k3,⟨X3,n3,.mix vs3⟩),(k2,⟨X2,n2,.mix vs2⟩)]⟩ a4 w2:=by
    refine ⟨fun t v ht=>?_,hS2.blks,hS2.inj,⟨hS2.frame.os,hS2.frame.tape,hS2.frame.output,hS2.frame.size,hS2.frame.block⟩,by rw [ha4,ha3]; simpa [Act.put] using h2s,⟨[],by rw [ha4]; rfl,.nil,by simp⟩,fun j b m hj hB=>?_⟩
    · obtain ⟨u,hu,hru⟩:=hS2.slots t v ht
      refine ⟨u,?_,hru⟩
      have htt : t ≠ tf:=fun e=>by
        subst e
        simp only [St.slot,List.lookup_cons,show (t == t3) = false by simpa using Ne.symm hne.2.2,show (t == t2) = false by simpa using Ne.symm hne.2.1] at ht
        obtain ⟨j,x,rfl,hx,_⟩:=argSlots_get ht
        have:=(List.getElem?_eq_some_iff.1 hx).1
        omega
      rw [ha4,ha3]
      simp only [Act.put]
      rw [Array.getElem?_setIfInBounds_ne (Ne.symm htt)]
      exact hu
    · simp only [F1] at hj
      split at hj
      · rename_i e
        subst e
        injection hj with hj
        injection hj with hj1 hj2
        subst hj1 hj2
        exact ⟨rfl,c2,X2,hc2,rfl⟩
      · split at hj
        · rename_i e
          subst e
          injection hj with hj
          injection hj with hj1 hj2
          subst hj1 hj2
          exact ⟨rfl,c3,X3,hc3,rfl⟩
        · cases hj
  have hgo:=(h F1 hG (fun _ h=>h) rfl (fun k hk1=>by
    have : k < 1000:=by simpa using hk1
    simp only [F1]
    rw [if_neg (by omega),if_neg (by omega)]) rfl).run 0 a4 w2 ⟨ρ,hS4⟩
  refine wpIn_mono hgo fun e a' w' hq=>?_
  obtain ⟨S',⟨hs2,hs3,u,U,B2,B3,hu,hHB,hb2,hb3,hg,hset⟩,ρ',hS'⟩:=hq.resolve_right (fun h=>h.2)
  have hL : LeavesInM Fence.wide 0 E.P fn a'.tmps (fun e w'=>∃ v,e = .returned v ∧ Rel (fun b=>ok b ∨ w0.heap.size ≤ b) (hp w') (resOf xs) v ∧ Below w0.heap.size w0 w') a'.defers u w':=by
    have hune : u ≠ .run:=by rcases hu with ⟨_,h⟩ | ⟨ch,_,h⟩ <;> rw [h] <;> simp
    refine leave_D hune hS' fun w3 hS3=>?_
    have hsb : ∀ j B',[(k2,B2),(k3,B3)].lookup j = some B' → S'.blk j = some B':=fun j B' hj=>hHB.all j B' hj
    have hB2s : S'.blk k2 = some B2:=hsb k2 B2 (by simp [List.lookup_cons])
    have hB3s : S'.blk k3 = some B3:=hsb k3 B3 (by simp [List.lookup_cons,hk32])
    have hr2 : ρ' k2 = ρ k2:=(hS3.pin k2 (ρ k2) c2.size (by simp [F1]) (by simp [hB2s])).1
    have hr3 : ρ' k3 = ρ k3:=(hS3.pin k3 (ρ k3) c3.size (by simp [F1,Ne.symm hk]) (by simp [hB3s])).1
    have hcar : Carry (okI F1 S'.blk ρ') (okI F1 (lk [(k2,B2),(k3,B3)]) ρ') (hp w3) (hp w3):=fun b hb _=>⟨⟨hb.1,fun j hj e=>by
      obtain ⟨B',hB'⟩:=lookup_some hj
      exact hb.2 j (by simp [hsb j B' hB']) e⟩,rfl⟩
    have hkp : ∀ K : Nat → Prop,Keep K S'.blk (lk [(k2,B2),(k3,B3)]) ρ' ρ' (hp w3) (hp w3):=fun K k _ B hB=>⟨B,hsb k B hB,rfl,Nat.le_refl _,fun _=>⟨rfl,fun c T fr hc=>⟨c,T,fr,hc,rfl⟩⟩⟩
    have hGw : E.G w3:=E.stab w0 w3 hG fun b hb=>hS3.frame.block b (by have:=hgs w0 hG; show b < w0.heap.size; omega) (fun h=>h)
    have hown : ∀ j B,[(k2,B2),(k3,B3)].lookup j = some B → w0.heap.size ≤ ρ' j:=fun j B hj=>by
      obtain ⟨_,_,f2,_⟩:=hS3.blks j B (hsb j B hj)
      exact f2.resolve_left (fun h=>h.1)
    have hg':=hg (okI F1 (lk [(k2,B2),(k3,B3)]) ρ') ρ' w3 [p2,p3] hGw
      (fun j B hj => ⟨by
          obtain ⟨c',f1,_,f3,f4⟩:=hS3.blks j B (hsb j B hj)
          refine ⟨c',f1,f3,fun i x hx=>?_⟩
          obtain ⟨u,hu,ho,hru⟩:=f4 i x hx
          exact ⟨u,hu,ho,RelV.mono (K:=fun _=>True) hcar (hkp _) x u (fun _ _=>trivial) hru⟩,by have:=hgs w0 hG; have:=hown j B hj; omega,fun hb=>hb.2 j (by simp [lk,hj]) rfl⟩)
      (fun j j' h1 h2 e=>by
        obtain ⟨B,hB⟩:=lookup_some h1
        obtain ⟨B',hB'⟩:=lookup_some h2
        exact hS3.inj j j' (by simp [hsb j B hB]) (by simp [hsb j' B' hB']) e)
      (by
        simp only [RelVL,RelV]
        refine ⟨p2,[p3],rfl,fun B hB=>?_,p3,[],rfl,fun B hB=>?_,rfl⟩
        · have : B = B2:=by simp [lk,List.lookup_cons] at hB; exact hB.symm
          subst this
          exact ⟨by omega,fun _=>by rw [hq2,hr2]⟩
        · have : B = B3:=by simp [lk,List.lookup_cons,hk32] at hB; exact hB.symm
          subst this
          exact ⟨by omega,fun _=>by rw [hq3,hr3]⟩)
    refine ⟨hune,.inr ⟨fun hh=>absurd hh (by simp [Fence.wide]),.func g,#[p2,p3],g,#[p2,p3],rfl,by simp [D,invoke,hcall],fun _ _=>trivial,CallsDIn.mono hg' fun e' u' w4 ⟨v,ρ4,he,hU,hP⟩=>?_⟩⟩
    subst he hU
    have hend : ∃ v,(results fn a'.tmps).run E.P w4 = .ok v w4 ∧ ∃ v',Ending.returned v = .returned v' ∧ Rel (fun b=>ok b ∨ w0.heap.size ≤ b) (hp w4) (resOf xs) v' ∧ Below w0.heap.size w0 w4:=by
      have hnn : ∀ j,H'.lookup j ≠ none → [(k2,B2),(k3,B3)].lookup j ≠ none:=fun j hj=>by
        rcases hHn j hj with rfl | rfl <;> simp [List.lookup_cons,hk32]
      have hst : ∀ j,H'.lookup j ≠ none → ρ4 j = ρ' j:=fun j hj=>(hP.stay j hj (hnn j hj) rfl).1
      have hcar4 : Carry (okG (okI F1 (lk [(k2,B2),(k3,B3)]) ρ') w3 H' ρ4) (okI F (lk H') ρ4) (hp w4) (hp w4):=fun b hb _=>⟨⟨by
        rcases hb.1 with h | h
        · exact h.1
        · exact .inr (Nat.le_trans hS3.frame.size h),hb.2⟩,rfl⟩
      have hkp4 : ∀ K : Nat → Prop,Keep K (lk H') (lk H') ρ4 ρ4 (hp w4) (hp w4):=fun K k _ B hB=>⟨B,hB,rfl,Nat.le_refl _,fun _=>⟨rfl,fun c T fr hc=>⟨c,T,fr,hc,rfl⟩⟩⟩
      have hpt : ∀ t k m B,S'.slot t = some (.at_ k 0 m) → S'.blk k = some B → B.cs.len = m → a'.tmps[t]? = some (.pointer (some ⟨ρ' k,0,none⟩)):=fun t k m B h1 h2 h3=>by
        obtain ⟨u,hu,hr⟩:=hS3.slots t _ h1
        simp only [RelV] at hr
        rw [← (hr B h2).2 h3]
        exact hu
      have hS5 : SatR F ρ4 ⟨[(t2,.at_ k2 0 n2),(t3,.at_ k3 0 n3)],H'⟩ ⟨a'.tmps,[]⟩ w4:=by
        refine ⟨fun t v ht=>?_,fun k B hB=>?_,hP.inj,⟨hP.os.trans hS3.frame.os,hP.tape.trans hS3.frame.tape,hP.output.trans hS3.frame.output,Nat.le_trans hS3.frame.size hP.size,fun b hb hx=>?_⟩,hS3.nt,Marks.nil rfl,fun j b m hj=>by cases hj⟩
        · simp only [St.slot,List.lookup_cons] at ht
          split at ht
          · rename_i e
            injection ht with ht
            subst ht
            obtain rfl : t = t2:=by simpa using e
            refine ⟨_,hpt t k2 n2 B2 hs2 hB2s hb2,?_⟩
            simp only [RelV]
            intro B hB
            have : B = B2':=Option.some.inj ((show H'.lookup k2 = some B from hB).symm.trans hH2)
            subst this
            exact ⟨by omega,fun _=>by rw [hst k2 (by simp [hH2])]⟩
          · split at ht
            · rename_i e
              injection ht with ht
              subst ht
              obtain rfl : t = t3:=by simpa using e
              refine ⟨_,hpt t k3 n3 B3 hs3 hB3s hb3,?_⟩
              simp only [RelV]
              intro B hB
              have : B = B3':=Option.some.inj ((show H'.lookup k3 = some B from hB).symm.trans hH3)
              subst this
              exact ⟨by omega,fun _=>by rw [hst k3 (by simp [hH3])]⟩
            · simp at ht
        · have hB' : H'.lookup k = some B:=hB
          obtain ⟨c',f1,f3,f4⟩:=hP.blk k B hB'
          obtain ⟨B0,hB0⟩:=lookup_some (hnn k (by simp [hB']))
          refine ⟨c',f1,.inr (by rw [hst k (by simp [hB'])]; exact hown k B0 hB0),f3,fun i x hx=>?_⟩
          obtain ⟨u,hu,ho,hru⟩:=f4 i x hx
          exact ⟨u,hu,ho,RelV.mono (K:=fun _=>True) hcar4 (hkp4 _) x u (fun _ _=>trivial) hru⟩
        · have h1 : b < w3.heap.size:=Nat.lt_of_lt_of_le hb hS3.frame.size
          rw [hP.frame b h1 (fun j hj e=>by obtain ⟨B,hB⟩:=lookup_some hj; have:=hown j B hB; have : b < w0.heap.size:=hb; omega)]
          exact hS3.frame.block b hb (fun h=>h)
      obtain ⟨v,hv,hrv⟩:=results_run (rs:=[.cell t2 X2,.cell t3 X3]) hS5 hr hres
      exact ⟨v,hv,v,rfl,Rel.mono (fun b hb _=>⟨hb.1,rfl⟩) _ _ hrv,⟨hS5.frame.os,hS5.frame.tape,hS5.frame.output,hS5.frame.size,fun k hk=>hS5.frame.block k hk (fun h=>h)⟩⟩
    show LeavesInM _ _ _ _ _ _ [] (settle _) w4
    rw [hset]
    exact hend
  rcases hu with ⟨he,rfl⟩ | ⟨ch,rfl,rfl⟩
  · rcases he with rfl | rfl <;> exact hL
  · exact hL
end Go.Proofs.YtcifhkfpmhifaaaGreatDoor.SH
namespace Go.Proofs.YtcifhkfpmhifaaaGreatDoor.SH
open Go Go.RowKit
def SaysP (E : Env) (f : FuncId) (args : List PV) (ch : List PanicEntry) : Prop :=
  ∀ (ok : Nat → Prop) (w : World) (vals : List Value),E.G w → RelVL (fun _=>none) (fun _=>0) ok (hp w) args vals →
    Calls E.P f vals.toArray w fun e w'=>e = .panicked ch ∧ Below w.heap.size w w'
theorem saysP_of {E : Env} {f : FuncId} {fn : Func} {c : Code} {args : List PV} {ch : List PanicEntry} {n : Nat} (hf : E.P.funcs[f]? = some fn) (hb : fn.body = some c) (hn : fn.ntmps = n) (hle : args.length ≤ n)
    (h : ∀ F : Fr,E.G F.w0 → (∀ b,¬ F.X b) → F.nt = n → F.df = [] → (∀ k,Nat.blt k 1000 = true → F.pin k = none) → F.ro = none → Exec E.P F c ⟨argSlotsV 0 args,[]⟩ (fun e _=>e = .panic ch)) : SaysP E f args ch:=by
  intro ok w vals hG hrel
  have hvl:=relVL_length hrel
  let F : Fr:=⟨w,ok,fun _=>False,n,[],fun _=>none,none,fun _ _=>False,fun k=>Nat.blt k 1000⟩
  have hS : Sat F ⟨argSlotsV 0 args,[]⟩ { tmps:=vals.toArray ++ Array.replicate (fn.ntmps - vals.toArray.size) undef,defers:=[] } w:=by
    refine ⟨fun _=>0,⟨fun t v ht=>?_,fun k B hB=>by simp [St.blk] at hB,fun k k' hk=>by simp [St.blk] at hk,⟨rfl,rfl,rfl,Nat.le_refl _,fun _ _ _=>rfl⟩,?_,Marks.nil rfl,fun j b n hj=>by cases hj⟩⟩
    · obtain ⟨j,rfl,hx⟩:=argSlotsV_get ht
      obtain ⟨u,hu,hru⟩:=relVL_get hrel hx
      refine ⟨u,?_,RelV.mono (K:=fun _=>True) (fun b hb _=>⟨⟨.inl hb,fun k hk=>by simp [St.blk] at hk⟩,rfl⟩) (fun k _ B hB=>by simp [St.blk] at hB) v u (fun _ _=>trivial) hru⟩
      rw [Nat.zero_add,Array.getElem?_append_left (by have:=(List.getElem?_eq_some_iff.1 hu).1; simpa using this)]
      simpa using hu
    · simp [F,hn]; omega
  have h0:=(h F hG (fun _ h=>h) rfl rfl (fun _ _=>rfl) rfl).run 0 _ w hS
  rw [show fen F = Fence.wide from rfl] at h0
  refine callsIn_wide.1 (callsIn_of_wp_marks (n:=0) hf hb trivial (wpIn_mono h0 fun e a' w' hq=>?_))
  obtain ⟨S',rfl,ρ,hS'⟩:=hq.resolve_right (fun h=>h.2)
  refine leave_D (by simp) hS' fun w'' hS''=>?_
  exact ⟨rfl,⟨hS''.frame.os,hS''.frame.tape,hS''.frame.output,hS''.frame.size,fun k hk=>hS''.frame.block k hk (fun h=>h)⟩⟩
def OpX (P : Program) (F : Fr) (o : Oper) (S : St) (ch : List PanicEntry) : Prop :=
  ∀ a w,Sat F S a w → ∀ (Q : Exit → Act → World → Prop) (K : Act → World → Prop),(∀ w',Sat F S a w' → Q (.panic ch) a w') → o.wp P a w K Q
theorem seqX_ops {P : Program} {F : Fr} {ops : Array Oper} {Q : Exit → Act → World → Prop} {l2 : List Oper} {ox : Oper} {ch : List PanicEntry} (hnd : ∀ o ∈ ops.toList, ∀ c, o.op ≠ .defer c) (m : Nat) {K : St → Prop} (hgd : ox.guard = none) (hX : ∀ S', K S' → OpX P F ox S' ch) (hQ : ∀ S' a w, K S' → Sat F S' a w → Q (.panic ch) a w) : ∀ {os : List Oper} {S : St} {n : Nat}, SeqS P F ops os S K →
    (∀ j,(os ++ ox :: l2)[j]? = ops[n + j]?) → ∀ a w,Sat F S a w → wpOpsIn (fen F) m P ops Q ((List.range (os ++ ox :: l2).length).map (n + ·)) a w:=by
  intro os S n h
  induction h generalizing n with
  | @nil S K hK =>
    intro hj a w hS
    have h0 : ops[n]? = some ox:=by have:=hj 0; simpa using this.symm
    rw [List.nil_append,List.length_cons,List.range_succ_eq_map,List.map_cons,Nat.add_zero,wpOpsIn_cons]
    refine opIn_of h0 (hnd ox (List.mem_of_getElem? (by rw [Array.getElem?_toList]; exact h0))) ?_
    rw [if_pos (by simp [Region.wanted,hgd])]
    exact .inl (hX S hK a w hS _ _ fun w' hw=>hQ S a w' hK hw)
  | @cons o os S S1 K hop _ ih =>
    intro hj a w hS
    have h0 : ops[n]? = some o:=by have:=hj 0; simpa using this.symm
    rw [List.cons_append,List.length_cons,List.range_succ_eq_map,List.map_cons,List.map_map,Nat.add_zero,wpOpsIn_cons]
    refine opIn_of h0 (hnd o (List.mem_of_getElem? (by rw [Array.getElem?_toList]; exact h0))) (hop a w hS Q _ fun a' w' h'=>?_)
    have:=ih hX hQ (n:=n + 1) (fun j=>by have:=hj (j + 1); simp only [List.cons_append,List.getElem?_cons_succ] at this; rw [this]; congr 1; omega) a' w' h'
    have e : (fun x=>n + 1 + x) = ((fun x=>n + x) ∘ Nat.succ):=by funext x; simp; omega
    rwa [e] at this
section
variable {P : Program} {F : Fr} {Q : Exit → St → Prop} {S : St}
theorem exrX (n : Nat) {id : Nat} {l : List Oper} {ox : Oper} {ch : List PanicEntry} (ho : l[n]? = some ox) (hgd : ox.guard = none) (h : SeqS P F l.toArray (l.take n) S fun S1=>OpX P F ox S1 ch ∧ Q (.panic ch) S1) (hnd : noDef l = true:=by rfl) : Exec P F (.region id l.toArray false) S Q:=⟨fun m a w hS=>by
  refine wpIn_region ?_
  have hn : n < l.length:=(List.getElem?_eq_some_iff.1 ho).1
  have e : l.take n ++ ox :: l.drop (n + 1) = l:=by
    have : ox = l[n]:=(List.getElem?_eq_some_iff.1 ho).2.symm
    rw [this,List.getElem_cons_drop,List.take_append_drop]
  have:=seqX_ops (l2:=l.drop (n + 1)) (by simpa using noDef_all hnd) m (Q:=fun e a' w'=>(∃ S',Q e S' ∧ Sat F S' a' w') ∨ (e = .ret ∧ F.esc a' w')) hgd (fun S' hK=>hK.1) (fun S' a w hK hS=>.inl ⟨S',hK.2,hS⟩) h (n:=0) (fun j=>by rw [e]; simp) a w hS
  rw [e] at this
  simpa using this⟩
theorem opX_panic {dst : Option Nat} {x : Operand} {T : TypeId} {pos : String} {aft : Array Edge} {g : Option (Nat × Bool)} {t : TypeId} {y : Pure} {v0 : Value} (hv : ∀ ok H v,Rel ok H y v → v = v0) (hx : S.opd x = some (.p (.ifc t y))) : OpX P F ⟨dst,.panic x,T,pos,aft,g⟩ S [{ v:=.iface t v0,recovered:=false }]:=by
  intro a w ⟨ρ,h⟩ Q K hK
  have hr:=opd_rel h hx
  simp only [RelV,Rel] at hr
  obtain ⟨v,he,hr⟩:=hr
  rw [hv _ _ _ hr] at he
  have hrun : (execOp a.eval (⟨dst,.panic x,T,pos,aft,g⟩ : Oper)).run P w = .halt (.panic (.iface t v0)) w:=by simp [execOp,he,Instr.panic,goPanic]
  unfold Oper.wp
  rw [hrun]
  exact hK w ⟨ρ,h⟩
end
theorem opX_call {E : Env} {F : Fr} (hG : E.G F.w0) (hX : ∀ b, F.X b → E.ng ≤ b) {S : St} {dst : Option Nat} {f : FuncId} {os : List Operand} {xs : List PV} {ch : List PanicEntry} {ts : Array TypeId} {T : TypeId} {pos : String} {aft : Array Edge} {g : Option (Nat × Bool)}
    (hcall : ∀ args w,(callFunc f args).run E.P w = .ok (.enter f args) w) (hng : E.ng ≤ F.w0.heap.size) (hs : SaysP E f xs ch) (hlen : os.length = xs.length) (hr : ∀ (i : Nat) (x : PV) (o : Operand),xs[i]? = some x → os[i]? = some o → x = .dead ∨ ∃ y,x = .p y ∧ S.opd o = some (.p y)) :
    OpX E.P F ⟨dst,.call ⟨.value (.func f),os.toArray,ts⟩,T,pos,aft,g⟩ S ch:=by
  intro a w ⟨ρ,h⟩ Q K hK
  have hrun : (execOp a.eval (⟨dst,.call ⟨.value (.func f),os.toArray,ts⟩,T,pos,aft,g⟩ : Oper)).run E.P w = .ok (.enter f (os.map a.eval).toArray) w:=by
    simp [execOp,resolve,Act.eval,Deferred.ofValue,invoke,hcall]
  unfold Oper.wp
  rw [hrun]
  simp only [Oper.upon]
  have hrel : RelVL (fun _=>none) (fun _=>0) (okI F S.blk ρ) (hp w) xs (os.map a.eval):=relVL_of (by simp [hlen]) fun i x hx=>by
    have hlt : i < os.length:=by rw [hlen]; exact (List.getElem?_eq_some_iff.1 hx).1
    refine ⟨a.eval os[i],by simp [hlt],?_⟩
    rcases hr i x os[i] hx (by simp [hlt]) with rfl | ⟨y,rfl,ho⟩
    · simp only [RelV]
    · have:=opd_rel h ho
      simpa [RelV] using this
  have hGw : E.G w:=E.stab F.w0 w hG fun b hb=>h.frame.block b (by omega) (fun hx=>by have:=hX b hx; omega)
  refine Calls.mono (hs (okI F S.blk ρ) w _ hGw hrel) fun e w' ⟨he,hbl⟩=>?_
  subst he
  refine hK w' ⟨ρ,?_⟩
  have hne : ∀ k,S.blk k ≠ none → ρ k < w.heap.size:=fun k hk=>by
    cases hB : S.blk k with
    | none=>exact absurd hB hk
    | some B=>obtain ⟨c,e1,_⟩:=h.blks k B hB; exact World.size_lt e1
  have hhp : ∀ b,b < w.heap.size → hp w' b = hp w b:=fun b hb=>hbl.block b hb
  refine h.upd (Kp:=fun _=>True) ⟨hbl.os.trans h.frame.os,hbl.tape.trans h.frame.tape,hbl.output.trans h.frame.output,Nat.le_trans h.frame.size hbl.size,fun b hb hx=>(hbl.block b (Nat.lt_of_lt_of_le hb h.frame.size)).trans (h.frame.block b hb hx)⟩ h.nt rfl
    (fun b hb hne'=>⟨hb,?_⟩) (fun k _ B hB=>⟨B,hB,rfl,Nat.le_refl _,fun _=>⟨rfl,fun c T fr hc=>⟨c,T,fr,?_,rfl⟩⟩⟩) h.inj (fun j _ _ _ hj=>⟨hj,rfl,fun c T hc=>⟨c,T,by rw [hhp _ (World.size_lt hc)]; exact hc,rfl⟩⟩) (fun t v ht=>.inl ⟨ht,rfl,fun _ _=>trivial⟩)
    (fun k B hB=>.inl ⟨hB,rfl,hhp _ (hne k (by simp [hB])),fun _ _ _ _ _=>trivial⟩)
  · cases e : hp w b with
    | none=>exact absurd e hne'
    | some o=>rw [hhp b (World.size_lt e),e]
  · rw [hhp _ (World.size_lt hc)]; exact hc
section
variable {P : Program} {F : Fr} {d : Nat} {T : TypeId} {pos : String} {aft : Array Edge} {g : Option (Nat × Bool)} {x : Operand} {t xT yT : TypeId} {y : Pure} {c : Value} {ms : Array (String × TypeId)} {fs : Array Field}
theorem core_mkIface (hu : P.underlying t = some (.struct fs)) (hlt : d < F.nt) : CoreOk P F ⟨some d,.makeInterface t x,T,pos,aft,g⟩ { rs:=[(x,.p y)],ws:=[(d,.p (.ifc t y))] } :=
  core_val rfl hlt rfl rfl fun ρ S a w h hA=>by
    have hr:=opd_rel h (hA.rs (x,.p y) (by simp))
    simp only [RelV] at hr
    exact ⟨.iface t (a.eval x),by simp [execOp,Instr.makeInterface,run_underlying hu],by simp only [RelV,Rel]; exact ⟨_,rfl,hr⟩⟩
theorem core_asserts (hu : P.underlying t = some (.struct fs)) (hlt : d < F.nt) : CoreOk P F ⟨some d,.typeAssert x xT t true,T,pos,aft,g⟩ { rs:=[(x,.p (.ifc t y))],ws:=[(d,.p (.tup [y,.a (.bool true)]))] } :=
  core_val rfl hlt rfl rfl fun ρ S a w h hA=>by
    have hr:=opd_rel h (hA.rs (x,.p (.ifc t y)) (by simp))
    simp only [RelV,Rel] at hr
    obtain ⟨v,he,hr⟩:=hr
    refine ⟨.tuple #[v,.bool true],by simp [execOp,Instr.typeAssert,run_underlying hu,he],?_⟩
    simp only [RelV,Rel,RelL]
    exact ⟨[v,.bool true],rfl,v,[.bool true],rfl,hr,.bool true,[],rfl,rfl,rfl⟩
theorem core_nilNil (hu : P.underlying xT = some (.interface ms)) (hlt : d < F.nt) : CoreOk P F ⟨some d,.binOp .neq xT x (.const .nilIface) yT,T,pos,aft,g⟩ { rs:=[(x,.p (.a .nilIface))],ws:=[(d,.p (.a (.bool false)))] } :=
  core_val rfl hlt rfl rfl fun ρ S a w h hA=>by
    have hr:=atom_eval h (v:=.nilIface) (hA.rs (x,_) (by simp))
    have hc : a.eval (.const .nilIface) = .nilIface:=rfl
    refine ⟨.bool false,?_,by simp [RelV,Rel]⟩
    have hb : (binOp .neq xT .nilIface .nilIface).run P w = .ok (.bool false) w:=by
      have h : ∀ d : Nat,(Op.equalIn (d + 1) xT .nilIface .nilIface).run P w = .ok true w:=fun d=>by simp [Op.equalIn,run_underlying hu]
      simp only [binOp]
      simp [Op.equal,Op.maxDepth,h 9999]
    simp only [execOp,hr,hc]
    simp [go_sem,hb]
theorem core_nilVal (hu : P.underlying xT = some (.interface ms)) (hlt : d < F.nt) : CoreOk P F ⟨some d,.binOp .neq xT x (.const .nilIface) yT,T,pos,aft,g⟩ { rs:=[(x,.p (.ifc t y))],ws:=[(d,.p (.a (.bool true)))] } :=
  core_val rfl hlt rfl rfl fun ρ S a w h hA=>by
    have hr:=opd_rel h (hA.rs (x,.p (.ifc t y)) (by simp))
    simp only [RelV,Rel] at hr
    obtain ⟨v,hr,_⟩:=hr
    have hc : a.eval (.const .nilIface) = .nilIface:=rfl
    refine ⟨.bool true,?_,by simp [RelV,Rel]⟩
    have hb : (binOp .neq xT (.iface t v) .nilIface).run P w = .ok (.bool true) w:=by
      have h : ∀ d : Nat,(Op.equalIn (d + 1) xT (.iface t v) .nilIface).run P w = .ok false w:=fun d=>by simp [Op.equalIn,run_underlying hu]
      simp only [binOp]
      simp [Op.equal,Op.maxDepth,h 9999]
    simp only [execOp,hr,hc]
    simp [eqGuard,hb]
end
end Go.Proofs.YtcifhkfpmhifaaaGreatDoor.SH
set_option maxRecDepth 100000
set_option maxHeartbeats 4000000
namespace Go.Proofs.YtcifhkfpmhifaaaGreatDoor.N
open Go Go.Proofs.YtcifhkfpmhifaaaGreatDoor.SH Go.Proofs.YtcifhkfpmhifaaaGreatDoor.NumA
open Go.Proofs.Tryz renaming call126 → cl126,isAgg24 → ag24,sizeOf24 → sz24,sizeOf28 → sz28,sizeOf4 → sz4,underlying92 → un92,zeroValue24 → zv24,zeroValue92 → zv92
@[reducible] def stopV (e : Int) : List PanicEntry:=[{ v:=.iface 92 (.agg #[.int .i64 e]),recovered:=false }]
theorem stopR (e : Int) : ∀ (ok : Nat → Prop) (H : Nat → Option Obj) (v : Value),Rel ok H (.agg [vZ e]) v → v = .agg #[.int .i64 e]:=fun ok H v h=>by
 simp only [Rel,RelL] at h
 obtain ⟨cs,rfl,⟨v,r,rfl,rfl,rfl⟩,-⟩:=h
 rfl
theorem dec_ne {p : Prop} [Decidable p] (h : (!decide p) = true) : ¬ p:=by simpa using h
theorem dec_eq' {p : Prop} [Decidable p] (h : (!decide p) = false) : p:=by simpa using h
theorem int_bad (bs : List UInt8) (hl : bs.length < 100000) (h : parseE bs = 3) : SaysP E 96 [.p (pS bs),.dead] (stopV 3):=by
 refine saysP_of Tryz.func96 rfl Tryz.ntmps96 (by simp) fun F hG hX0 hnt hdf P0 hro=>?_
 obtain ⟨L,hX,hN⟩:=pro hnt hX0 hG
 refine exr (swb (c_al (k:=4) (n:=2) zv24 (.cons rfl (.cons rfl .nil)) rfl (P0 _ rfl) (L rfl)) t0 t0 ⟨rfl,rfl⟩ (zn [(0,_),(4,_)] [(4,_)] t2 t1 (exr (mV (L rfl) rfl (cK hG hX cl126 hN (parse_says bs (by omega)) (L rfl) t1 ?_)))))
 refine mV (L rfl) rfl (sw (c_ex rfl (L rfl)) t1 t0 (sw (c_ex rfl (L rfl)) t1 t0 (swb (c_al (k:=5) (n:=2) zv24 (.cons rfl (.cons rfl .nil)) rfl (P0 _ rfl) (L rfl)) t0 t0 ⟨rfl,rfl⟩ (sb (c_sm sz24 (by rfl) pa2 rfl pu2) t2 t1 ?_))))
 refine aV (L rfl) rfl (zn [(4,_),(5,_),(6,_)] [(4,_),(5,_)] t3 t2 (ex_seq (exr (mV (L rfl) rfl (sw (c_e (L rfl)) t2 t0 (zn [(4,_),(5,_),(6,_),(13,_)] [(4,_),(5,_)] t4 t2 ?_))))))
 refine ex_if rfl (fun hc=>?_) (fun hc=>?_)
 ·exact absurd (dt hc) (by omega)
 ·refine exr (mV (L rfl) rfl (sw (c_n (L rfl)) t2 t0 (zn [(4,_),(5,_),(17,_)] [(4,_),(5,_)] t3 t2 ?_)))
  refine ex_if rfl (fun hc=>?_) (fun hc=>?_)
  ·refine exrX 2 (ch:=stopV 3) rfl rfl (nsw (c_bp (vs:=[_]) un92 zv92 (.cons rfl .nil) ((Places.cons sz28 Places.nil)).to rfl (.cons rfl (.atom rfl) rfl pu1 .nil) (.cons .nil) (L rfl)) t1 t0 (nsw (core_mkIface un92 (L rfl)) t1 t0 ?_))
   refine .nil ⟨opX_panic (stopR 3) rfl,?_⟩
   rfl
  ·exact absurd h (by have:=dec_eq' hc; omega)
@[reducible] def bL (b : Bool) : Blk:=⟨4,1,.mix [.p (bZ b)]⟩
theorem int_ok (b : Bool) (bs : List UInt8) (hl : bs.length < 100000) (h : parseE bs ≠ 3) : SaysX E 96 [.p (pS bs),.at_ 1000 0 1] [(1000,bL b)] [(1000,bL (b || decide (parseE bs = 2)))] (pZ (parseV bs)):=by
 refine saysX_of (xs:=[pZ (parseV bs)]) Tryz.func96 rfl Tryz.ntmps96 Tryz.results96 (by simp) rfl (sub_of rfl) fun F hG hX hnt hdf P0 hXp=>?_
 have L:=lti hnt
 have hN:=ng_le hG
 refine exr (swb (c_al (k:=4) (n:=2) zv24 (.cons rfl (.cons rfl .nil)) rfl (P0 _ rfl) (L rfl)) t0 t0 ⟨rfl,rfl⟩ (zn [(0,_),(1,_),(4,_)] [(4,_),(1000,_)] t3 t2 (exr (mV (L rfl) rfl (cK hG hX cl126 hN (parse_says bs (by omega)) (L rfl) t1 ?_)))))
 refine mV (L rfl) rfl (sw (c_ex rfl (L rfl)) t1 t0 (sw (c_ex rfl (L rfl)) t1 t0 (swb (c_al (k:=5) (n:=2) zv24 (.cons rfl (.cons rfl .nil)) rfl (P0 _ rfl) (L rfl)) t0 t0 ⟨rfl,rfl⟩ (sb (c_sm sz24 (by rfl) pa2 rfl pu2) t2 t1 ?_))))
 refine aV (L rfl) rfl (zn [(1,_),(4,_),(5,_),(6,_)] [(4,_),(5,_),(1000,_)] t4 t3 (ex_seq (exr (mV (L rfl) rfl (sw (c_e (L rfl)) t2 t0 (zn [(1,_),(4,_),(5,_),(6,_),(13,_)] [(4,_),(5,_),(1000,_)] t5 t3 ?_))))))
 refine ex_if rfl (fun hc=>?_) (fun hc=>?_)
 ·have hc:=dt hc
  refine exr0 (mV (L rfl) rfl (sw (core_nilCheck (by exact rfl) (L rfl)) t1 t1 ?_))
  refine sb (c_sm sz4 (by rfl) (.atom rfl) rfl pu1) t2 t1 ?_
  refine seq_nil (exr (lp2 ag24 sz24 (L rfl) rfl rfl (sb (c_sm sz24 (by rfl) pa2 rfl pu2) t2 t1 ?_)))
  refine zn [(4,_)] [(4,_),(1000,_)] t1 t2 (ex_ret ?_)
  refine ⟨.inr rfl,ResVs.cast (.cons (.agg rfl rfl rfl ag24 sz24 (.cons (.cons .nil))) .nil) ?_,⟨(by rw [hc]; cases b <;> rfl),trivial⟩⟩
  rfl
 ·have hc:=df hc
  refine exr (mV (L rfl) rfl (sw (c_n (L rfl)) t2 t0 (zn [(4,_),(5,_),(17,_)] [(4,_),(5,_),(1000,_)] t3 t3 ?_)))
  refine ex_if rfl (fun hc2=>?_) (fun hc2=>?_)
  ·exact absurd (dec_ne hc2) (by have:=parseE_cases bs; omega)
  ·refine ex_skip (show Exec _ _ _ _ _ from ?_)
   refine exr (lp2 ag24 sz24 (L rfl) rfl rfl (sb (c_sm sz24 (by rfl) pa2 rfl pu2) t2 t1 ?_))
   refine zn [(4,_)] [(4,_),(1000,_)] t1 t2 (ex_ret ?_)
   refine ⟨.inr rfl,ResVs.cast (.cons (.agg rfl rfl rfl ag24 sz24 (.cons (.cons .nil))) .nil) ?_,⟨(by rw [decide_eq_false hc,Bool.or_false]; rfl),trivial⟩⟩
   rfl
end Go.Proofs.YtcifhkfpmhifaaaGreatDoor.N
set_option maxRecDepth 100000
set_option maxHeartbeats 4000000
namespace Go.Proofs.YtcifhkfpmhifaaaGreatDoor.N
open Go Go.Proofs.YtcifhkfpmhifaaaGreatDoor.SH Go.Proofs.YtcifhkfpmhifaaaGreatDoor.NumA
open Go.Proofs.Tryz renaming isAgg28 → ag28,sizeOf24 → sz24,sizeOf26 → sz26,sizeOf28 → sz28,sizeOf92 → sz92,underlying20 → un20,underlying26 → un26,underlying92 → un92,zeroValue26 → zv26,zeroValue92 → zv92
theorem rec_ret (c₀ : Go.Frame) (cs : List Go.Frame) (hu : c₀.mode = .returning) : (recoverD (c₀ :: cs) = none ∧ Value.nilIface = .nilIface ∧ FrameMode.returning = .returning) ∨ recoverD (c₀ :: cs) = some (.nilIface,{ c₀ with mode:=.returning } :: cs) :=
 .inl ⟨by simp [recoverD,hu],rfl,rfl⟩
@[reducible] def stopU (e : Int) : FrameMode:=.panicking [{ v:=.iface 92 (.agg #[.int .i64 e]),recovered:=true }]
theorem rec_pan (e : Int) (c₀ : Go.Frame) (cs : List Go.Frame) (hu : c₀.mode = .panicking (stopV e)) : (recoverD (c₀ :: cs) = none ∧ Value.iface 92 (.agg #[.int .i64 e]) = .nilIface ∧ stopU e = .panicking (stopV e)) ∨ recoverD (c₀ :: cs) = some (.iface 92 (.agg #[.int .i64 e]),{ c₀ with mode:=stopU e } :: cs) :=
 .inr (by simp [recoverD,hu])
theorem dg_ret (B2 B3 : Blk) : DefG E 93 [.at_ 1002 0 4,.at_ 1003 0 1] [(1002,B2),(1003,B3)] [(1002,B2),(1003,B3)] .returning .returning:=by
 refine defG_of (pv:=.p (.a .nilIface)) Tryz.func93 rfl Tryz.ntmps93 Tryz.results93 (by decide) (by decide) (by decide) rec_ret (fun _ _ _ _=>by simp only [RelV,Rel]) fun F G=>?_
 have L:=lti G.nt
 have hG:=G.g
 have hX:=G.x
 have hN:=ng_le hG
 have P0:=G.p0
 refine exr (mV (L rfl) rfl (sw (core_nilNil un20 (L rfl)) t1 t0 (zn [(0,_),(1,_),(2,_),(7,_)] [(1002,_),(1003,_)] t4 t2 ?_)))
 refine ex_if rfl (fun hc=>?_) (fun hc=>?_)
 ·cases hc
 ·exact ex_skip ⟨.inl rfl,rfl,rfl,trivial⟩
theorem dg_pan (e : Int) (a b c d x : Pure) : DefG E 93 [.at_ 1002 0 4,.at_ 1003 0 1] [(1002,⟨26,4,.mix [.p a,.p b,.p c,.p d]⟩),(1003,⟨28,1,.mix [.p x]⟩)] [(1002,⟨26,4,.mix ((cR R0).map .p)⟩),(1003,⟨28,1,.mix [.p (vZ e)]⟩)] (.panicking (stopV e)) (stopU e):=by
 refine defG_of (pv:=.p (.ifc 92 (.agg [vZ e]))) Tryz.func93 rfl Tryz.ntmps93 Tryz.results93 (by decide) (by decide) (by decide) (rec_pan e) (fun _ _ _ _=>by simp only [RelV,Rel,RelL]; exact ⟨_,rfl,[.int .i64 e],rfl,⟨_,_,rfl,rfl,rfl⟩,by simp [Value.oneCell']⟩) fun F G=>?_
 have L:=lti G.nt
 have hG:=G.g
 have hX:=G.x
 have hN:=ng_le hG
 have P0:=G.p0
 refine exr (mV (L rfl) rfl (sw (core_nilVal un20 (L rfl)) t1 t0 (zn [(0,_),(1,_),(2,_),(7,_)] [(1002,_),(1003,_)] t4 t2 ?_)))
 refine ex_if rfl (fun hc=>?_) (fun hc=>?_)
 ·refine exr (mV (L rfl) rfl (sw (core_asserts un92 (L rfl)) t1 t0 (mV (L rfl) rfl (sw (c_ex rfl (L rfl)) t1 t0 (sw (c_ex rfl (L rfl)) t1 t0 (swb (c_al (k:=3) (n:=1) zv92 (.cons rfl .nil) rfl (P0 _ rfl) (L rfl)) t0 t0 ⟨rfl,rfl⟩ (sb (c_sm sz92 (by rfl) pa1 rfl pu1) t2 t1 ?_)))))))
  refine aV (L rfl) rfl (zn [(0,_),(1,_),(2,_),(3,_),(4,_)] [(3,_),(1002,_),(1003,_)] t5 t3 (ex_seq (exr (mV (L rfl) rfl (sw (c_no (L rfl)) t1 t0 (zn [(0,_),(1,_),(2,_),(3,_),(14,_)] [(3,_),(1002,_),(1003,_)] t5 t3 ?_))))))
  refine ex_if rfl (fun hc2=>?_) (fun hc2=>?_)
  ·cases hc2
  ·refine ex_skip (show Exec _ _ _ _ _ from ?_)
   refine exd0 (by rfl) ?_
   refine sw (c_pc (c_bp (vs:=[]) un26 zv26 (.cons rfl (.cons rfl (.cons rfl (.cons rfl .nil)))) ((Places.cons sz24 (Places.cons sz24 Places.nil))).to rfl .nil (.cons (.cons (.cons (.cons .nil)))) (L rfl)) (.agg (.cons .same (.cons .nil (.cons .same (.cons .nil .nil)))))) t0 t0 (sw (c_fa un92 rfl sz28 (by decide) (by exact rfl) (L rfl)) t1 t1 ?_)
   refine sw (c_l1 ag28 (by rfl) (by rfl) (L rfl)) t1 t1 ?_
   refine sb (c_sm sz26 (by rfl) pa4 rfl pu4) t2 t1 ?_
   refine sb (c_sm sz28 (by rfl) (.atom rfl) rfl pu1) t2 t1 ?_
   refine seq_nil ⟨aoks [⟨[],[],[16],[]⟩,⟨[3],[3],[17],[]⟩,⟨[17],[3],[18],[]⟩,⟨[0,16],[1002],[],[1002]⟩,⟨[1,18],[1003],[],[1003]⟩] (by rfl) (by rfl) (by decide),?_⟩
   exact ⟨.inl rfl,rfl,rfl,trivial⟩
 ·cases hc
end Go.Proofs.YtcifhkfpmhifaaaGreatDoor.N
set_option maxRecDepth 100000
set_option maxHeartbeats 4000000
namespace Go.Proofs.YtcifhkfpmhifaaaGreatDoor.N
open Go Go.Proofs.YtcifhkfpmhifaaaGreatDoor.SH Go.Proofs.YtcifhkfpmhifaaaGreatDoor.NumA
open Go.Proofs.Tryz renaming call17 → cl17,call19 → cl19,call93 → cl93,call94 → cl94,call95 → cl95,call96 → cl96,isAgg26 → ag26,isAgg28 → ag28,isAgg4 → ag4,sizeOf24 → sz24,sizeOf26 → sz26,sizeOf28 → sz28,sizeOf4 → sz4,underlying26 → un26,underlying92 → un92,zeroValue26 → zv26,zeroValue28 → zv28,zeroValue4 → zv4,zeroValue92 → zv92
def RN (n d : Int) : RQ:=⟨decide (n < 0),digs n.natAbs,decide (d < 0),digs d.natAbs⟩
theorem RN_is (n d : Int) : (RN n d).is = decide (0 < d ∧ (Int.gcd n d : Int) = 1):=by
 simp only [RQ.is,RN,canon_digs,sg_of,Bool.true_and]
theorem RN_of {n d : Int} (hd : 0 < d) (hg : (Int.gcd n d : Int) = 1) : RQ.of (Rat.divInt n d) = RN n d:=by
 have h:=pN_of hd hg
 have h2 : Pure.agg (cR (RN n d)) = .agg (cR (RQ.of (Rat.divInt n d))):=h
 have e1 : (Rat.divInt n d).num = n:=by
  have h1 : sgcd n d = 1:=by rw [sgcd,if_neg (by omega)]; exact hg
  have:=ovr_num (n:=n) (d:=d) (by omega)
  rw [this,h1,Int.ediv_one]
 have e2 : ((Rat.divInt n d).den : Int) = d:=by
  have h1 : sgcd n d = 1:=by rw [sgcd,if_neg (by omega)]; exact hg
  have:=ovr_den (n:=n) (d:=d) (by omega)
  rw [this,h1,Int.ediv_one]
 rw [RQ.of,RN,e1,e2]
def pqL (bs : List UInt8) : Bool:=decide (parseE (ab bs) = 2) || (decide (cutN bs < bs.length) && decide (parseE (be bs) = 2))
def pqR (bs : List UInt8) : RQ:=RN (parseV (ab bs)) (if cutN bs < bs.length then parseV (be bs) else 1)
theorem itoa0 : Lib.itoa 0 = [48]:=by rw [Lib.itoa,if_neg (by decide)]; exact dec_small (by decide)
theorem itoa1 : Lib.itoa 1 = [49]:=by rw [Lib.itoa,if_neg (by decide)]; exact dec_small (by decide)
theorem parse48 : parseE [48] = 0 ∧ parseV [48] = 0:=itoa0 ▸ parse_itoa (a:=0) (by rw [nw_zero.2 rfl]; decide)
theorem parse49 : parseE [49] = 0 ∧ parseV [49] = 1:=itoa1 ▸ parse_itoa (a:=1) (by rw [nw_one]; decide)
theorem pq_pre {bs : List UInt8} (h : cutN bs < bs.length ∧ (be bs = [48] ∨ be bs = [49] ∨ pNeg (be bs) = true)) : pqE bs = 3:=by
 obtain ⟨hb,h⟩:=h
 rw [pqE]
 split
 ·rfl
 ·rw [if_neg (by omega),if_pos]
  rw [pqBad,decide_eq_true_eq]
  rcases h with h | h | h
  ·rw [h]; exact .inr (.inr (.inr parse48))
  ·rw [h]; exact .inr (.inr (.inl parse49.2))
  ·exact .inr (.inl h)
theorem pq_a {bs : List UInt8} (h : parseE (ab bs) = 3) : pqE bs = 3:=by rw [pqE,if_pos h]
theorem pq_b {bs : List UInt8} (hb : cutN bs < bs.length) (h : parseE (be bs) = 3) : pqE bs = 3:=by
 rw [pqE]
 split
 ·rfl
 ·rw [if_neg (by omega),if_pos]
  rw [pqBad,decide_eq_true_eq]
  exact .inl h
theorem pq_fin {bs : List UInt8} (ha : parseE (ab bs) ≠ 3) (hp : ¬ (cutN bs < bs.length ∧ (be bs = [48] ∨ be bs = [49] ∨ pNeg (be bs) = true))) (hbe : cutN bs < bs.length → parseE (be bs) ≠ 3) :
  (pqL bs = true ∧ pqE bs = 2) ∨ (pqL bs = false ∧ (pqR bs).is = true ∧ pqE bs = 0 ∧ pqV bs = pqR bs) ∨ (pqL bs = false ∧ (pqR bs).is = false ∧ pqE bs = 3):=by
 have hcl:=cutN_le bs
 have ca:=parseE_cases (ab bs)
 have cb:=parseE_cases (be bs)
 by_cases hb : cutN bs < bs.length
 ·have hne : ¬ cutN bs = bs.length:=by omega
  have hbe:=hbe hb
  have hng : pNeg (be bs) = false:=by
   cases e : pNeg (be bs) with
   | false=>rfl
   | true=>exact absurd ⟨hb,.inr (.inr e)⟩ hp
  have hv1 : parseV (be bs) ≠ 1:=fun e=>by
   have h0 : parseE (be bs) = 0:=by
    by_cases h0 : parseE (be bs) = 0
    ·exact h0
    ·rw [parseV,if_neg h0] at e; cases e
   have:=itoa_parse h0
   rw [e,itoa1] at this
   exact hp ⟨hb,.inr (.inl this.symm)⟩
  have hv0 : parseE (be bs) = 0 → parseV (be bs) ≠ 0:=fun h0 e=>by
   have:=itoa_parse h0
   rw [e,itoa0] at this
   exact hp ⟨hb,.inl this.symm⟩
  have hbad : pqBad bs = false:=by
   rw [pqBad]
   refine decide_eq_false ?_
   rintro (h | h | h | h)
   ·exact hbe h
   ·rw [hng] at h; cases h
   ·exact hv1 h
   ·exact hv0 h.1 h.2
  have hE : pqE bs = if parseE (ab bs) ≠ 0 ∨ parseE (be bs) ≠ 0 then 2 else if (Int.gcd (parseV (ab bs)) (parseV (be bs)) : Int) = 1 then 0 else 3:=by
   rw [pqE,if_neg ha,if_neg hne,hbad,if_neg (by decide)]
  by_cases hl : parseE (ab bs) ≠ 0 ∨ parseE (be bs) ≠ 0
  ·refine .inl ⟨?_,by rw [hE,if_pos hl]⟩
   rw [pqL,decide_eq_true hb,Bool.true_and,Bool.or_eq_true,decide_eq_true_eq,decide_eq_true_eq]
   omega
  ·rw [if_neg hl] at hE
   have e1 : parseE (ab bs) = 0:=by omega
   have e2 : parseE (be bs) = 0:=by omega
   have hL : pqL bs = false:=by rw [pqL,e1,e2]; simp
   have hd:=parse_pos hng (hv0 e2)
   have hR : pqR bs = RN (parseV (ab bs)) (parseV (be bs)):=by rw [pqR,if_pos hb]
   right
   by_cases hg : (Int.gcd (parseV (ab bs)) (parseV (be bs)) : Int) = 1
   ·rw [if_pos hg] at hE
    refine .inl ⟨hL,?_,hE,?_⟩
    ·rw [hR,RN_is]; exact decide_eq_true ⟨hd,hg⟩
    ·rw [pqV,if_pos hE,if_neg hne,RN_of hd hg,hR]
   ·rw [if_neg hg] at hE
    refine .inr ⟨hL,?_,hE⟩
    rw [hR,RN_is]; exact decide_eq_false (fun c=>hg c.2)
 ·have he : cutN bs = bs.length:=by omega
  have hE : pqE bs = parseE (ab bs):=by rw [pqE,if_neg ha,if_pos he]
  have hR : pqR bs = RN (parseV (ab bs)) 1:=by rw [pqR,if_neg hb]
  rcases ca with c | c | c
  ·right; left
   refine ⟨by rw [pqL,c,decide_eq_false hb]; rfl,?_,by rw [hE,c],?_⟩
   ·rw [hR,RN_is]; exact decide_eq_true ⟨by decide,by rw [Int.gcd_one]; rfl⟩
   ·rw [pqV,if_pos (by rw [hE,c]),if_pos he,hR]; rfl
  ·exact .inl ⟨by rw [pqL,c]; rfl,by rw [hE,c]⟩
  ·exact absurd c ha
@[reducible] def pqH (bs : List UInt8) : List (Nat × Blk):=[(1002,⟨26,4,.mix ((cR (pqV bs)).map .p)⟩),(1003,⟨28,1,.mix [.p (vZ (pqE bs))]⟩)]
theorem dpost_pan {bs : List UInt8} {e : Int} {S : St} {a b c d x : Pure} (he : pqE bs = e) (h0 : e ≠ 0) (h1 : S.slot 2 = some (.at_ 1002 0 4)) (h2 : S.slot 3 = some (.at_ 1003 0 1)) (h3 : S.blk 1002 = some ⟨26,4,.mix [.p a,.p b,.p c,.p d]⟩) (h4 : S.blk 1003 = some ⟨28,1,.mix [.p x]⟩) :
  DPost E 93 2 3 1002 1003 4 1 (pqH bs) (.panic (stopV e)) S:=by
 have hH : pqH bs = [(1002,⟨26,4,.mix ((cR R0).map .p)⟩),(1003,⟨28,1,.mix [.p (vZ e)]⟩)]:=by
  have : pqV bs = R0:=by rw [pqV,if_neg (by rw [he]; exact h0)]
  rw [pqH,this,he]
 exact ⟨h1,h2,_,_,_,_,.inr ⟨_,rfl,rfl⟩,⟨h3,h4,trivial⟩,rfl,rfl,hH ▸ dg_pan e a b c d x,rfl⟩
theorem dpost_ret {bs : List UInt8} {S : St} (h1 : S.slot 2 = some (.at_ 1002 0 4)) (h2 : S.slot 3 = some (.at_ 1003 0 1)) (h3 : S.blk 1002 = some ⟨26,4,.mix ((cR (pqV bs)).map .p)⟩) (h4 : S.blk 1003 = some ⟨28,1,.mix [.p (vZ (pqE bs))]⟩) :
  DPost E 93 2 3 1002 1003 4 1 (pqH bs) .ret S :=
 ⟨h1,h2,_,_,_,_,.inl ⟨.inr rfl,rfl⟩,⟨h3,h4,trivial⟩,rfl,rfl,dg_ret _ _,rfl⟩
theorem pb4 (p q r : Prop) : ¬ p ∨ (p ∧ q) ∨ (p ∧ ¬ q ∧ r) ∨ (p ∧ ¬ q ∧ ¬ r):=by
 by_cases p <;> by_cases q <;> by_cases r <;> simp [*]
theorem pqH_n {bs : List UInt8} (j : Nat) (h : (pqH bs).lookup j ≠ none) : j = 1002 ∨ j = 1003:=by
 by_cases e : j = 1002
 ·exact .inl e
 ·by_cases e2 : j = 1003
  ·exact .inr e2
  ·exact absurd (by simp [pqH,List.lookup_cons,show (j == 1002) = false by simpa using e,show (j == 1003) = false by simpa using e2]) h
theorem args2 {S : St} {o1 o2 : Operand} {y : Pure} (h : S.opd o1 = some (.p y)) : ∀ (i : Nat) (x : PV) (o : Operand),[PV.p y,PV.dead][i]? = some x → [o1,o2][i]? = some o → x = .dead ∨ ∃ y,x = .p y ∧ S.opd o = some (.p y)
 | 0,x,o,h1,h2=>by injection h1 with h1; injection h2 with h2; subst h1 h2; exact .inr ⟨y,rfl,h⟩
 | 1,x,o,h1,h2=>by injection h1 with h1; subst h1; exact .inl rfl
 | n + 2,x,o,h1,h2=>by simp at h1
theorem qparse_says (bs : List UInt8) (hl : bs.length < 100000) : Says E 50 [pS bs] (.tup [.agg (cR (pqV bs)),vZ (pqE bs)]):=by
 refine says_defer (H':=pqH bs) (xs:=[.agg (cR (pqV bs)),vZ (pqE bs)]) (args:=[pS bs]) (k2:=1002) (k3:=1003) (n2:=4) (n3:=1) (fun w h=>ng_le h) Tryz.func50 rfl Tryz.ntmps50 Tryz.results50 (by simp) zv26 (.cons rfl (.cons rfl (.cons rfl (.cons rfl .nil)))) rfl zv28 (.cons rfl .nil) rfl (by simp) (by simp) (by simp) (by decide) (by decide) (by decide) (by decide) cl93 rfl rfl pqH_n rfl rfl (.cons (.agg rfl rfl rfl ag26 sz26 (.cons (.cons (.cons (.cons .nil))))) (.cons (.one rfl rfl ag28) .nil)) fun F hG hX0 hnt P0 hro=>?_
 obtain ⟨L,hX,hN⟩:=pro hnt hX0 hG
 have hcl:=cutN_le bs
 have la : (ab bs).length ≤ bs.length:=by simp only [ab,List.length_take]; omega
 have lb : (be bs).length ≤ bs.length:=by simp only [be,List.length_drop]; omega
 have na:=nw_parse (ab bs)
 have nb:=nw_parse (be bs)
 refine exr (mV (L rfl) rfl (cK hG hX cl94 hN (scut_says bs (by omega)) (L rfl) t2 ?_))
 refine mV (L rfl) rfl (sw (c_ex rfl (L rfl)) t1 t0 (sw (c_ex rfl (L rfl)) t1 t0 (sw (c_ex rfl (L rfl)) t1 t0 (aV (L rfl) rfl (aV (L rfl) rfl (aV (L rfl) rfl (zn [(2,_),(3,_),(4,_),(5,_),(6,_)] [(1002,_),(1003,_)] t5 t2 (ex_seq ?_))))))))
 refine exm (sl:=[(27,vb (decide (cutN bs < bs.length ∧ (be bs = [48] ∨ be bs = [49] ∨ pNeg (be bs) = true))))]) (sl0:=[(2,_),(3,_),(4,_),(5,_),(6,_)]) (hb:=[]) (hb0:=[(1002,_),(1003,_)]) t5 t2 ?_ ?_
 ·rcases pb4 (cutN bs < bs.length) (be bs = [48]) (be bs = [49]) with hb | ⟨hb,h0⟩ | ⟨hb,h0,h1⟩ | ⟨hb,h0,h1⟩
  ·refine mV (L rfl) rfl (mV (L rfl) rfl (swn (g:=16) rfl (decide_eq_false hb) (L rfl) rfl (swn (g:=16) rfl (decide_eq_false hb) (L rfl) rfl (swn (g:=16) rfl (decide_eq_false hb) (L rfl) rfl (swu (g:=19) rfl (L rfl) rfl (swu (g:=19) rfl (L rfl) rfl (swn (g:=16) rfl (decide_eq_false hb) (L rfl) rfl (swn (g:=16) rfl (decide_eq_false hb) (L rfl) rfl (swu (g:=23) rfl (L rfl) rfl (swu (g:=23) rfl (L rfl) rfl (swn (g:=16) rfl (decide_eq_false hb) (L rfl) rfl ?_)))))))))))
   refine sw (c_pf (decide_eq_false hb) (L rfl)) t2 t0 ?_
   exact seq_nil ⟨⟨ob rfl (decide_eq_false (fun c=>hb c.1)).symm,rfl,rfl,rfl,rfl,rfl,trivial⟩,t2⟩
  ·refine mV (L rfl) rfl (mV (L rfl) rfl (gV (g:=16) rfl (decide_eq_true hb) (L rfl) rfl rfl (swg (g:=16) rfl (decide_eq_true hb) (c_se (L rfl)) rfl t2 t0 (gV (g:=16) rfl (decide_eq_true hb) (L rfl) rfl rfl (swn (g:=19) rfl (decide_eq_true h0) (L rfl) rfl (swn (g:=19) rfl (decide_eq_true h0) (L rfl) rfl (swg (g:=16) rfl (decide_eq_true hb) (c_pt (decide_eq_true h0) (L rfl)) rfl t2 t0 (gV (g:=16) rfl (decide_eq_true hb) (L rfl) rfl rfl (swn (g:=23) rfl rfl (L rfl) rfl (swn (g:=23) rfl rfl (L rfl) rfl (swg (g:=16) rfl (decide_eq_true hb) (c_pt rfl (L rfl)) rfl t2 t0 ?_)))))))))))
   refine sw (c_pt (decide_eq_true hb) (L rfl)) t2 t0 ?_
   exact seq_nil ⟨⟨ob rfl (decide_eq_true ⟨hb,.inl h0⟩).symm,rfl,rfl,rfl,rfl,rfl,trivial⟩,t2⟩
  ·refine mV (L rfl) rfl (mV (L rfl) rfl (gV (g:=16) rfl (decide_eq_true hb) (L rfl) rfl rfl (swg (g:=16) rfl (decide_eq_true hb) (c_se (L rfl)) rfl t2 t0 (gV (g:=16) rfl (decide_eq_true hb) (L rfl) rfl rfl (gV (g:=19) rfl (decide_eq_false h0) (L rfl) rfl rfl (swg (g:=19) rfl (decide_eq_false h0) (c_se (L rfl)) rfl t2 t0 (swg (g:=16) rfl (decide_eq_true hb) (c_pf (decide_eq_false h0) (L rfl)) rfl t2 t0 (gV (g:=16) rfl (decide_eq_true hb) (L rfl) rfl rfl (swn (g:=23) rfl (decide_eq_true h1) (L rfl) rfl (swn (g:=23) rfl (decide_eq_true h1) (L rfl) rfl (swg (g:=16) rfl (decide_eq_true hb) (c_pt (decide_eq_true h1) (L rfl)) rfl t2 t0 ?_)))))))))))
   refine sw (c_pt (decide_eq_true hb) (L rfl)) t2 t0 ?_
   exact seq_nil ⟨⟨ob rfl (decide_eq_true ⟨hb,.inr (.inl h1)⟩).symm,rfl,rfl,rfl,rfl,rfl,trivial⟩,t2⟩
  ·refine mV (L rfl) rfl (mV (L rfl) rfl (gV (g:=16) rfl (decide_eq_true hb) (L rfl) rfl rfl (swg (g:=16) rfl (decide_eq_true hb) (c_se (L rfl)) rfl t2 t0 (gV (g:=16) rfl (decide_eq_true hb) (L rfl) rfl rfl (gV (g:=19) rfl (decide_eq_false h0) (L rfl) rfl rfl (swg (g:=19) rfl (decide_eq_false h0) (c_se (L rfl)) rfl t2 t0 (swg (g:=16) rfl (decide_eq_true hb) (c_pf (decide_eq_false h0) (L rfl)) rfl t2 t0 (gV (g:=16) rfl (decide_eq_true hb) (L rfl) rfl rfl (gV (g:=23) rfl (decide_eq_false h1) (L rfl) rfl rfl (swg (g:=23) rfl (decide_eq_false h1) (c_c hG hX cl95 rfl hN (shp_says (be bs)) (L rfl)) rfl t2 t0 (swg (g:=16) rfl (decide_eq_true hb) (c_pf (decide_eq_false h1) (L rfl)) rfl t2 t0 ?_)))))))))))
   refine sw (c_pt (decide_eq_true hb) (L rfl)) t2 t0 ?_
   exact seq_nil ⟨⟨ob rfl (by rw [Bool.eq_iff_iff,decide_eq_true_iff]; exact ⟨fun c=>⟨hb,.inr (.inr c)⟩,fun c=>(c.2.resolve_left h0).resolve_left h1⟩),rfl,rfl,rfl,rfl,rfl,trivial⟩,t2⟩
 refine ex_if rfl (fun hp=>?_) (fun hp=>?_)
 ·refine exrX 2 (ch:=stopV 3) rfl rfl (nsw (c_bp (vs:=[_]) un92 zv92 (.cons rfl .nil) ((Places.cons sz28 Places.nil)).to rfl (.cons rfl (.atom rfl) rfl pu1 .nil) (.cons .nil) (L rfl)) t1 t0 (nsw (core_mkIface un92 (L rfl)) t1 t0 ?_))
  refine .nil ⟨opX_panic (stopR 3) rfl,?_⟩
  exact dpost_pan (pq_pre (dt hp)) (by decide) rfl rfl rfl rfl
 ·have hp:=df hp
  refine ex_skip (show Exec _ _ _ _ _ from ?_)
  refine exr (swb (c_al (k:=7) (n:=1) zv4 (.cons rfl .nil) rfl (P0 _ rfl) (L rfl)) t0 t0 ⟨rfl,rfl⟩ (sb (c_sm sz4 (by rfl) (.atom rfl) rfl pu1) t2 t1 ?_))
  refine zn [(2,_),(3,_),(4,_),(5,_),(6,_),(7,_)] [(7,_),(1002,_),(1003,_)] t6 t3 ?_
  by_cases ha : parseE (ab bs) = 3
  ·refine ex_seq (exrX 1 (ch:=stopV 3) rfl rfl (nsw (c_m (L rfl)) t1 t0 ?_))
   refine .nil ⟨opX_call hG hX cl96 hN (int_bad (ab bs) (by omega) ha) rfl (args2 rfl),?_⟩
   exact dpost_pan (pq_a ha) (by decide) rfl rfl rfl rfl
  ·refine exr (mV (L rfl) rfl (swB (c_cx hG hX [7] hN (int_ok false (ab bs) (by omega) ha) rfl (args_fn (ys:=[_,_]) cl96 rfl (by rfl)) (by rfl) (by rfl) (by rfl) (by rfl) (SameH.to (.cons rfl .nil)) (by rfl) (by rfl) (L rfl)) t2 t1 ?_))
   refine cK hG hX cl17 hN (qwhole_says (parseV (ab bs))) (L rfl) t1 (sb (c_sm sz26 (by rfl) pa4 rfl pu4) t2 t1 ?_)
   refine zn [(2,_),(3,_),(5,_),(6,_),(7,_)] [(7,_),(1002,_),(1003,_)] t5 t3 (ex_seq (exr (mV (L rfl) rfl (zn [(2,_),(3,_),(5,_),(7,_),(33,_)] [(7,_),(1002,_),(1003,_)] t5 t3 ?_))))
   by_cases hbe : cutN bs < bs.length ∧ parseE (be bs) = 3
   ·refine ex_if rfl (fun hb=>?_) (fun hb=>?_)
    ·refine exrX 1 (ch:=stopV 3) rfl rfl (nsw (c_m (L rfl)) t1 t0 ?_)
     refine .nil ⟨opX_call hG hX cl96 hN (int_bad (be bs) (by omega) hbe.2) rfl (args2 rfl),?_⟩
     exact dpost_pan (pq_b hbe.1 hbe.2) (by decide) rfl rfl rfl rfl
    ·exact absurd hbe.1 (df hb)
   ·refine ex_cut (sl:=[]) (sl0:=[(2,_),(3,_),(7,_)]) (hb:=[(7,bL (pqL bs)),(1002,⟨26,4,.mix ((cR (pqR bs)).map .p)⟩)]) (hb0:=[(1003,_)]) t3 t1 ?_ ?_
    ·refine ex_if rfl (fun hb=>?_) (fun hb=>?_)
     ·have hb:=dt hb
      refine exr0 (mV (L rfl) rfl (swB (c_cx hG hX [7] hN (int_ok (false || decide (parseE (ab bs) = 2)) (be bs) (by omega) (fun c=>hbe ⟨hb,c⟩)) rfl (args_fn (ys:=[_,_]) cl96 rfl (by rfl)) (by rfl) (by rfl) (by rfl) (by rfl) (SameH.to (.cons rfl .nil)) (by rfl) (by rfl) (L rfl)) t2 t1 ?_))
      refine sw (c_fa un26 rfl sz24 (by decide) (by exact rfl) (L rfl)) t1 t1 ?_
      refine sb (c_sm sz24 (by rfl) pa2 rfl (.skip (.skip pu2))) t2 t1 ?_
      refine seq_nil ?_
      exact ⟨⟨(by first | exact rfl | exact oi (by omega) rfl),(by first | exact rfl | exact oi (by omega) rfl),(by first | exact rfl | exact oi (by omega) rfl),trivial⟩,⟨(by rw [pqL,decide_eq_true hb,Bool.true_and]; rfl),(by rw [pqR,if_pos hb]; rfl),rfl,trivial⟩⟩
     ·have hb:=df hb
      refine ex_skip ?_
      exact ⟨⟨(by first | exact rfl | exact oi (by omega) rfl),(by first | exact rfl | exact oi (by omega) rfl),(by first | exact rfl | exact oi (by omega) rfl),trivial⟩,⟨(by rw [pqL,decide_eq_false hb,Bool.false_and,Bool.or_false]; rfl),(by rw [pqR,if_neg hb]; rfl),rfl,trivial⟩⟩
    ·rcases pq_fin ha hp (fun c e=>hbe ⟨c,e⟩) with ⟨e1,e2⟩ | e3
     ·rw [e1]
      refine ex_seq (ex_block (exr (sw (c_l1 ag4 (by rfl) (by rfl) (L rfl)) t1 t1 ?_)))
      refine aV (L rfl) rfl (zn [(2,_),(3,_),(37,_)] [(1002,_),(1003,_)] t3 t2 ?_)
      refine ex_if rfl (fun hq=>?_) (fun hq=>?_)
      ·refine exrX 2 (ch:=stopV 2) rfl rfl (nsw (c_bp (vs:=[_]) un92 zv92 (.cons rfl .nil) ((Places.cons sz28 Places.nil)).to rfl (.cons rfl (.atom rfl) rfl pu1 .nil) (.cons .nil) (L rfl)) t1 t0 (nsw (core_mkIface un92 (L rfl)) t1 t0 ?_))
       refine .nil ⟨opX_panic (stopR 2) rfl,?_⟩
       exact dpost_pan e2 (by decide) rfl rfl rfl rfl
      ·cases hq
     ·have e1 : pqL bs = false:=e3.elim And.left And.left
      rw [e1]
      refine ex_seq (ex_block (exr (sw (c_l1 ag4 (by rfl) (by rfl) (L rfl)) t1 t1 ?_)))
      refine aV (L rfl) rfl (zn [(2,_),(3,_),(37,_)] [(1002,_),(1003,_)] t3 t2 ?_)
      refine ex_if rfl (fun hq=>?_) (fun hq=>?_)
      ·cases hq
      ·refine exr (lp4 ag26 sz26 (L rfl) rfl rfl (cK hG hX cl19 hN (qis_says (r:=pqR bs) ⟨wd_digs _,wd_digs _⟩ (by show nw _ < _; omega) (by show nw _ < _; split <;> (try rw [nw_one]); all_goals omega)) (L rfl) t1 ?_))
       refine sw (c_no (L rfl)) t1 t0 (aV (L rfl) rfl (zn [(2,_),(3,_),(41,_)] [(1002,_),(1003,_)] t3 t2 ?_))
       rcases e3 with ⟨-,i1,i2,i3⟩ | ⟨-,i1,i2⟩
       ·rw [i1]
        refine ex_if rfl (fun hq=>?_) (fun hq=>?_)
        ·cases hq
        ·refine ex_skip (show Exec _ _ _ _ _ from ?_)
         refine exr (lp4 ag26 sz26 (L rfl) rfl rfl (sb (c_sm sz26 (by rfl) pa4 rfl pu4) t2 t1 ?_))
         refine sb (c_sm sz28 (by rfl) (.atom rfl) rfl pu1) t2 t1 ?_
         refine zn [(2,_),(3,_)] [(1002,_),(1003,_)] t2 t2 (ex_ret ?_)
         exact dpost_ret rfl rfl (by rw [i3]; rfl) (by rw [i2]; rfl)
       ·rw [i1]
        refine ex_if rfl (fun hq=>?_) (fun hq=>?_)
        ·refine exrX 2 (ch:=stopV 3) rfl rfl (nsw (c_bp (vs:=[_]) un92 zv92 (.cons rfl .nil) ((Places.cons sz28 Places.nil)).to rfl (.cons rfl (.atom rfl) rfl pu1 .nil) (.cons .nil) (L rfl)) t1 t0 (nsw (core_mkIface un92 (L rfl)) t1 t0 ?_))
         refine .nil ⟨opX_panic (stopR 3) rfl,?_⟩
         exact dpost_pan i2 (by decide) rfl rfl rfl rfl
        ·cases hq
end Go.Proofs.YtcifhkfpmhifaaaGreatDoor.N
set_option maxRecDepth 100000
set_option maxHeartbeats 4000000
namespace Go.Proofs.YtcifhkfpmhifaaaGreatDoor.N
open Go Go.Proofs.YtcifhkfpmhifaaaGreatDoor.SH Go.Proofs.YtcifhkfpmhifaaaGreatDoor.NumA
theorem cutN_none {bs : List UInt8} (h : ∀ c ∈ bs,c.toNat ≠ 47) : cutN bs = bs.length:=by
 induction bs with
 | nil=>rfl
 | cons c l ih =>
  rw [cutN,if_neg (h c (by simp)),ih (fun c hc=>h c (by simp [hc]))]; rfl
theorem cutN_app {xs l : List UInt8} (h : ∀ c ∈ xs,c.toNat ≠ 47) : cutN (xs ++ 47 :: l) = xs.length:=by
 induction xs with
 | nil=>rfl
 | cons c xs ih =>
  rw [List.cons_append,cutN,if_neg (h c (by simp)),ih (fun c hc=>h c (by simp [hc]))]; rfl
theorem itoa_no {n : Int} : ∀ c ∈ Lib.itoa n,c.toNat ≠ 47:=by
 have hd : ∀ u,∀ c ∈ Lib.decDigits u,c.toNat ≠ 47:=fun u c hc=>by
  obtain ⟨d,-⟩:=dec_digits u u (Nat.le_refl _)
  obtain ⟨i,hi,rfl⟩:=List.getElem_of_mem hc
  have:=d.get (i:=i) hi
  rw [List.getD_eq_getElem?_getD,List.getElem?_eq_getElem hi,Option.getD_some] at this
  omega
 rw [Lib.itoa]
 split
 ·intro c hc
  rcases List.mem_cons.1 hc with rfl | hc
  ·decide
  ·exact hd _ c hc
 ·exact fun c hc=>hd _ c hc
theorem itoa_neg {n : Int} : pNeg (Lib.itoa n) = decide (n < 0):=by
 have hp : ∀ u,0 < (Lib.decDigits u).length:=dec_pos
 rw [Lib.itoa]
 split
 ·rename_i h; rw [decide_eq_true h]; simp [pNeg]
 ·rename_i h
  rw [decide_eq_false h,pNeg]
  refine decide_eq_false fun c=>?_
  obtain ⟨d,-⟩:=dec_digits n.toNat n.toNat (Nat.le_refl _)
  have:=d.get (i:=0) (hp _)
  omega
theorem parse_print {a : Rat} (h1 : nw a.num ≤ 1000) (h2 : nw (a.den : Int) ≤ 1000) : pqE (printQ a) = 0 ∧ pqV (printQ a) = RQ.of a:=by
 obtain ⟨e1,v1⟩:=parse_itoa h1
 obtain ⟨e2,v2⟩:=parse_itoa h2
 have hp:=a.den_pos
 have hg : (Int.gcd a.num a.den : Int) = 1:=by
  have:=a.reduced
  unfold Nat.Coprime at this
  unfold Int.gcd
  exact_mod_cast this
 by_cases hd : (a.den : Int) = 1
 ·have hP : printQ a = Lib.itoa a.num:=by rw [printQ,if_pos hd]
  have hc:=cutN_none (itoa_no (n:=a.num))
  have hab : ab (Lib.itoa a.num) = Lib.itoa a.num:=by rw [ab,hc,List.take_length]
  have hE : pqE (Lib.itoa a.num) = 0:=by rw [pqE,hab,e1,if_neg (by decide),if_pos hc]
  rw [hP]
  refine ⟨hE,?_⟩
  rw [pqV,if_pos hE,if_pos hc,hab,v1]
  congr 1
  have:=Rat.mkRat_self a
  have hd' : a.den = 1:=by exact_mod_cast hd
  apply Rat.ext
  ·rw [Rat.num_intCast]
  ·rw [Rat.den_intCast,hd']
 ·have hP : printQ a = Lib.itoa a.num ++ 47 :: Lib.itoa a.den:=by rw [printQ,if_neg hd]
  have hc:=cutN_app (xs:=Lib.itoa a.num) (l:=Lib.itoa a.den) itoa_no
  have hne : ¬ cutN (Lib.itoa a.num ++ 47 :: Lib.itoa a.den) = (Lib.itoa a.num ++ 47 :: Lib.itoa a.den).length:=by rw [hc,List.length_append,List.length_cons]; omega
  have hab : ab (Lib.itoa a.num ++ 47 :: Lib.itoa a.den) = Lib.itoa a.num:=by rw [ab,hc,List.take_left]
  have hbe : be (Lib.itoa a.num ++ 47 :: Lib.itoa a.den) = Lib.itoa a.den:=by
   rw [be,hc,← List.drop_drop,List.drop_left]; rfl
  have hbad : pqBad (Lib.itoa a.num ++ 47 :: Lib.itoa a.den) = false:=by
   rw [pqBad,hbe,e2,v2,itoa_neg]
   refine decide_eq_false ?_
   rintro (h | h | h | ⟨-,h⟩)
   ·cases h
   ·exact absurd (of_decide_eq_true h) (by omega)
   ·exact hd h
   ·omega
  have hE : pqE (Lib.itoa a.num ++ 47 :: Lib.itoa a.den) = 0:=by
   rw [pqE,hab,e1,if_neg (by decide),if_neg hne,hbad,if_neg (by decide),hbe,e2,if_neg (by simp),v1,v2,if_pos hg]
  rw [hP]
  refine ⟨hE,?_⟩
  rw [pqV,if_pos hE,if_neg hne,hab,hbe,v1,v2,Rat.num_divInt_den]
end Go.Proofs.YtcifhkfpmhifaaaGreatDoor.N
set_option maxRecDepth 100000
set_option maxHeartbeats 4000000
namespace Go.Proofs.YtcifhkfpmhifaaaGreatDoor.N
open Go Go.Proofs.YtcifhkfpmhifaaaGreatDoor.SH Go.Proofs.YtcifhkfpmhifaaaGreatDoor.NumA
open Go.Proofs.Tryz renaming call11 → cl11,call13 → cl13,call16 → cl16,call17 → cl17,call19 → cl19,call22 → cl22,call24 → cl24,call26 → cl26,call28 → cl28,call30 → cl30,call31 → cl31,call33 → cl33,call35 → cl35,call37 → cl37,call40 → cl40,call42 → cl42,call45 → cl45,call46 → cl46,call49 → cl49,call50 → cl50,call52 → cl52,isAgg24 → ag24,isAgg26 → ag26,sizeOf24 → sz24,sizeOf26 → sz26,typeInfo26 → ti26,underlying47 → un47,underlying48 → un48,zeroValue24 → zv24,zeroValue26 → zv26
theorem qw_sm {a : Rat} (h : (decide (a.num.natAbs < 4294967296) && decide (a.den < 4294967296)) = true) : qw a ≤ 1:=by
 rw [Bool.and_eq_true,decide_eq_true_eq,decide_eq_true_eq] at h
 have h1 : nw a.num ≤ 1:=nw_le (by rw [Int.pow_succ,Int.pow_zero]; omega)
 have h2 : nw (a.den : Int) ≤ 1:=nw_le (by rw [Int.pow_succ,Int.pow_zero]; omega)
 unfold qw; omega
theorem qw_sm9 {a : Rat} (h : (decide (a.num.natAbs < 4294967296) && decide (a.den < 4294967296)) = true) : qw a < 1000000000:=Nat.lt_of_le_of_lt (qw_sm h) (by decide)
def kq (n d : Int) : Rat:=Rat.divInt n d
theorem k_of (n d : Int) (h : (decide (-9223372036854775808 ≤ n) && decide (n < 9223372036854775808) && decide (-9223372036854775808 ≤ d) && decide (d < 9223372036854775808) && decide (d ≠ 0)) = true) : Says E 49 [vZ n,vZ d] (pQ (kq n d)):=by
 simp only [Bool.and_eq_true,decide_eq_true_eq] at h
 exact lof_says n d h.1.1.1.1 h.1.1.1.2 h.1.1.2 h.1.2 h.2
theorem k_same {a b : Rat} (ha : qw a < 1000000000) (hb : qw b < 1000000000) (h : a = b) : Says E 16 [pQ a,pQ b] (bZ true):=by
 have:=rqsame_says a b ha hb
 rwa [decide_eq_true h] at this
theorem mkE_z (n d : Int) : mkE (zP n) (zP d) = if d = 0 then 5 else 0:=by
 rw [mkE,if_pos ⟨canon_digs _,canon_digs _⟩]
 simp only [sg_of]
theorem mkR_z {n d : Int} (h : d ≠ 0) : mkR (zP n) (zP d) = RQ.of (Rat.divInt n d):=by
 rw [mkR,mkE_z,if_neg h,if_pos rfl]
 simp only [sg_of]
theorem k_zsame (a : Int) (h : nw a < 10000000000000) : Says E 30 [pZ a,pZ a] (bZ true):=by
 have:=rsame_says (decide (a < 0)) (decide (a < 0)) (digs a.natAbs) (digs a.natAbs) h h
 rwa [show decide (decide (a < 0) = decide (a < 0) ∧ digs a.natAbs = digs a.natAbs) = true from decide_eq_true ⟨rfl,rfl⟩] at this
theorem nw_sm {a : Int} (h : a.natAbs < 4294967296) : nw a < 10000000000000:=Nat.lt_of_le_of_lt (nw_le (k:=1) (by rw [Int.pow_succ,Int.pow_zero]; omega)) (by decide)
theorem k_off : Says E 11 [vZ 6,vZ (-4)] (.tup [pQ (kq 6 (-4)),vZ 0]):=by
 have:=qof_says 6 (-4) (by decide) (by decide) (by decide) (by decide)
 rw [mkE_z,mkR_z (by decide)] at this
 exact this
theorem k_make : Says E 13 [pZ 6,pZ (-4)] (.tup [pQ (kq 6 (-4)),vZ 0]):=make_z 6 (-4) (by decide) (Nat.lt_of_le_of_lt (nw_le (k:=1) (by decide)) (by decide)) (Nat.lt_of_le_of_lt (nw_le (k:=1) (by decide)) (by decide))
theorem k_div : Says E 22 [pQ (kq 1 2),pQ (kq (-1) 4)] (.tup [pQ (kq 1 2 / kq (-1) 4),vZ 0]):=qdiv_says _ _ (qw_sm9 (by decide +kernel)) (qw_sm9 (by decide +kernel)) (by decide +kernel)
theorem k_pow : Says E 40 [pQ (kq (-2) 3),vZ (-3)] (.tup [pQ (kq (-2) 3 ^ (-3 : Int)),vZ 0]):=by
 have:=qpow_says (kq (-2) 3) (-3) (Nat.lt_of_le_of_lt (qw_sm (by decide +kernel)) (by decide)) (by decide) (by decide)
 have e : qE (kq (-2) 3) (-3) = 0:=by decide +kernel
 rw [qP,e,if_pos rfl] at this
 exact this
theorem k_com : Says E 42 [pV [kq 1 6,kq (-3) 4,kq 2 1]] (.tup [pVZ [2,-9,24],pZ 12,vZ 0]):=by
 have:=com_says [kq 1 6,kq (-3) 4,kq 2 1] 1 (by simp) (by simp) (fun a ha=>by
  simp only [List.mem_cons,List.not_mem_nil,or_false] at ha
  rcases ha with rfl | rfl | rfl <;> exact qw_sm (by decide +kernel)) (by simp)
 have e1 : comN [kq 1 6,kq (-3) 4,kq 2 1] = [2,-9,24]:=by decide +kernel
 have e2 : comD [kq 1 6,kq (-3) 4,kq 2 1] = 12:=by decide +kernel
 rw [e1,e2] at this
 exact this
theorem k_simp : Says E 46 [pQ (kq 3 10),pQ (kq 2 5)] (.tup [pQ (simpP (kq 3 10) (kq 2 5)),vZ 0]):=simp_pos _ _ 1 (by decide +kernel) (by decide +kernel) (qw_sm (by decide +kernel)) (qw_sm (by decide +kernel)) (by decide)
theorem k_prt : printQ (kq (-3) 4) = [45,51,47,52]:=by
 have h1 : (kq (-3) 4).num = -3:=by decide +kernel
 have h2 : ((kq (-3) 4).den : Int) = 4:=by decide +kernel
 have h3 : Lib.itoa (-3) = [45,51]:=by rw [Lib.itoa,if_pos (by decide)]; show 45 :: Lib.decDigits 3 = _; rw [dec_small (by decide)]; rfl
 have h4 : Lib.itoa 4 = [52]:=by rw [Lib.itoa,if_neg (by decide)]; show Lib.decDigits 4 = _; rw [dec_small (by decide)]; rfl
 rw [printQ,h1,h2,if_neg (by decide),h3,h4]; rfl
theorem k_parse : Says E 50 [pS [45,51,47,52]] (.tup [pQ (kq (-3) 4),vZ 0]):=by
 have:=qparse_says [45,51,47,52] (by decide)
 obtain ⟨e1,e2⟩:=parse_print (a:=kq (-3) 4) (Nat.le_trans (nw_le (k:=1) (by decide +kernel)) (by decide)) (Nat.le_trans (nw_le (k:=1) (by decide +kernel)) (by decide))
 rw [k_prt] at e1 e2
 rw [e1,e2] at this
 exact this
theorem k_is : Says E 19 [pQ (kq 1 2)] (bZ true):=by
 have:=qis_says (r:=RQ.of (kq 1 2)) ⟨wd_digs _,wd_digs _⟩ (by show nw _ < _; exact Nat.lt_of_le_of_lt (nw_le (k:=1) (by decide +kernel)) (by decide)) (by show nw _ < _; exact Nat.lt_of_le_of_lt (nw_le (k:=1) (by decide +kernel)) (by decide))
 rw [RQ.is_of] at this
 exact this
theorem k_sign : Says E 24 [pQ (kq (-1) 2)] (vZ (-1)):=by
 have:=qsign_says (kq (-1) 2) (qw_sm9 (by decide +kernel))
 rwa [show cmpQ (kq (-1) 2) 0 = -1 by decide +kernel] at this
theorem k_cmp : Says E 26 [pQ (kq 1 3),pQ (kq 33 100)] (vZ 1):=by
 have:=qcmp_says (kq 1 3) (kq 33 100) (qw_sm9 (by decide +kernel)) (qw_sm9 (by decide +kernel))
 rwa [show cmpQ (kq 1 3) (kq 33 100) = 1 by decide +kernel] at this
theorem k_floor : Says E 31 [pQ (kq (-7) 2)] (pZ (-4)):=by
 have:=qfloor_says (kq (-7) 2) (qw_sm9 (by decide +kernel))
 rwa [show (kq (-7) 2).floor = -4 by decide +kernel] at this
theorem k_print : Says E 52 [pQ (kq (-3) 4)] (pS [45,51,47,52]):=by
 have:=qprint_says (kq (-3) 4) (Nat.lt_of_le_of_lt (qw_sm (by decide +kernel)) (by decide))
 rwa [k_prt] at this
theorem sane_says  : Says E 10 [] (bZ true):=by
 refine says_of (xs:=[bZ true]) Tryz.func10 rfl Tryz.ntmps10 Tryz.results10 (by simp) fun F hG hX0 hnt hdf P0=>?_
 obtain ⟨L,hX,hN⟩:=pro hnt hX0 hG
 refine exr (aV (L rfl) rfl (zn [] [] trivial trivial (exr (cK hG hX cl11 hN k_off (L rfl) t2 (mV (L rfl) rfl (sw (c_ex rfl (L rfl)) t1 t0 (sw (c_ex rfl (L rfl)) t1 t0 (swb (c_al (k:=1) (n:=4) zv26 (.cons rfl (.cons rfl (.cons rfl (.cons rfl .nil)))) rfl (P0 _ rfl) (L rfl)) t0 t0 ⟨rfl,rfl⟩ (sb (c_sm sz26 (by rfl) pa4 rfl pu4) t2 t1 ?_)))))))))
 refine aV (L rfl) rfl (zn [(1,_),(2,_)] [(1,_)] t2 t1 (exr (cK hG hX cl45 hN (rof_says 6 (by decide) (by decide)) (L rfl) t1 ?_)))
 refine cK hG hX cl45 hN (rof_says (-4) (by decide) (by decide)) (L rfl) t1 ?_
 refine cK hG hX cl13 hN k_make (L rfl) t2 (mV (L rfl) rfl (sw (c_ex rfl (L rfl)) t1 t0 (sw (c_ex rfl (L rfl)) t1 t0 (swb (c_al (k:=3) (n:=4) zv26 (.cons rfl (.cons rfl (.cons rfl (.cons rfl .nil)))) rfl (P0 _ rfl) (L rfl)) t0 t0 ⟨rfl,rfl⟩ (sb (c_sm sz26 (by rfl) pa4 rfl pu4) t2 t1 ?_)))))
 refine aV (L rfl) rfl (zn [(1,_),(2,_),(3,_),(4,_)] [(1,_),(3,_)] t4 t2 (exr (cK hG hX cl49 hN (k_of 1 2 rfl) (L rfl) t2 (cK hG hX cl49 hN (k_of (-1) 4 rfl) (L rfl) t2 (cK hG hX cl22 hN k_div (L rfl) t2 (mV (L rfl) rfl (sw (c_ex rfl (L rfl)) t1 t0 (sw (c_ex rfl (L rfl)) t1 t0 (swb (c_al (k:=5) (n:=4) zv26 (.cons rfl (.cons rfl (.cons rfl (.cons rfl .nil)))) rfl (P0 _ rfl) (L rfl)) t0 t0 ⟨rfl,rfl⟩ (sb (c_sm sz26 (by rfl) pa4 rfl pu4) t2 t1 ?_))))))))))
 refine aV (L rfl) rfl (zn [(1,_),(2,_),(3,_),(4,_),(5,_),(6,_)] [(1,_),(3,_),(5,_)] t6 t3 (exr (cK hG hX cl49 hN (k_of (-2) 3 rfl) (L rfl) t2 (cK hG hX cl40 hN k_pow (L rfl) t2 (mV (L rfl) rfl (sw (c_ex rfl (L rfl)) t1 t0 (sw (c_ex rfl (L rfl)) t1 t0 (swb (c_al (k:=7) (n:=4) zv26 (.cons rfl (.cons rfl (.cons rfl (.cons rfl .nil)))) rfl (P0 _ rfl) (L rfl)) t0 t0 ⟨rfl,rfl⟩ (sb (c_sm sz26 (by rfl) pa4 rfl pu4) t2 t1 ?_)))))))))
 refine aV (L rfl) rfl (zn [(1,_),(2,_),(3,_),(4,_),(5,_),(6,_),(7,_),(8,_)] [(1,_),(3,_),(5,_),(7,_)] t8 t4 (exr (cK hG hX cl49 hN (k_of 1 6 rfl) (L rfl) t2 (cK hG hX cl49 hN (k_of (-3) 4 rfl) (L rfl) t2 (cK hG hX cl49 hN (k_of 2 1 rfl) (L rfl) t2 (sw (c_bI (vs:=[_,_,_]) un47 ti26 rfl rfl (by decide) (by decide) rfl (zs_made (.cons rfl (.cons rfl (.cons rfl (.cons rfl .nil)))) rfl) rfl (.cons rfl pa4 rfl pu4 (.cons rfl pa4 rfl (.skip (.skip (.skip (.skip pu4)))) (.cons rfl pa4 rfl (.skip (.skip (.skip (.skip (.skip (.skip (.skip (.skip pu4)))))))) .nil))) (.cons (.cons (.cons (.cons (.cons (.cons (.cons (.cons (.cons (.cons (.cons (.cons .nil)))))))))))) (L rfl)) t3 t0 ?_))))))
 refine cK hG hX cl42 hN k_com (L rfl) t1 (mV (L rfl) rfl (sw (c_ex rfl (L rfl)) t1 t0 (sw (c_ex rfl (L rfl)) t1 t0 (sw (c_ex rfl (L rfl)) t1 t0 (swb (c_al (k:=10) (n:=2) zv24 (.cons rfl (.cons rfl .nil)) rfl (P0 _ rfl) (L rfl)) t0 t0 ⟨rfl,rfl⟩ (aV (L rfl) rfl (sb (c_sm sz24 (by rfl) pa2 rfl pu2) t2 t1 ?_)))))))
 refine aV (L rfl) rfl (zn [(1,_),(2,_),(3,_),(4,_),(5,_),(6,_),(7,_),(8,_),(9,_),(10,_),(11,_)] [(1,_),(3,_),(5,_),(7,_),(10,_)] t11 t5 (exr (cK hG hX cl49 hN (k_of 3 10 rfl) (L rfl) t2 (cK hG hX cl49 hN (k_of 2 5 rfl) (L rfl) t2 (cK hG hX cl46 hN k_simp (L rfl) t2 (mV (L rfl) rfl (sw (c_ex rfl (L rfl)) t1 t0 (sw (c_ex rfl (L rfl)) t1 t0 (swb (c_al (k:=12) (n:=4) zv26 (.cons rfl (.cons rfl (.cons rfl (.cons rfl .nil)))) rfl (P0 _ rfl) (L rfl)) t0 t0 ⟨rfl,rfl⟩ (sb (c_sm sz26 (by rfl) pa4 rfl pu4) t2 t1 ?_))))))))))
 refine aV (L rfl) rfl (zn [(1,_),(2,_),(3,_),(4,_),(5,_),(6,_),(7,_),(8,_),(9,_),(10,_),(11,_),(12,_),(13,_)] [(1,_),(3,_),(5,_),(7,_),(10,_),(12,_)] t13 t6 (exr (cK hG hX cl50 hN k_parse (L rfl) t1 (mV (L rfl) rfl (sw (c_ex rfl (L rfl)) t1 t0 (sw (c_ex rfl (L rfl)) t1 t0 (swb (c_al (k:=14) (n:=4) zv26 (.cons rfl (.cons rfl (.cons rfl (.cons rfl .nil)))) rfl (P0 _ rfl) (L rfl)) t0 t0 ⟨rfl,rfl⟩ (sb (c_sm sz26 (by rfl) pa4 rfl pu4) t2 t1 ?_))))))))
 refine aV (L rfl) rfl (zn [(1,_),(2,_),(3,_),(4,_),(5,_),(6,_),(7,_),(8,_),(9,_),(10,_),(11,_),(12,_),(13,_),(14,_),(15,_)] [(1,_),(3,_),(5,_),(7,_),(10,_),(12,_),(14,_)] t15 t7 (ex_seq (exr (mV (L rfl) rfl (sw (c_n (L rfl)) t2 t0 (mV (L rfl) rfl (gV (g:=60) rfl rfl (L rfl) rfl rfl (swg (g:=60) rfl rfl (c_n (L rfl)) rfl t2 t0 (sw (c_pf rfl (L rfl)) t2 t0 (mV (L rfl) rfl (gV (g:=64) rfl rfl (L rfl) rfl rfl ?_)))))))))))
 refine swg (g:=64) rfl rfl (c_n (L rfl)) rfl t2 t0 (sw (c_pf rfl (L rfl)) t2 t0 (mV (L rfl) rfl (gV (g:=68) rfl rfl (L rfl) rfl rfl (swg (g:=68) rfl rfl (c_n (L rfl)) rfl t2 t0 (sw (c_pf rfl (L rfl)) t2 t0 (mV (L rfl) rfl (gV (g:=72) rfl rfl (L rfl) rfl rfl (swg (g:=72) rfl rfl (c_n (L rfl)) rfl t2 t0 (sw (c_pf rfl (L rfl)) t2 t0 (mV (L rfl) rfl (gV (g:=76) rfl rfl (L rfl) rfl rfl ?_)))))))))))
 refine swg (g:=76) rfl rfl (c_n (L rfl)) rfl t2 t0 (sw (c_pf rfl (L rfl)) t2 t0 (mV (L rfl) rfl (gV (g:=80) rfl rfl (L rfl) rfl rfl (swg (g:=80) rfl rfl (c_n (L rfl)) rfl t2 t0 (sw (c_pf rfl (L rfl)) t2 t0 (mV (L rfl) rfl (gV (g:=84) rfl rfl (L rfl) rfl rfl (swg (g:=84) rfl rfl (c_ln un48 (L rfl)) rfl t1 t0 (swg (g:=84) rfl rfl (c_n (L rfl)) rfl t2 t0 (sw (c_pf rfl (L rfl)) t2 t0 (zn [(1,_),(3,_),(5,_),(7,_),(9,_),(10,_),(12,_),(14,_),(88,_)] [(1,_),(3,_),(5,_),(7,_),(10,_),(12,_),(14,_)] t9 t7 ?_)))))))))))
 refine ex_if rfl (fun hc=>?_) (fun hc=>?_)
 ·cases hc
 ·refine ex_skip (show Exec _ _ _ _ _ from ?_)
  refine exd (by rfl) ?_
  refine lp4 ag26 sz26 (L rfl) rfl rfl (cK hG hX cl49 hN (k_of (-3) 2 rfl) (L rfl) t2 (cK hG hX cl16 hN (k_same (a:=kq 6 (-4)) (b:=kq (-3) 2) (qw_sm9 (by decide +kernel)) (qw_sm9 (by decide +kernel)) (by decide +kernel)) (L rfl) t2 ?_))
  refine mV (L rfl) rfl (swg (g:=92) rfl rfl (c_lp ag26 sz26 (by rfl) (by exact al4) rfl (L rfl)) rfl t1 t1 ?_)
  refine swg (g:=92) rfl rfl (c_lp ag26 sz26 (by rfl) (by exact al4) rfl (L rfl)) rfl t1 t1 ?_
  refine swg (g:=92) rfl rfl (c_c hG hX cl16 rfl hN (k_same (a:=kq 6 (-4)) (b:=kq 6 (-4)) (qw_sm9 (by decide +kernel)) (qw_sm9 (by decide +kernel)) (by decide +kernel)) (L rfl)) rfl t2 t0 ?_
  refine sw (c_pt rfl (L rfl)) t2 t0 (mV (L rfl) rfl (swg (g:=97) rfl rfl (c_lp ag26 sz26 (by rfl) (by exact al4) rfl (L rfl)) rfl t1 t1 ?_))
  refine swg (g:=97) rfl rfl (c_c hG hX cl49 rfl hN (k_of (-2) 1 rfl) (L rfl)) rfl t2 t0 (swg (g:=97) rfl rfl (c_c hG hX cl16 rfl hN (k_same (a:=kq 1 2 / kq (-1) 4) (b:=kq (-2) 1) (qw_sm9 (by decide +kernel)) (qw_sm9 (by decide +kernel)) (by decide +kernel)) (L rfl)) rfl t2 t0 ?_)
  refine sw (c_pt rfl (L rfl)) t2 t0 (mV (L rfl) rfl (swg (g:=102) rfl rfl (c_lp ag26 sz26 (by rfl) (by exact al4) rfl (L rfl)) rfl t1 t1 ?_))
  refine swg (g:=102) rfl rfl (c_c hG hX cl49 rfl hN (k_of (-27) 8 rfl) (L rfl)) rfl t2 t0 (swg (g:=102) rfl rfl (c_c hG hX cl16 rfl hN (k_same (a:=kq (-2) 3 ^ (-3 : Int)) (b:=kq (-27) 8) (qw_sm9 (by decide +kernel)) (qw_sm9 (by decide +kernel)) (by decide +kernel)) (L rfl)) rfl t2 t0 ?_)
  refine sw (c_pt rfl (L rfl)) t2 t0 (mV (L rfl) rfl (gV (g:=107) rfl rfl (L rfl) rfl rfl (swg (g:=107) rfl rfl (core_indexAddrJ un48 sz24 (by decide) (by decide) (by simp) (by decide) (L rfl)) rfl t2 t0 ?_)))
  refine swg (g:=107) rfl rfl (c_la ag24 sz24 rfl rfl (L rfl)) rfl t1 t0 (swg (g:=107) rfl rfl (c_c hG hX cl45 rfl hN (rof_says (-9) (by decide) (by decide)) (L rfl)) rfl t1 t0 ?_)
  refine swg (g:=107) rfl rfl (c_c hG hX cl30 rfl hN (k_zsame (-9) (nw_sm (by decide))) (L rfl)) rfl t2 t0 ?_
  refine sw (c_pt rfl (L rfl)) t2 t0 (mV (L rfl) rfl (swg (g:=114) rfl rfl (c_lp ag24 sz24 (by rfl) (by exact al2) rfl (L rfl)) rfl t1 t1 ?_))
  refine swg (g:=114) rfl rfl (c_c hG hX cl45 rfl hN (rof_says 12 (by decide) (by decide)) (L rfl)) rfl t1 t0 ?_
  refine swg (g:=114) rfl rfl (c_c hG hX cl30 rfl hN (k_zsame 12 (nw_sm (by decide))) (L rfl)) rfl t2 t0 ?_
  refine sw (c_pt rfl (L rfl)) t2 t0 (mV (L rfl) rfl (swg (g:=119) rfl rfl (c_lp ag26 sz26 (by rfl) (by exact al4) rfl (L rfl)) rfl t1 t1 ?_))
  refine swg (g:=119) rfl rfl (c_c hG hX cl49 rfl hN (k_of 1 3 rfl) (L rfl)) rfl t2 t0 (swg (g:=119) rfl rfl (c_c hG hX cl16 rfl hN (k_same (a:=simpP (kq 3 10) (kq 2 5)) (b:=kq 1 3) (qw_sm9 (by decide +kernel)) (qw_sm9 (by decide +kernel)) (by decide +kernel)) (L rfl)) rfl t2 t0 ?_)
  refine sw (c_pt rfl (L rfl)) t2 t0 (mV (L rfl) rfl (swg (g:=124) rfl rfl (c_lp ag26 sz26 (by rfl) (by exact al4) rfl (L rfl)) rfl t1 t1 ?_))
  refine swg (g:=124) rfl rfl (c_c hG hX cl49 rfl hN (k_of (-3) 4 rfl) (L rfl)) rfl t2 t0 (swg (g:=124) rfl rfl (c_c hG hX cl16 rfl hN (k_same (a:=kq (-3) 4) (b:=kq (-3) 4) (qw_sm9 (by decide +kernel)) (qw_sm9 (by decide +kernel)) (by decide +kernel)) (L rfl)) rfl t2 t0 ?_)
  refine sw (c_pt rfl (L rfl)) t2 t0 (aV (L rfl) rfl ?_)
  refine seq_nil ⟨aoks [⟨[1],[1],[89],[]⟩,⟨[],[],[90],[]⟩,⟨[89,90],[],[91],[]⟩,⟨[91],[],[92],[]⟩,⟨[92,3],[3],[93],[]⟩,⟨[92,1],[1],[94],[]⟩,⟨[92,93,94],[],[95],[]⟩,⟨[92,95],[],[96],[]⟩,⟨[96],[],[97],[]⟩,⟨[97,5],[5],[98],[]⟩,⟨[97],[],[99],[]⟩,⟨[97,98,99],[],[100],[]⟩,⟨[97,100],[],[101],[]⟩,⟨[101],[],[102],[]⟩,⟨[102,7],[7],[103],[]⟩,⟨[102],[],[104],[]⟩,⟨[102,103,104],[],[105],[]⟩,⟨[102,105],[],[106],[]⟩,⟨[106],[],[107],[]⟩,⟨[107,9],[],[108],[]⟩,⟨[107,108],[],[109],[]⟩,⟨[107,109],[],[110],[]⟩,⟨[107],[],[111],[]⟩,⟨[107,110,111],[],[112],[]⟩,⟨[107,112],[],[113],[]⟩,⟨[113],[],[114],[]⟩,⟨[114,10],[10],[115],[]⟩,⟨[114],[],[116],[]⟩,⟨[114,115,116],[],[117],[]⟩,⟨[114,117],[],[118],[]⟩,⟨[118],[],[119],[]⟩,⟨[119,12],[12],[120],[]⟩,⟨[119],[],[121],[]⟩,⟨[119,120,121],[],[122],[]⟩,⟨[119,122],[],[123],[]⟩,⟨[123],[],[124],[]⟩,⟨[124,14],[14],[125],[]⟩,⟨[124],[],[126],[]⟩,⟨[124,125,126],[],[127],[]⟩,⟨[124,127],[],[128],[]⟩,⟨[128],[],[16],[]⟩] (by rfl) (by rfl) (by decide),[(16,_)],[],t1,trivial,?_⟩
  refine exr (cK hG hX cl49 hN (k_of 1 6 rfl) (L rfl) t2 (cK hG hX cl49 hN (k_of 1 10 rfl) (L rfl) t2 (cK hG hX cl33 hN (qadd_says (kq 1 6) (kq 1 10) (qw_sm9 (by decide +kernel)) (qw_sm9 (by decide +kernel))) (L rfl) t2 ?_)))
  refine cK hG hX cl49 hN (k_of 4 15 rfl) (L rfl) t2 (cK hG hX cl16 hN (k_same (a:=kq 1 6 + kq 1 10) (b:=kq 4 15) (qw_sm9 (by decide +kernel)) (qw_sm9 (by decide +kernel)) (by decide +kernel)) (L rfl) t2 ?_)
  refine mV (L rfl) rfl (swg (g:=134) rfl rfl (c_c hG hX cl49 rfl hN (k_of 1 2 rfl) (L rfl)) rfl t2 t0 (swg (g:=134) rfl rfl (c_c hG hX cl49 rfl hN (k_of 1 3 rfl) (L rfl)) rfl t2 t0 (swg (g:=134) rfl rfl (c_c hG hX cl35 rfl hN (qsub_says (kq 1 2) (kq 1 3) (qw_sm9 (by decide +kernel)) (qw_sm9 (by decide +kernel))) (L rfl)) rfl t2 t0 ?_)))
  refine swg (g:=134) rfl rfl (c_c hG hX cl49 rfl hN (k_of 1 6 rfl) (L rfl)) rfl t2 t0 (swg (g:=134) rfl rfl (c_c hG hX cl16 rfl hN (k_same (a:=kq 1 2 - kq 1 3) (b:=kq 1 6) (qw_sm9 (by decide +kernel)) (qw_sm9 (by decide +kernel)) (by decide +kernel)) (L rfl)) rfl t2 t0 ?_)
  refine sw (c_pt rfl (L rfl)) t2 t0 (mV (L rfl) rfl (swg (g:=141) rfl rfl (c_c hG hX cl49 rfl hN (k_of (-2) 3 rfl) (L rfl)) rfl t2 t0 (swg (g:=141) rfl rfl (c_c hG hX cl49 rfl hN (k_of 9 4 rfl) (L rfl)) rfl t2 t0 (swg (g:=141) rfl rfl (c_c hG hX cl37 rfl hN (qmul_says (kq (-2) 3) (kq 9 4) (qw_sm9 (by decide +kernel)) (qw_sm9 (by decide +kernel))) (L rfl)) rfl t2 t0 ?_))))
  refine swg (g:=141) rfl rfl (c_c hG hX cl49 rfl hN (k_of (-3) 2 rfl) (L rfl)) rfl t2 t0 (swg (g:=141) rfl rfl (c_c hG hX cl16 rfl hN (k_same (a:=kq (-2) 3 * kq 9 4) (b:=kq (-3) 2) (qw_sm9 (by decide +kernel)) (qw_sm9 (by decide +kernel)) (by decide +kernel)) (L rfl)) rfl t2 t0 ?_)
  refine sw (c_pt rfl (L rfl)) t2 t0 (mV (L rfl) rfl (swg (g:=148) rfl rfl (c_c hG hX cl49 rfl hN (k_of 1 2 rfl) (L rfl)) rfl t2 t0 (swg (g:=148) rfl rfl (c_c hG hX cl28 rfl hN (qneg_says (kq 1 2) (qw_sm9 (by decide +kernel))) (L rfl)) rfl t1 t0 ?_)))
  refine swg (g:=148) rfl rfl (c_c hG hX cl49 rfl hN (k_of (-1) 2 rfl) (L rfl)) rfl t2 t0 (swg (g:=148) rfl rfl (c_c hG hX cl16 rfl hN (k_same (a:=-kq 1 2) (b:=kq (-1) 2) (qw_sm9 (by decide +kernel)) (qw_sm9 (by decide +kernel)) (by decide +kernel)) (L rfl)) rfl t2 t0 ?_)
  refine sw (c_pt rfl (L rfl)) t2 t0 (aV (L rfl) rfl (zn [(16,_),(17,_)] [] t2 trivial (exr (mV (L rfl) rfl (mV (L rfl) rfl (gV (g:=155) rfl rfl (L rfl) rfl rfl (sw (c_pt rfl (L rfl)) t2 t0 (mV (L rfl) rfl (swg (g:=158) rfl rfl (c_c hG hX cl49 rfl hN (k_of 1 2 rfl) (L rfl)) rfl t2 t0 (swg (g:=158) rfl rfl (c_c hG hX cl19 rfl hN k_is (L rfl)) rfl t1 t0 (sw (c_pt rfl (L rfl)) t2 t0 ?_)))))))))))
  refine mV (L rfl) rfl (swg (g:=162) rfl rfl (c_c hG hX cl49 rfl hN (k_of (-1) 2 rfl) (L rfl)) rfl t2 t0 (swg (g:=162) rfl rfl (c_c hG hX cl24 rfl hN k_sign (L rfl)) rfl t1 t0 (swg (g:=162) rfl rfl (c_e (L rfl)) rfl t2 t0 (sw (c_pt rfl (L rfl)) t2 t0 (mV (L rfl) rfl (swg (g:=167) rfl rfl (c_c hG hX cl49 rfl hN (k_of 1 3 rfl) (L rfl)) rfl t2 t0 (swg (g:=167) rfl rfl (c_c hG hX cl49 rfl hN (k_of 33 100 rfl) (L rfl)) rfl t2 t0 (swg (g:=167) rfl rfl (c_c hG hX cl26 rfl hN k_cmp (L rfl)) rfl t2 t0 (swg (g:=167) rfl rfl (c_e (L rfl)) rfl t2 t0 (sw (c_pt rfl (L rfl)) t2 t0 (mV (L rfl) rfl ?_)))))))))))
  refine swg (g:=173) rfl rfl (c_c hG hX cl49 rfl hN (k_of (-7) 2 rfl) (L rfl)) rfl t2 t0 (swg (g:=173) rfl rfl (c_c hG hX cl31 rfl hN k_floor (L rfl)) rfl t1 t0 (swg (g:=173) rfl rfl (c_c hG hX cl45 rfl hN (rof_says (-4) (by decide) (by decide)) (L rfl)) rfl t1 t0 ?_))
  refine swg (g:=173) rfl rfl (c_c hG hX cl30 rfl hN (k_zsame (-4) (nw_sm (by decide))) (L rfl)) rfl t2 t0 ?_
  refine sw (c_pt rfl (L rfl)) t2 t0 (mV (L rfl) rfl (swg (g:=179) rfl rfl (c_c hG hX cl45 rfl hN (rof_says 5 (by decide) (by decide)) (L rfl)) rfl t1 t0 ?_))
  refine swg (g:=179) rfl rfl (c_c hG hX cl17 rfl hN (qwhole_says 5) (L rfl)) rfl t1 t0 (swg (g:=179) rfl rfl (c_c hG hX cl49 rfl hN (k_of 5 1 rfl) (L rfl)) rfl t2 t0 (swg (g:=179) rfl rfl (c_c hG hX cl16 rfl hN (k_same (a:=((5 : Int) : Rat)) (b:=kq 5 1) (qw_sm9 (by decide +kernel)) (qw_sm9 (by decide +kernel)) (by decide +kernel)) (L rfl)) rfl t2 t0 ?_))
  refine sw (c_pt rfl (L rfl)) t2 t0 (mV (L rfl) rfl (swg (g:=185) rfl rfl (c_c hG hX cl49 rfl hN (k_of (-3) 4 rfl) (L rfl)) rfl t2 t0 (swg (g:=185) rfl rfl (c_c hG hX cl52 rfl hN k_print (L rfl)) rfl t1 t0 (swg (g:=185) rfl rfl (c_se (L rfl)) rfl t2 t0 (sw (c_pt rfl (L rfl)) t2 t0 (aV (L rfl) rfl (zn [(0,_)] [] t1 trivial (ex_ret ?_))))))))
  refine ⟨.inr rfl,ResVs.cast (.cons (.tmp rfl) .nil) ?_⟩
  rfl
end Go.Proofs.YtcifhkfpmhifaaaGreatDoor.N
set_option maxRecDepth 100000
set_option maxHeartbeats 4000000
namespace Go.Proofs.YtcifhkfpmhifaaaGreatDoor.N
open Go Go.Proofs.YtcifhkfpmhifaaaGreatDoor.SH Go.Proofs.YtcifhkfpmhifaaaGreatDoor.NumA
open Go.Proofs.Tryz renaming call10 → cl10,call11 → cl11,call12 → cl12,call13 → cl13,call14 → cl14,call15 → cl15,call16 → cl16,call17 → cl17,call18 → cl18,call19 → cl19,call20 → cl20,call24 → cl24,call25 → cl25,call47 → cl47,call68 → cl68,call71 → cl71,isAgg22 → ag22,isAgg24 → ag24,isAgg26 → ag26,sizeOf22 → sz22,sizeOf24 → sz24,sizeOf26 → sz26,underlying22 → un22,underlying24 → un24,underlying26 → un26,underlying4 → un4,zeroValue26 → zv26
theorem sm_R0 : R0.sm:=⟨⟨Wd.nil,Wd.nil⟩,by decide,by decide⟩
theorem mkR_sm {m n : Bool} {ws vs : List Int} (h : Wd ws) (h2 : Wd vs) (hl : ws.length < 1000000000) (hl2 : vs.length < 1000000000) : (mkR (m,ws) (n,vs)).sm:=by
 rw [mkR]
 split
 ·rename_i he
  rw [mkE] at he
  split at he
  ·rename_i hn
   split at he
   ·cases he
   ·rename_i h0
    refine RQ.sm_of (Nat.lt_of_le_of_lt (qw_ovr h0) ?_)
    rw [nw_sg h hn.1,nw_sg h2 hn.2]
    show max ws.length vs.length < _
    omega
  ·cases he
 ·exact sm_R0
theorem k_sameR {a : RQ} (ha : a.sm) : Says E 16 [.agg (cR a),.agg (cR a)] (bZ true):=by
 have:=rsameR ha ha
 rwa [eqR_iff.2 rfl] at this
theorem or4 (a b c d : Prop) : a ∨ (¬ a ∧ b) ∨ (¬ a ∧ ¬ b ∧ c) ∨ (¬ a ∧ ¬ b ∧ ¬ c):=by
 by_cases a <;> by_cases b <;> by_cases c <;> simp [*]
theorem makes_says (am an m n : Bool) (aw av ws vs : List Int) (i j : Int) (w1 : Wd aw) (w2 : Wd av) (w3 : Wd ws) (w4 : Wd vs) (i0 : -9223372036854775808 ≤ i) (i1 : i < 9223372036854775808) (j0 : -9223372036854775808 ≤ j) (j1 : j < 9223372036854775808) : Says E 3 [pR am aw an av,pI m ws,pI n vs,vZ i,vZ j] (bZ true):=by
 refine says_of (xs:=[bZ true]) Tryz.func3 rfl Tryz.ntmps3 Tryz.results3 (by simp) fun F hG hX0 hnt hdf P0=>?_
 obtain ⟨L,hX,hN⟩:=pro hnt hX0 hG
 refine exr (swb (c_bx (k:=5) (n:=4) pa4 rfl rfl (P0 _ rfl) (L rfl)) t1 t0 ⟨rfl,rfl⟩ (swb (c_bx (k:=6) (n:=2) pa2 rfl rfl (P0 _ rfl) (L rfl)) t1 t0 ⟨rfl,rfl⟩ (swb (c_bx (k:=7) (n:=2) pa2 rfl rfl (P0 _ rfl) (L rfl)) t1 t0 ⟨rfl,rfl⟩ (aV (L rfl) rfl (zn [(3,_),(4,_),(5,_),(6,_),(7,_)] [(5,_),(6,_),(7,_)] t5 t3 (ex_seq ?_))))))
 refine exm (sl:=[(42,vb (decide ((aw.length : Int) > 30 ∨ (av.length : Int) > 30 ∨ (ws.length : Int) > 30 ∨ (vs.length : Int) > 30)))]) (sl0:=[(3,_),(4,_),(5,_),(6,_),(7,_)]) (hb:=[]) (hb0:=[(5,_),(6,_),(7,_)]) t5 t3 ?_ ?_
 ·rcases or4 ((aw.length : Int) > 30) ((av.length : Int) > 30) ((ws.length : Int) > 30) True with h1 | ⟨h1,h2⟩ | ⟨h1,h2,h3⟩ | ⟨h1,h2,h3⟩
  ·refine sw (c_fa un26 rfl sz24 (by decide) (by exact rfl) (L rfl)) t1 t1 ?_
   refine sw (c_fa un24 rfl sz22 (by decide) (by exact rfl) (L rfl)) t1 t1 ?_
   refine sw (c_l1 ag22 (by rfl) (by rfl) (L rfl)) t1 t1 ?_
   refine sw (c_ln un22 (L rfl)) t1 t0 (sw (c_gt (L rfl)) t2 t0 (mV (L rfl) rfl (swn (g:=24) rfl (decide_eq_true h1) (L rfl) rfl (swn (g:=24) rfl (decide_eq_true h1) (L rfl) rfl (swn (g:=24) rfl (decide_eq_true h1) (L rfl) rfl (swn (g:=24) rfl (decide_eq_true h1) (L rfl) rfl (swn (g:=24) rfl (decide_eq_true h1) (L rfl) rfl (sw (c_pt (decide_eq_true h1) (L rfl)) t2 t0 (mV (L rfl) rfl (swn (g:=31) rfl rfl (L rfl) rfl (swn (g:=31) rfl rfl (L rfl) rfl ?_)))))))))))
   refine swn (g:=31) rfl rfl (L rfl) rfl (swn (g:=31) rfl rfl (L rfl) rfl (sw (c_pt rfl (L rfl)) t2 t0 (mV (L rfl) rfl (swn (g:=37) rfl rfl (L rfl) rfl (swn (g:=37) rfl rfl (L rfl) rfl (swn (g:=37) rfl rfl (L rfl) rfl (swn (g:=37) rfl rfl (L rfl) rfl (sw (c_pt rfl (L rfl)) t2 t0 ?_))))))))
   exact seq_nil ⟨⟨ob rfl (by simp [h1]),rfl,rfl,rfl,rfl,rfl,trivial⟩,t3⟩
  ·refine sw (c_fa un26 rfl sz24 (by decide) (by exact rfl) (L rfl)) t1 t1 ?_
   refine sw (c_fa un24 rfl sz22 (by decide) (by exact rfl) (L rfl)) t1 t1 ?_
   refine sw (c_l1 ag22 (by rfl) (by rfl) (L rfl)) t1 t1 ?_
   refine sw (c_ln un22 (L rfl)) t1 t0 (sw (c_gt (L rfl)) t2 t0 (mV (L rfl) rfl (swg (g:=24) rfl (decide_eq_false h1) (c_fa un26 rfl sz24 (by decide) (by exact rfl) (L rfl)) rfl t1 t1 ?_)))
   refine swg (g:=24) rfl (decide_eq_false h1) (c_fa un24 rfl sz22 (by decide) (by exact rfl) (L rfl)) rfl t1 t1 ?_
   refine swg (g:=24) rfl (decide_eq_false h1) (c_l1 ag22 (by rfl) (by rfl) (L rfl)) rfl t1 t1 ?_
   refine swg (g:=24) rfl (decide_eq_false h1) (c_ln un22 (L rfl)) rfl t1 t0 (swg (g:=24) rfl (decide_eq_false h1) (c_gt (L rfl)) rfl t2 t0 (sw (c_pf (decide_eq_false h1) (L rfl)) t2 t0 (mV (L rfl) rfl (swn (g:=31) rfl (decide_eq_true h2) (L rfl) rfl (swn (g:=31) rfl (decide_eq_true h2) (L rfl) rfl (swn (g:=31) rfl (decide_eq_true h2) (L rfl) rfl (swn (g:=31) rfl (decide_eq_true h2) (L rfl) rfl (sw (c_pt (decide_eq_true h2) (L rfl)) t2 t0 (mV (L rfl) rfl (swn (g:=37) rfl rfl (L rfl) rfl (swn (g:=37) rfl rfl (L rfl) rfl ?_)))))))))))
   refine swn (g:=37) rfl rfl (L rfl) rfl (swn (g:=37) rfl rfl (L rfl) rfl (sw (c_pt rfl (L rfl)) t2 t0 ?_))
   exact seq_nil ⟨⟨ob rfl (by simp [h2]),rfl,rfl,rfl,rfl,rfl,trivial⟩,t3⟩
  ·refine sw (c_fa un26 rfl sz24 (by decide) (by exact rfl) (L rfl)) t1 t1 ?_
   refine sw (c_fa un24 rfl sz22 (by decide) (by exact rfl) (L rfl)) t1 t1 ?_
   refine sw (c_l1 ag22 (by rfl) (by rfl) (L rfl)) t1 t1 ?_
   refine sw (c_ln un22 (L rfl)) t1 t0 (sw (c_gt (L rfl)) t2 t0 (mV (L rfl) rfl (swg (g:=24) rfl (decide_eq_false h1) (c_fa un26 rfl sz24 (by decide) (by exact rfl) (L rfl)) rfl t1 t1 ?_)))
   refine swg (g:=24) rfl (decide_eq_false h1) (c_fa un24 rfl sz22 (by decide) (by exact rfl) (L rfl)) rfl t1 t1 ?_
   refine swg (g:=24) rfl (decide_eq_false h1) (c_l1 ag22 (by rfl) (by rfl) (L rfl)) rfl t1 t1 ?_
   refine swg (g:=24) rfl (decide_eq_false h1) (c_ln un22 (L rfl)) rfl t1 t0 (swg (g:=24) rfl (decide_eq_false h1) (c_gt (L rfl)) rfl t2 t0 (sw (c_pf (decide_eq_false h1) (L rfl)) t2 t0 (mV (L rfl) rfl (swg (g:=31) rfl (decide_eq_false h2) (c_fa un24 rfl sz22 (by decide) (by exact rfl) (L rfl)) rfl t1 t1 ?_))))
   refine swg (g:=31) rfl (decide_eq_false h2) (c_l1 ag22 (by rfl) (by rfl) (L rfl)) rfl t1 t1 ?_
   refine swg (g:=31) rfl (decide_eq_false h2) (c_ln un22 (L rfl)) rfl t1 t0 (swg (g:=31) rfl (decide_eq_false h2) (c_gt (L rfl)) rfl t2 t0 (sw (c_pf (decide_eq_false h2) (L rfl)) t2 t0 (mV (L rfl) rfl (swn (g:=37) rfl (decide_eq_true h3) (L rfl) rfl (swn (g:=37) rfl (decide_eq_true h3) (L rfl) rfl (swn (g:=37) rfl (decide_eq_true h3) (L rfl) rfl (swn (g:=37) rfl (decide_eq_true h3) (L rfl) rfl (sw (c_pt (decide_eq_true h3) (L rfl)) t2 t0 ?_))))))))
   exact seq_nil ⟨⟨ob rfl (by simp [h3]),rfl,rfl,rfl,rfl,rfl,trivial⟩,t3⟩
  ·refine sw (c_fa un26 rfl sz24 (by decide) (by exact rfl) (L rfl)) t1 t1 ?_
   refine sw (c_fa un24 rfl sz22 (by decide) (by exact rfl) (L rfl)) t1 t1 ?_
   refine sw (c_l1 ag22 (by rfl) (by rfl) (L rfl)) t1 t1 ?_
   refine sw (c_ln un22 (L rfl)) t1 t0 (sw (c_gt (L rfl)) t2 t0 (mV (L rfl) rfl (swg (g:=24) rfl (decide_eq_false h1) (c_fa un26 rfl sz24 (by decide) (by exact rfl) (L rfl)) rfl t1 t1 ?_)))
   refine swg (g:=24) rfl (decide_eq_false h1) (c_fa un24 rfl sz22 (by decide) (by exact rfl) (L rfl)) rfl t1 t1 ?_
   refine swg (g:=24) rfl (decide_eq_false h1) (c_l1 ag22 (by rfl) (by rfl) (L rfl)) rfl t1 t1 ?_
   refine swg (g:=24) rfl (decide_eq_false h1) (c_ln un22 (L rfl)) rfl t1 t0 (swg (g:=24) rfl (decide_eq_false h1) (c_gt (L rfl)) rfl t2 t0 (sw (c_pf (decide_eq_false h1) (L rfl)) t2 t0 (mV (L rfl) rfl (swg (g:=31) rfl (decide_eq_false h2) (c_fa un24 rfl sz22 (by decide) (by exact rfl) (L rfl)) rfl t1 t1 ?_))))
   refine swg (g:=31) rfl (decide_eq_false h2) (c_l1 ag22 (by rfl) (by rfl) (L rfl)) rfl t1 t1 ?_
   refine swg (g:=31) rfl (decide_eq_false h2) (c_ln un22 (L rfl)) rfl t1 t0 (swg (g:=31) rfl (decide_eq_false h2) (c_gt (L rfl)) rfl t2 t0 (sw (c_pf (decide_eq_false h2) (L rfl)) t2 t0 (mV (L rfl) rfl (swg (g:=37) rfl (decide_eq_false h3) (c_fa un24 rfl sz22 (by decide) (by exact rfl) (L rfl)) rfl t1 t1 ?_))))
   refine swg (g:=37) rfl (decide_eq_false h3) (c_l1 ag22 (by rfl) (by rfl) (L rfl)) rfl t1 t1 ?_
   refine swg (g:=37) rfl (decide_eq_false h3) (c_ln un22 (L rfl)) rfl t1 t0 (swg (g:=37) rfl (decide_eq_false h3) (c_gt (L rfl)) rfl t2 t0 (sw (c_pf (decide_eq_false h3) (L rfl)) t2 t0 ?_))
   exact seq_nil ⟨⟨ob rfl (by simp [h1,h2,h3]),rfl,rfl,rfl,rfl,rfl,trivial⟩,t3⟩
 refine ex_if rfl (fun hc=>?_) (fun hc=>?_)
 ·refine exr (cK hG hX cl10 hN sane_says (L rfl) t0 (aV (L rfl) rfl (zn [(10,_)] [] t1 trivial (ex_ret ?_))))
  refine ⟨.inr rfl,ResVs.cast (.cons (.tmp rfl) .nil) ?_⟩
  rfl
 ·have hc:=df hc
  have l1 : aw.length ≤ 30:=by omega
  have l2 : av.length ≤ 30:=by omega
  have l3 : ws.length ≤ 30:=by omega
  have l4 : vs.length ≤ 30:=by omega
  have s1:=mkR_sm (m:=m) (n:=n) w3 w4 (by omega) (by omega)
  have k1:=nw64 i0 i1
  have k2:=nw64 j0 j1
  have s2:=mkR_sm (m:=decide (i < 0)) (n:=decide (j < 0)) (wd_digs i.natAbs) (wd_digs j.natAbs) (by unfold nw at k1; omega) (by unfold nw at k2; omega)
  refine ex_skip (show Exec _ _ _ _ _ from ?_)
  refine exr (mV (L rfl) rfl (mV (L rfl) rfl (cK hG hX cl11 hN (qof_says i j i0 i1 j0 j1) (L rfl) t2 (mV (L rfl) rfl (sw (c_ex rfl (L rfl)) t1 t0 (sw (c_ex rfl (L rfl)) t1 t0 (swb (c_al (k:=11) (n:=4) zv26 (.cons rfl (.cons rfl (.cons rfl (.cons rfl .nil)))) rfl (P0 _ rfl) (L rfl)) t0 t0 ⟨rfl,rfl⟩ (sb (c_sm sz26 (by rfl) pa4 rfl pu4) t2 t1 ?_))))))))
  refine aV (L rfl) rfl (zn [(3,_),(4,_),(5,_),(6,_),(7,_),(11,_),(12,_)] [(5,_),(6,_),(7,_),(11,_)] t7 t4 (exr (mV (L rfl) rfl (mV (L rfl) rfl (cK hG hX cl12 hN (rqofR_says i j i0 i1 j0 j1) (L rfl) t2 (mV (L rfl) rfl (sw (c_ex rfl (L rfl)) t1 t0 (sw (c_ex rfl (L rfl)) t1 t0 (swb (c_al (k:=13) (n:=4) zv26 (.cons rfl (.cons rfl (.cons rfl (.cons rfl .nil)))) rfl (P0 _ rfl) (L rfl)) t0 t0 ⟨rfl,rfl⟩ (sb (c_sm sz26 (by rfl) pa4 rfl pu4) t2 t1 ?_))))))))))
  refine aV (L rfl) rfl (zn [(5,_),(6,_),(7,_),(11,_),(12,_),(13,_),(14,_)] [(5,_),(6,_),(7,_),(11,_),(13,_)] t7 t5 (exr (lp2 ag24 sz24 (L rfl) rfl rfl (lp2 ag24 sz24 (L rfl) rfl rfl (cK hG hX cl13 hN (make_says m n ws vs (by omega) (by omega) w3 w4) (L rfl) t2 ?_)))))
  refine mV (L rfl) rfl (sw (c_ex rfl (L rfl)) t1 t0 (sw (c_ex rfl (L rfl)) t1 t0 (swb (c_al (k:=15) (n:=4) zv26 (.cons rfl (.cons rfl (.cons rfl (.cons rfl .nil)))) rfl (P0 _ rfl) (L rfl)) t0 t0 ⟨rfl,rfl⟩ (sb (c_sm sz26 (by rfl) pa4 rfl pu4) t2 t1 ?_))))
  refine aV (L rfl) rfl (zn [(5,_),(6,_),(7,_),(11,_),(12,_),(13,_),(14,_),(15,_),(16,_)] [(5,_),(6,_),(7,_),(11,_),(13,_),(15,_)] t9 t6 (exr (lp2 ag24 sz24 (L rfl) rfl rfl (lp2 ag24 sz24 (L rfl) rfl rfl (cK hG hX cl14 hN (rmakeR_says m n ws vs (by omega) (by omega) w3 w4) (L rfl) t2 ?_)))))
  refine mV (L rfl) rfl (sw (c_ex rfl (L rfl)) t1 t0 (sw (c_ex rfl (L rfl)) t1 t0 (swb (c_al (k:=17) (n:=4) zv26 (.cons rfl (.cons rfl (.cons rfl (.cons rfl .nil)))) rfl (P0 _ rfl) (L rfl)) t0 t0 ⟨rfl,rfl⟩ (sb (c_sm sz26 (by rfl) pa4 rfl pu4) t2 t1 ?_))))
  refine aV (L rfl) rfl (zn [(5,_),(6,_),(11,_),(12,_),(13,_),(14,_),(15,_),(16,_),(17,_),(18,_)] [(5,_),(6,_),(11,_),(13,_),(15,_),(17,_)] t10 t6 (ex_seq ?_))
  refine exmd (sl:=[(77,vb false)]) (sl0:=[(5,_),(11,_),(12,_),(13,_),(14,_),(15,_),(16,_),(17,_),(18,_)]) (hb:=[]) (hb0:=[(5,_),(11,_),(13,_),(15,_),(17,_)]) (by rfl) t9 t5 ?_ ?_
  ·by_cases hn : canon m ws = true; have e3 : nw (sg m (val ws)) = ws.length:=nw_sg w3 hn; have p1 : Says E 17 [pI m ws] (pQ ((sg m (val ws) : Int) : Rat)):=by { rw [pI_eq w3 hn]; exact qwhole_says _ }; have p2 : Says E 18 [pI m ws] (pQ ((sg m (val ws) : Int) : Rat)):=by { rw [pI_eq w3 hn]; exact rqwhole_says _ }; have p3 : qw ((sg m (val ws) : Int) : Rat) < 1000000000:=by { rw [qw_int]; omega }
   ·refine lp2 ag24 sz24 (L rfl) rfl rfl (cK hG hX cl15 hN (ris_says m ws (by omega)) (L rfl) t1 ?_)
    refine mV (L rfl) rfl (swg (g:=70) rfl hn (c_lp ag24 sz24 (by rfl) (by exact al2) rfl (L rfl)) rfl t1 t1 ?_)
    refine swg (g:=70) rfl hn (c_c hG hX cl17 rfl hN p1 (L rfl)) rfl t1 t0 (swg (g:=70) rfl hn (c_lp ag24 sz24 (by rfl) (by exact al2) rfl (L rfl)) rfl t1 t1 ?_)
    refine swg (g:=70) rfl hn (c_c hG hX cl18 rfl hN p2 (L rfl)) rfl t1 t0 (swg (g:=70) rfl hn (c_c hG hX cl16 rfl hN (k_same p3 p3 rfl) (L rfl)) rfl t2 t0 (swg (g:=70) rfl hn (c_no (L rfl)) rfl t1 t0 (sw (c_pt hn (L rfl)) t2 t0 ?_)))
    exact seq_nil ⟨aoks [⟨[6],[6],[68],[]⟩,⟨[68],[],[69],[]⟩,⟨[69],[],[70],[]⟩,⟨[70,6],[6],[71],[]⟩,⟨[70,71],[],[72],[]⟩,⟨[70,6],[6],[73],[]⟩,⟨[70,73],[],[74],[]⟩,⟨[70,72,74],[],[75],[]⟩,⟨[70,75],[],[76],[]⟩,⟨[70,76],[],[77],[]⟩] (by rfl) (by rfl) (by decide),⟨ob rfl rfl,rfl,rfl,rfl,rfl,rfl,rfl,rfl,rfl,rfl,trivial⟩,t5⟩
   ·refine lp2 ag24 sz24 (L rfl) rfl rfl (cK hG hX cl15 hN (ris_says m ws (by omega)) (L rfl) t1 ?_)
    refine mV (L rfl) rfl (swn (g:=70) rfl (by simpa using hn) (L rfl) rfl ?_)
    refine swn (g:=70) rfl (by simpa using hn) (L rfl) rfl ?_
    refine swn (g:=70) rfl (by simpa using hn) (L rfl) rfl ?_
    refine swn (g:=70) rfl (by simpa using hn) (L rfl) rfl ?_
    refine swn (g:=70) rfl (by simpa using hn) (L rfl) rfl ?_
    refine swn (g:=70) rfl (by simpa using hn) (L rfl) rfl ?_
    refine sw (c_pf (by simpa using hn) (L rfl)) t2 t0 ?_
    exact seq_nil ⟨aoks [⟨[6],[6],[68],[]⟩,⟨[68],[],[69],[]⟩,⟨[69],[],[70],[]⟩,⟨[70],[],[71],[]⟩,⟨[70],[],[72],[]⟩,⟨[70],[],[73],[]⟩,⟨[70],[],[74],[]⟩,⟨[70],[],[75],[]⟩,⟨[70],[],[76],[]⟩,⟨[70],[],[77],[]⟩] (by rfl) (by rfl) (by decide),⟨ob rfl (by simp),rfl,rfl,rfl,rfl,rfl,rfl,rfl,rfl,rfl,trivial⟩,t5⟩
  refine ex_if rfl (fun hd=>?_) (fun hd=>?_)
  ·cases hd
  ·refine ex_skip (show Exec _ _ _ _ _ from ?_)
   refine exd (by rfl) ?_
   refine cK hG hX cl10 hN sane_says (L rfl) t0 (mV (L rfl) rfl (swg (g:=79) rfl rfl (c_lp ag26 sz26 (by rfl) (by exact al4) rfl (L rfl)) rfl t1 t1 ?_))
   refine swg (g:=79) rfl rfl (c_c hG hX cl19 rfl hN (qis_says (r:=⟨am,aw,an,av⟩) ⟨w1,w2⟩ (by show aw.length < _; omega) (by show av.length < _; omega)) (L rfl)) rfl t1 t0 ?_
   refine swg (g:=79) rfl rfl (c_lp ag26 sz26 (by rfl) (by exact al4) rfl (L rfl)) rfl t1 t1 ?_
   refine swg (g:=79) rfl rfl (c_c hG hX cl20 rfl hN (rqis_says (r:=⟨am,aw,an,av⟩) ⟨w1,w2⟩ (by show aw.length < _; omega) (by show av.length < _; omega)) (L rfl)) rfl t1 t0 ?_
   refine swg (g:=79) rfl rfl (c_be un4 (L rfl)) rfl t2 t0 (sw (c_pt rfl (L rfl)) t2 t0 (mV (L rfl) rfl (swg (g:=86) rfl (by simp) (c_lp ag26 sz26 (by rfl) (by exact al4) rfl (L rfl)) rfl t1 t1 ?_)))
   refine swg (g:=86) rfl (by simp) (c_lp ag26 sz26 (by rfl) (by exact al4) rfl (L rfl)) rfl t1 t1 ?_
   refine swg (g:=86) rfl (by simp) (c_c hG hX cl16 rfl hN (k_sameR s2) (L rfl)) rfl t2 t0 ?_
   refine sw (c_pt (by simp) (L rfl)) t2 t0 ?_
   refine mV (L rfl) rfl (gV (g:=91) rfl rfl (L rfl) rfl rfl (gV (g:=91) rfl rfl (L rfl) rfl rfl (swg (g:=91) rfl rfl (c_e (L rfl)) rfl t2 t0 (sw (c_pt rfl (L rfl)) t2 t0 (mV (L rfl) rfl (swg (g:=96) rfl (decide_eq_true rfl) (c_lp ag26 sz26 (by rfl) (by exact al4) rfl (L rfl)) rfl t1 t1 ?_))))))
   refine swg (g:=96) rfl (decide_eq_true rfl) (c_lp ag26 sz26 (by rfl) (by exact al4) rfl (L rfl)) rfl t1 t1 ?_
   refine swg (g:=96) rfl (decide_eq_true rfl) (c_c hG hX cl16 rfl hN (k_sameR s1) (L rfl)) rfl t2 t0 (sw (c_pt (decide_eq_true rfl) (L rfl)) t2 t0 (mV (L rfl) rfl (gV (g:=101) rfl rfl (L rfl) rfl rfl (gV (g:=101) rfl rfl (L rfl) rfl rfl (swg (g:=101) rfl rfl (c_e (L rfl)) rfl t2 t0 (sw (c_pt rfl (L rfl)) t2 t0 (aV (L rfl) rfl ?_)))))))
   refine seq_nil ⟨aoks [⟨[],[],[78],[]⟩,⟨[78],[],[79],[]⟩,⟨[79,5],[5],[80],[]⟩,⟨[79,80],[],[81],[]⟩,⟨[79,5],[5],[82],[]⟩,⟨[79,82],[],[83],[]⟩,⟨[79,81,83],[],[84],[]⟩,⟨[79,84],[],[85],[]⟩,⟨[85],[],[86],[]⟩,⟨[86,11],[11],[87],[]⟩,⟨[86,13],[13],[88],[]⟩,⟨[86,87,88],[],[89],[]⟩,⟨[86,89],[],[90],[]⟩,⟨[90],[],[91],[]⟩,⟨[91,12],[],[92],[]⟩,⟨[91,14],[],[93],[]⟩,⟨[91,92,93],[],[94],[]⟩,⟨[91,94],[],[95],[]⟩,⟨[95],[],[96],[]⟩,⟨[96,15],[15],[97],[]⟩,⟨[96,17],[17],[98],[]⟩,⟨[96,97,98],[],[99],[]⟩,⟨[96,99],[],[100],[]⟩,⟨[100],[],[101],[]⟩,⟨[101,16],[],[102],[]⟩,⟨[101,18],[],[103],[]⟩,⟨[101,102,103],[],[104],[]⟩,⟨[101,104],[],[105],[]⟩,⟨[105],[],[10],[]⟩] (by rfl) (by rfl) (by decide),[(10,_)],[],t1,trivial,?_⟩
   refine ex_ret ?_
   refine ⟨.inr rfl,ResVs.cast (.cons (.tmp rfl) .nil) ?_⟩
   simp
end Go.Proofs.YtcifhkfpmhifaaaGreatDoor.N
