/- Part LogicB of the proof: lemmas for the walks of the given functions. No statement of its own. -/
import Derived.Test.YtebkelnibecmjaaDoorLogicA
import Derived.Laws.Externs
import Derived.Laws.IdiomStrings
import Derived.RangeFuncRecord
import Derived.RangeFuncIn
import Derived.RangeFuncLeaves
import Derived.RangeFuncSeq
import Derived.ChangeSame
import Derived.ChangeVars
import Derived.JoinedOf
import Derived.RowKit
import Derived.RowKitTokens
import Derived.LaidLaws
import Derived.LaidHandle
import Derived.Carry
import Derived.OpenShut
import Derived.Lib.SmallJoins
import Derived.Lib.LaidTab
import Derived.Lay
import Derived.LaidMore
import Derived.MakeChecks
import Derived.Stop.LaidErr
import Derived.ProofKit
set_option linter.unusedVariables false
set_option linter.unusedSimpArgs false
set_option linter.deprecated false
namespace Go.Proofs.YtebkelnibecmjaaDoor.SH
open Go Go.RowKit
theorem ixn {i : Int} (h : 0 ≤ i) : i = (i.toNat : Int) := (Int.toNat_of_nonneg h).symm
section
variable {P : Program} {F : Fr} {d : Nat} {T : TypeId} {pos : String} {aft : Array Edge} {g : Option (Nat × Bool)} {t tx : TypeId}
theorem ixJ {x y : Operand} {n j : Nat} {xs : List Pure} {e : TypeId} {k : IntKind} {i : Int} (hu : P.underlying t = some (.slice e)) (hsz : ∀ w, (sizeOf e).run P w = .ok 1 w) (hi : i = (j : Int)) (h1 : j < n) (hx : xs.length = n) (hlt : d < F.nt) :
    CoreOk P F ⟨some d, .indexAddr t x y, T, pos, aft, g⟩ { rs := [(x, .p (.sl n xs)), (y, .p (.a (.int k i)))], ws := [(d, .im xs j)] } := by
  subst hi
  have := core_indexAddrJ (P := P) (F := F) (d := d) (T := T) (pos := pos) (aft := aft) (g := g) (t := t) (x := x) (y := y) (k := k) (n := n) (xs := xs) hu hsz (i := j) (by omega) (by omega) (by simpa using hx) (by decide) hlt
  simpa using this
theorem ixR {x y : Operand} {k off n tot j : Nat} {B : Blk} {e : TypeId} {kd : IntKind} {i : Int} (hu : P.underlying t = some (.slice e)) (hsz : ∀ w, (sizeOf e).run P w = .ok 1 w) (hl : B.cs.len = tot) (hi : i = (j : Int)) (h1 : j < n) (hlt : d < F.nt) :
    CoreOk P F ⟨some d, .indexAddr t x y, T, pos, aft, g⟩ { rs := [(x, .ref k off n tot), (y, .p (.a (.int kd i)))], rb := [(k, B)], ws := [(d, .at_ k (off + j) tot)] } := by
  subst hi
  have := core_indexAddr (P := P) (F := F) (d := d) (T := T) (pos := pos) (aft := aft) (g := g) (t := t) (x := x) (y := y) (kd := kd) (off := off) (k := k) (n := n) hu hsz hl (i := j) (by omega) (by omega) hlt
  simpa using this
/-- .. of a row from its start. -/
theorem ixR0 {x y : Operand} {k n tot j : Nat} {B : Blk} {e : TypeId} {kd : IntKind} {i : Int} (hu : P.underlying t = some (.slice e)) (hsz : ∀ w, (sizeOf e).run P w = .ok 1 w) (hl : B.cs.len = tot) (hi : i = (j : Int)) (h1 : j < n) (hlt : d < F.nt) :
    CoreOk P F ⟨some d, .indexAddr t x y, T, pos, aft, g⟩ { rs := [(x, .ref k 0 n tot), (y, .p (.a (.int kd i)))], rb := [(k, B)], ws := [(d, .at_ k j tot)] } := by
  have := ixR (P := P) (F := F) (d := d) (T := T) (pos := pos) (aft := aft) (g := g) (t := t) (x := x) (y := y) (kd := kd) (off := 0) (k := k) (n := n) hu hsz hl hi h1 hlt
  simpa using this
theorem slI_hi {x hi : Operand} {n h : Nat} {i : Int} {xs ys : List Pure} {e : TypeId} {sz : Nat} {kh : IntKind} (hu : P.underlying t = some (.slice e)) (hsz : ∀ w, (sizeOf e).run P w = .ok sz w) (hi' : i = (h : Int)) (h2 : h ≤ n) (hy : xs.take (h * sz) = ys) (hlt : d < F.nt) :
    CoreOk P F ⟨some d, .slice t x none (some hi) none, T, pos, aft, g⟩ { rs := [(x, .p (.sl n xs)), (hi, .p (.a (.int kh i)))], ws := [(d, .p (.sl h ys))] } := by
  subst hi'
  exact core_sliceI (kl := .i64) (l := 0) (rs := [(hi, .p (.a (.int kh h)))]) hu hsz (.inl ⟨rfl, rfl⟩) (.inr ⟨_, rfl, by simp; rfl⟩) (Nat.zero_le _) h2 (by simpa using hy) hlt
theorem slI_lo {x lo : Operand} {n l m : Nat} {i : Int} {xs ys : List Pure} {e : TypeId} {sz : Nat} {kl : IntKind} (hu : P.underlying t = some (.slice e)) (hsz : ∀ w, (sizeOf e).run P w = .ok sz w) (hi' : i = (l : Int)) (h2 : l ≤ n) (hm : n - l = m) (hx : xs.length = n * sz) (hy : xs.drop (l * sz) = ys) (hlt : d < F.nt) :
    CoreOk P F ⟨some d, .slice t x (some lo) none none, T, pos, aft, g⟩ { rs := [(x, .p (.sl n xs)), (lo, .p (.a (.int kl i)))], ws := [(d, .p (.sl m ys))] } := by
  subst hi' hm
  refine core_sliceI (kh := .i64) (h := n) (rs := [(lo, .p (.a (.int kl l)))]) hu hsz (.inr ⟨_, rfl, by simp; rfl⟩) (.inl ⟨rfl, rfl⟩) h2 (Nat.le_refl _) ?_ hlt
  rw [List.take_of_length_le, hy]
  rw [List.length_drop, hx, Nat.sub_mul]
  omega
theorem slI_lh {x lo hi : Operand} {n l h m : Nat} {i j : Int} {xs ys : List Pure} {e : TypeId} {sz : Nat} {kl kh : IntKind} (hu : P.underlying t = some (.slice e)) (hsz : ∀ w, (sizeOf e).run P w = .ok sz w) (hi' : i = (l : Int)) (hj' : j = (h : Int)) (h1 : l ≤ h) (h2 : h ≤ n) (hm : h - l = m) (hy : (xs.drop (l * sz)).take (m * sz) = ys) (hlt : d < F.nt) :
    CoreOk P F ⟨some d, .slice t x (some lo) (some hi) none, T, pos, aft, g⟩ { rs := [(x, .p (.sl n xs)), (lo, .p (.a (.int kl i))), (hi, .p (.a (.int kh j)))], ws := [(d, .p (.sl m ys))] } := by
  subst hi' hj' hm
  exact core_sliceI (rs := [(lo, .p (.a (.int kl l))), (hi, .p (.a (.int kh h)))]) hu hsz (.inr ⟨_, rfl, by simp; exact .inl rfl⟩) (.inr ⟨_, rfl, by simp; exact .inr rfl⟩) h1 h2 hy hlt
theorem slR_hi {x hi : Operand} {k off n tot h : Nat} {i : Int} {B : Blk} {e : TypeId} {sz : Nat} {kh : IntKind} (hu : P.underlying t = some (.slice e)) (hsz : ∀ w, (sizeOf e).run P w = .ok sz w) (hBs : B.sz = sz) (hl : B.cs.len = tot) (hi' : i = (h : Int)) (h2 : h ≤ n) (hlt : d < F.nt) :
    CoreOk P F ⟨some d, .slice t x none (some hi) none, T, pos, aft, g⟩ { rs := [(x, .ref k off n tot), (hi, .p (.a (.int kh i)))], rb := [(k, B)], ws := [(d, .ref k off h tot)] } := by
  subst hi'
  have := core_sliceR (P := P) (F := F) (d := d) (T := T) (pos := pos) (aft := aft) (g := g) (t := t) (x := x) (k := k) (off := off) (n := n) (kl := .i64) (l := 0) (h := h) (hi := some hi) (lo := none) (rs := [(hi, .p (.a (.int kh h)))]) hu hsz hBs hl (.inl ⟨rfl, rfl⟩) (.inr ⟨_, rfl, by simp; rfl⟩) (Nat.zero_le _) h2 (.inl rfl) hlt
  simpa using this
theorem slS_hi {x hi : Operand} {h : Nat} {i : Int} {s : ByteArray} {kh : IntKind} (hu : P.underlying t = some .string) (hi' : i = (h : Int)) (h2 : h ≤ s.size) (hlt : d < F.nt) :
    CoreOk P F ⟨some d, .slice t x none (some hi) none, T, pos, aft, g⟩ { rs := [(x, .p (.a (.string s))), (hi, .p (.a (.int kh i)))], ws := [(d, .p (.a (.string (s.extract 0 h))))] } := by
  subst hi'
  exact core_sliceS (kl := .i64) (rs := [(hi, .p (.a (.int kh h)))]) hu (.inl ⟨rfl, rfl⟩) (.inr ⟨_, rfl, by simp; rfl⟩) (Nat.zero_le _) h2 hlt
theorem slS_lo {x lo : Operand} {l : Nat} {i : Int} {s : ByteArray} {kl : IntKind} (hu : P.underlying t = some .string) (hi' : i = (l : Int)) (h2 : l ≤ s.size) (hlt : d < F.nt) :
    CoreOk P F ⟨some d, .slice t x (some lo) none none, T, pos, aft, g⟩ { rs := [(x, .p (.a (.string s))), (lo, .p (.a (.int kl i)))], ws := [(d, .p (.a (.string (s.extract l s.size))))] } := by
  subst hi'
  exact core_sliceS (kh := .i64) (rs := [(lo, .p (.a (.int kl l)))]) hu (.inr ⟨_, rfl, by simp; rfl⟩) (.inl ⟨rfl, rfl⟩) h2 (Nat.le_refl _) hlt
/-- append of data to a row of the call's own. -/
theorem apP {x y : Operand} {k n m tot sz q r : Nat} {e : TypeId} {ie : TypeInfo} {z : Value} {xs ys zs : List Pure} (hu : P.underlying t = some (.slice e)) (hux : P.underlying tx = some (.slice e)) (hi : ∀ w, (typeInfo e).run P w = .ok ie w) (hz : ie.zero = some z) (hsz : ie.size = sz)
    (hzl : z.cells.size = sz) (hpos : 0 < sz) (hl : xs.length = tot) (hn : n * sz = tot) (hul : ys.length = m * sz) (he : xs ++ ys = zs) (hq : n + m = q) (hr : tot + m * sz = r) (hby : 2 * q * ie.bytes ≤ 281474976710656) (h63 : q ≤ 9223372036854775807) (hpk : F.pin k = none) (hlt : d < F.nt) :
    CoreOk P F ⟨some d, .call ⟨.builtin .append, #[x, y], #[t, tx]⟩, T, pos, aft, g⟩ ⟨[(x, .ref k 0 n tot), (y, .p (.sl m ys))], [(k, ⟨e, sz, .pure xs⟩)], none, [(d, .ref k 0 q r)], [(k, ⟨e, sz, .pure zs⟩)]⟩ := by
  subst he hq hr
  exact core_app hu hi hz hsz hzl hpos hl hn (srcI hux hul) (by simpa using hul) .data rfl hby h63 hpk hlt
/-- .. to no row. -/
theorem apN {x y : Operand} {k m sz r : Nat} {e : TypeId} {ie : TypeInfo} {z : Value} {ys : List Pure} (hu : P.underlying t = some (.slice e)) (hux : P.underlying tx = some (.slice e)) (hi : ∀ w, (typeInfo e).run P w = .ok ie w) (hz : ie.zero = some z) (hsz : ie.size = sz)
    (hzl : z.cells.size = sz) (hm : 0 < m) (hul : ys.length = m * sz) (hr : m * sz = r) (hby : 2 * m * ie.bytes ≤ 281474976710656) (h63 : m ≤ 9223372036854775807) (hpk : F.pin k = none) (hlt : d < F.nt) :
    CoreOk P F ⟨some d, .call ⟨.builtin .append, #[x, y], #[t, tx]⟩, T, pos, aft, g⟩ ⟨[(x, .p (.a (.slice none 0 0))), (y, .p (.sl m ys))], [], some k, [(d, .ref k 0 m r)], [(k, ⟨e, sz, .pure ys⟩)]⟩ := by
  subst hr
  have hfr : ∀ l : List Pure, PV.freeL k (l.map .p) = true := by
    intro l
    induction l with
    | nil => rfl
    | cons x l ih => simp [PV.freeL, PV.free, ih]
  exact core_appN hu hi hz hsz hzl hm (srcI hux hul) (by simpa using hul) (.inl (by simpa using AppC.data (xs := []) (ys := ys))) (hfr ys) rfl hby h63 hpk hlt
theorem core_loadQ {x : Operand} {k off n tot sz : Nat} {bT : TypeId} {xs ys : List Pure} (hag : ∀ w, (isAgg t).run P w = .ok true w) (hsz : ∀ w, (sizeOf t).run P w = .ok n w) (hl : xs.length = tot) (hv : (xs.drop off).take n = ys) (hn : ys.length = n) (hlt : d < F.nt) :
    CoreOk P F ⟨some d, .load t x, T, pos, aft, g⟩ { rs := [(x, .at_ k off tot)], rb := [(k, ⟨bT, sz, .pure xs⟩)], ws := [(d, .p (.agg ys))] } := by
  refine core_loadP hag hsz hl ?_ hn hlt
  simp only [Cells.sub, hv]
  clear hv hn
  induction ys with
  | nil => exact .nil
  | cons y ys ih => exact .cons ih
/-- max and min of two numbers. -/
theorem core_max {x y : Operand} {k : IntKind} {m n : Int} {ts : Array TypeId} (hlt : d < F.nt) : CoreOk P F ⟨some d, .call ⟨.builtin .max, #[x, y], ts⟩, T, pos, aft, g⟩ { rs := [(x, .p (.a (.int k m))), (y, .p (.a (.int k n)))], ws := [(d, .p (.a (.int k (if m < n then n else m))))] } :=
  core_atom2 hlt fun e w h1 h2 => by
    simp [execOp, resolve, invoke, builtin, Builtin.max_, Builtin.max2, h1, h2]
theorem core_min {x y : Operand} {k : IntKind} {m n : Int} {ts : Array TypeId} (hlt : d < F.nt) : CoreOk P F ⟨some d, .call ⟨.builtin .min, #[x, y], ts⟩, T, pos, aft, g⟩ { rs := [(x, .p (.a (.int k m))), (y, .p (.a (.int k n)))], ws := [(d, .p (.a (.int k (if n < m then n else m))))] } :=
  core_atom2 hlt fun e w h1 h2 => by
    simp [execOp, resolve, invoke, builtin, Builtin.min_, Builtin.min2, h1, h2]
end
theorem own_of {F : Fr} {S : St} {z : List Nat} {H : List (Nat × Blk)} (h : ∀ b, F.X b → ∃ j n, F.pin j = some (b, n) ∧ H.lookup j ≠ none) (hH : H.all (fun p => (S.blk p.1).isSome && !z.contains p.1) = true) : Own F S z := fun b hb => by
  obtain ⟨j, n, h1, h2⟩ := h b hb
  have : ∀ l : List (Nat × Blk), l.all (fun p => (S.blk p.1).isSome && !z.contains p.1) = true → l.lookup j ≠ none → (S.blk j).isSome = true ∧ z.contains j = false := by
    intro l
    induction l with
    | nil => intro _ h; simp at h
    | cons p l ih =>
      obtain ⟨s, u⟩ := p
      intro ha h
      simp only [List.all_cons, Bool.and_eq_true, Bool.not_eq_true'] at ha
      rw [List.lookup_cons] at h
      by_cases e : j = s
      · subst e; exact ha.1
      · rw [show (j == s) = false by simpa using e] at h
        exact ih (by simpa using ha.2) h
  obtain ⟨h3, h4⟩ := this H hH h2
  exact .inr ⟨j, n, h1, by intro e; simp [e] at h3, h4⟩
end Go.Proofs.YtebkelnibecmjaaDoor.SH
namespace Go.Proofs.YtebkelnibecmjaaDoor.SH
open Go Go.RowKit
/-- The same value, read with less detail. -/
theorem core_pc {P : Program} {F : Fr} {o : Oper} {rs : List (Operand × PV)} {rb wb : List (Nat × Blk)} {fr : Option Nat} {d : Nat} {x y : Pure} (h : CoreOk P F o ⟨rs, rb, fr, [(d, .p x)], wb⟩) (hp : Pc x y) : CoreOk P F o ⟨rs, rb, fr, [(d, .p y)], wb⟩ := by
  intro S a w hS hA Q K hK
  refine h S a w hS ⟨hA.rs, hA.rb, hA.fresh⟩ Q K fun a' w' ⟨ρ, h'⟩ => hK a' w' ⟨ρ, ?_⟩
  refine ⟨fun t v ht => ?_, h'.blks, h'.inj, h'.frame, h'.nt, h'.df, h'.pin⟩
  simp only [St.app, St.slot, List.cons_append, List.nil_append, List.lookup_cons] at ht
  by_cases e : t = d
  · subst e
    simp only [BEq.rfl, Option.some.injEq] at ht
    subst ht
    obtain ⟨u, hu, hr⟩ := h'.slots t (.p x) (by simp [St.app, St.slot])
    refine ⟨u, hu, ?_⟩
    simp only [RelV] at hr ⊢
    exact hp.rel hr
  · rw [show (t == d) = false by simpa using e] at ht
    exact h'.slots t v (by simp only [St.app, St.slot, List.cons_append, List.nil_append, List.lookup_cons]; rw [show (t == d) = false by simpa using e]; exact ht)
inductive SameH : List (Nat × Blk) → List (Nat × Blk) → Prop
  | nil : SameH [] []
  | cons {j : Nat} {T : TypeId} {sz : Nat} {cs cs' : Cells} {H H' : List (Nat × Blk)} : cs'.len = cs.len → SameH H H' → SameH ((j, ⟨T, sz, cs⟩) :: H) ((j, ⟨T, sz, cs'⟩) :: H')
theorem SameH.to {H H' : List (Nat × Blk)} (h : SameH H H') : ∀ j B B', H.lookup j = some B → H'.lookup j = some B' → B'.T = B.T ∧ B'.sz = B.sz ∧ B'.cs.len = B.cs.len := by
  induction h with
  | nil => intro j B B' h; simp at h
  | @cons i T sz cs cs' H H' hl _ ih =>
    intro j B B' h h'
    rw [List.lookup_cons] at h h'
    by_cases e : j = i
    · subst e
      simp only [BEq.rfl, Option.some.injEq] at h h'
      subst h h'
      exact ⟨rfl, rfl, hl⟩
    · rw [show (j == i) = false by simpa using e] at h h'
      exact ih j B B' h h'
theorem sub_of {H H' : List (Nat × Blk)} (h : (H'.map (·.1)).all (fun k => (H.lookup k).isSome) = true) : ∀ j B', H'.lookup j = some B' → ∃ B, H.lookup j = some B := fun j B' hj => by
  have : ∀ l : List (Nat × Blk), (l.map (·.1)).all (fun k => (H.lookup k).isSome) = true → l.lookup j = some B' → (H.lookup j).isSome = true := by
    intro l
    induction l with
    | nil => intro _ h; simp at h
    | cons p l ih =>
      obtain ⟨s, u⟩ := p
      intro ha h
      simp only [List.map_cons, List.all_cons, Bool.and_eq_true] at ha
      rw [List.lookup_cons] at h
      by_cases e : j = s
      · subst e; exact ha.1
      · rw [show (j == s) = false by simpa using e] at h
        exact ih ha.2 h
  exact Option.isSome_iff_exists.1 (this H' h hj)
section
variable {P : Program} {F : Fr} {ops : Array Oper} {sl : List (Nat × PV)} {hb : List (Nat × Blk)} {dst : Option Nat} {op : Op} {T : TypeId} {pos : String} {aft : Array Edge} {os : List Oper} {rs : List (Operand × PV)} {rb : List (Nat × Blk)} {K : List Ann → St → Prop}
theorem swB {d : Nat} {v : PV} {wb : List (Nat × Blk)} (hc : CoreOk P F ⟨dst, op, T, pos, aft, none⟩ ⟨rs, rb, none, [(d, v)], wb⟩) (h1 : Reads ⟨sl, hb⟩ rs) (h2 : ReadsB ⟨sl, hb⟩ rb) (hn : SeqK P F ops ⟨(d, v) :: sl, wb ++ hb⟩ os fun As S' => K (⟨rs, rb, none, [(d, v)], wb⟩ :: As) S') :
    SeqK P F ops ⟨sl, hb⟩ (⟨dst, op, T, pos, aft, none⟩ :: os) K :=
  let ⟨As, S', h, hK⟩ := hn
  ⟨_, S', .cons (opok_plain rfl hc) (holds_of h1 h2 trivial) h, hK⟩
end
theorem exm {P : Program} {F : Fr} {Q : Exit → St → Prop} {S : St} {id : Nat} {l : List Oper} {y : Code} {sl sl0 : List (Nat × PV)} {hb hb0 : List (Nat × Blk)} (_ : HasS S sl0) (_ : HasB S hb0) (h : SeqK P F l.toArray S l fun _ S1 => HasS S1 (sl ++ sl0) ∧ HasB S1 (hb ++ hb0)) (hn : Exec P F y ⟨sl ++ sl0, hb ++ hb0⟩ Q) (hnd : noDef l = true := by rfl) : Exec P F (.seq (.region id l.toArray false) y) S Q :=
  let ⟨_, _, h, h1, h2⟩ := h
  ex_seq (ex_region h (hn.weak (le_of h1 h2)) hnd)
theorem exmd {P : Program} {F : Fr} {Q : Exit → St → Prop} {S : St} {id : Nat} {l : List Oper} {y : Code} {sl sl0 : List (Nat × PV)} {hb hb0 : List (Nat × Blk)} (hm : P.follows .mixedOrders = true) (_ : HasS S sl0) (_ : HasB S hb0) (h : SeqK P F l.toArray S l fun As S1 => (anyOk l As [] [] && freshAll S As) = true ∧ HasS S1 (sl ++ sl0) ∧ HasB S1 (hb ++ hb0)) (hn : Exec P F y ⟨sl ++ sl0, hb ++ hb0⟩ Q) (hnd : noDef l = true := by rfl) : Exec P F (.seq (.region id l.toArray true) y) S Q :=
  let ⟨_, _, h, ho, h1, h2⟩ := h
  ex_seq (ex_draw hm h ho (hn.weak (le_of h1 h2)) hnd)
theorem ob {S : St} {t : Nat} {a b : Bool} (hs : S.slot t = some (.p (.a (.bool a)))) (h : a = b) : S.slot t = some (.p (.a (.bool b))) := h ▸ hs
inductive Places (P : Program) : List Field → List (Nat × Nat) → Prop
  | nil : Places P [] []
  | cons {f : Field} {n : Nat} {fs : List Field} {ps : List (Nat × Nat)} : (∀ w, (sizeOf f.type).run P w = .ok n w) → Places P fs ps → Places P (f :: fs) ((f.offset, n) :: ps)
theorem Places.to {P : Program} {fs : List Field} {ps : List (Nat × Nat)} (h : Places P fs ps) : ∀ w, (fs.toArray.mapM fun f => do pure (f.offset, ← sizeOf f.type) : Sem _).run P w = .ok ps.toArray w := by
  intro w
  rw [List.mapM_toArray]
  have : (fs.mapM fun f => do pure (f.offset, ← sizeOf f.type) : Sem _).run P w = .ok ps w := by
    induction h with
    | nil => simp
    | cons h1 _ ih =>
      simp only [bind_pure_comp] at ih
      simp [List.mapM_cons, h1, ih]
  simp only [bind_pure_comp] at this
  simp [this]
theorem getC {xs : List Pure} {i : Nat} {y : Pure} (h : xs[i]? = some y) : (Cells.pure xs).get i = some (.p y) := by simp [Cells.get, h]
theorem len_pure {xs ys : List Pure} (h : ys.length = xs.length) : (Cells.pure ys).len = (Cells.pure xs).len := h
theorem len_mix {xs ys : List PV} (h : ys.length = xs.length) : (Cells.mix ys).len = (Cells.mix xs).len := h
end Go.Proofs.YtebkelnibecmjaaDoor.SH
namespace Go.Proofs.YtebkelnibecmjaaDoor.SH
open Go
theorem shrE {m n c : Int} {b : Nat} (h : (2 : Int) ^ (min n.toNat b) = c) (hc : 0 ≤ c) : m.fdiv (2 ^ (min n.toNat b)) = m / c := by
  rw [h, Int.fdiv_eq_ediv_of_nonneg _ hc]
theorem shlE {k : IntKind} {m n c r : Int} {b : Nat} (h : (2 : Int) ^ (min n.toNat b) = c) (hr : k.wrap (m * c) = r) : k.wrap (m * 2 ^ (min n.toNat b)) = r := by rw [h, hr]
theorem ofInt_toNat {w : Nat} {a : Int} (h0 : 0 ≤ a) (h1 : a < 2 ^ w) : (BitVec.ofInt w a).toNat = a.toNat := by
  rw [BitVec.toNat_ofInt, Int.emod_eq_of_lt h0 (by simpa using h1)]
theorem or_nat {k : Nat} {a b : Int} (ha : 0 ≤ a) (hak : a < 2 ^ k) (hb : 0 ≤ b) : ((a.toNat ||| (b * 2 ^ k).toNat : Nat) : Int) = a + b * 2 ^ k := by
  obtain ⟨x, rfl⟩ := Int.eq_ofNat_of_zero_le ha
  obtain ⟨y, rfl⟩ := Int.eq_ofNat_of_zero_le hb
  have hx : x < 2 ^ k := by exact_mod_cast hak
  have e : (((y : Int) * 2 ^ k).toNat) = 2 ^ k * y := by
    have : ((y : Int) * 2 ^ k) = ((2 ^ k * y : Nat) : Int) := by push_cast; rw [Int.mul_comm]
    rw [this, Int.toNat_natCast]
  rw [e, Int.toNat_natCast, Nat.or_comm, ← Nat.two_pow_add_eq_or_of_lt hx]
  push_cast
  rw [Int.mul_comm]; omega
theorem or64 {a b c : Int} (k : Nat) (hc : c = b * 2 ^ k) (ha : 0 ≤ a) (hak : a < 2 ^ k) (hb : 0 ≤ b) (hk : k ≤ 64) (hs : b * 2 ^ k < 18446744073709551616) (hs2 : a + b * 2 ^ k < 18446744073709551616) : IntKind.u64.wrap ((BitVec.ofInt IntKind.u64.bits a ||| BitVec.ofInt IntKind.u64.bits c).toNat : Nat) = a + b * 2 ^ k := by
  subst hc
  have hp : (0 : Int) < 2 ^ k := Int.pow_pos (by decide)
  have hb' : 0 ≤ b * 2 ^ k := Int.mul_nonneg hb (Int.le_of_lt hp)
  rw [BitVec.toNat_or, ofInt_toNat ha (by show a < 2 ^ 64; omega), ofInt_toNat hb' (by show _ < 2 ^ 64; omega), or_nat ha hak hb]
  rw [wu64]; omega
theorem or64' {a b c : Int} (k : Nat) (hc : c = b * 2 ^ k) (ha : 0 ≤ a) (hak : a < 2 ^ k) (hb : 0 ≤ b) (hk : k ≤ 64) (hs : b * 2 ^ k < 18446744073709551616) (hs2 : a + b * 2 ^ k < 18446744073709551616) : IntKind.u64.wrap ((BitVec.ofInt IntKind.u64.bits c ||| BitVec.ofInt IntKind.u64.bits a).toNat : Nat) = a + b * 2 ^ k := by
  have := or64 k hc ha hak hb hk hs hs2
  rw [BitVec.or_comm] at this; exact this
theorem or32 {a b c : Int} (k : Nat) (hc : c = b * 2 ^ k) (ha : 0 ≤ a) (hak : a < 2 ^ k) (hb : 0 ≤ b) (hk : k ≤ 32) (hs : b * 2 ^ k < 4294967296) (hs2 : a + b * 2 ^ k < 4294967296) : IntKind.u32.wrap ((BitVec.ofInt IntKind.u32.bits a ||| BitVec.ofInt IntKind.u32.bits c).toNat : Nat) = a + b * 2 ^ k := by
  subst hc
  have hp : (0 : Int) < 2 ^ k := Int.pow_pos (by decide)
  have hb' : 0 ≤ b * 2 ^ k := Int.mul_nonneg hb (Int.le_of_lt hp)
  rw [BitVec.toNat_or, ofInt_toNat ha (by show a < 2 ^ 32; omega), ofInt_toNat hb' (by show _ < 2 ^ 32; omega), or_nat ha hak hb]
  rw [wu32]; omega
/-- The last 32 bits. -/
theorem and32 {a : Int} (h0 : 0 ≤ a) (h1 : a < 18446744073709551616) : IntKind.u64.wrap ((BitVec.ofInt IntKind.u64.bits a &&& BitVec.ofInt IntKind.u64.bits 4294967295).toNat : Nat) = a % 4294967296 := by
  obtain ⟨x, rfl⟩ := Int.eq_ofNat_of_zero_le h0
  rw [BitVec.toNat_and, ofInt_toNat h0 (by show _ < 2 ^ 64; omega), ofInt_toNat (by decide) (by decide)]
  have : x &&& 4294967295 = x % 4294967296 := Nat.and_two_pow_sub_one_eq_mod x 32
  rw [Int.toNat_natCast, show (4294967295 : Int).toNat = 4294967295 from rfl, this, wu64]
  omega
theorem tabOf {s : ByteArray} {f : Nat → UInt8} {n : Nat} {i : Int} (h : ∀ j, j < n → s[j]? = some (f j)) (h0 : 0 ≤ i) (h1 : i < n) : s[i.toNat]? = some (f i.toNat) := h _ (by omega)
end Go.Proofs.YtebkelnibecmjaaDoor.SH
namespace Go.Proofs.YtebkelnibecmjaaDoor.SH
open Go Go.RowKit
def zrowV : Nat → List PV → List PV
  | 0, _ => []
  | n + 1, zs => zs ++ zrowV n zs
theorem Zs.append {vs us : List Value} {xs ys : List PV} (h : Zs vs xs) (h2 : Zs us ys) : Zs (vs ++ us) (xs ++ ys) := by
  induction h with
  | nil => exact h2
  | cons hv _ ih => exact .cons hv ih
theorem madeCells_list (c : Array Value) : ∀ n : Nat, (madeCells c (n * c.size)).toList = (List.replicate n c.toList).flatten
  | 0 => by simp [madeCells]
  | n + 1 => by
    have ih := madeCells_list c n
    simp only [madeCells, Array.toList_map, Array.toList_range] at ih ⊢
    rw [show (n + 1) * c.size = c.size + n * c.size by rw [Nat.add_mul]; omega, List.range_add, List.map_append, List.map_map, List.replicate_succ, List.flatten_cons, ← ih]
    congr 1
    · apply List.ext_getElem
      · simp
      · intro i h1 h2
        simp only [List.length_map, List.length_range] at h1
        simp [Nat.mod_eq_of_lt h1, h1]
    · apply List.map_congr_left
      intro i _
      simp
theorem zs_made {z : Value} {zs : List PV} {n sz : Nat} (h : Zs z.cells.toList zs) (hs : z.cells.size = sz) : Zs (madeCells z.cells (n * sz)).toList (zrowV n zs) := by
  subst hs
  rw [madeCells_list]
  induction n with
  | zero => exact .nil
  | succ n ih => rw [List.replicate_succ, List.flatten_cons]; exact h.append ih
end Go.Proofs.YtebkelnibecmjaaDoor.SH
namespace Go.Proofs.YtebkelnibecmjaaDoor.SH
open Go
/-- As 'anyOk'; it counts by what holds no values. -/
def anyOk2 : List Oper → List Ann → List Nat → List Ann → Bool
  | [], [], _, _ => true
  | o :: os, B :: As, ms, done =>
    backOf ms.length o && ((List.range ms.length).all fun i => (maskOf ms o).testBit i || (done[i]?.all fun A => apart A B)) &&
    anyOk2 os As (ms ++ [maskOf ms o]) (done ++ [B])
  | _, _, _, _ => false
theorem anyOk2_eq : ∀ (os : List Oper) (As : List Ann) (ms : List Nat) (done : List Ann), ms.length = done.length → anyOk2 os As ms done = anyOk os As ms done
  | [], [], _, _, _ => rfl
  | o :: os, B :: As, ms, done, h => by
    simp only [anyOk2, anyOk, h]
    rw [anyOk2_eq os As _ _ (by simp [h])]
  | [], _ :: _, _, _, _ => rfl
  | _ :: _, [], _, _, _ => rfl
theorem aok {os : List Oper} {As : List Ann} {S : St} (h : anyOk2 os As [] [] = true) (h2 : freshAll S As = true) : (anyOk os As [] [] && freshAll S As) = true := by
  rw [← anyOk2_eq os As [] [] rfl, h, h2]; rfl
end Go.Proofs.YtebkelnibecmjaaDoor.SH
namespace Go.Proofs.YtebkelnibecmjaaDoor.SH
open Go
/-- A loop whose first round is walked by itself. -/
theorem exlp {P : Program} {F : Fr} {Q : Exit → St → Prop} {S : St} {c : Code} {α : Type} (ws : α → List (Nat × PV)) (wb : α → List (Nat × Blk)) (ok : α → Prop) (μ : α → Nat) (N : Nat) {sl : List (Nat × PV)} {hb : List (Nat × Blk)} (_ : HasS S sl) (_ : HasB S hb)
    (first : Exec P F c S (QSeq (fun S' => ∃ y, ok y ∧ μ y < N ∧ St.le ⟨ws y ++ sl, wb y ++ hb⟩ S') Q))
    (round : ∀ x, ok x → Exec P F c ⟨ws x ++ sl, wb x ++ hb⟩ (QSeq (fun S' => ∃ y, ok y ∧ μ y < μ x ∧ St.le ⟨ws y ++ sl, wb y ++ hb⟩ S') Q)) : Exec P F (.loop c) S Q := by
  refine ex_loop (α := Option α) (fun x => match x with | none => S | some x => ⟨ws x ++ sl, wb x ++ hb⟩) (fun x => match x with | none => True | some x => ok x) (fun x => match x with | none => N | some x => μ x) none trivial ⟨fun _ _ h => h, fun _ _ h => h⟩ fun x hx => ?_
  cases x with
  | none =>
    refine ⟨fun n a w hS => wpIn_mono (first.run n a w hS) fun e a' w' hq => hq.elim (fun ⟨S', h1, h2⟩ => .inl ⟨S', ?_, h2⟩) .inr⟩
    cases e with
    | normal => obtain ⟨y, h3, h4, h5⟩ := h1; exact ⟨some y, h3, h4, h5⟩
    | _ => exact h1
  | some x =>
    refine ⟨fun n a w hS => wpIn_mono ((round x hx).run n a w hS) fun e a' w' hq => hq.elim (fun ⟨S', h1, h2⟩ => .inl ⟨S', ?_, h2⟩) .inr⟩
    cases e with
    | normal => obtain ⟨y, h3, h4, h5⟩ := h1; exact ⟨some y, h3, h4, h5⟩
    | _ => exact h1
end Go.Proofs.YtebkelnibecmjaaDoor.SH
namespace Go.Proofs.YtebkelnibecmjaaDoor.SH
open Go
/-- What holds behind a piece of code, told ahead. -/
theorem ex_cut {P : Program} {F : Fr} {Q : Exit → St → Prop} {S : St} {x y : Code} {sl sl0 : List (Nat × PV)} {hb hb0 : List (Nat × Blk)} (_ : HasS S sl0) (_ : HasB S hb0) (h : Exec P F x S (QSeq (fun S1 => HasS S1 (sl ++ sl0) ∧ HasB S1 (hb ++ hb0)) Q)) (hn : Exec P F y ⟨sl ++ sl0, hb ++ hb0⟩ Q) : Exec P F x S (QSeq (fun S' => Exec P F y S' Q) Q) := by
  refine ⟨fun n a w hS => wpIn_mono (h.run n a w hS) fun e a' w' hq => hq.elim (fun ⟨S', h1, h4⟩ => .inl ⟨S', ?_, h4⟩) .inr⟩
  cases e with
  | normal => exact hn.weak (le_of h1.1 h1.2)
  | _ => exact h1
end Go.Proofs.YtebkelnibecmjaaDoor.SH
namespace Go.Proofs.YtebkelnibecmjaaDoor.SH
open Go
section
variable {P : Program} {F : Fr} {d : Nat} {T xT yT : TypeId} {pos : String} {aft : Array Edge} {g : Option (Nat × Bool)} {x y : Operand} {k : IntKind} {m n r : Int}
theorem core_xor (hlt : d < F.nt) (hr : k.wrap (BitVec.ofInt k.bits m ^^^ BitVec.ofInt k.bits n).toNat = r) : CoreOk P F ⟨some d, .binOp .xor xT x y yT, T, pos, aft, g⟩ { rs := [(x, .p (.a (.int k m))), (y, .p (.a (.int k n)))], ws := [(d, .p (.a (.int k r)))] } :=
  core_atom2 hlt fun e w h1 h2 => by subst hr; simp [execOp, h1, h2, binOp, Op.intBits, eqGuard]
theorem core_xorU (hk : k.signed = false) (hlt : d < F.nt) (hr : k.wrap (BitVec.ofInt k.bits k.max ^^^ BitVec.ofInt k.bits m).toNat = r) : CoreOk P F ⟨some d, .unOp .xor xT x, T, pos, aft, g⟩ { rs := [(x, .p (.a (.int k m)))], ws := [(d, .p (.a (.int k r)))] } :=
  core_atom1 hlt fun e w h1 => by subst hr; simp [execOp, h1, Op.unary, Op.intBits, hk]
/-- math/bits.Sub64, which the model stands in for. -/
theorem core_sub64 {f : FuncId} {z : Operand} {b : Int} {ts : Array TypeId} {q s : Int} (hf : ∀ (u v c : Nat) (w : World), c ≤ 1 → (callFunc f #[.int .u64 u, .int .u64 v, .int .u64 c]).run P w = .ok (.value (.tuple #[.int .u64 (((u + 18446744073709551616 - v - c) % 18446744073709551616 : Nat) : Int), .int .u64 ((if u < v + c then 1 else 0 : Nat) : Int)])) w)
    (hm : 0 ≤ m ∧ m < 18446744073709551616) (hn : 0 ≤ n ∧ n < 18446744073709551616) (hc : 0 ≤ b ∧ b ≤ 1) (hq : (m - n - b) % 18446744073709551616 = q) (hs : (if m < n + b then 1 else 0) = s) (hlt : d < F.nt) :
    CoreOk P F ⟨some d, .call ⟨.value (.func f), #[x, y, z], ts⟩, T, pos, aft, g⟩ { rs := [(x, .p (.a (.int .u64 m))), (y, .p (.a (.int .u64 n))), (z, .p (.a (.int .u64 b)))], ws := [(d, .p (.tup [.a (.int .u64 q), .a (.int .u64 s)]))] } :=
  core_val rfl hlt rfl rfl fun ρ S a w h hA => by
    have h1 := atom_eval h (v := .int .u64 m) (hA.rs (x, _) (by simp))
    have h2 := atom_eval h (v := .int .u64 n) (hA.rs (y, _) (by simp))
    have h3 := atom_eval h (v := .int .u64 b) (hA.rs (z, _) (by simp))
    obtain ⟨u, rfl⟩ := Int.eq_ofNat_of_zero_le hm.1
    obtain ⟨v, rfl⟩ := Int.eq_ofNat_of_zero_le hn.1
    obtain ⟨c, rfl⟩ := Int.eq_ofNat_of_zero_le hc.1
    refine ⟨.tuple #[.int .u64 q, .int .u64 s], ?_, ?_⟩
    · have := hf u v c w (by omega)
      simp only [Int.ofNat_eq_natCast] at h1 h2 h3
      have e1 : (((u + 18446744073709551616 - v - c) % 18446744073709551616 : Nat) : Int) = q := by omega
      have e2 : ((if u < v + c then 1 else 0 : Nat) : Int) = s := by subst hs; split <;> split <;> omega
      rw [e1, e2] at this
      have hef : a.eval (.func f) = .func (.func f) #[] #[] := rfl
      simp [execOp, resolve, hef, Deferred.ofValue, invoke, h1, h2, h3, this]
    · simp only [RelV, Rel, RelL]
      exact ⟨_, rfl, _, _, rfl, rfl, _, _, rfl, rfl, rfl⟩
end
theorem bv32 (B : BitVec 32) : BitVec.ofInt IntKind.u32.bits (B.toNat : Int) = B := by
  show BitVec.ofInt 32 (B.toNat : Int) = B
  rw [BitVec.ofInt_natCast, BitVec.ofNat_toNat, BitVec.setWidth_eq]
theorem wr32 (B : BitVec 32) : IntKind.u32.wrap (B.toNat : Int) = B.toNat := by rw [wu32]; have := B.isLt; omega
theorem bx_and (A B : BitVec 32) : IntKind.u32.wrap ((BitVec.ofInt IntKind.u32.bits (A.toNat : Int) &&& BitVec.ofInt IntKind.u32.bits (B.toNat : Int)).toNat : Nat) = ((A &&& B).toNat : Int) := by
  rw [bv32, bv32]; exact wr32 (A &&& B)
theorem bx_or (A B : BitVec 32) : IntKind.u32.wrap ((BitVec.ofInt IntKind.u32.bits (A.toNat : Int) ||| BitVec.ofInt IntKind.u32.bits (B.toNat : Int)).toNat : Nat) = ((A ||| B).toNat : Int) := by
  rw [bv32, bv32]; exact wr32 (A ||| B)
theorem bx_xor (A B : BitVec 32) : IntKind.u32.wrap ((BitVec.ofInt IntKind.u32.bits (A.toNat : Int) ^^^ BitVec.ofInt IntKind.u32.bits (B.toNat : Int)).toNat : Nat) = ((A ^^^ B).toNat : Int) := by
  rw [bv32, bv32]; exact wr32 (A ^^^ B)
theorem bx_not (A : BitVec 32) : IntKind.u32.wrap ((BitVec.ofInt IntKind.u32.bits IntKind.u32.max ^^^ BitVec.ofInt IntKind.u32.bits (A.toNat : Int)).toNat : Nat) = ((~~~A).toNat : Int) := by
  rw [bv32]
  show IntKind.u32.wrap ((BitVec.allOnes 32 ^^^ A).toNat : Int) = _
  rw [BitVec.allOnes_xor]
  exact wr32 _
theorem msb_nat (B : BitVec 32) : (B.toNat : Int) / 2147483648 = if B.msb then 1 else 0 := by
  have h := B.isLt
  rw [BitVec.msb_eq_decide]
  simp only [decide_eq_true_eq]
  split <;> omega
/-- The borrow of a subtraction of words, by its bits. -/
theorem borrow32 (X Y : BitVec 32) (b : Int) (hb : 0 ≤ b ∧ b ≤ 1) (D : BitVec 32) (hD : (D.toNat : Int) = ((X.toNat : Int) - Y.toNat - b) % 4294967296) :
    (((~~~X &&& Y) ||| (~~~(X ^^^ Y) &&& D)).toNat : Int) / 2147483648 = if (X.toNat : Int) < Y.toNat + b then 1 else 0 := by
  rw [msb_nat]
  simp only [BitVec.msb_or, BitVec.msb_and, BitVec.msb_not, BitVec.msb_xor]
  have hx := X.isLt
  have hy := Y.isLt
  have hd := D.isLt
  simp only [BitVec.msb_eq_decide]
  by_cases h1 : 2 ^ (32 - 1) ≤ X.toNat <;> by_cases h2 : 2 ^ (32 - 1) ≤ Y.toNat <;> by_cases h3 : 2 ^ (32 - 1) ≤ D.toNat <;> simp [h1, h2, h3] <;> omega
end Go.Proofs.YtebkelnibecmjaaDoor.SH
namespace Go.Proofs.YtebkelnibecmjaaDoor.SH
open Go
theorem sub64_run {P : Program} {f : FuncId} {fn : Func} {e : Array Value → Sem Value} (hf : P.funcs[f]? = some fn) (hname : (fn.name == "runtime.NumGoroutine") = false) (hb : fn.body.isNone = true) (hnx : Extern.findNext fn = none) (he : Extern.find fn = some e)
    (h0 : ∀ (u v : Nat) (w : World), (e #[.int .u64 u, .int .u64 v, .int .u64 (0 : Nat)]).run P w = .ok (.tuple #[.int .u64 (((u + 18446744073709551616 - v - 0) % 18446744073709551616 : Nat) : Int), .int .u64 ((if u < v + 0 then 1 else 0 : Nat) : Int)]) w)
    (h1 : ∀ (u v : Nat) (w : World), (e #[.int .u64 u, .int .u64 v, .int .u64 (1 : Nat)]).run P w = .ok (.tuple #[.int .u64 (((u + 18446744073709551616 - v - 1) % 18446744073709551616 : Nat) : Int), .int .u64 ((if u < v + 1 then 1 else 0 : Nat) : Int)]) w) :
    ∀ (u v c : Nat) (w : World), c ≤ 1 → (callFunc f #[.int .u64 u, .int .u64 v, .int .u64 c]).run P w = .ok (.value (.tuple #[.int .u64 (((u + 18446744073709551616 - v - c) % 18446744073709551616 : Nat) : Int), .int .u64 ((if u < v + c then 1 else 0 : Nat) : Int)])) w := by
  intro u v c w hc
  have := run_callFunc_extern hf hname hb hnx he #[.int .u64 u, .int .u64 v, .int .u64 c] w
  rcases (show c = 0 ∨ c = 1 by omega) with rfl | rfl
  · rw [this, h0]; rfl
  · rw [this, h1]; rfl
end Go.Proofs.YtebkelnibecmjaaDoor.SH
namespace Go.Proofs.YtebkelnibecmjaaDoor.SH
@[simp] theorem Cells.len_pure (xs : List Pure) : (Cells.pure xs).len = xs.length := rfl
@[simp] theorem Cells.len_mix (xs : List PV) : (Cells.mix xs).len = xs.length := rfl
end Go.Proofs.YtebkelnibecmjaaDoor.SH
namespace Go.Proofs.YtebkelnibecmjaaDoor.SH
open Go
/-- What an operation reads and writes, by names alone. -/
structure Sk where
  rs : List Nat
  rb : List Nat
  ws : List Nat
  wb : List Nat
def skel (A : Ann) : Sk := ⟨rsSlots A.rs, A.rb.map (·.1), A.ws.map (·.1), A.wb.map (·.1)⟩
def hit (xs ys : List Nat) : Bool := xs.any fun x => ys.contains x
def apartS (A B : Sk) : Bool := !hit A.ws B.rs && !hit B.ws A.rs && !hit A.ws B.ws && !hit A.wb B.rb && !hit B.wb A.rb && !hit A.wb B.wb
def anyOkS : List Oper → List Sk → List Nat → List Sk → Bool
  | [], [], _, _ => true
  | o :: os, B :: As, ms, done =>
    backOf ms.length o && ((List.range ms.length).all fun i => (maskOf ms o).testBit i || (done[i]?.all fun A => apartS A B)) &&
    anyOkS os As (ms ++ [maskOf ms o]) (done ++ [B])
  | _, _, _, _ => false
theorem hit_keys {α : Type} (l : List (Nat × α)) (ts : List Nat) : keysIn l ts = hit (l.map (·.1)) ts := by simp [keysIn, hit, List.any_map, Function.comp_def]
theorem apartS_eq {A B : Ann} (hA : A.fresh = none) (hB : B.fresh = none) : apart A B = apartS (skel A) (skel B) := by
  simp [apart, apartS, skel, hit_keys, Ann.rbk, hA, hB]
theorem anyOkS_eq : ∀ (os : List Oper) (As : List Ann) (ms : List Nat) (done : List Ann), (∀ A ∈ As, A.fresh = none) → (∀ A ∈ done, A.fresh = none) → anyOkS os (As.map skel) ms (done.map skel) = anyOk2 os As ms done
  | [], [], _, _, _, _ => rfl
  | o :: os, B :: As, ms, done, h1, h2 => by
    simp only [List.map_cons, anyOkS, anyOk2]
    have ih := anyOkS_eq os As (ms ++ [maskOf ms o]) (done ++ [B]) (fun A hA => h1 A (by simp [hA])) (fun A hA => by
      rcases List.mem_append.1 hA with hA | hA
      · exact h2 A hA
      · simp at hA; subst hA; exact h1 A (by simp))
    rw [List.map_append, List.map_cons, List.map_nil] at ih
    rw [ih]
    congr 2
    apply congrArg (List.all (List.range ms.length))
    funext i
    congr 1
    rw [List.getElem?_map]
    cases e : done[i]? with
    | none => rfl
    | some A => simp only [Option.map_some, Option.all_some]; exact (apartS_eq (h2 A (List.mem_of_getElem? e)) (h1 B (by simp))).symm
  | [], _ :: _, _, _, _, _ => rfl
  | _ :: _, [], _, _, _, _ => rfl
def noFresh : List Ann → Bool
  | [] => true
  | A :: As => A.fresh.isNone && noFresh As
theorem noFresh_all : ∀ {As : List Ann}, noFresh As = true → ∀ A ∈ As, A.fresh = none
  | [], _, A, hA => by cases hA
  | B :: As, h, A, hA => by
    simp only [noFresh, Bool.and_eq_true, Option.isNone_iff_eq_none] at h
    rcases List.mem_cons.1 hA with rfl | hA
    · exact h.1
    · exact noFresh_all h.2 A hA
theorem freshAll_none {S : St} : ∀ {As : List Ann}, (∀ A ∈ As, A.fresh = none) → freshAll S As = true
  | [], _ => rfl
  | A :: As, h => by
    simp only [freshAll, h A (by simp), Option.all_none, Bool.true_and]
    exact freshAll_none fun B hB => h B (by simp [hB])
theorem aoks {os : List Oper} {As : List Ann} {S : St} (sks : List Sk) (hf : noFresh As = true) (h1 : As.map skel = sks) (h2 : anyOkS os sks [] [] = true) : (anyOk os As [] [] && freshAll S As) = true := by
  have hn := noFresh_all hf
  subst h1
  have := anyOkS_eq os As [] [] hn (by simp)
  rw [List.map_nil] at this
  rw [← anyOk2_eq os As [] [] rfl, ← this, h2, freshAll_none hn]; rfl
end Go.Proofs.YtebkelnibecmjaaDoor.SH
namespace Go.Proofs.YtebkelnibecmjaaDoor.SH
open Go
theorem tdivE {m n : Int} (h : 0 ≤ m) (h1 : 0 ≤ n) (hb : m / n < 18446744073709551616 := by omega) : IntKind.u64.wrap (m.tdiv n) = m / n := by
  rw [Int.tdiv_eq_ediv_of_nonneg h, wu64, Int.emod_eq_of_lt (Int.ediv_nonneg h h1) hb]
theorem tmodE {m n : Int} (h : 0 ≤ m) (_h1 : 0 ≤ n) : m.tmod n = m % n := Int.tmod_eq_emod_of_nonneg h
theorem w64u {n : Int} (h0 : 0 ≤ n) (h1 : n < 18446744073709551616) : IntKind.u64.wrap n = n := by rw [wu64]; omega
end Go.Proofs.YtebkelnibecmjaaDoor.SH
namespace Go.Proofs.YtebkelnibecmjaaDoor.SH
open Go Go.RowKit
/-- The function answers a new row, which nobody else knows: 'n' elements of 'sz' cells. -/
def SaysO (E : Env) (f : FuncId) (args : List Pure) (T : TypeId) (sz n : Nat) (xs : List Pure) : Prop :=
  ∀ (ok : Nat → Prop) (w : World) (vals : List Value), E.G w → RelL ok (hp w) args vals →
    Calls E.P f vals.toArray w fun e w' => ∃ (b cap : Nat) (c : Array Value), e = .returned (.slice (some ⟨b, 0, none⟩) n cap) ∧ n ≤ cap ∧ w.heap.size ≤ b ∧ hp w' b = some (.cells c T (0, 0)) ∧ cap * sz ≤ c.size ∧ xs.length = n * sz ∧
      (∀ (i : Nat) (x : Pure), xs[i]? = some x → ∃ u : Value, c[i]? = some u ∧ u.oneCell' = true ∧ Rel (fun a => (ok a ∨ w.heap.size ≤ a) ∧ a ≠ b) (hp w') x u) ∧ Below w.heap.size w w'

theorem saysO_of {E : Env} {f : FuncId} {fn : Func} {c : Code} {args xs : List Pure} {t k tot n sz m : Nat} {T : TypeId} (hf : E.P.funcs[f]? = some fn) (hb : fn.body = some c) (hn : fn.ntmps = m) (hr : fn.results = #[.tmp t]) (hle : args.length ≤ m)
    (h : ∀ F : Fr, E.G F.w0 → (∀ b, ¬ F.X b) → F.nt = m → F.df = [] → (∀ k, Nat.blt k 1000 = true → F.pin k = none) → Exec E.P F c ⟨argSlots 0 args, []⟩ (fun e S => (e = .normal ∨ e = .ret) ∧ S.slot t = some (.ref k 0 n tot) ∧ ∃ ys, S.blk k = some ⟨T, sz, .pure ys⟩ ∧ ys.length = tot ∧ ys.take (n * sz) = xs ∧ xs.length = n * sz)) : SaysO E f args T sz n xs := by
  intro ok w vals hG hrel
  have hvl := hrel.length
  let F : Fr := ⟨w, ok, fun _ => False, m, [], fun _ => none, none, fun _ _ => False⟩
  have hS : Sat F ⟨argSlots 0 args, []⟩ { tmps := vals.toArray ++ Array.replicate (fn.ntmps - vals.toArray.size) undef, defers := [] } w := by
    refine ⟨fun _ => 0, ⟨fun t v ht => ?_, fun k B hB => by simp [St.blk] at hB, fun k k' hk => by simp [St.blk] at hk, ⟨rfl, rfl, rfl, Nat.le_refl _, fun _ _ _ => rfl⟩, ?_, rfl, fun j b n hj => by cases hj⟩⟩
    · obtain ⟨j, x, rfl, hx, rfl⟩ := argSlots_get ht
      obtain ⟨u, hu, hru⟩ := hrel.get hx
      refine ⟨u, ?_, ?_⟩
      · rw [Nat.zero_add, Array.getElem?_append_left (by have := (List.getElem?_eq_some_iff.1 hu).1; simpa using this)]
        simpa using hu
      · simp only [RelV]
        exact Rel.mono (fun b hb _ => ⟨⟨.inl hb, fun k hk => by simp [St.blk] at hk⟩, rfl⟩) _ _ hru
    · simp [F, hn]; omega
  refine calls_of_wp hf hb (wp_mono (wpIn_wide.1 ((h F hG (fun _ h => h) rfl rfl (fun _ _ => rfl)).run 0 _ w hS)) fun e a' w' hq => ?_)
  obtain ⟨S', ⟨he, hs, ys, hB, hyl, hyx, hxl⟩, ⟨ρ, hS'⟩⟩ := hq.resolve_right (fun h => h.2)
  obtain ⟨cap, cc, e1, e2, e3, e4⟩ := ref_eval hS' (x := .tmp t) (off := 0) (n := n) (by simpa [St.opd] using hs) hB (by simpa [Cells.len] using hyl)
  obtain ⟨c', g1, g2, g3, g4⟩ := hS'.blks k _ hB
  rw [e3] at g1
  injection g1 with g1
  injection g1 with g1
  subst g1
  have hbn : F.w0.heap.size ≤ ρ k := by
    rcases g2 with g2 | g2
    · exact g2.elim
    · exact g2
  have hv : (results fn a'.tmps).run E.P w' = .ok (.slice (some ⟨ρ k, 0, none⟩) n cap) w' := by
    simp only [Act.eval] at e1
    have e : results fn a'.tmps = (do let vs ← [ResultVar.tmp t].toArray.mapM (resRun a'.tmps); pure (if h : vs.size = 1 then vs[0] else .tuple vs)) := by
      unfold results
      rw [hr]
      rfl
    have hm : ([ResultVar.tmp t].toArray.mapM (resRun a'.tmps)).run E.P w' = .ok #[.slice (some ⟨ρ k, 0, none⟩) n cap] w' := by
      rw [List.mapM_toArray]
      simp [List.mapM_cons, resRun, e1]
    rw [e]
    simp only [Sem.run_bind, hm, Result.andThen_ok, Sem.run_pure]
    rfl
  have hfin : ∃ (b cap' : Nat) (c : Array Value), Ending.returned (.slice (some ⟨ρ k, 0, none⟩) n cap) = .returned (.slice (some ⟨b, 0, none⟩) n cap') ∧ n ≤ cap' ∧ w.heap.size ≤ b ∧ hp w' b = some (.cells c T (0, 0)) ∧ cap' * sz ≤ c.size ∧ xs.length = n * sz ∧
      (∀ (i : Nat) (x : Pure), xs[i]? = some x → ∃ u : Value, c[i]? = some u ∧ u.oneCell' = true ∧ Rel (fun a => (ok a ∨ w.heap.size ≤ a) ∧ a ≠ b) (hp w') x u) ∧ Below w.heap.size w w' := by
    refine ⟨ρ k, cap, cc, rfl, e2, hbn, e3, by simpa using e4, hxl, fun i x hx => ?_, ⟨hS'.frame.os, hS'.frame.tape, hS'.frame.output, hS'.frame.size, fun k hk => hS'.frame.block k hk (fun h => h)⟩⟩
    rw [← hyx, List.getElem?_take] at hx
    split at hx
    · obtain ⟨u, hu, ho, hru⟩ := g4 i (.p x) (by simp [Cells.get, hx])
      refine ⟨u, hu, ho, ?_⟩
      simp only [RelV] at hru
      exact Rel.mono (fun b hb _ => ⟨⟨hb.1, hb.2 k (by simp [hB])⟩, rfl⟩) _ _ hru
    · cases hx
  rcases he with rfl | rfl <;> exact ⟨hS'.df, _, hv, hfin⟩

/-- A call that answers a new row. -/
theorem core_callO {E : Env} {F : Fr} (hG : E.G F.w0) (hX : ∀ b, F.X b → E.ng ≤ b) {d k : Nat} {f : FuncId} {os : List Operand} {xs ys : List Pure} {T' : TypeId} {sz n : Nat} {ts : Array TypeId} {T : TypeId} {pos : String} {aft : Array Edge} {g : Option (Nat × Bool)}
    (hcall : ∀ args w, (callFunc f args).run E.P w = .ok (.enter f args) w) (hlen : os.length = xs.length) (hng : E.ng ≤ F.w0.heap.size) (hs : SaysO E f xs T' sz n ys) (hpk : F.pin k = none) (hlt : d < F.nt) :
    CoreOk E.P F ⟨some d, .call ⟨.value (.func f), os.toArray, ts⟩, T, pos, aft, g⟩ ⟨os.zip (xs.map .p), [], some k, [(d, .ref k 0 n (n * sz))], [(k, ⟨T', sz, .pure ys⟩)]⟩ := by
  intro S a w ⟨ρ, h⟩ hA Q K hK
  obtain ⟨hk, hf⟩ := hA.fresh k rfl
  have hrun : (execOp a.eval ⟨some d, .call ⟨.value (.func f), os.toArray, ts⟩, T, pos, aft, g⟩).run E.P w = .ok (.enter f (os.map a.eval).toArray) w := by
    simp [execOp, resolve, Act.eval, Deferred.ofValue, invoke, hcall]
  unfold Oper.wp
  rw [hrun]
  simp only [Oper.upon]
  have hrel : RelL (okI F S.blk ρ) (hp w) xs (os.map a.eval) := RelL.of (by simp [hlen]) fun i x hx => by
    have hlt : i < os.length := by rw [hlen]; exact (List.getElem?_eq_some_iff.1 hx).1
    have hm : (os[i], PV.p x) ∈ os.zip (xs.map .p) := by
      rw [List.mem_iff_getElem?]
      exact ⟨i, by rw [List.getElem?_zip_eq_some]; simp [hx, hlt]⟩
    have := opd_rel h (hA.rs _ hm)
    exact ⟨a.eval os[i], by simp [hlt], by simpa [RelV] using this⟩
  have hGw : E.G w := E.stab F.w0 w hG fun b hb => h.frame.block b (by omega) (fun hx => by have := hX b hx; omega)
  refine Calls.mono (hs (okI F S.blk ρ) w _ hGw hrel) fun e w' ⟨b, cap, c, he, hcap, hbn, hH, hsz, hyl, hcs, hbl⟩ => ?_
  subst he
  refine hK _ _ ?_
  let ρ' : Nat → Nat := fun j => if j = k then b else ρ j
  let S' : St := ⟨(d, .ref k 0 n (n * sz)) :: S.sl, (k, ⟨T', sz, .pure ys⟩) :: S.hb⟩
  show Sat F S' _ w'
  have hbk : ∀ j, S'.blk j = if j = k then some ⟨T', sz, .pure ys⟩ else S.blk j := fun j => by
    simp only [S', St.blk, List.lookup_cons]
    by_cases e : j = k
    · simp [e]
    · rw [show (j == k) = false by simpa using e]; simp [e]
  have hlt' : ∀ j, S.blk j ≠ none → ρ j < w.heap.size := fun j hj => by
    cases hB : S.blk j with
    | none => exact absurd hB hj
    | some B' => obtain ⟨c', e1, _⟩ := h.blks j B' hB; exact World.size_lt e1
  have hhp : ∀ b, b < w.heap.size → hp w' b = hp w b := fun b hb => hbl.block b hb
  have hc : Carry (okI F S.blk ρ) (okI F S'.blk ρ') (hp w) (hp w') := fun b' hb hne => by
    have hbs : b' < w.heap.size := by
      cases e : hp w b' with
      | none => exact absurd e hne
      | some o => exact World.size_lt e
    refine ⟨⟨hb.1, fun j hj => ?_⟩, hhp _ hbs⟩
    simp only [ρ']
    split
    · omega
    · rename_i e
      rw [hbk, if_neg e] at hj
      exact hb.2 j hj
  have hkp : Keep (fun j => j ≠ k) S.blk S'.blk ρ ρ' (hp w) (hp w') := fun j hj B' hB' => by
    rw [hbk, if_neg hj] at hB'
    exact ⟨B', hB', rfl, Nat.le_refl _, fun _ => ⟨if_neg hj, fun c T fr hc' => ⟨c, T, fr, by rw [hhp _ (World.size_lt hc')]; exact hc', rfl⟩⟩⟩
  refine ⟨ρ', h.upd (Kp := fun j => j ≠ k) ⟨hbl.os.trans h.frame.os, hbl.tape.trans h.frame.tape, hbl.output.trans h.frame.output, Nat.le_trans h.frame.size hbl.size, fun b hb hx => (hbl.block b (Nat.lt_of_lt_of_le hb h.frame.size)).trans (h.frame.block b hb hx)⟩ (by simp [Act.put, h.nt]) (by simp [Act.put, h.df]) hc hkp (fun j j' hj hj' he => ?_) (fun j b' m hj hS => ?_) (fun t v ht => ?_) (fun j B hB => ?_)⟩
  · simp only [ρ'] at he
    rw [hbk] at hj hj'
    by_cases e1 : j = k <;> by_cases e2 : j' = k
    · rw [e1, e2]
    · rw [if_pos e1, if_neg e2] at he
      rw [if_neg e2] at hj'
      have := hlt' j' hj'; omega
    · rw [if_neg e1, if_pos e2] at he
      rw [if_neg e1] at hj
      have := hlt' j hj; omega
    · rw [if_neg e1, if_neg e2] at he
      rw [if_neg e1] at hj
      rw [if_neg e2] at hj'
      exact h.inj j j' hj hj' he
  · have hjk : j ≠ k := fun e => by subst e; rw [hpk] at hj; cases hj
    rw [hbk, if_neg hjk] at hS
    exact ⟨hS, if_neg hjk, fun c T hc' => ⟨c, T, by rw [hhp _ (World.size_lt hc')]; exact hc', rfl⟩⟩
  · rw [put_get (by rw [h.nt]; exact hlt)]
    simp only [S', St.slot, List.lookup_cons] at ht
    by_cases ed : t = d
    · subst ed
      simp only [BEq.rfl, Option.some.injEq] at ht
      subst ht
      refine .inr ⟨_, by simp; rfl, ?_⟩
      exact ref_rel (B := ⟨T', sz, .pure ys⟩) (by rw [hbk, if_pos rfl]) (by simp [ρ']) (by simpa [Cells.len] using hyl) hcap hH (by simpa using hsz)
    · rw [show (t == d) = false by simpa using ed] at ht
      refine .inl ⟨ht, by rw [if_neg ed], fun j hj e => ?_⟩
      subst e
      have := St.free_slot hf ht
      rw [hj] at this; cases this
  · rw [hbk] at hB
    by_cases e : j = k
    · subst e
      rw [if_pos rfl] at hB
      injection hB with hB
      subst hB
      refine .inr ⟨c, by simp only [ρ', if_pos]; exact hH, .inr (by simp only [ρ', if_pos]; exact Nat.le_trans h.frame.size hbn), by simp only [Cells.len]; rw [hyl]; exact Nat.le_trans (Nat.mul_le_mul_right _ hcap) hsz, fun i x hx => ?_⟩
      simp only [Cells.get, Option.map_eq_some_iff] at hx
      obtain ⟨y, hy, rfl⟩ := hx
      obtain ⟨u, hu, ho, hr⟩ := hcs i y hy
      refine ⟨u, hu, ho, ?_⟩
      simp only [RelV]
      refine Rel.mono (fun b' hb' _ => ⟨?_, rfl⟩) _ _ hr
      have hne : ∀ q, S'.blk q ≠ none → (q = j ∨ S.blk q ≠ none ∧ q ≠ j) := fun q hq => by
        rw [hbk] at hq
        by_cases e : q = j
        · exact .inl e
        · rw [if_neg e] at hq; exact .inr ⟨hq, e⟩
      rcases hb'.1 with h1 | h1
      · refine ⟨h1.1, fun q hq => ?_⟩
        rcases hne q hq with rfl | ⟨h3, h4⟩
        · simp only [ρ', if_pos]; exact hb'.2
        · simp only [ρ']; rw [if_neg h4]; exact h1.2 q h3
      · refine ⟨.inr (Nat.le_trans h.frame.size h1), fun q hq => ?_⟩
        rcases hne q hq with rfl | ⟨h3, h4⟩
        · simp only [ρ', if_pos]; exact hb'.2
        · simp only [ρ']; rw [if_neg h4]; have := hlt' q h3; omega
    · rw [if_neg e] at hB
      refine .inl ⟨hB, if_neg e, hhp _ (hlt' j (by simp [hB])), fun i x hx q hq e2 => ?_⟩
      subst e2
      have := St.free_blk hf hB hx
      rw [hq] at this; cases this
end Go.Proofs.YtebkelnibecmjaaDoor.SH
namespace Go.Proofs.YtebkelnibecmjaaDoor.SH
open Go Go.RowKit
/-- The function is handed blocks of the caller's own (by names from 1000 on); it may write them where they lie; it answers a part of one of them. -/
def SaysR (E : Env) (f : FuncId) (args : List PV) (H H' : List (Nat × Blk)) (r : PV) : Prop :=
  ∀ (ok : Nat → Prop) (ρ : Nat → Nat) (w : World) (vals : List Value), E.G w →
    (∀ j B, H.lookup j = some B → BlkAt (lk H) ρ ok (hp w) j B ∧ E.ng ≤ ρ j ∧ ¬ ok (ρ j)) →
    (∀ j j', H.lookup j ≠ none → H.lookup j' ≠ none → ρ j = ρ j' → j = j') → RelVL (lk H) ρ ok (hp w) args vals →
    Calls E.P f vals.toArray w fun e w' => ∃ v, e = .returned v ∧ RelV (lk H') ρ (fun b => (ok b ∨ w.heap.size ≤ b) ∧ ∀ j, H'.lookup j ≠ none → b ≠ ρ j) (hp w') r v ∧
      (∀ j B', H'.lookup j = some B' → BlkAt (lk H') ρ (fun b => (ok b ∨ w.heap.size ≤ b) ∧ ∀ j, H'.lookup j ≠ none → b ≠ ρ j) (hp w') j B' ∧
        ∀ c T, hp w (ρ j) = some (.cells c T (0, 0)) → ∃ c' T', hp w' (ρ j) = some (.cells c' T' (0, 0)) ∧ c'.size = c.size) ∧
      w'.os = w.os ∧ w'.tape = w.tape ∧ w'.output = w.output ∧ w.heap.size ≤ w'.heap.size ∧ ∀ b, b < w.heap.size → (∀ j, H.lookup j ≠ none → b ≠ ρ j) → w'.heap[b]? = w.heap[b]?

theorem saysR_of {E : Env} {f : FuncId} {fn : Func} {c : Code} {args : List PV} {H H' : List (Nat × Blk)} {r : PV} {t0 n : Nat} (hf : E.P.funcs[f]? = some fn) (hb : fn.body = some c) (hn : fn.ntmps = n) (hr : fn.results = #[.tmp t0]) (hle : args.length ≤ n)
    (hk : H.all (fun p => decide (1000 ≤ p.1)) = true) (hk' : ∀ j B', H'.lookup j = some B' → ∃ B, H.lookup j = some B)
    (h : ∀ F : Fr, E.G F.w0 → (∀ b, F.X b → E.ng ≤ b) → F.nt = n → F.df = [] → (∀ k, Nat.blt k 1000 = true → F.pin k = none) → (∀ b, F.X b → ∃ j n, F.pin j = some (b, n) ∧ H.lookup j ≠ none) → Exec E.P F c ⟨argSlotsV 0 args, H⟩ (fun e S => (e = .normal ∨ e = .ret) ∧ S.slot t0 = some r ∧ HasB S H')) : SaysR E f args H H' r := by
  intro ok ρ w vals hG hH hinj hrel
  have hvl := relVL_length hrel
  let F : Fr := ⟨w, ok, fun b => ∃ j, H.lookup j ≠ none ∧ b = ρ j, n, [], fun j => if H.lookup j ≠ none then match hp w (ρ j) with | some (.cells c _ _) => some (ρ j, c.size) | _ => none else none, none, fun _ _ => False⟩
  have hblk : ∀ j, H.lookup j ≠ none → ∃ B, H.lookup j = some B := fun j hj => by cases e : H.lookup j with
    | none => exact absurd e hj
    | some B => exact ⟨B, rfl⟩
  have hpin : ∀ j B c, H.lookup j = some B → hp w (ρ j) = some (.cells c B.T (0, 0)) → F.pin j = some (ρ j, c.size) := fun j B c hj hc => by
    simp only [F]
    rw [if_pos (by simp [hj]), hc]
  have hcarry : Carry ok (okI F (lk H) ρ) (hp w) (hp w) := fun b hb _ => ⟨⟨.inl hb, fun k hk e => by obtain ⟨B, hB⟩ := hblk k hk; exact (hH k B hB).2.2 (e ▸ hb)⟩, rfl⟩
  have hkeep : Keep (fun _ => True) (lk H) (lk H) ρ ρ (hp w) (hp w) := fun k _ B hB => ⟨B, hB, rfl, Nat.le_refl _, fun _ => ⟨rfl, fun c T fr hc => ⟨c, T, fr, hc, rfl⟩⟩⟩
  have hS : SatR F ρ ⟨argSlotsV 0 args, H⟩ { tmps := vals.toArray ++ Array.replicate (fn.ntmps - vals.toArray.size) undef, defers := [] } w := by
    refine ⟨fun t v ht => ?_, fun k B hB => ?_, hinj, ⟨rfl, rfl, rfl, Nat.le_refl _, fun _ _ _ => rfl⟩, ?_, rfl, fun j b m hj hS => ?_⟩
    · obtain ⟨j, rfl, hx⟩ := argSlotsV_get ht
      obtain ⟨u, hu, hru⟩ := relVL_get hrel hx
      refine ⟨u, ?_, RelV.mono hcarry hkeep v u (fun _ _ => trivial) hru⟩
      rw [Nat.zero_add, Array.getElem?_append_left (by have := (List.getElem?_eq_some_iff.1 hu).1; simpa using this)]
      simpa using hu
    · obtain ⟨⟨c, h1, h2, h3⟩, h4, h5⟩ := hH k B hB
      refine ⟨c, h1, .inl ⟨k, by simp only [St.blk] at hB; simp [hB], rfl⟩, h2, fun i x hx => ?_⟩
      obtain ⟨u, hu, ho, hru⟩ := h3 i x hx
      exact ⟨u, hu, ho, RelV.mono hcarry hkeep x u (fun _ _ => trivial) hru⟩
    · simp [F, hn]; omega
    · obtain ⟨B, hB⟩ := hblk j hS
      obtain ⟨⟨c, h1, _⟩, _⟩ := hH j B hB
      rw [hpin j B c hB h1] at hj
      injection hj with hj
      injection hj with hj1 hj2
      subst hj1 hj2
      exact ⟨rfl, c, B.T, h1, rfl⟩
  refine calls_of_wp hf hb (wp_mono (wpIn_wide.1 ((h F hG (fun b ⟨j, hj, e⟩ => by obtain ⟨B, hB⟩ := hblk j hj; subst e; exact (hH j B hB).2.1) rfl rfl (fun k hk2 => by simp only [F]; rw [if_neg (by simp [lookup_high hk hk2])]) (fun b ⟨j, hj, e⟩ => by obtain ⟨B, hB⟩ := hblk j hj; obtain ⟨⟨c, h1, _⟩, _⟩ := hH j B hB; subst e; exact ⟨j, _, hpin j B c hB h1, hj⟩)).run 0 _ w ⟨ρ, hS⟩)) fun e a' w' hq => ?_)
  obtain ⟨S', ⟨he, hres, hHB⟩, ⟨ρ', hS'⟩⟩ := hq.resolve_right (fun h => h.2)
  obtain ⟨v, hu, hrv⟩ := hS'.slots t0 r hres
  have hv : (results fn a'.tmps).run E.P w' = .ok v w' := by
    have e : results fn a'.tmps = (do let vs ← [ResultVar.tmp t0].toArray.mapM (resRun a'.tmps); pure (if h : vs.size = 1 then vs[0] else .tuple vs)) := by
      unfold results
      rw [hr]
      rfl
    have hm : ([ResultVar.tmp t0].toArray.mapM (resRun a'.tmps)).run E.P w' = .ok #[v] w' := by
      rw [List.mapM_toArray]
      simp [List.mapM_cons, resRun, Array.getD_eq_getD_getElem?, hu]
    rw [e]
    simp only [Sem.run_bind, hm, Result.andThen_ok, Sem.run_pure]
    rfl
  have hpin' : ∀ j B', H'.lookup j = some B' → ρ' j = ρ j ∧ S'.blk j = some B' ∧ ∀ c T, hp w (ρ j) = some (.cells c T (0, 0)) → ∃ c' T', hp w' (ρ j) = some (.cells c' T' (0, 0)) ∧ c'.size = c.size := fun j B' hj => by
    have hsb := hHB.all j B' hj
    obtain ⟨B, hB⟩ := hk' j B' hj
    obtain ⟨⟨c, h1, _⟩, _⟩ := hH j B hB
    obtain ⟨e1, c', T', e2, e3⟩ := hS'.pin j _ _ (hpin j B c hB h1) (by simp [hsb])
    refine ⟨e1, hsb, fun c2 T2 hc2 => ⟨c', T', e2, ?_⟩⟩
    rw [h1] at hc2
    injection hc2 with hc2
    injection hc2 with hc2
    rw [e3, hc2]
  have hcar : Carry (okI F S'.blk ρ') (fun b => (ok b ∨ w.heap.size ≤ b) ∧ ∀ j, H'.lookup j ≠ none → b ≠ ρ j) (hp w') (hp w') := fun b hb _ => ⟨⟨hb.1, fun j hj e => by
    cases hj' : H'.lookup j with
    | none => exact hj hj'
    | some B' =>
      obtain ⟨e1, e2, _⟩ := hpin' j B' hj'
      exact hb.2 j (by simp [e2]) (by rw [e1]; exact e)⟩, rfl⟩
  have hfin : ∃ v0, Ending.returned v = .returned v0 ∧ RelV (lk H') ρ (fun b => (ok b ∨ w.heap.size ≤ b) ∧ ∀ j, H'.lookup j ≠ none → b ≠ ρ j) (hp w') r v0 ∧
      (∀ j B', H'.lookup j = some B' → BlkAt (lk H') ρ (fun b => (ok b ∨ w.heap.size ≤ b) ∧ ∀ j, H'.lookup j ≠ none → b ≠ ρ j) (hp w') j B' ∧
        ∀ c T, hp w (ρ j) = some (.cells c T (0, 0)) → ∃ c' T', hp w' (ρ j) = some (.cells c' T' (0, 0)) ∧ c'.size = c.size) ∧
      w'.os = w.os ∧ w'.tape = w.tape ∧ w'.output = w.output ∧ w.heap.size ≤ w'.heap.size ∧ ∀ b, b < w.heap.size → (∀ j, H.lookup j ≠ none → b ≠ ρ j) → w'.heap[b]? = w.heap[b]? := by
    refine ⟨v, rfl, RelV.mono (K := fun _ => True) hcar (fun k _ B hB => by obtain ⟨g1, g2, _⟩ := hpin' k B hB; exact ⟨B, g2, rfl, Nat.le_refl _, fun _ => ⟨g1.symm, fun c T fr hc => ⟨c, T, fr, hc, rfl⟩⟩⟩) r v (fun _ _ => trivial) hrv, fun j B' hj => ?_, hS'.frame.os, hS'.frame.tape, hS'.frame.output, hS'.frame.size, fun b hb hx => hS'.frame.block b hb (fun ⟨j, hj, e⟩ => hx j hj e)⟩
    obtain ⟨e1, e2, e3⟩ := hpin' j B' hj
    obtain ⟨c', f1, _, f3, f4⟩ := hS'.blks j B' e2
    refine ⟨⟨c', by rw [← e1]; exact f1, f3, fun i x hx => ?_⟩, e3⟩
    obtain ⟨u, hu, ho, hru⟩ := f4 i x hx
    refine ⟨u, hu, ho, RelV.mono (K := fun _ => True) hcar (fun k _ B hB => ?_) x u (fun _ _ => trivial) hru⟩
    obtain ⟨g1, g2, _⟩ := hpin' k B hB
    exact ⟨B, g2, rfl, Nat.le_refl _, fun _ => ⟨g1.symm, fun c T fr hc => ⟨c, T, fr, hc, rfl⟩⟩⟩
  rcases he with rfl | rfl <;> exact ⟨hS'.df, v, hv, hfin⟩

theorem List.map_map_fst {κ : Nat → Nat} {H H' : List (Nat × Blk)} (h : H'.map (·.1) = H.map (·.1)) : (H.map fun p => κ p.1) = (H'.map fun p => κ p.1) := by
  have e : ∀ l : List (Nat × Blk), (l.map fun p => κ p.1) = (l.map (·.1)).map κ := fun l => by simp
  rw [e, e, h]
/-- A call that is handed blocks of the call's own. (xs: the operands' values by the callee's names; fnv: what the callee is) -/
theorem core_callR {E : Env} {F : Fr} (hG : E.G F.w0) (hX : ∀ b, F.X b → E.ng ≤ b) {d : Nat} {f : FuncId} {o : Oper} {rs : List (Operand × PV)} {xs : List PV} {H H' : List (Nat × Blk)} {k0 o0 n0 t0 : Nat} (ks : List Nat) (hng : E.ng ≤ F.w0.heap.size) (hs : SaysR E f xs H H' (.ref k0 o0 n0 t0)) (hk0 : (H'.lookup k0).isSome = true) (hd : o.dst = some d)
    (hargs : ∀ ρ S a w, SatR F ρ S a w → (∀ p ∈ rs, S.opd p.1 = some p.2) → ∃ vals : List Value, (execOp a.eval o).run E.P w = .ok (.enter f vals.toArray) w ∧ RelVL S.blk ρ (okI F S.blk ρ) (hp w) (xs.map (PV.ren fun j => ks.getD (j - 1000) 0)) vals)
    (hn : nodupB (H.map fun p => ks.getD (p.1 - 1000) 0) = true) (hn2 : nodupB (H'.map (·.1)) = true) (hn3 : nodupB (H.map (·.1)) = true) (hk : H'.map (·.1) = H.map (·.1)) (hsame : ∀ j B B', H.lookup j = some B → H'.lookup j = some B' → B'.T = B.T ∧ B'.sz = B.sz ∧ B'.cs.len = B.cs.len) (hdata0 : H.all (fun p => p.2.cs.data) = true) (hdata : H'.all (fun p => p.2.cs.data) = true) (hlt : d < F.nt) :
    CoreOk E.P F o ⟨rs, H.map (fun p => (ks.getD (p.1 - 1000) 0, p.2)), none, [(d, .ref (ks.getD (k0 - 1000) 0) o0 n0 t0)], H'.map (fun p => (ks.getD (p.1 - 1000) 0, p.2))⟩ := by
  intro S a w ⟨ρ, h⟩ hA Q K hK
  let κ : Nat → Nat := fun j => ks.getD (j - 1000) 0
  obtain ⟨vals, hrun, hvals⟩ := hargs ρ S a w h hA.rs
  unfold Oper.wp
  rw [hrun]
  simp only [Oper.upon]
  have hne : ∀ k, S.blk k ≠ none → ρ k < w.heap.size := fun k hk => by
    cases hB : S.blk k with
    | none => exact absurd hB hk
    | some B => obtain ⟨c, e1, _⟩ := h.blks k B hB; exact World.size_lt e1
  have hmemH : ∀ j B, H.lookup j = some B → (j, B) ∈ H := fun j B hj => by
    have : ∀ l : List (Nat × Blk), l.lookup j = some B → (j, B) ∈ l := by
      intro l
      induction l with
      | nil => simp
      | cons p l ih =>
        obtain ⟨s, u⟩ := p
        intro h
        rw [List.lookup_cons] at h
        split at h
        · rename_i e; injection h with h; subst h; simp [beq_iff_eq.1 e]
        · simp [ih h]
    exact this H hj
  have hSH : ∀ j B, H.lookup j = some B → S.blk (κ j) = some B := fun j B hj => hA.rb (κ j, B) (List.mem_map.2 ⟨(j, B), hmemH j B hj, rfl⟩)
  have hrel : RelVL (lk H) (fun j => ρ (κ j)) (okI F S.blk ρ) (hp w) xs vals := renL_rel (κ := κ) hSH xs _ (by rw [renL_map]; exact hvals)
  have hGw : E.G w := E.stab F.w0 w hG fun b hb => h.frame.block b (by omega) (fun hx => by have := hX b hx; omega)
  have hpre : ∀ j B, H.lookup j = some B → BlkAt (lk H) (fun j => ρ (κ j)) (okI F S.blk ρ) (hp w) j B ∧ E.ng ≤ ρ (κ j) ∧ ¬ okI F S.blk ρ (ρ (κ j)) := fun j B hj => by
    have hB := hSH j B hj
    obtain ⟨c, e1, e2, e3, e4⟩ := h.blks (κ j) B hB
    refine ⟨⟨c, e1, e3, fun i x hx => ?_⟩, ?_, fun hok => hok.2 (κ j) (by simp [hB]) rfl⟩
    · rw [List.all_eq_true] at hdata0
      obtain ⟨y, rfl⟩ := Cells.data_get (hdata0 _ (hmemH j B hj)) hx
      obtain ⟨u, hu, ho, hru⟩ := e4 i _ hx
      exact ⟨u, hu, ho, by simpa only [RelV] using hru⟩
    · rcases e2 with e2 | e2
      · exact hX _ e2
      · omega
  refine Calls.mono (hs (okI F S.blk ρ) (fun j => ρ (κ j)) w _ hGw hpre (fun j j' hj hj' e => ?_) hrel) fun e w' ⟨vr, he, hrv, hHB, ho, ht, hou, hsz, hfr⟩ => ?_
  · have : ∀ i, H.lookup i ≠ none → S.blk (κ i) ≠ none := fun i hi => by
      cases hB : H.lookup i with
      | none => exact absurd hB hi
      | some B => rw [hSH i B hB]; simp
    exact nodupB_inj (κ := κ) hn j j' hj hj' (h.inj _ _ (this j hj) (this j' hj') e)
  subst he
  let S' : St := ⟨(d, .ref (ks.getD (k0 - 1000) 0) o0 n0 t0) :: S.sl, H'.map (fun p => (κ p.1, p.2)) ++ S.hb⟩
  have happ : S.app ⟨rs, H.map (fun p => (ks.getD (p.1 - 1000) 0, p.2)), none, [(d, .ref (ks.getD (k0 - 1000) 0) o0 n0 t0)], H'.map (fun p => (ks.getD (p.1 - 1000) 0, p.2))⟩ = S' := rfl
  have hmemH' : ∀ j B, (j, B) ∈ H' → H'.lookup j = some B := fun j B hj => lookup_of_mem hn2 hj
  have hkeys : ∀ j, H'.lookup j ≠ none ↔ H.lookup j ≠ none := fun j => by
    have : ∀ l : List (Nat × Blk), l.lookup j ≠ none ↔ j ∈ l.map (·.1) := by
      intro l
      induction l with
      | nil => simp
      | cons p l ih =>
        obtain ⟨s, u⟩ := p
        rw [List.lookup_cons]
        by_cases e : j = s
        · simp [e]
        · rw [show (j == s) = false by simpa using e]
          simp only [List.map_cons, List.mem_cons, e, false_or]
          exact ih
    rw [this, this, hk]
  have hsome : ∀ {l : List (Nat × Blk)} {j}, l.lookup j ≠ none → ∃ B, l.lookup j = some B := fun {l j} hj => by
    cases e : l.lookup j with
    | none => exact absurd e hj
    | some B => exact ⟨B, rfl⟩
  have hS'blk : ∀ k B, S'.blk k = some B → (∃ j, κ j = k ∧ H'.lookup j = some B) ∨ (S.blk k = some B ∧ ∀ j, H'.lookup j ≠ none → κ j ≠ k) := fun k B hB => by
    simp only [S', St.blk, lookup_append] at hB
    cases hl : (H'.map fun p => (κ p.1, p.2)).lookup k with
    | some C =>
      rw [hl, Option.some_or] at hB
      injection hB with hB
      subst hB
      obtain ⟨j, h1, h2⟩ := lookup_map_inj hl
      exact .inl ⟨j, h1, hmemH' j _ h2⟩
    | none =>
      rw [hl, Option.none_or] at hB
      refine .inr ⟨hB, fun j hj e => ?_⟩
      obtain ⟨C, hC⟩ := hsome hj
      have hmem : (j, C) ∈ H' := by
        have : ∀ l : List (Nat × Blk), l.lookup j = some C → (j, C) ∈ l := by
          intro l
          induction l with
          | nil => simp
          | cons p l ih =>
            obtain ⟨s, u⟩ := p
            intro h
            rw [List.lookup_cons] at h
            split at h
            · rename_i e; injection h with h; subst h; simp [beq_iff_eq.1 e]
            · simp [ih h]
        exact this H' hC
      have : (H'.map fun p => (κ p.1, p.2)).lookup k ≠ none := by
        have gen : ∀ l : List (Nat × Blk), (j, C) ∈ l → (l.map fun p => (κ p.1, p.2)).lookup k ≠ none := by
          intro l
          induction l with
          | nil => simp
          | cons p l ih =>
            intro hm
            simp only [List.map_cons, List.lookup_cons]
            split
            · simp
            · rename_i e'
              rcases List.mem_cons.1 hm with hm | hm
              · subst hm; simp [e] at e'
              · exact ih hm
        exact gen H' hmem
      exact this hl
  have hown : ∀ k, S'.blk k ≠ none → S.blk k ≠ none := fun k hk' => by
    obtain ⟨B, hB⟩ : ∃ B, S'.blk k = some B := by cases e : S'.blk k with
      | none => exact absurd e hk'
      | some B => exact ⟨B, rfl⟩
    rcases hS'blk k B hB with ⟨j, rfl, hj⟩ | ⟨hB', _⟩
    · obtain ⟨C, hC⟩ := hsome ((hkeys j).1 (by simp [hj]))
      rw [hSH j C hC]; simp
    · simp [hB']
  have hsizes : ∀ j, H'.lookup j ≠ none → ∀ c T, hp w (ρ (κ j)) = some (.cells c T (0, 0)) → ∃ c' T', hp w' (ρ (κ j)) = some (.cells c' T' (0, 0)) ∧ c'.size = c.size := fun j hj => by
    obtain ⟨B', hB'⟩ := hsome hj
    exact (hHB j B' hB').2
  have hother : ∀ k B, S.blk k = some B → (∀ j, H'.lookup j ≠ none → κ j ≠ k) → hp w' (ρ k) = hp w (ρ k) := fun k B hB hno => by
    refine hfr (ρ k) (hne k (by simp [hB])) fun j hj e => ?_
    obtain ⟨C, hC⟩ := hsome hj
    exact hno j ((hkeys j).2 hj) (h.inj _ _ (by rw [hSH j C hC]; simp) (by simp [hB]) e.symm)
  have hcar : Carry (okI F S.blk ρ) (okI F S'.blk ρ) (hp w) (hp w') := fun b hb hne' => by
    refine ⟨⟨hb.1, fun k hk' => hb.2 k (hown k hk')⟩, ?_⟩
    have hbs : b < w.heap.size := by
      cases e : hp w b with
      | none => exact absurd e hne'
      | some o => exact World.size_lt e
    exact hfr b hbs fun j hj e => by
      obtain ⟨C, hC⟩ := hsome hj
      exact hb.2 (κ j) (by rw [hSH j C hC]; simp) e
  have hcar2 : Carry (fun b => (okI F S.blk ρ b ∨ w.heap.size ≤ b) ∧ ∀ j, H'.lookup j ≠ none → b ≠ ρ (κ j)) (okI F S'.blk ρ) (hp w') (hp w') := fun b hb _ => by
    refine ⟨?_, rfl⟩
    rcases hb.1 with hb1 | hb1
    · exact ⟨hb1.1, fun k hk' => hb1.2 k (hown k hk')⟩
    · exact ⟨.inr (Nat.le_trans h.frame.size hb1), fun k hk' => by have := hne k (hown k hk'); omega⟩
  show K (a.put o.dst vr) w'
  refine hK _ _ ?_
  rw [happ]
  refine ⟨ρ, h.upd (S' := S') (Kp := fun _ => True) ⟨ho.trans h.frame.os, ht.trans h.frame.tape, hou.trans h.frame.output, Nat.le_trans h.frame.size hsz, fun b hb hx => ?_⟩ (by simp [hd, Act.put, h.nt]) (by simp [hd, Act.put, h.df]) hcar (fun k _ B' hB' => ?_)
    (fun k k' h1 h2 e => h.inj k k' (hown k h1) (hown k' h2) e) (fun j b n hj hS => ⟨hown j hS, rfl, fun c T hc => ?_⟩) (fun t v ht => ?_) (fun k B' hB' => ?_)⟩
  · rw [hfr b (Nat.lt_of_lt_of_le hb h.frame.size) fun j hj e => ?_]
    · exact h.frame.block b hb hx
    · obtain ⟨C, hC⟩ := hsome hj
      obtain ⟨_, _, e2, _⟩ := h.blks (κ j) C (hSH j C hC)
      subst e
      rcases e2 with e2 | e2
      · exact hx e2
      · omega
  · rcases hS'blk k B' hB' with ⟨j, rfl, hj⟩ | ⟨hB, hno⟩
    · obtain ⟨C, hC⟩ := hsome ((hkeys j).1 (by simp [hj]))
      obtain ⟨t1, t2, t3⟩ := hsame j C B' hC hj
      refine ⟨C, hSH j C hC, t2, by omega, fun _ => ⟨rfl, fun c T fr hc => ?_⟩⟩
      obtain ⟨c0, e1, _⟩ := h.blks (κ j) C (hSH j C hC)
      have hc' := hc
      rw [e1] at hc'
      injection hc' with hc'
      injection hc' with h1 h2 h3
      subst h1
      obtain ⟨c', T', g1, g2⟩ := hsizes j (by simp [hj]) _ _ e1
      exact ⟨c', T', (0, 0), g1, g2⟩
    · exact ⟨B', hB, rfl, Nat.le_refl _, fun _ => ⟨rfl, fun c T fr hc => ⟨c, T, fr, by rw [hother k B' hB hno]; exact hc, rfl⟩⟩⟩
  · obtain ⟨B', hB'⟩ : ∃ B, S'.blk j = some B := by cases e : S'.blk j with
      | none => exact absurd e hS
      | some B => exact ⟨B, rfl⟩
    rcases hS'blk j B' hB' with ⟨i, rfl, hi⟩ | ⟨hB, hno⟩
    · exact hsizes i (by simp [hi]) c T hc
    · exact ⟨c, T, by rw [hother j B' hB hno]; exact hc, rfl⟩
  · rw [hd, put_get (by rw [h.nt]; exact hlt)]
    simp only [S', St.slot, List.lookup_cons] at ht
    by_cases ed : t = d
    · subst ed
      simp only [BEq.rfl, Option.some.injEq] at ht
      subst ht
      refine .inr ⟨vr, by simp, ?_⟩
      simp only [RelV] at hrv ⊢
      refine ⟨hrv.1, fun B hB => ?_⟩
      obtain ⟨B', hB'⟩ := Option.isSome_iff_exists.1 hk0
      rcases hS'blk _ B hB with ⟨j, e1, hj⟩ | ⟨_, hno⟩
      · have hjk : j = k0 := nodupB_inj (κ := κ) (H := H') (by rw [← List.map_map_fst hk]; exact hn) j k0 (by simp [hj]) (by simp [hB']) e1
        subst hjk
        exact hrv.2 B hj
      · exact absurd rfl (hno k0 (by simp [hB']))
    · rw [show (t == d) = false by simpa using ed] at ht
      exact .inl ⟨ht, by rw [if_neg ed], fun _ _ => trivial⟩
  · rcases hS'blk k B' hB' with ⟨j, rfl, hj⟩ | ⟨hB, hno⟩
    · obtain ⟨⟨c, f1, f2, f3⟩, _⟩ := hHB j B' hj
      obtain ⟨C, hC⟩ := hsome ((hkeys j).1 (by simp [hj]))
      obtain ⟨_, _, e2, _⟩ := h.blks (κ j) C (hSH j C hC)
      refine .inr ⟨c, f1, e2, f2, fun i x hx => ?_⟩
      obtain ⟨u, hu, ho', hru⟩ := f3 i x hx
      rw [List.all_eq_true] at hdata
      have hmem : (j, B') ∈ H' := by
        have : ∀ l : List (Nat × Blk), l.lookup j = some B' → (j, B') ∈ l := by
          intro l
          induction l with
          | nil => simp
          | cons p l ih =>
            obtain ⟨s, u⟩ := p
            intro h
            rw [List.lookup_cons] at h
            split at h
            · rename_i e; injection h with h; subst h; simp [beq_iff_eq.1 e]
            · simp [ih h]
        exact this H' hj
      obtain ⟨y, rfl⟩ := Cells.data_get (hdata _ hmem) hx
      exact ⟨u, hu, ho', by simp only [RelV] at hru ⊢; exact Rel.mono hcar2 _ _ hru⟩
    · exact .inl ⟨hB, rfl, hother k B' hB hno, fun _ _ _ _ _ => trivial⟩
end Go.Proofs.YtebkelnibecmjaaDoor.SH
namespace Go.Proofs.YtebkelnibecmjaaDoor.SH
open Go Go.RowKit

section
variable {P : Program} {F : Fr} {d : Nat} {T : TypeId} {pos : String} {aft : Array Edge} {g : Option (Nat × Bool)} {t : TypeId}
/-- New memory that nobody writes, behind a draw. -/
theorem core_freshD {o : Oper} {A : Ann} {v : PV} (hd : o.dst = some d) (hlt : d < F.nt) (hws : A.ws = [(d, v)]) (hwb : A.wb = [])
    (hrun : ∀ ρ S a w, SatR F ρ S a w → A.holds S → ∃ c T fr u, (execOp a.eval o).run P w = .ok (.value u) (w.drew.alloc (.cells c T fr)) ∧ ∀ ok H β, (∀ b, okI F S.blk ρ b → ok b) → ok w.heap.size → (∀ b, b < w.heap.size → H b = hp w b) → H w.heap.size = some (.cells c T fr) → RelV β ρ ok H v u) : CoreOk P F o A := by
  intro S a w ⟨ρ, h⟩ hA Q K hK
  obtain ⟨c, T, fr, u, hu, hr⟩ := hrun ρ S a w h hA
  unfold Oper.wp
  rw [hu]
  simp only [Oper.upon, hd]
  refine hK _ _ ⟨ρ, ?_⟩
  have hh : (w.drew.alloc (.cells c T fr)).heap = w.heap.push (.cells c T fr) := World.alloc_heap w.drew _
  have hpp := hp_push (w := w) (w' := w.drew.alloc (.cells c T fr)) hh
  have hne : ∀ k, S.blk k ≠ none → ρ k < w.heap.size := fun k hk => by
    cases hB : S.blk k with
    | none => exact absurd hB hk
    | some B => obtain ⟨c, e1, _⟩ := h.blks k B hB; exact World.size_lt e1
  have hhp : ∀ b, b < w.heap.size → hp (w.drew.alloc (.cells c T fr)) b = hp w b := fun b hb => by rw [hpp, if_neg (by omega)]
  have hsame : SatR F ρ S a (w.drew.alloc (.cells c T fr)) := by
    refine h.upd (Kp := fun _ => True) (frame_push h.frame hh rfl rfl rfl) h.nt h.df
      (fun b hb hne' => ⟨hb, ?_⟩) (fun k _ B hB => ⟨B, hB, rfl, Nat.le_refl _, fun _ => ⟨rfl, fun c T fr hc => ⟨c, T, fr, ?_, rfl⟩⟩⟩) h.inj (fun j _ _ _ hj => ⟨hj, rfl, fun c T hc => ⟨c, T, by rw [hhp _ (World.size_lt hc)]; exact hc, rfl⟩⟩) (fun t v ht => .inl ⟨ht, rfl, fun _ _ => trivial⟩)
      (fun k B hB => .inl ⟨hB, rfl, hhp _ (hne k (by simp [hB])), fun _ _ _ _ _ => trivial⟩)
    · cases e : hp w b with
      | none => exact absurd e hne'
      | some o => rw [hhp b (World.size_lt e), e]
    · rw [hhp _ (World.size_lt hc)]; exact hc
  have e : S.app A = ⟨(d, v) :: S.sl, S.hb⟩ := by simp [St.app, hws, hwb]
  rw [e]
  refine satR_put hsame hlt (hr _ _ _ (fun b hb => hb) ⟨.inr h.frame.size, fun k hk => by have := hne k hk; omega⟩ hhp (by rw [hpp, if_pos rfl]))
/-- '[]byte(s)': data. -/
theorem core_s2b {src dst e : TypeId} {x : Operand} {s : ByteArray} {n : Nat} {xs : List Pure} (hs : P.underlying src = some .string) (hd : P.underlying dst = some (.slice e)) (he : P.underlying e = some (.int .u8)) (hn : s.size = n) (hx : s.data.toList.map (fun b => Pure.a (.int .u8 b.toNat)) = xs) (hlt : d < F.nt) :
    CoreOk P F ⟨some d, .convert src dst x, T, pos, aft, g⟩ { rs := [(x, .p (.a (.string s)))], ws := [(d, .p (.sl n xs))] } :=
  core_freshD rfl hlt rfl rfl fun ρ S a w h hA => by
    have hxe := atom_eval h (v := .string s) (hA.rs (x, _) (by simp))
    have hrun := run_bytes_of_string (P := P) w src dst e s hs hd he
    subst hn
    refine ⟨bytesRow s (grownCap w s.size 0 e), e, ((bytesRow s (grownCap w s.size 0 e)).size, (bytesRow s (grownCap w s.size 0 e)).size + 1), .slice (some ⟨w.heap.size, 0, none⟩) s.size (grownCap w s.size 0 e), by simp only [execOp, hxe, Sem.run_bind, hrun, Result.andThen_ok, Sem.run_pure], fun ok H β hok hnew hold hH => ?_⟩
    simp only [RelV, Rel]
    refine ⟨some ⟨w.heap.size, 0, none⟩, grownCap w s.size 0 e, rfl, by unfold grownCap Question.cut; exact Nat.le_add_right _ _, ?_⟩
    refine RelS.of hnew (RelAt.of fun i y hy => ?_)
    subst hx
    rw [List.getElem?_map] at hy
    cases hb : s.data.toList[i]? with
    | none => rw [hb] at hy; cases hy
    | some b =>
      rw [hb] at hy
      simp only [Option.map_some, Option.some.injEq] at hy
      subst hy
      refine ⟨.int .u8 b.toNat, ?_, rfl, by simp [Rel]⟩
      rw [cellAt_of hH, Nat.zero_add]
      have hi := (List.getElem?_eq_some_iff.1 hb).1
      simp only [bytesRow]
      rw [Array.getElem?_append_left (by simpa using hi)]
      rw [Array.getElem?_map]
      have : s.data[i]? = some b := by simpa using hb
      rw [this]; rfl
end
end Go.Proofs.YtebkelnibecmjaaDoor.SH
namespace Go.Proofs.YtebkelnibecmjaaDoor.SH
open Go Go.RowKit

/-- The call as it stands, told anew from here on. -/
def reF (F : Fr) (β : Nat → Option Blk) (ρ : Nat → Nat) (w w0 : World) (df : List Deferred) (pin : Nat → Option (Nat × Nat)) (ro : Option Nat) (X' : Nat → Prop) (esc : Act → World → Prop) : Fr :=
  ⟨w0, fun b => okI F β ρ b ∧ b < w.heap.size, fun b => (∃ k, β k ≠ none ∧ b = ρ k) ∨ X' b, F.nt, df, pin, ro, esc⟩
theorem rebase {F : Fr} {ρ : Nat → Nat} {S : St} {a a' : Act} {w w0 : World} {df : List Deferred} {pin : Nat → Option (Nat × Nat)} {ro : Option Nat} {X' : Nat → Prop} {esc : Act → World → Prop} (h : SatR F ρ S a w)
    (hw : ∀ b, hp w b ≠ none → (okI F S.blk ρ b ∨ ∃ k, S.blk k ≠ none ∧ b = ρ k) → w0.heap[b]? = w.heap[b]?) (ht : a'.tmps = a.tmps) (hd : a'.defers = df) (hpin : ∀ j b n, pin j = some (b, n) → S.blk j ≠ none → ρ j = b ∧ ∃ c T, hp w b = some (.cells c T (0, 0)) ∧ c.size = n) :
    SatR (reF F S.blk ρ w w0 df pin ro X' esc) ρ S a' w0 := by
  have hlt : ∀ b, hp w b ≠ none → b < w.heap.size := fun b hb => by
    cases e : hp w b with
    | none => exact absurd e hb
    | some o => exact World.size_lt e
  have hcar : Carry (okI F S.blk ρ) (okI (reF F S.blk ρ w w0 df pin ro X' esc) S.blk ρ) (hp w) (hp w0) := fun b hb hne => ⟨⟨.inl ⟨hb, hlt b hne⟩, hb.2⟩, hw b hne (.inl hb)⟩
  have hkeep : Keep (fun _ => True) S.blk S.blk ρ ρ (hp w) (hp w0) := fun k _ B hB => ⟨B, hB, rfl, Nat.le_refl _, fun _ => ⟨rfl, fun c T fr hc => ⟨c, T, fr, (hw _ (by rw [hc]; simp) (.inr ⟨k, by rw [hB]; simp, rfl⟩)).trans hc, rfl⟩⟩⟩
  refine ⟨fun t v hs => ?_, fun k B hB => ?_, h.inj, ⟨rfl, rfl, rfl, Nat.le_refl _, fun _ _ _ => rfl⟩, by rw [ht]; exact h.nt, hd, fun j b n hj hS => ?_⟩
  · obtain ⟨u, hu, hr⟩ := h.slots t v hs
    exact ⟨u, by rw [ht]; exact hu, RelV.mono hcar hkeep v u (fun _ _ => trivial) hr⟩
  · obtain ⟨c, h1, _, h3, h4⟩ := h.blks k B hB
    refine ⟨c, (hw _ (by rw [h1]; simp) (.inr ⟨k, by rw [hB]; simp, rfl⟩)).trans h1, .inl (.inl ⟨k, by rw [hB]; simp, rfl⟩), h3, fun i x hx => ?_⟩
    obtain ⟨u, hu, ho, hr⟩ := h4 i x hx
    exact ⟨u, hu, ho, RelV.mono hcar hkeep x u (fun _ _ => trivial) hr⟩
  · obtain ⟨h1, c, T, h2, h3⟩ := hpin j b n hj hS
    exact ⟨h1, c, T, (hw _ (by rw [h2]; simp) (.inr ⟨j, hS, h1.symm⟩)).trans h2, h3⟩

/-- What is not the call's own turns, or a block of which nothing is told. -/
theorem SatR.other {F : Fr} {ρ : Nat → Nat} {S : St} {a : Act} {w w' : World} (h : SatR F ρ S a w) (hfr : Frame F w') (hok : ∀ b, okI F S.blk ρ b → hp w b ≠ none → hp w' b = hp w b)
    (hbl : ∀ k B, S.blk k = some B → hp w' (ρ k) = hp w (ρ k) ∨ (B.cs = .mix [.dead] ∧ ∀ c T fr, hp w (ρ k) = some (.cells c T fr) → ∃ c', hp w' (ρ k) = some (.cells c' T fr) ∧ c'.size = c.size ∧ ∀ u, c'[0]? = some u → u.oneCell' = true)) : SatR F ρ S a w' := by
  have hk : ∀ k B, S.blk k = some B → ∀ c T fr, hp w (ρ k) = some (.cells c T fr) → ∃ c' T' fr', hp w' (ρ k) = some (.cells c' T' fr') ∧ c'.size = c.size := fun k B hB c T fr hc => by
    rcases hbl k B hB with e | ⟨_, e⟩
    · exact ⟨c, T, fr, e.trans hc, rfl⟩
    · obtain ⟨c', h1, h2, _⟩ := e c T fr hc
      exact ⟨c', T, fr, h1, h2⟩
  refine h.upd (Kp := fun _ => True) hfr h.nt h.df (fun b hb hne => ⟨hb, hok b hb hne⟩) (fun k _ B hB => ⟨B, hB, rfl, Nat.le_refl _, fun _ => ⟨rfl, hk k B hB⟩⟩) h.inj (fun j b n hj hS => ?_) (fun t v ht => .inl ⟨ht, rfl, fun _ _ => trivial⟩) (fun k B hB => ?_)
  · refine ⟨hS, rfl, fun c T hc => ?_⟩
    obtain ⟨B, hB⟩ : ∃ B, S.blk j = some B := by cases e : S.blk j with
      | none => exact absurd e hS
      | some B => exact ⟨B, rfl⟩
    rcases hbl j B hB with e | ⟨_, e⟩
    · exact ⟨c, T, e.trans hc, rfl⟩
    · obtain ⟨c', h1, h2, _⟩ := e c T _ hc
      exact ⟨c', T, h1, h2⟩
  · rcases hbl k B hB with e | ⟨e0, e⟩
    · exact .inl ⟨hB, rfl, e, fun _ _ _ _ _ => trivial⟩
    · obtain ⟨c, h1, h2, h3, _⟩ := h.blks k B hB
      obtain ⟨c', g1, g2, g3⟩ := e c _ _ h1
      refine .inr ⟨c', g1, h2, by omega, fun i x hx => ?_⟩
      rw [e0] at hx h3
      have hi : i = 0 := by
        cases i with
        | zero => rfl
        | succ i => simp [Cells.get] at hx
      subst hi
      obtain rfl : x = .dead := by simpa [Cells.get] using hx.symm
      have hlen : 0 < c'.size := by simp [Cells.len] at h3; omega
      exact ⟨c'[0], by simp [hlen], g3 _ (by simp [hlen]), by simp [RelV]⟩

/-! ### An iterator and what it is handed -/
/-- What an iterator may turn: its own box; it may lay new blocks. -/
structure Chg (bx : Nat) (T : TypeId) (N : Nat) (W W' : World) : Prop where
  os : W'.os = W.os
  tape : W'.tape = W.tape
  output : W'.output = W.output
  size : W.heap.size ≤ W'.heap.size
  box : ∃ c, W'.heap[bx]? = some (.cells c T (0, 0)) ∧ c.size = N ∧ ∀ u, c[0]? = some u → u.oneCell' = true
  block : ∀ b, b ≠ bx → W.heap[b]? ≠ none → W'.heap[b]? = W.heap[b]?
def BoxOk (H : Nat → Option Obj) (bx : Nat) (T : TypeId) (N : Nat) : Prop := ∃ c, H bx = some (.cells c T (0, 0)) ∧ c.size = N ∧ ∀ u, c[0]? = some u → u.oneCell' = true
/-- A word on the world, as a word on the heap. -/
def rawOf (W0 : World) (bx : Nat) (T : TypeId) (N : Nat) (J : World → Prop) : (Nat → Option Obj) → Prop := fun H => ∀ W', hp W' = H → W'.os = W0.os → W'.tape = W0.tape → W'.output = W0.output → BoxOk H bx T N → J W'
theorem raw_of {W0 W : World} {bx N : Nat} {T : TypeId} {J : World → Prop} {β : Nat → Option Blk} {ρ : Nat → Nat} {ok : Nat → Prop} {u : Value} (hJ : J W) (stab : ∀ W1 W2, J W1 → Chg bx T N W1 W2 → J W2) (hok : ∀ b, b ≠ bx → ok b) (h1 : W.os = W0.os) (h2 : W.tape = W0.tape) (h3 : W.output = W0.output) :
    RelV β ρ ok (hp W) (.raw (rawOf W0 bx T N J)) u := by
  simp only [RelV]
  intro H' hH W' hW o1 o2 o3 hb
  subst hW
  refine stab W W' hJ ⟨o1.trans h1.symm, o2.trans h2.symm, o3.trans h3.symm, ?_, hb, fun b hne hn => hH b (hok b hne) hn⟩
  by_cases e : W.heap.size = 0
  · omega
  · have hl : W.heap[W.heap.size - 1]? ≠ none := by simp; omega
    by_cases c : W.heap.size - 1 = bx
    · obtain ⟨cc, hc, _⟩ := hb
      have := World.size_lt hc
      omega
    · have h := hH (W.heap.size - 1) (hok _ c) hl
      cases e2 : hp W (W.heap.size - 1) with
      | none => exact absurd e2 hl
      | some o => rw [e2] at h; have := World.size_lt h; omega
/-- .. and back. -/
theorem raw_to {F : Fr} {ρ : Nat → Nat} {S : St} {a : Act} {w : World} {bx g N : Nat} {T : TypeId} {J : World → Prop} (h : SatR F ρ S a w) (hg : S.slot g = some (.raw (rawOf F.w0 bx T N J))) (hb : BoxOk (hp w) bx T N) : J w := by
  obtain ⟨u, _, hr⟩ := h.slots g _ hg
  simp only [RelV] at hr
  exact hr (hp w) (fun _ _ _ => rfl) w rfl h.frame.os h.frame.tape h.frame.output hb
theorem box_of {F : Fr} {ρ : Nat → Nat} {S : St} {a : Act} {w : World} {bx N : Nat} {T : TypeId} {v : PV} (h : SatR F ρ S a w) (hB : S.blk 1000 = some ⟨T, 1, .mix [v]⟩) (hp1 : F.pin 1000 = some (bx, N)) : ρ 1000 = bx ∧ BoxOk (hp w) bx T N := by
  obtain ⟨e, c', T', h1, h2⟩ := h.pin 1000 bx N hp1 (by rw [hB]; simp)
  obtain ⟨c, g1, g2, g3, g4⟩ := h.blks 1000 _ hB
  rw [e] at g1
  refine ⟨e, c, g1, ?_, fun u hu => ?_⟩
  · rw [h1] at g1; injection g1 with g1; injection g1 with g1; rw [← g1]; exact h2
  · obtain ⟨u', hu', ho, _⟩ := g4 0 v rfl
    rw [hu'] at hu; injection hu with hu; rw [← hu]; exact ho
/-- An iterator that has captured one box: its call, by the walk of its body. -/
theorem iter_calls {P : Program} {f : FuncId} {fn : Func} {c : Code} {n g l bx N : Nat} {T : TypeId} {v0 : Value} {c0 : Array Value} {J J' : World → Prop} (hf : P.funcs[f]? = some fn) (hb : fn.body = some c) (hn : fn.ntmps = n) (hr : fn.results = #[]) (h2 : 2 ≤ n) (hg : 1 < g) (hgn : g < n) (W : World) (hJ : J W) (stab : ∀ W1 W2, J W1 → Chg bx T N W1 W2 → J W2) (hbx : W.heap[bx]? = some (.cells c0 T (0, 0))) (hN : c0.size = N) (h00 : c0[0]? = some v0) (ho : v0.oneCell' = true)
    (hv0 : ∀ ok H, Rel ok H (.a v0) v0)
    (h : ∀ F : Fr, F.nt = n → (∀ b, F.X b) → (∀ b, F.okA b) → F.pin 1000 = some (bx, N) → (∀ k, Nat.blt k 1000 = true → F.pin k = none) → F.ro = none → F.w0 = W → (∀ k, k ≠ 1000 → F.pin k = none) → F.df = [] → Exec P F c ⟨[(0, .clo (.yield l) [] []), (1, .at_ 1000 0 1), (g, .raw (rawOf F.w0 bx T N J))], [(1000, ⟨T, 1, .mix [.p (.a v0)]⟩)]⟩ (fun e S => (e = .normal ∨ e = .ret) ∧ S.slot g = some (.raw (rawOf F.w0 bx T N J')) ∧ ∃ v, S.blk 1000 = some ⟨T, 1, .mix [v]⟩)) :
    Calls P f #[.func (.yield l) #[] #[], .pointer (some ⟨bx, 0, none⟩)] W fun e W' => (∃ v, e = .returned v) ∧ J' W' ∧ BoxOk (hp W') bx T N := by
  let F : Fr := ⟨W, fun _ => True, fun _ => True, n, [], fun k => if k = 1000 then some (bx, N) else none, none, fun _ _ => False⟩
  let S : St := ⟨[(0, .clo (.yield l) [] []), (1, .at_ 1000 0 1), (g, .raw (rawOf F.w0 bx T N J))], [(1000, ⟨T, 1, .mix [.p (.a v0)]⟩)]⟩
  let a : Act := { tmps := #[.func (.yield l) #[] #[], .pointer (some ⟨bx, 0, none⟩)] ++ Array.replicate (fn.ntmps - 2) undef, defers := [] }
  have hblk : ∀ k B, S.blk k = some B → k = 1000 ∧ B = ⟨T, 1, .mix [.p (.a v0)]⟩ := fun k B hB => by
    simp only [S, St.blk, List.lookup_cons, List.lookup_nil] at hB
    split at hB
    · rename_i e; injection hB with hB; exact ⟨by simpa using e, hB.symm⟩
    · cases hB
  have hokI : ∀ b, b ≠ bx → okI F S.blk (fun _ => bx) b := fun b hb => ⟨.inl trivial, fun _ _ => hb⟩
  have hS : SatR F (fun _ => bx) S a W := by
    refine ⟨fun t v ht => ?_, fun k B hB => ?_, fun k k' hk hk' _ => ?_, ⟨rfl, rfl, rfl, Nat.le_refl _, fun _ _ _ => rfl⟩, by simp [a, F, hn]; omega, rfl, fun j b m hj hSj => ?_⟩
    · simp only [S, St.slot, List.lookup_cons, List.lookup_nil] at ht
      split at ht
      · rename_i e; injection ht with ht; subst ht
        have : t = 0 := by simpa using e
        subst this
        exact ⟨.func (.yield l) #[] #[], by simp only [a]; rw [Array.getElem?_append_left (by simp)]; rfl, by simp [RelV, RelVL]⟩
      · split at ht
        · rename_i e; injection ht with ht; subst ht
          have : t = 1 := by simpa using e
          subst this
          refine ⟨.pointer (some ⟨bx, 0, none⟩), by simp only [a]; rw [Array.getElem?_append_left (by simp)]; rfl, ?_⟩
          simp only [RelV]
          intro B hB
          obtain ⟨-, rfl⟩ := hblk _ _ hB
          exact ⟨by simp [Cells.len], fun _ => by first | rfl | trivial⟩
        · split at ht
          · rename_i e; injection ht with ht; subst ht
            have : t = g := by simpa using e
            subst this
            refine ⟨undef, ?_, raw_of hJ stab hokI rfl rfl rfl⟩
            simp only [a]
            rw [Array.getElem?_append_right (by simp; omega), Array.getElem?_replicate, if_pos (by simp; omega)]
          · cases ht
    · obtain ⟨rfl, rfl⟩ := hblk k B hB
      refine ⟨c0, hbx, .inl trivial, by have := (Array.getElem?_eq_some_iff.1 h00).1; simp only [Cells.len, List.length_singleton]; omega, fun i x hx => ?_⟩
      cases i with
      | zero =>
        obtain rfl : x = .p (.a v0) := by simpa [Cells.get] using hx.symm
        exact ⟨v0, h00, ho, by simp only [RelV]; exact hv0 _ _⟩
      | succ i => simp [Cells.get] at hx
    · obtain ⟨B, hB⟩ : ∃ B, S.blk k = some B := by cases e : S.blk k with
        | none => exact absurd e hk
        | some B => exact ⟨B, rfl⟩
      obtain ⟨B', hB'⟩ : ∃ B, S.blk k' = some B := by cases e : S.blk k' with
        | none => exact absurd e hk'
        | some B => exact ⟨B, rfl⟩
      rw [(hblk _ _ hB).1, (hblk _ _ hB').1]
    · simp only [F] at hj
      split at hj
      · injection hj with hj; injection hj with h3 h4; subst h3 h4
        exact ⟨rfl, c0, T, hbx, hN⟩
      · cases hj
  refine calls_of_wp hf hb (wp_mono (wpIn_wide.1 ((h F rfl (fun _ => trivial) (fun _ => trivial) (by simp [F]) (fun k hk => by simp only [F]; rw [if_neg]; intro e; subst e; simp [Nat.blt_eq] at hk) rfl rfl (fun k hk => by simp only [F]; rw [if_neg hk]) rfl).run 0 a W ⟨_, hS⟩)) fun e a' w' hq => ?_)
  obtain ⟨S', ⟨he, hsg, v, hbv⟩, ⟨ρ', hS'⟩⟩ := hq.resolve_right (fun h => h.2)
  obtain ⟨-, hbox⟩ := box_of (bx := bx) (N := N) hS' hbv (by simp [F])
  have hJ' : J' w' := raw_to hS' hsg hbox
  have hres : (results fn a'.tmps).run P w' = .ok (.tuple #[]) w' := by simp [results, hr]
  rcases he with rfl | rfl <;> exact ⟨hS'.df, .tuple #[], hres, ⟨_, rfl⟩, hJ', hbox⟩
end Go.Proofs.YtebkelnibecmjaaDoor.SH
namespace Go.Proofs.YtebkelnibecmjaaDoor.SH
open Go Go.RowKit

theorem opsIn_val {F : Fence} {n : Nat} {P : Program} {ops : Array Oper} {Q : Exit → Act → World → Prop} {i : Nat} {rest : List Nat} {a : Act} {w w' : World} {o : Oper} {v : Value} (ho : ops[i]? = some o) (hg : o.guard = none) (hd : ∀ c, o.op ≠ .defer c) (hF : ∀ f, F.fn f) (hv : (execOp a.eval o).run P w = .ok (.value v) w')
    (h : wpOpsIn F n P ops Q rest (a.put o.dst v) w') : wpOpsIn F n P ops Q (i :: rest) a w := by
  rw [wpOpsIn_cons]
  unfold wpOpIn
  rw [ho]
  have hw : Region.wanted o (yielded ops a.tmps) = true := by simp [Region.wanted, hg]
  simp only [hw, if_true]
  refine ⟨fun f _ => hF f, ?_⟩
  rw [Oper.semAt_eq _ _ _ hd, hv]
  exact h
theorem opsIn_round {F : Fence} {n : Nat} {P : Program} {ops : Array Oper} {Q : Exit → Act → World → Prop} {i l : Nat} {rest : List Nat} {a : Act} {w : World} {o : Oper} {f : FuncId} {tmps : Array Value} {as bd : Code} (ho : ops[i]? = some o) (hg : o.guard = none) (hd : ∀ c, o.op ≠ .defer c) (hF : ∀ f, F.fn f) (hdp : F.depth = none) (hv : (execOp a.eval o).run P w = .ok (.round l f tmps as bd) w)
    (h : RoundIn F (n - 1) P l f tmps as bd w fun e w' => ∃ v, e = .returned v ∧ wpOpsIn F n P ops Q rest (a.put o.dst v) w') : wpOpsIn F n P ops Q (i :: rest) a w := by
  rw [wpOpsIn_cons]
  unfold wpOpIn
  rw [ho]
  have hw : Region.wanted o (yielded ops a.tmps) = true := by simp [Region.wanted, hg]
  simp only [hw, if_true]
  refine ⟨fun f _ => hF f, ?_⟩
  rw [Oper.semAt_eq _ _ _ hd, hv, Oper.uponIn_round]
  exact ⟨fun hh => (by rw [hdp] at hh; cases hh), h.mono fun e w' ⟨v, he, hq⟩ => by subst he; exact hq⟩
/-- What a round promises the iterator. -/
def YieldOk (P : Program) (l bx N : Nat) (W0 : World) (T : TypeId) (args : Array Value) (J J' : World → Prop) : Prop :=
  ∀ m W c v, J W → W.heap[bx]? = some (.cells c T (0, 0)) → c.size = N → c[0]? = some v → YieldAt Fence.wide m P l args W fun e W' => e = .returned (.bool true) ∧ J' W' ∧ W'.os = W.os ∧ W'.tape = W.tape ∧ W'.output = W.output ∧ W0.heap.size ≤ W'.heap.size ∧ ∃ c', W'.heap[bx]? = some (.cells c' T (0, 0)) ∧ c'.size = N ∧ c'[0]? = some v
/-- What stays told of a slot across a round. -/
def lasts (l : Nat) : PV → Prop
  | .p (.a _) => True
  | .at_ 1000 0 1 => True
  | .clo (.yield l') [] [] => l' = l
  | _ => False
theorem lasts_rel {l : Nat} {v : PV} (h : lasts l v) {β β' : Nat → Option Blk} {ρ ρ' : Nat → Nat} {ok ok' : Nat → Prop} {H H' : Nat → Option Obj} {u : Value} (hr : RelV β ρ ok H v u) (hβ : β' 1000 = β 1000) (hρ : ρ' 1000 = ρ 1000) (hat : ∀ s, ok' s → True) : RelV β' ρ' ok' H' v u := by
  unfold lasts at h
  split at h
  · simpa only [RelV, Rel] using hr
  · simp only [RelV] at hr ⊢
    rw [hβ, hρ]; exact hr
  · simp only [RelV, RelVL] at hr ⊢
    exact hr
  · exact h.elim
/-- The region of a call of yield with two arguments, and its test. -/
theorem ex_yield {P : Program} {F : Fr} {S : St} {Q : Exit → St → Prop} {id l bx N : Nat} {T : TypeId} {g f x1 x2 a1 a2 a3 r q : Nat} {v1 v2 : Value} {T1 T2 T3 T4 T5 uT : TypeId} {q1 q2 q3 q4 q5 : String} {e1 e2 e3 e4 e5 : Array Edge} {ts : Array TypeId} {J J' : World → Prop} {y : Code} {ks : List (Nat × PV)} {v : Value}
    (hro : F.ro = none) (hX : ∀ b, F.X b) (hokA : ∀ b, F.okA b) (hp1 : F.pin 1000 = some (bx, N)) (hpn : ∀ k, k ≠ 1000 → F.pin k = none) (hdf : F.df = []) (stab : ∀ W1 W2, J' W1 → Chg bx T N W1 W2 → J' W2) (hy : YieldOk P l bx N F.w0 T #[v1, v2] J J')
    (hf : S.slot f = some (.clo (.yield l) [] [])) (h1 : S.slot x1 = some (.p (.a v1))) (h2 : S.slot x2 = some (.p (.a v2))) (hg : S.slot g = some (.raw (rawOf F.w0 bx T N J))) (hB : S.blk 1000 = some ⟨T, 1, .mix [.p (.a v)]⟩)
    (hlt : (a1 < F.nt ∧ a2 < F.nt) ∧ (a3 < F.nt ∧ r < F.nt) ∧ q < F.nt)
    (hds : (x1 ≠ a1 ∧ x2 ≠ a1 ∧ x2 ≠ a2 ∧ a1 ≠ a2 ∧ a1 ≠ a3 ∧ a2 ≠ a3 ∧ r ≠ q) ∧ (g ≠ a1 ∧ g ≠ a2 ∧ g ≠ a3 ∧ g ≠ r ∧ g ≠ q))
    (hks : ∀ p ∈ ks, S.slot p.1 = some p.2 ∧ lasts l p.2 ∧ p.1 ≠ a1 ∧ p.1 ≠ a2 ∧ p.1 ≠ a3 ∧ p.1 ≠ r ∧ p.1 ≠ q)
    (hn : Exec P F y ⟨(q, .p (.a (.bool false))) :: (g, .raw (rawOf F.w0 bx T N J')) :: ks, [(1000, ⟨T, 1, .mix [.p (.a v)]⟩)]⟩ Q) :
    Exec P F (.seq (.region id [⟨some a1, .move (.tmp f), T1, q1, e1, none⟩, ⟨some a2, .move (.tmp x1), T2, q2, e2, none⟩, ⟨some a3, .move (.tmp x2), T3, q3, e3, none⟩, ⟨some r, .call ⟨.value (.tmp a1), #[.tmp a2, .tmp a3], ts⟩, T4, q4, e4, none⟩, ⟨some q, .unOp .not uT (.tmp r), T5, q5, e5, none⟩].toArray false) y) S Q := by
  refine ⟨fun n a w hS => ?_⟩
  obtain ⟨ρ, h⟩ := hS
  refine wpIn_seq (wpIn_region ?_)
  obtain ⟨hr0, hbox⟩ := box_of h hB hp1
  have hJ := raw_to h hg hbox
  have ef : a.eval (.tmp f) = .func (.yield l) #[] #[] := by
    obtain ⟨u, hu, hr⟩ := h.slots f _ hf
    simp only [RelV, RelVL] at hr
    obtain ⟨fs, cs, h3, rfl, rfl⟩ := hr
    simp [Act.eval, Array.getD_eq_getD_getElem?, hu, h3]
  have ex1 : a.eval (.tmp x1) = v1 := atom_eval h (by simpa [St.opd] using h1)
  have ex2 : a.eval (.tmp x2) = v2 := atom_eval h (by simpa [St.opd] using h2)
  have hsz := h.nt
  have pg : ∀ (a : Act) (d t : Nat) (u : Value), a.tmps.size = F.nt → d < F.nt → (a.put (some d) u).eval (.tmp t) = if t = d then u else a.eval (.tmp t) := fun a d t u hs hd => by
    simp only [Act.eval, Act.put, Array.getD_eq_getD_getElem?]
    by_cases e : d = t
    · subst e; rw [if_pos rfl, Array.getElem?_setIfInBounds_self_of_lt (by omega)]; rfl
    · rw [if_neg (Ne.symm e), Array.getElem?_setIfInBounds_ne e]
  have ps : ∀ (a : Act) (d : Nat) (u : Value), a.tmps.size = F.nt → (a.put (some d) u).tmps.size = F.nt := fun a d u hs => by simp [Act.put, hs]
  obtain ⟨cc, hcell, hccN, hcc0, hone⟩ : ∃ cc, w.heap[bx]? = some (.cells cc T (0, 0)) ∧ cc.size = N ∧ cc[0]? = some v ∧ v.oneCell' = true := by
    obtain ⟨c, g1, g2, g3, g4⟩ := h.blks 1000 _ hB
    obtain ⟨c2, g5, g6, _⟩ := hbox
    rw [hr0] at g1
    rw [g5] at g1; injection g1 with g1; injection g1 with g1; subst g1
    obtain ⟨u, hu, ho, hr⟩ := g4 0 _ rfl
    simp only [RelV, Rel] at hr
    subst hr
    exact ⟨c2, g5, g6, hu, ho⟩
  have hww : ∀ f, (fen F).fn f := fun _ => trivial
  show wpOpsIn (fen F) n P _ _ [0, 1, 2, 3, 4] a w
  refine opsIn_val (o := ⟨some a1, .move (.tmp f), T1, q1, e1, none⟩) (w' := w) (v := .func (.yield l) #[] #[]) rfl rfl (by intro c e; cases e) hww (by simp [execOp, ef]) ?_
  refine opsIn_val (o := ⟨some a2, .move (.tmp x1), T2, q2, e2, none⟩) (w' := w) (v := v1) rfl rfl (by intro c e; cases e) hww (by simp only [execOp]; rw [pg a a1 x1 _ hsz hlt.1.1, if_neg hds.1.1, ex1]; simp) ?_
  refine opsIn_val (o := ⟨some a3, .move (.tmp x2), T3, q3, e3, none⟩) (w' := w) (v := v2) rfl rfl (by intro c e; cases e) hww (by simp only [execOp]; rw [pg _ a2 x2 _ (ps _ _ _ hsz) hlt.1.2, if_neg hds.1.2.2.1, pg a a1 x2 _ hsz hlt.1.1, if_neg hds.1.2.1, ex2]; simp) ?_
  obtain ⟨b3, hb3⟩ : ∃ b3, b3 = ((a.put (some a1) (.func (.yield l) #[] #[])).put (some a2) v1).put (some a3) v2 := ⟨_, rfl⟩
  show wpOpsIn (fen F) n P _ _ [3, 4] (((a.put (some a1) (.func (.yield l) #[] #[])).put (some a2) v1).put (some a3) v2) w
  rw [← hb3]
  have s3 : b3.tmps.size = F.nt := by rw [hb3]; exact ps _ _ _ (ps _ _ _ (ps _ _ _ hsz))
  have y1 : b3.eval (.tmp a1) = .func (.yield l) #[] #[] := by
    rw [hb3, pg _ a3 a1 _ (ps _ _ _ (ps _ _ _ hsz)) hlt.2.1.1, if_neg hds.1.2.2.2.2.1, pg _ a2 a1 _ (ps _ _ _ hsz) hlt.1.2, if_neg hds.1.2.2.2.1, pg a a1 a1 _ hsz hlt.1.1, if_pos rfl]
  have y2 : b3.eval (.tmp a2) = v1 := by rw [hb3, pg _ a3 a2 _ (ps _ _ _ (ps _ _ _ hsz)) hlt.2.1.1, if_neg hds.1.2.2.2.2.2.1, pg _ a2 a2 _ (ps _ _ _ hsz) hlt.1.2, if_pos rfl]
  have y3 : b3.eval (.tmp a3) = v2 := by rw [hb3, pg _ a3 a3 _ (ps _ _ _ (ps _ _ _ hsz)) hlt.2.1.1, if_pos rfl]
  obtain ⟨fn, tmps, as, bd, hyr, hR⟩ := hy (n - 1) w cc v hJ hcell hccN hcc0
  refine opsIn_round (o := ⟨some r, .call ⟨.value (.tmp a1), #[.tmp a2, .tmp a3], ts⟩, T4, q4, e4, none⟩) (l := l) (f := fn) (tmps := tmps) (as := as) (bd := bd) rfl rfl (by intro c e; cases e) hww rfl (by simp [execOp, resolve, y1, y2, y3, Deferred.ofValue, invoke, hyr]) ?_
  have hR2 : RoundIn (fen F) (n - 1) P l fn tmps as bd w _ := hR
  refine hR2.mono fun e W' ⟨he, hJ', w1, w2, w3, w4, cd, w5, hcdN, hcd0⟩ => ⟨_, he, ?_⟩
  have sr : (b3.put (some r) (.bool true)).tmps.size = F.nt := ps _ _ _ s3
  refine opsIn_val (o := ⟨some q, .unOp .not uT (.tmp r), T5, q5, e5, none⟩) (v := .bool false) (w' := W') rfl rfl (by intro c e; cases e) hww (by simp only [execOp]; rw [pg b3 r r _ s3 hlt.2.1.2, if_pos rfl]; simp [Op.unary]) ?_
  show Exit.then _ _ _ _ _
  refine Exec.run hn n _ W' ?_
  have hbx' : W'.heap[bx]? = some (.cells cd T (0, 0)) := w5
  have hblk2 : ∀ k B, St.blk ⟨(q, .p (.a (.bool false))) :: (g, .raw (rawOf F.w0 bx T N J')) :: ks, [(1000, ⟨T, 1, .mix [.p (.a v)]⟩)]⟩ k = some B → k = 1000 ∧ B = ⟨T, 1, .mix [.p (.a v)]⟩ := fun k B hk => by
    simp only [St.blk, List.lookup_cons, List.lookup_nil] at hk
    split at hk
    · rename_i e; injection hk with hk; exact ⟨by simpa using e, hk.symm⟩
    · cases hk
  have hS1000 : St.blk ⟨(q, .p (.a (.bool false))) :: (g, .raw (rawOf F.w0 bx T N J')) :: ks, [(1000, ⟨T, 1, .mix [.p (.a v)]⟩)]⟩ 1000 = S.blk 1000 := by rw [hB]; rfl
  have hput : ∀ t, t ≠ a1 → t ≠ a2 → t ≠ a3 → t ≠ r → t ≠ q → ((b3.put (some r) (.bool true)).put (some q) (.bool false)).tmps[t]? = a.tmps[t]? := fun t t1 t2 t3 t4 t5 => by
    rw [hb3]
    simp only [Act.put]
    rw [Array.getElem?_setIfInBounds_ne (Ne.symm t5), Array.getElem?_setIfInBounds_ne (Ne.symm t4), Array.getElem?_setIfInBounds_ne (Ne.symm t3), Array.getElem?_setIfInBounds_ne (Ne.symm t2), Array.getElem?_setIfInBounds_ne (Ne.symm t1)]
  refine ⟨ρ, ⟨fun t u ht => ?_, fun k B hk => ?_, fun k k' hk hk' _ => ?_, ⟨w1.trans h.frame.os, w2.trans h.frame.tape, w3.trans h.frame.output, w4, fun b _ hx => absurd (hX b) hx⟩, ps _ _ _ sr, by rw [hb3]; exact h.df, fun j b m hj _ => ?_⟩⟩
  · simp only [St.slot, List.lookup_cons] at ht
    split at ht
    · rename_i e; injection ht with ht; subst ht
      have : t = q := by simpa using e
      subst this
      refine ⟨.bool false, ?_, by simp [RelV, Rel]⟩
      show (((b3.put (some r) (.bool true)).tmps.setIfInBounds t (.bool false)))[t]? = _
      rw [Array.getElem?_setIfInBounds_self_of_lt (by omega)]
    · split at ht
      · rename_i e; injection ht with ht; subst ht
        have : t = g := by simpa using e
        subst this
        obtain ⟨u, hu, _⟩ := h.slots t _ hg
        refine ⟨u, (hput t hds.2.1 hds.2.2.1 hds.2.2.2.1 hds.2.2.2.2.1 hds.2.2.2.2.2).trans hu, raw_of hJ' stab (fun b hb => ⟨.inl (hokA b), fun k hk e => ?_⟩) (w1.trans h.frame.os) (w2.trans h.frame.tape) (w3.trans h.frame.output)⟩
        obtain ⟨B, hkB⟩ : ∃ B, St.blk ⟨(q, .p (.a (.bool false))) :: (t, .raw (rawOf F.w0 bx T N J')) :: ks, [(1000, ⟨T, 1, .mix [.p (.a v)]⟩)]⟩ k = some B := by
          cases e : St.blk ⟨(q, .p (.a (.bool false))) :: (t, .raw (rawOf F.w0 bx T N J')) :: ks, [(1000, ⟨T, 1, .mix [.p (.a v)]⟩)]⟩ k with
          | none => exact absurd e hk
          | some B => exact ⟨B, rfl⟩
        rw [(hblk2 k B hkB).1, hr0] at e
        exact hb e
      · have hmem : (t, u) ∈ ks := by
          have : ∀ l : List (Nat × PV), l.lookup t = some u → (t, u) ∈ l := by
            intro l
            induction l with
            | nil => simp
            | cons p l ih =>
              obtain ⟨s, z⟩ := p
              intro h
              rw [List.lookup_cons] at h
              split at h
              · rename_i e; injection h with h; subst h; simp [beq_iff_eq.1 e]
              · simp [ih h]
          exact this ks ht
        obtain ⟨k1, k2, k3, k4, k5, k6, k7⟩ := hks _ hmem
        obtain ⟨u', hu', hr⟩ := h.slots t u k1
        exact ⟨u', (hput t k3 k4 k5 k6 k7).trans hu', lasts_rel k2 hr hS1000 rfl (fun _ _ => trivial)⟩
  · obtain ⟨rfl, rfl⟩ := hblk2 k B hk
    refine ⟨cd, by rw [hr0]; exact hbx', .inl (hX _), by have := (Array.getElem?_eq_some_iff.1 hcd0).1; simp only [Cells.len, List.length_singleton]; omega, fun i x hx => ?_⟩
    cases i with
    | zero =>
      obtain rfl : x = .p (.a v) := by simpa [Cells.get] using hx.symm
      exact ⟨v, hcd0, hone, by simp only [RelV, Rel]⟩
    | succ i => simp [Cells.get] at hx
  · obtain ⟨B, hkB⟩ := Option.ne_none_iff_exists'.1 hk
    obtain ⟨B', hkB'⟩ := Option.ne_none_iff_exists'.1 hk'
    rw [(hblk2 _ _ hkB).1, (hblk2 _ _ hkB').1]
  · by_cases e : j = 1000
    · subst e
      rw [hp1] at hj
      injection hj with hj; injection hj with h3 h4
      subst h3 h4
      exact ⟨hr0, cd, T, hbx', hcdN⟩
    · rw [hpn j e] at hj; cases hj
end Go.Proofs.YtebkelnibecmjaaDoor.SH
namespace Go.Proofs.YtebkelnibecmjaaDoor.SH
open Go Go.RowKit

theorem SatR.weak {F : Fr} {ρ : Nat → Nat} {S S' : St} {a : Act} {w : World} (h : SatR F ρ S a w) (hle : S'.le S) : SatR F ρ S' a w := by
  have hne : ∀ k, S'.blk k ≠ none → S.blk k ≠ none ∧ ρ k = ρ k := fun k hk => by
    cases hB : S'.blk k with
    | none => exact absurd hB hk
    | some B => exact ⟨by rw [hle.2 k B hB]; simp, rfl⟩
  exact h.upd (Kp := fun _ => True) h.frame h.nt h.df (fun b hb' _ => ⟨okI_mono hne hb', rfl⟩) (fun k _ B' hB' => ⟨B', hle.2 k B' hB', rfl, Nat.le_refl _, fun _ => ⟨rfl, fun c T fr hc => ⟨c, T, fr, hc, rfl⟩⟩⟩)
    (fun k k' h1 h2 h3 => h.inj k k' (hne k h1).1 (hne k' h2).1 h3) (fun j _ _ _ hj => ⟨(hne j hj).1, rfl, fun c T hc => ⟨c, T, hc, rfl⟩⟩) (fun t v ht => .inl ⟨hle.1 t v ht, rfl, fun _ _ => trivial⟩) (fun k B hB => .inl ⟨hle.2 k B hB, rfl, rfl, fun _ _ _ _ _ => trivial⟩)
/-- More places may hold data. -/
theorem SatR.okM {F : Fr} {ρ : Nat → Nat} {S : St} {a : Act} {w : World} {okA' : Nat → Prop} (h : SatR F ρ S a w) (hm : ∀ b, F.okA b → okA' b) : SatR { F with okA := okA' } ρ S a w := by
  have hcar : Carry (okI F S.blk ρ) (okI { F with okA := okA' } S.blk ρ) (hp w) (hp w) := fun b hb _ => ⟨⟨hb.1.elim (fun h => .inl (hm b h)) .inr, hb.2⟩, rfl⟩
  have hkeep : Keep (fun _ => True) S.blk S.blk ρ ρ (hp w) (hp w) := fun k _ B hB => ⟨B, hB, rfl, Nat.le_refl _, fun _ => ⟨rfl, fun c T fr hc => ⟨c, T, fr, hc, rfl⟩⟩⟩
  refine ⟨fun t v hs => ?_, fun k B hB => ?_, h.inj, ⟨h.frame.os, h.frame.tape, h.frame.output, h.frame.size, h.frame.block⟩, h.nt, h.df, h.pin⟩
  · obtain ⟨u, hu, hr⟩ := h.slots t v hs
    exact ⟨u, hu, RelV.mono hcar hkeep v u (fun _ _ => trivial) hr⟩
  · obtain ⟨c, h1, h2, h3, h4⟩ := h.blks k B hB
    refine ⟨c, h1, h2, h3, fun i x hx => ?_⟩
    obtain ⟨u, hu, ho, hr⟩ := h4 i x hx
    exact ⟨u, hu, ho, RelV.mono hcar hkeep x u (fun _ _ => trivial) hr⟩
/-- Slots that a round leaves as they are. -/
def Fast (pn : Nat → Bool) (hb : List (Nat × Blk)) : PV → Prop
  | .p (.a _) => True
  | .at_ k 0 n => pn k = true ∧ ∃ B, hb.lookup k = some B ∧ B.cs.len = n
  | _ => False
theorem fast_rel {pn : Nat → Bool} {hb hb' : List (Nat × Blk)} {v : PV} (h : Fast pn hb v) (h' : Fast pn hb' v) {ρ ρ' : Nat → Nat} {ok ok' : Nat → Prop} {H H' : Nat → Option Obj} {u : Value} (hr : RelV (fun k => hb.lookup k) ρ ok H v u) (hρ : ∀ k, pn k = true → hb.lookup k ≠ none → hb'.lookup k ≠ none → ρ' k = ρ k) : RelV (fun k => hb'.lookup k) ρ' ok' H' v u := by
  unfold Fast at h
  split at h
  · simpa only [RelV, Rel] using hr
  · rename_i k n
    simp only [Fast] at h'
    obtain ⟨hp, B, hB, hl⟩ := h
    obtain ⟨_, B', hB', hl'⟩ := h'
    simp only [RelV] at hr ⊢
    intro C hC
    rw [hB'] at hC; injection hC with hC; subst hC
    obtain ⟨h1, h2⟩ := hr B hB
    refine ⟨by omega, fun _ => ?_⟩
    rw [hρ k hp (by rw [hB]; simp) (by rw [hB']; simp)]
    exact h2 hl
  · exact h.elim
/-- Other temporaries, other names' places: as far as the slots last. -/
theorem SatR.turn {F : Fr} {ρ ρ0 : Nat → Nat} {sl sl1 : List (Nat × PV)} {hb hb0 : List (Nat × Blk)} {a a0 : Act} {w w1 w0 : World} {pn : Nat → Bool} (h : SatR F ρ ⟨sl1, hb⟩ a w) (h0 : SatR F ρ0 ⟨sl, hb0⟩ a0 w0) (hf : ∀ p ∈ sl, Fast pn hb0 p.2 ∧ Fast pn hb p.2) (hρ : ∀ k, pn k = true → hb0.lookup k ≠ none → hb.lookup k ≠ none → ρ k = ρ0 k)
    (hfr : Frame F w1) (hok : ∀ b, okI F (St.blk ⟨sl1, hb⟩) ρ b → hp w b ≠ none → hp w1 b = hp w b) (hbl : ∀ k B, hb.lookup k = some B → hp w1 (ρ k) = hp w (ρ k) ∨ (B.cs = .mix [.dead] ∧ ∀ c T fr, hp w (ρ k) = some (.cells c T fr) → ∃ c', hp w1 (ρ k) = some (.cells c' T fr) ∧ c'.size = c.size ∧ ∀ u, c'[0]? = some u → u.oneCell' = true)) : SatR F ρ ⟨sl, hb⟩ a0 w1 := by
  have h2 : SatR F ρ ⟨sl1, hb⟩ a w1 := h.other hfr hok hbl
  refine ⟨fun t v ht => ?_, h2.blks, h2.inj, hfr, h0.nt, h0.df, h2.pin⟩
  obtain ⟨u, hu, hr⟩ := h0.slots t v ht
  have hmem : (t, v) ∈ sl := by
    have : ∀ l : List (Nat × PV), l.lookup t = some v → (t, v) ∈ l := by
      intro l
      induction l with
      | nil => simp
      | cons p l ih =>
        obtain ⟨s, z⟩ := p
        intro h
        rw [List.lookup_cons] at h
        split at h
        · rename_i e; injection h with h; subst h; simp [beq_iff_eq.1 e]
        · simp [ih h]
    exact this sl ht
  obtain ⟨f0, f1⟩ := hf _ hmem
  exact ⟨u, hu, fast_rel f0 f1 hr (fun k h1 h2 h3 => hρ k h1 h2 h3)⟩

/-- The same call, its first world another one: as to the blocks that the call may not write. -/
theorem SatR.reW {F : Fr} {ρ : Nat → Nat} {S : St} {a : Act} {w w' W0 : World} (h : SatR F ρ S a w) (hsz : W0.heap.size = F.w0.heap.size) (hfr : Frame { F with w0 := W0 } w') (hok : ∀ b, okI F S.blk ρ b → hp w b ≠ none → hp w' b = hp w b) (hbl : ∀ k B, S.blk k = some B → hp w' (ρ k) = hp w (ρ k)) : SatR { F with w0 := W0 } ρ S a w' := by
  have hcar : Carry (okI F S.blk ρ) (okI { F with w0 := W0 } S.blk ρ) (hp w) (hp w') := fun b hb hne => ⟨⟨by rw [show ({ F with w0 := W0 } : Fr).w0.heap.size = F.w0.heap.size from hsz]; exact hb.1, hb.2⟩, hok b hb hne⟩
  have hkeep : Keep (fun _ => True) S.blk S.blk ρ ρ (hp w) (hp w') := fun k _ B hB => ⟨B, hB, rfl, Nat.le_refl _, fun _ => ⟨rfl, fun c T fr hc => ⟨c, T, fr, (hbl k B hB).trans hc, rfl⟩⟩⟩
  refine ⟨fun t v hs => ?_, fun k B hB => ?_, h.inj, hfr, h.nt, h.df, fun j b n hj hS => ?_⟩
  · obtain ⟨u, hu, hr⟩ := h.slots t v hs
    exact ⟨u, hu, RelV.mono hcar hkeep v u (fun _ _ => trivial) hr⟩
  · obtain ⟨c, h1, h2, h3, h4⟩ := h.blks k B hB
    refine ⟨c, (hbl k B hB).trans h1, by rw [show ({ F with w0 := W0 } : Fr).w0.heap.size = F.w0.heap.size from hsz]; exact h2, h3, fun i x hx => ?_⟩
    obtain ⟨u, hu, ho, hr⟩ := h4 i x hx
    exact ⟨u, hu, ho, RelV.mono hcar hkeep x u (fun _ _ => trivial) hr⟩
  · obtain ⟨B, hB⟩ := Option.ne_none_iff_exists'.1 hS
    obtain ⟨h1, c, T, h2, h3⟩ := h.pin j b n hj hS
    subst h1
    exact ⟨rfl, c, T, (hbl j B hB).trans h2, h3⟩
/-- Another word on a box's one cell. -/
theorem SatR.swap {F : Fr} {ρ : Nat → Nat} {sl : List (Nat × PV)} {hb : List (Nat × Blk)} {a : Act} {w : World} {kb : Nat} {T : TypeId} {v v' : PV} (h : SatR F ρ ⟨sl, (kb, ⟨T, 1, .mix [v]⟩) :: hb⟩ a w) (hv : ∀ c u ok β, hp w (ρ kb) = some (.cells c T (0, 0)) → c[0]? = some u → RelV β ρ ok (hp w) v' u) : SatR F ρ ⟨sl, (kb, ⟨T, 1, .mix [v']⟩) :: hb⟩ a w := by
  have hbk : ∀ (z : PV) k, St.blk ⟨sl, (kb, ⟨T, 1, .mix [z]⟩) :: hb⟩ k = if k = kb then some ⟨T, 1, .mix [z]⟩ else hb.lookup k := fun z k => by
    simp only [St.blk, List.lookup_cons]
    by_cases e : k = kb
    · subst e; simp
    · rw [show (k == kb) = false by simpa using e, if_neg e]
  have hne : ∀ k, St.blk ⟨sl, (kb, ⟨T, 1, .mix [v']⟩) :: hb⟩ k ≠ none ↔ St.blk ⟨sl, (kb, ⟨T, 1, .mix [v]⟩) :: hb⟩ k ≠ none := fun k => by
    rw [hbk, hbk]; split <;> simp
  have hcar : Carry (okI F (St.blk ⟨sl, (kb, ⟨T, 1, .mix [v]⟩) :: hb⟩) ρ) (okI F (St.blk ⟨sl, (kb, ⟨T, 1, .mix [v']⟩) :: hb⟩) ρ) (hp w) (hp w) := fun b hb' _ => ⟨⟨hb'.1, fun k hk => hb'.2 k ((hne k).1 hk)⟩, rfl⟩
  have hkeep : Keep (fun _ => True) (St.blk ⟨sl, (kb, ⟨T, 1, .mix [v]⟩) :: hb⟩) (St.blk ⟨sl, (kb, ⟨T, 1, .mix [v']⟩) :: hb⟩) ρ ρ (hp w) (hp w) := fun k _ B hB => by
    rw [hbk] at hB ⊢
    split at hB
    · injection hB with hB; subst hB
      exact ⟨⟨T, 1, .mix [v]⟩, by rename_i e; rw [if_pos e], rfl, Nat.le_refl _, fun _ => ⟨rfl, fun c T fr hc => ⟨c, T, fr, hc, rfl⟩⟩⟩
    · exact ⟨B, by rename_i e; rw [if_neg e]; exact hB, rfl, Nat.le_refl _, fun _ => ⟨rfl, fun c T fr hc => ⟨c, T, fr, hc, rfl⟩⟩⟩
  refine ⟨fun t z hs => ?_, fun k B hB => ?_, fun k k' h1 h2 => h.inj k k' ((hne k).1 h1) ((hne k').1 h2), h.frame, h.nt, h.df, fun j b n hj hS => h.pin j b n hj ((hne j).1 hS)⟩
  · obtain ⟨u, hu, hr⟩ := h.slots t z hs
    exact ⟨u, hu, RelV.mono hcar hkeep z u (fun _ _ => trivial) hr⟩
  · by_cases e : k = kb
    · subst e
      have hB' := hB
      rw [hbk, if_pos rfl] at hB'
      injection hB' with hB'; subst hB'
      obtain ⟨c, h1, h2, h3, h4⟩ := h.blks k ⟨T, 1, .mix [v]⟩ (by rw [hbk, if_pos rfl])
      refine ⟨c, h1, h2, h3, fun i x hx => ?_⟩
      cases i with
      | zero =>
        obtain rfl : x = v' := by simpa [Cells.get] using hx.symm
        obtain ⟨u, hu, ho, _⟩ := h4 0 v rfl
        exact ⟨u, hu, ho, hv c u _ _ h1 hu⟩
      | succ i => simp [Cells.get] at hx
    · have hB' : St.blk ⟨sl, (kb, ⟨T, 1, .mix [v]⟩) :: hb⟩ k = some B := by rw [hbk, if_neg e] at hB ⊢; exact hB
      obtain ⟨c, h1, h2, h3, h4⟩ := h.blks k B hB'
      refine ⟨c, h1, h2, h3, fun i x hx => ?_⟩
      obtain ⟨u, hu, ho, hr⟩ := h4 i x hx
      exact ⟨u, hu, ho, RelV.mono hcar hkeep x u (fun _ _ => trivial) hr⟩
end Go.Proofs.YtebkelnibecmjaaDoor.SH
namespace Go.Proofs.YtebkelnibecmjaaDoor.SH
open Go Go.RowKit

/-- What the pieces of a range over a function may take of the call's frame. -/
structure Like (F F' : Fr) (pn : Nat → Bool) : Prop where
  nt : F'.nt = F.nt
  pin : ∀ k, pn k = false → F'.pin k = none
  X : ∀ b, F'.X b → F.X b ∨ F.w0.heap.size ≤ b
  size : F.w0.heap.size ≤ F'.w0.heap.size
  block : ∀ b, b < F.w0.heap.size → ¬ F.X b → F'.w0.heap[b]? = F.w0.heap[b]?
def mkL (fid : FuncId) (tmps : Array Value) (p1 p2 : Nat) (as bd : Code) (D : Nat) (st : LoopState) (pe : Option Code) : Loop := { state := st, pending := pe, fn := fid, tmps := tmps, params := #[p1, p2], assign := as, body := bd, defers := D }

/-- A piece and what is behind it, where the piece may turn the call itself. -/
def ExecT (P : Program) (F : Fr) (b y : Code) (S : St) (Q : Exit → St → Prop) : Prop :=
  ∀ n a w, Sat F S a w → b.wpIn (fen F) n P (Exit.then (y.wpIn (fen F) n P (fun e a' w' => (∃ S', Q e S' ∧ Sat F S' a' w') ∨ (e = .ret ∧ F.esc a' w'))) (fun e a' w' => (∃ S', Q e S' ∧ Sat F S' a' w') ∨ (e = .ret ∧ F.esc a' w'))) a w
theorem ex_seqT {P : Program} {F : Fr} {b y : Code} {S : St} {Q : Exit → St → Prop} (h : ExecT P F b y S Q) : Exec P F (.seq b y) S Q := ⟨fun n a w hS => wpIn_seq (h n a w hS)⟩
theorem ex_seq3 {P : Program} {F : Fr} {x b y : Code} {S : St} {Q : Exit → St → Prop} (h : Exec P F x S (QSeq (fun S' => ExecT P F b y S' Q) Q)) : Exec P F (.seq (.seq x b) y) S Q := ⟨fun n a w hS => wpIn_seq (wpIn_seq (wpIn_mono (h.run n a w hS) fun e a' w' hq => by
  rcases hq with ⟨S', h1, h2⟩ | ⟨rfl, h⟩
  · cases e <;> first | exact h1 n a' w' h2 | exact .inl ⟨S', h1, h2⟩
  · exact .inr ⟨rfl, h⟩))⟩
theorem ex_range {P : Program} {F : Fr} {S : St} {Q : Exit → St → Prop} {id tg p1 p2 gf kb : Nat} {as bd y : Code} {Tb : TypeId} {v0 : Value} {sl : List (Nat × PV)} {γ : Type} (H : Nat → List (Nat × Blk)) (enc : γ → Value × Value) (all : List γ) (pn : Nat → Bool) {rs : List ResultVar} {fn : Func} {res : List Pure}
    (hro : F.ro = none) (htg : S.slot tg = some (.clo (.func gf) [] [.at_ kb 0 1])) (hkb : S.blk kb = some ⟨Tb, 1, .mix [.p (.a v0)]⟩) (hle : St.le ⟨sl, (kb, ⟨Tb, 1, .mix [.p (.a v0)]⟩) :: H 0⟩ S) (hpk : pn kb = true)
    (hfast : ∀ k v, ∀ p ∈ sl, Fast pn ((kb, ⟨Tb, 1, .mix [v]⟩) :: H k) p.2) (eg : ∀ args w, (callFunc gf args).run P w = .ok (.enter gf args) w) (hlt : p1 < F.nt ∧ p2 < F.nt)
    (hiter : ∀ (l bx N : Nat) (c0 : Array Value) (J : Nat → World → Prop) (W : World), (∀ k W1 W2, J k W1 → Chg bx Tb N W1 W2 → J k W2) → (∀ k b, all[k]? = some b → YieldOk P l bx N W Tb #[(enc b).1, (enc b).2] (J k) (J (k + 1))) → J 0 W → W.heap[bx]? = some (.cells c0 Tb (0, 0)) → c0.size = N → c0[0]? = some v0 → v0.oneCell' = true →
      Calls P gf #[.func (.yield l) #[] #[], .pointer (some ⟨bx, 0, none⟩)] W fun e W' => (∃ v, e = .returned v) ∧ J all.length W' ∧ BoxOk (hp W') bx Tb N)
    (hround : ∀ (F' : Fr) (k : Nat) (b : γ) (v : Value), all[k]? = some b → Like F F' pn → F'.df = [] → ∃ S1, Exec P F' as ⟨(p2, .p (.a (enc b).2)) :: (p1, .p (.a (enc b).1)) :: sl, (kb, ⟨Tb, 1, .mix [.p (.a v)]⟩) :: H k⟩ (fun e S' => e = .normal ∧ S1.le S') ∧
      ∀ (F' : Fr), Like F F' pn → F'.df = [] → Exec P F' bd S1 (fun e S' => e = .normal ∧ St.le ⟨sl, (kb, ⟨Tb, 1, .mix [.p (.a v)]⟩) :: H (k + 1)⟩ S'))
    (hX0 : ∀ b, ¬ F.X b) (htail : ∀ F', F'.ro = none → Like F F' pn → (∀ b, F'.X b → F'.okA b) → (∀ k, F'.pin k = none) → Exec P F' y ⟨sl, (kb, ⟨Tb, 1, .mix [.dead]⟩) :: H all.length⟩ (fun e S' => e = .ret ∧ ResVs P S' rs res))
    (hfn : fn.results = rs.toArray)
    (hpns : ∀ k i, pn k = true → (H i).lookup k ≠ none → (H 0).lookup k ≠ none) (hesc : ∀ a w v D, a.defers = [{ target := .collected D, args := #[] }] → w.heap[D]? = some (.deferred (some [])) → (results fn a.tmps).run P (w.putObj D (.deferred none)) = .ok v (w.putObj D (.deferred none)) → Rel (fun b => F.okA b ∨ F.w0.heap.size ≤ b) (hp (w.putObj D (.deferred none))) (resOf res) v → Frame F (w.putObj D (.deferred none)) → F.esc a w) (hdf : F.df = []) :
    ExecT P F (.block id (.rangeFunc (.tmp tg) #[p1, p2] as bd)) y S Q := by
  intro n a w hS
  obtain ⟨ρ, h⟩ := hS
  have had : a.defers = [] := h.df.trans hdf
  refine wpIn_block (wpIn_rangeFunc ?_)
  intro fid _
  obtain ⟨c0, hb1, hb2, hb3, hb4⟩ := h.blks kb _ hkb
  obtain ⟨u0, hu0, hone, hr0⟩ := hb4 0 _ rfl
  simp only [RelV, Rel] at hr0
  rw [hr0] at hu0 hone
  obtain ⟨bx, hbx⟩ : ∃ bx, bx = ρ kb := ⟨_, rfl⟩
  obtain ⟨N, hN⟩ : ∃ N, N = c0.size := ⟨_, rfl⟩
  rw [← hbx] at hb1 hb2
  have hbxlt : bx < w.heap.size := World.size_lt hb1
  have htgv : a.eval (.tmp tg) = .func (.func gf) #[] #[.pointer (some ⟨bx, 0, none⟩)] := by
    obtain ⟨u, hu, hr⟩ := h.slots tg _ htg
    simp only [RelV, RelVL] at hr
    obtain ⟨fs, cs, h3, rfl, v1, r1, rfl, h4, rfl⟩ := hr
    have := h4 _ hkb
    rw [(this.2 rfl)] at h3
    simp [Act.eval, Array.getD_eq_getD_getElem?, hu, h3, hbx]
  have h0 := h.weak hle
  obtain ⟨pinL, hpinL⟩ : ∃ pinL : Nat → Option (Nat × Nat), pinL = fun k => if pn k then match hp w (ρ k) with | some (.cells c _ _) => some (ρ k, c.size) | _ => none else none := ⟨_, rfl⟩
  obtain ⟨W1, hW1⟩ : ∃ W1, W1 = (w.alloc (.deferred (some []))).alloc (.loop (mkL fid a.tmps p1 p2 as bd w.heap.size .ready none)) := ⟨_, rfl⟩
  have hsz1 : W1.heap.size = w.heap.size + 2 := by rw [hW1]; simp
  have hl1 : W1.heap[w.heap.size + 1]? = some (.loop (mkL fid a.tmps p1 p2 as bd w.heap.size .ready none)) := by
    rw [hW1]; have := World.alloc_heap_new (w.alloc (.deferred (some []))) (.loop (mkL fid a.tmps p1 p2 as bd w.heap.size .ready none)); rwa [World.size_alloc] at this
  have hD1 : W1.heap[w.heap.size]? = some (.deferred (some [])) := by
    rw [hW1]; exact (Below.heap_alloc _ _ _ (by simp)).trans (World.alloc_heap_new w _)
  have hold1 : ∀ b, b < w.heap.size → W1.heap[b]? = w.heap[b]? := fun b hb => by
    rw [hW1]; exact (Below.heap_alloc _ _ _ (by simp; omega)).trans (Below.heap_alloc _ _ _ hb)
  have hos1 : W1.os = w.os ∧ W1.tape = w.tape ∧ W1.output = w.output := by rw [hW1]; exact ⟨rfl, rfl, rfl⟩
  obtain ⟨FL, hFL⟩ : ∃ FL, FL = reF F (St.blk ⟨sl, (kb, ⟨Tb, 1, .mix [.p (.a v0)]⟩) :: H 0⟩) ρ w W1 [] pinL (some (w.heap.size + 1)) (fun _ => False) (fun _ _ => False) := ⟨_, rfl⟩
  have hpk1 : ∀ k B c, S.blk k = some B → pn k = true → hp w (ρ k) = some (.cells c B.T (0, 0)) → pinL k = some (ρ k, c.size) := fun k B c _ h1 h2 => by rw [hpinL]; simp only; rw [if_pos h1, h2]
  have hL : SatR FL ρ ⟨sl, (kb, ⟨Tb, 1, .mix [.p (.a v0)]⟩) :: H 0⟩ ⟨a.tmps, []⟩ W1 := by
    rw [hFL]
    refine rebase h0 (fun b hne _ => hold1 b (by cases e : hp w b with | none => exact absurd e hne | some o => exact World.size_lt e)) rfl rfl fun j b m hj hSj => ?_
    obtain ⟨B, hB⟩ := Option.ne_none_iff_exists'.1 hSj
    obtain ⟨c, g1, _⟩ := h0.blks j B hB
    rw [hpinL] at hj
    simp only at hj
    split at hj
    · rw [g1] at hj; injection hj with hj; injection hj with h3 h4; subst h3 h4; exact ⟨rfl, c, B.T, g1, rfl⟩
    · cases hj
  have hblkL : ∀ {k : Nat} {z : PV} {j : Nat}, St.blk ⟨sl, (kb, ⟨Tb, 1, .mix [z]⟩) :: H k⟩ kb = some ⟨Tb, 1, .mix [z]⟩ := fun {k z j} => by simp [St.blk]
  have hpinb : FL.pin kb = some (bx, N) := by rw [hFL, hbx, hN]; exact hpk1 kb _ c0 hkb hpk (by rw [← hbx]; exact hb1)
  have hw0 : FL.w0 = W1 := by rw [hFL]; rfl
  have hX : ∀ b, FL.X b → F.X b ∨ F.w0.heap.size ≤ b := fun b hb => by
    rw [hFL] at hb
    rcases hb with ⟨k, hk, e⟩ | hb
    · obtain ⟨B, hB⟩ := Option.ne_none_iff_exists'.1 hk
      obtain ⟨_, _, g2, _⟩ := h0.blks k B hB
      rw [e]; exact g2
    · exact hb.elim
  have hXlt : ∀ b, FL.X b → b < w.heap.size := fun b hb => by
    rw [hFL] at hb
    rcases hb with ⟨k, hk, e⟩ | hb
    · obtain ⟨B, hB⟩ := Option.ne_none_iff_exists'.1 hk
      obtain ⟨_, g1, _⟩ := h0.blks k B hB
      rw [e]; exact World.size_lt g1
    · exact hb.elim
  have hfsz := h.frame.size
  have hLike : ∀ W0 : World, W0.heap.size = W1.heap.size → (∀ b, b ≠ w.heap.size + 1 → W0.heap[b]? = W1.heap[b]?) → Like F { FL with w0 := W0 } pn := fun W0 hs hb => by
    refine ⟨by rw [hFL]; rfl, fun k hk => by rw [hFL]; show pinL k = none; rw [hpinL]; simp [hk], hX, by show _ ≤ W0.heap.size; omega, fun b hlt' hx => ?_⟩
    show W0.heap[b]? = _
    rw [hb b (by omega), hold1 b (by omega)]; exact h.frame.block b hlt' hx
  have hFLs : ({ FL with w0 := W1 } : Fr) = FL := by rw [← hw0]
  obtain ⟨J, hJ⟩ : ∃ J : Nat → World → Prop, J = fun k W => ∃ ρ', SatR FL ρ' ⟨sl, (kb, ⟨Tb, 1, .mix [.dead]⟩) :: H k⟩ ⟨a.tmps, []⟩ W := ⟨_, rfl⟩
  have hloop : ∀ {ρ' S' a' W}, SatR FL ρ' S' a' W → W.heap[w.heap.size + 1]? = some (.loop (mkL fid a.tmps p1 p2 as bd w.heap.size .ready none)) ∧ W.heap[w.heap.size]? = some (.deferred (some [])) := fun {ρ' S' a' W} hs => by
    have hfr := hs.frame
    refine ⟨(hfr.block _ (by rw [hw0]; omega) (fun hx => by have := hXlt _ hx; omega)).trans (by rw [hw0]; exact hl1), (hfr.block _ (by rw [hw0]; omega) (fun hx => by have := hXlt _ hx; omega)).trans (by rw [hw0]; exact hD1)⟩
  have hpinρ : ∀ {ρ' z k a' W}, SatR FL ρ' ⟨sl, (kb, ⟨Tb, 1, .mix [z]⟩) :: H k⟩ a' W → ρ' kb = bx ∧ ∃ c, hp W bx = some (.cells c Tb (0, 0)) ∧ c.size = N := fun {ρ' z k a' W} hs => by
    obtain ⟨e, c, T, g1, g2⟩ := hs.pin kb bx N hpinb (by simp [St.blk])
    obtain ⟨c', g3, _⟩ := hs.blks kb ⟨Tb, 1, .mix [z]⟩ (by simp [St.blk])
    rw [e, g1] at g3
    injection g3 with g3; injection g3 with g4 g5
    subst g5
    exact ⟨e, c, g1, g2⟩
  have hstab : ∀ k W2 W3, J k W2 → Chg bx Tb N W2 W3 → J k W3 := fun k W2 W3 hj hc => by
    rw [hJ] at hj ⊢
    obtain ⟨ρ', hs⟩ := hj
    obtain ⟨e, c, g1, g2⟩ := hpinρ hs
    have hex : ∀ b, b < W1.heap.size → ¬ FL.X b → W2.heap[b]? ≠ none := fun b hb hx => by
      rw [hs.frame.block b (by rw [hw0]; exact hb) hx, hw0]; simp; omega
    have hXbx : FL.X bx := by rw [hFL, hbx]; exact .inl ⟨kb, by simp [St.blk], rfl⟩
    refine ⟨ρ', hs.other ⟨hc.os.trans hs.frame.os, hc.tape.trans hs.frame.tape, hc.output.trans hs.frame.output, Nat.le_trans hs.frame.size hc.size, fun b hb hx => ?_⟩ (fun b hb hne => ?_) (fun k' B hB => ?_)⟩
    · rw [hw0] at hb
      have hne : b ≠ bx := fun e => hx (by rw [e]; exact hXbx)
      exact (hc.block b hne (hex b hb hx)).trans (hs.frame.block b (by rw [hw0]; exact hb) hx)
    · exact hc.block b (fun e' => hb.2 kb (by simp [St.blk]) (by rw [e, e'])) hne
    · by_cases ek : k' = kb
      · subst ek
        have : B = ⟨Tb, 1, .mix [.dead]⟩ := by simpa [St.blk] using hB.symm
        subst this
        refine .inr ⟨rfl, fun c2 T2 fr2 h2 => ?_⟩
        rw [e, g1] at h2
        injection h2 with h2; injection h2 with h3 h4 h5; subst h3 h4 h5
        obtain ⟨c', q1, q2, q3⟩ := hc.box
        rw [e]
        exact ⟨c', q1, by omega, q3⟩
      · refine .inl (hc.block _ (fun e' => ek (hs.inj k' kb (by rw [hB]; simp) (by simp [St.blk]) (by rw [e, e']))) ?_)
        obtain ⟨c2, q1, _⟩ := hs.blks k' B hB
        show hp W2 (ρ' k') ≠ none
        rw [q1]; simp
  have hyield : ∀ k b, all[k]? = some b → YieldOk P (w.heap.size + 1) bx N W1 Tb #[(enc b).1, (enc b).2] (J k) (J (k + 1)) := fun k b hab => by
    intro m W c v hj hcb hcN hc0
    rw [hJ] at hj
    obtain ⟨ρ', hs⟩ := hj
    obtain ⟨e, c', g1, g2⟩ := hpinρ hs
    obtain ⟨hlW, hDW⟩ := hloop hs
    have hsv : SatR FL ρ' ⟨sl, (kb, ⟨Tb, 1, .mix [.p (.a v)]⟩) :: H k⟩ ⟨a.tmps, []⟩ W := hs.swap fun c2 u ok β h2 h3 => by
      rw [e] at h2
      have : hp W bx = some (.cells c Tb (0, 0)) := hcb
      rw [this] at h2; injection h2 with h2; injection h2 with h2; subst h2
      rw [hc0] at h3; injection h3 with h3; subst h3
      simp only [RelV, Rel]
    have hnt : FL.nt = F.nt := by rw [hFL]; rfl
    have hr1 := satR_put hsv (d := p1) (v := .p (.a (enc b).1)) (u := (enc b).1) (by rw [hnt]; exact hlt.1) (by simp only [RelV, Rel])
    have hr2 := satR_put hr1 (d := p2) (v := .p (.a (enc b).2)) (u := (enc b).2) (by rw [hnt]; exact hlt.2) (by simp only [RelV, Rel])
    have hdfL : FL.df = [] := by rw [hFL]; rfl
    obtain ⟨S1, has, hbd⟩ := hround FL k b v hab (by rw [← hFLs]; exact hLike W1 rfl (fun _ _ => rfl)) hdfL
    have hyr : (Instr.yield (w.heap.size + 1) #[(enc b).1, (enc b).2]).run P W = .ok (.round (w.heap.size + 1) fid ((a.tmps.setIfInBounds p1 (enc b).1).setIfInBounds p2 (enc b).2) as bd) W := by
      have := run_yield (P := P) (args := #[(enc b).1, (enc b).2]) hlW (by rfl)
      simpa [mkL] using this
    refine ⟨fid, _, as, bd, hyr, roundIn_of_wpIn trivial ?_⟩
    have hfenL : fen FL = Fence.wide.inRound (w.heap.size + 1) := by rw [hFL]; rfl
    have hA := has.run m _ W ⟨ρ', hr2⟩
    rw [hfenL] at hA
    refine wpIn_mono hA fun ex a1 w1 hq => ?_
    obtain ⟨S', ⟨he, hle1⟩, ρ1, hs1⟩ := hq.resolve_right (fun h => by rw [hFL] at h; exact h.2)
    subst he
    obtain ⟨hl2, _⟩ := hloop hs1
    obtain ⟨W0b, hW0b⟩ : ∃ W0b, W0b = W1.putObj (w.heap.size + 1) (.loop (mkL fid a.tmps p1 p2 as bd w.heap.size .busy none)) := ⟨_, rfl⟩
    obtain ⟨w2, hw2⟩ : ∃ w2, w2 = w1.putObj (w.heap.size + 1) (.loop (mkL fid a.tmps p1 p2 as bd w.heap.size .busy none)) := ⟨_, rfl⟩
    have hbeg : (Instr.beginRound (w.heap.size + 1)).run P w1 = .ok () w2 := by
      rw [hw2]; exact run_beginRound hl2 rfl
    have hsz0b : W0b.heap.size = W1.heap.size := by rw [hW0b]; simp
    have hother0 : ∀ b, b ≠ w.heap.size + 1 → W0b.heap[b]? = W1.heap[b]? := fun b hb => by rw [hW0b]; exact World.putObj_heap_other hb
    have hother2 : ∀ b, b ≠ w.heap.size + 1 → w2.heap[b]? = w1.heap[b]? := fun b hb => by rw [hw2]; exact World.putObj_heap_other hb
    have hlok : ∀ {S'' ρ''}, okI FL S'' ρ'' (w.heap.size + 1) → False := fun {S'' ρ''} hk => by
      rw [hFL] at hk
      rcases hk.1 with hk | hk
      · have := hk.2; omega
      · have : W1.heap.size ≤ w.heap.size + 1 := hk
        omega
    have hlown : ∀ {S'' a'' w'' ρ''} (hs'' : SatR FL ρ'' S'' a'' w'') (hl : w''.heap[w.heap.size + 1]? = some (.loop (mkL fid a.tmps p1 p2 as bd w.heap.size .ready none))) k B, S''.blk k = some B → ρ'' k ≠ w.heap.size + 1 := fun {S'' a'' w'' ρ''} hs'' hl k B hB e2 => by
      obtain ⟨c2, q1, _⟩ := hs''.blks k B hB
      rw [e2] at q1
      have : hp w'' (w.heap.size + 1) = some (.loop (mkL fid a.tmps p1 p2 as bd w.heap.size .ready none)) := hl
      rw [this] at q1; cases q1
    have hs2 : SatR { FL with w0 := W0b } ρ1 S1 a1 w2 := (hs1.weak hle1).reW (by rw [hsz0b, hw0]) ⟨by rw [hw2, hW0b]; exact hs1.frame.os.trans (by rw [hw0]; rfl), by rw [hw2, hW0b]; exact hs1.frame.tape.trans (by rw [hw0]; rfl), by rw [hw2, hW0b]; exact hs1.frame.output.trans (by rw [hw0]; rfl), by show W0b.heap.size ≤ _; rw [hsz0b, hw2]; have := hs1.frame.size; rw [hw0] at this; simpa using this, fun b hb hx => by
        show w2.heap[b]? = W0b.heap[b]?
        by_cases eb : b = w.heap.size + 1
        · subst eb; rw [hw2, hW0b, World.putObj_heap_same (World.size_lt hl2), World.putObj_heap_same (by omega)]
        · rw [hother2 b eb, hother0 b eb]
          have hb' : b < W0b.heap.size := hb
          have := hs1.frame.block b (by rw [hw0]; omega) hx
          rw [hw0] at this; exact this⟩
      (fun b hb hne => hother2 b (fun e2 => hlok (by rw [← e2]; exact hb))) (fun k' B hB => hother2 _ (hlown (hs1.weak hle1) hl2 k' B hB))
    refine ⟨w2, hbeg, ?_⟩
    have hB := (hbd { FL with w0 := W0b } (hLike W0b hsz0b hother0) hdfL).run m a1 w2 ⟨ρ1, hs2⟩
    have hfenB : fen { FL with w0 := W0b } = Fence.wide.inRound (w.heap.size + 1) := by rw [hFL]; rfl
    rw [hfenB] at hB
    refine wpIn_mono hB fun ex a3 w3 hq => ?_
    obtain ⟨S3, ⟨he, hle3⟩, ρ3, hs3⟩ := hq.resolve_right (fun h => by rw [hFL] at h; exact h.2)
    subst he
    have hs3' := hs3.weak hle3
    have hl3 : w3.heap[w.heap.size + 1]? = some (.loop (mkL fid a.tmps p1 p2 as bd w.heap.size .busy none)) :=
      (hs3.frame.block _ (by show _ < W0b.heap.size; omega) (fun hx => by have := hXlt _ hx; omega)).trans (by show W0b.heap[_]? = _; rw [hW0b, World.putObj_heap_same (by omega)])
    obtain ⟨w4, hw4⟩ : ∃ w4, w4 = w3.putObj (w.heap.size + 1) (.loop (mkL fid a.tmps p1 p2 as bd w.heap.size .ready none)) := ⟨_, rfl⟩
    have hend : (Instr.endRound (w.heap.size + 1) none).run P w3 = .ok (.bool true) w4 := by
      rw [hw4]; exact run_endRound none hl3
    have hother4 : ∀ b, b ≠ w.heap.size + 1 → w4.heap[b]? = w3.heap[b]? := fun b hb => by rw [hw4]; exact World.putObj_heap_other hb
    have hl3own : ∀ k B, St.blk ⟨sl, (kb, ⟨Tb, 1, .mix [.p (.a v)]⟩) :: H (k + 1)⟩ k = some B → True := fun _ _ _ => trivial
    have hown3 : ∀ k' B, St.blk ⟨sl, (kb, ⟨Tb, 1, .mix [.p (.a v)]⟩) :: H (k + 1)⟩ k' = some B → ρ3 k' ≠ w.heap.size + 1 := fun k' B hB' e2 => by
      obtain ⟨c2, q1, _⟩ := hs3'.blks k' B hB'
      rw [e2] at q1
      have : hp w3 (w.heap.size + 1) = some (.loop (mkL fid a.tmps p1 p2 as bd w.heap.size .busy none)) := hl3
      rw [this] at q1; cases q1
    have hfr4 : Frame { ({ FL with w0 := W0b } : Fr) with w0 := W1 } w4 := ⟨by rw [hw4]; exact hs3.frame.os.trans (by show W0b.os = _; rw [hW0b]; rfl), by rw [hw4]; exact hs3.frame.tape.trans (by show W0b.tape = _; rw [hW0b]; rfl), by rw [hw4]; exact hs3.frame.output.trans (by show W0b.output = _; rw [hW0b]; rfl), by show W1.heap.size ≤ _; rw [hw4]; have := hs3.frame.size; have e5 : ({ FL with w0 := W0b } : Fr).w0.heap.size = W0b.heap.size := rfl; rw [e5] at this; simp; omega, fun b hb hx => by
        show w4.heap[b]? = W1.heap[b]?
        by_cases eb : b = w.heap.size + 1
        · subst eb; rw [hw4, World.putObj_heap_same (World.size_lt hl3), hl1]
        · rw [hother4 b eb, ← hother0 b eb]
          have hb' : b < W1.heap.size := hb
          exact hs3.frame.block b (by show _ < W0b.heap.size; omega) hx⟩
    have hs4 : SatR { ({ FL with w0 := W0b } : Fr) with w0 := W1 } ρ3 ⟨sl, (kb, ⟨Tb, 1, .mix [.p (.a v)]⟩) :: H (k + 1)⟩ a3 w4 := hs3'.reW (by show W1.heap.size = W0b.heap.size; omega) hfr4
      (fun b hb hne => hother4 b (fun e2 => by
        subst e2
        refine hlok (S'' := St.blk ⟨sl, (kb, ⟨Tb, 1, .mix [.p (.a v)]⟩) :: H (k + 1)⟩) (ρ'' := ρ3) ⟨?_, hb.2⟩
        rcases hb.1 with hb1 | hb1
        · exact .inl hb1
        · exact .inr (by rw [hw0]; have : W0b.heap.size ≤ w.heap.size + 1 := hb1; omega))) (fun k' B hB' => hother4 _ (hown3 k' B hB'))
    have hFe : ({ ({ FL with w0 := W0b } : Fr) with w0 := W1 } : Fr) = FL := hFLs
    rw [hFe] at hs4 hfr4
    have hpin4 : ∀ k', pn k' = true → (((kb, ⟨Tb, 1, .mix [.p (.a v)]⟩) :: H k).lookup k' : Option Blk) ≠ none → (((kb, ⟨Tb, 1, .mix [.p (.a v)]⟩) :: H (k + 1)).lookup k' : Option Blk) ≠ none → ρ3 k' = ρ' k' := fun k' hp' hk1 hk2 => by
      cases hpj : FL.pin k' with
      | some p =>
        obtain ⟨b', n'⟩ := p
        rw [(hs4.pin k' b' n' hpj hk2).1, (hsv.pin k' b' n' hpj hk1).1]
      | none =>
        exfalso
        have h0k : St.blk ⟨sl, (kb, ⟨Tb, 1, .mix [.p (.a v0)]⟩) :: H 0⟩ k' ≠ none := by
          simp only [St.blk, List.lookup_cons] at hk1 ⊢
          by_cases e8 : k' = kb
          · subst e8; simp
          · rw [show (k' == kb) = false by simpa using e8] at hk1 ⊢
            exact hpns k' k hp' hk1
        obtain ⟨B, hB'⟩ := Option.ne_none_iff_exists'.1 h0k
        obtain ⟨c8, q8, _⟩ := h0.blks k' B hB'
        rw [hFL] at hpj
        have : pinL k' = none := hpj
        rw [hpinL] at this
        simp only at this
        rw [if_pos hp', q8] at this
        cases this
    have hs5 : SatR FL ρ3 ⟨sl, (kb, ⟨Tb, 1, .mix [.p (.a v)]⟩) :: H (k + 1)⟩ ⟨a.tmps, []⟩ w4 := hs4.turn hsv (fun p hp' => ⟨hfast k _ p hp', hfast (k + 1) _ p hp'⟩) hpin4 hs4.frame (fun _ _ _ => rfl) (fun _ _ _ => .inl rfl)
    obtain ⟨e6, c6, g6, g7⟩ := hpinρ hs5
    obtain ⟨c7, q1, q2, q3, q4⟩ := hs5.blks kb ⟨Tb, 1, .mix [.p (.a v)]⟩ (by simp [St.blk])
    rw [e6, g6] at q1; injection q1 with q1; injection q1 with q1; subst q1
    obtain ⟨u6, hu6, _, hr6⟩ := q4 0 _ rfl
    simp only [RelV, Rel] at hr6
    subst hr6
    refine ⟨_, _, hend, rfl, ?_, hs5.frame.os.trans hs.frame.os.symm, hs5.frame.tape.trans hs.frame.tape.symm, hs5.frame.output.trans hs.frame.output.symm, by have := hs5.frame.size; rw [hw0] at this; exact this, c6, g6, g7, hu6⟩
    rw [hJ]
    exact ⟨ρ3, hs5.swap fun c2 u ok β _ _ => by simp [RelV]⟩
  have hJ0 : J 0 W1 := by rw [hJ]; exact ⟨ρ, hL.swap fun c2 u ok β _ _ => by simp [RelV]⟩
  refine ⟨w.heap.size + 1, [{ target := .collected w.heap.size, args := #[] }], W1, { target := .fn (.func gf) #[.pointer (some ⟨bx, 0, none⟩)], args := #[.func (.yield (w.heap.size + 1)) #[] #[]] }, W1, gf, #[.func (.yield (w.heap.size + 1)) #[] #[]] ++ #[.pointer (some ⟨bx, 0, none⟩)], W1, ?_, ?_, fun _ _ => trivial, ?_, fun hh => absurd hh (by simp [Fence.wide]), ?_⟩
  · show (Instr.enterLoop fid a.tmps #[p1, p2] as bd F.ro).run P w = _
    rw [hro, hW1]; exact run_enterLoop_outer _ _ _ _ _
  · simp only [resolve, rangeCall, htgv]; simp [Deferred.ofValue, Act.eval]
  · simp [invoke, eg]
  · refine callsIn_wide.2 (Calls.mono (hiter (w.heap.size + 1) bx N c0 J W1 hstab hyield hJ0 ((hold1 bx hbxlt).trans hb1) hN.symm hu0 hone) ?_)
    rintro e W2 ⟨⟨v, rfl⟩, hj, hbox⟩
    rw [hJ] at hj
    obtain ⟨ρ2, hs2⟩ := hj
    obtain ⟨hl2, hD2⟩ := hloop hs2
    obtain ⟨W4, hW4⟩ : ∃ W4, W4 = W2.putObj (w.heap.size + 1) (.loop (mkL fid a.tmps p1 p2 as bd w.heap.size .exhausted none)) := ⟨_, rfl⟩
    have hend : (Instr.endLoop (w.heap.size + 1)).run P W2 = .ok none W4 := by
      rw [hW4]; exact run_endLoop hl2 (by simp [mkL])
    refine ⟨none, W4, hend, ?_⟩
    have hother : ∀ b, b ≠ w.heap.size + 1 → W4.heap[b]? = W2.heap[b]? := fun b hb => by rw [hW4]; exact World.putObj_heap_other hb
    have hszW4 : W4.heap.size = W2.heap.size := by rw [hW4]; simp
    have hsz2 := hs2.frame.size
    rw [hw0] at hsz2
    have hown2 : ∀ k B, St.blk ⟨sl, (kb, ⟨Tb, 1, .mix [.dead]⟩) :: H all.length⟩ k = some B → ρ2 k ≠ w.heap.size + 1 ∧ ρ2 k ≠ w.heap.size := fun k B hB => by
      obtain ⟨c2, q1, _⟩ := hs2.blks k B hB
      refine ⟨fun e2 => ?_, fun e2 => ?_⟩
      · rw [e2] at q1
        have : hp W2 (w.heap.size + 1) = some (.loop (mkL fid a.tmps p1 p2 as bd w.heap.size .ready none)) := hl2
        rw [this] at q1; cases q1
      · rw [e2] at q1
        have : hp W2 w.heap.size = some (.deferred (some [])) := hD2
        rw [this] at q1; cases q1
    obtain ⟨F2, hF2⟩ : ∃ F2, F2 = { reF FL (St.blk ⟨sl, (kb, ⟨Tb, 1, .mix [.dead]⟩) :: H all.length⟩) ρ2 W2 W4 [{ target := .collected w.heap.size, args := #[] }] (fun _ => none) none (fun _ => False) (fun _ _ => False) with okA := fun b => (okI FL (St.blk ⟨sl, (kb, ⟨Tb, 1, .mix [.dead]⟩) :: H all.length⟩) ρ2 b ∧ b < W2.heap.size) ∨ ((∃ k, St.blk ⟨sl, (kb, ⟨Tb, 1, .mix [.dead]⟩) :: H all.length⟩ k ≠ none ∧ b = ρ2 k) ∨ False) } := ⟨_, rfl⟩
    have hlok2 : okI FL (St.blk ⟨sl, (kb, ⟨Tb, 1, .mix [.dead]⟩) :: H all.length⟩) ρ2 (w.heap.size + 1) → False := fun hk => by
      rw [hFL] at hk
      rcases hk.1 with hk | hk
      · have := hk.2; omega
      · have : W1.heap.size ≤ w.heap.size + 1 := hk
        omega
    have hsF : SatR F2 ρ2 ⟨sl, (kb, ⟨Tb, 1, .mix [.dead]⟩) :: H all.length⟩ { a with defers := [{ target := .collected w.heap.size, args := #[] }] ++ a.defers } W4 := by
      rw [hF2]
      refine SatR.okM ?_ (fun b hb => .inl hb)
      refine rebase hs2 (fun b hne hb => hother b fun e2 => ?_) rfl (by rw [had]; rfl) (fun j b n hj => by cases hj)
      subst e2
      rcases hb with hb | ⟨k, hk, e3⟩
      · exact hlok2 hb
      · obtain ⟨B, hB⟩ := Option.ne_none_iff_exists'.1 hk
        exact (hown2 k B hB).1 e3.symm
    have hX2 : ∀ b, F2.X b → FL.X b ∨ W1.heap.size ≤ b := fun b hb => by
      rw [hF2] at hb
      rcases hb with ⟨k, hk, e⟩ | hb
      · obtain ⟨B, hB⟩ := Option.ne_none_iff_exists'.1 hk
        obtain ⟨_, _, g2, _⟩ := hs2.blks k B hB
        rw [hw0] at g2
        rw [e]; exact g2
      · exact hb.elim
    have hblk4 : ∀ b, b < F.w0.heap.size → ¬ F.X b → W4.heap[b]? = F.w0.heap[b]? := fun b hb hx => by
      rw [hother b (by omega), hs2.frame.block b (by rw [hw0]; omega) (fun hh => by rcases hX b hh with h9 | h9; exact hx h9; omega), hw0, hold1 b (by omega)]
      exact h.frame.block b hb hx
    have hLike2 : Like F F2 pn := ⟨by rw [hF2, hFL]; rfl, fun k _ => by rw [hF2]; rfl, fun b hb => by
        rcases hX2 b hb with h9 | h9
        · exact hX b h9
        · exact .inr (by omega), by rw [hF2]; show _ ≤ W4.heap.size; omega, fun b hb hx => by rw [hF2]; exact hblk4 b hb hx⟩
    have hown3 : ∀ b, (∃ k, St.blk ⟨sl, (kb, ⟨Tb, 1, .mix [.dead]⟩) :: H all.length⟩ k ≠ none ∧ b = ρ2 k) → F.w0.heap.size ≤ b ∧ b ≠ w.heap.size := fun b ⟨k, hk, e⟩ => by
      obtain ⟨B, hB⟩ := Option.ne_none_iff_exists'.1 hk
      obtain ⟨_, _, g2, _⟩ := hs2.blks k B hB
      rw [hw0] at g2
      refine ⟨?_, by rw [e]; exact (hown2 k B hB).2⟩
      rcases g2 with g2 | g2
      · rcases hX _ g2 with h9 | h9
        · exact absurd h9 (hX0 _)
        · omega
      · omega
    have hT := (htail F2 (by rw [hF2]; rfl) hLike2 (fun b hb => by rw [hF2] at hb ⊢; exact .inr hb) (fun k => by rw [hF2]; rfl)).run n _ W4 ⟨ρ2, hsF⟩
    have hfen2 : fen F2 = fen F := by rw [hF2]; show ({ Fence.wide with round := none } : Fence) = { Fence.wide with round := F.ro }; rw [hro]
    rw [hfen2] at hT
    show Code.wpIn (fen F) n P y _ _ W4
    refine wpIn_mono hT fun ex a5 w5 hq => ?_
    obtain ⟨S5, ⟨he, hres⟩, ρ5, hs5⟩ := hq.resolve_right (fun h => by rw [hF2] at h; exact h.2)
    subst he
    refine .inr ⟨rfl, ?_⟩
    have hfr5 := hs5.frame
    have hF2w : F2.w0 = W4 := by rw [hF2]; rfl
    have hD4 : W4.heap[w.heap.size]? = some (.deferred (some [])) := by rw [hother _ (by omega)]; exact hD2
    have hD5 : w5.heap[w.heap.size]? = some (.deferred (some [])) := by
      rw [hfr5.block w.heap.size (by rw [hF2w]; omega) (fun hh => by
        rw [hF2] at hh
        rcases hh with ⟨k, hk, e⟩ | hh
        · obtain ⟨B, hB⟩ := Option.ne_none_iff_exists'.1 hk
          exact (hown2 k B hB).2 e.symm
        · exact hh), hF2w]
      exact hD4
    have hnotD : ∀ β ρ', okI F2 β ρ' w.heap.size → False := fun β ρ' hb => by
      rw [hF2] at hb
      rcases hb.1 with (⟨hb1, _⟩ | hb1) | hb1
      · rw [hFL] at hb1
        rcases hb1.1 with ⟨_, hb2⟩ | hb2
        · omega
        · have : W1.heap.size ≤ w.heap.size := hb2
          omega
      · rcases hb1 with hb1 | hb1
        · exact (hown3 _ hb1).2 rfl
        · exact hb1
      · have : W4.heap.size ≤ w.heap.size := hb1
        omega
    have hsN : SatR (reF F2 S5.blk ρ5 w5 (w5.putObj w.heap.size (.deferred none)) a5.defers (fun _ => none) none (fun _ => False) (fun _ _ => False)) ρ5 S5 a5 (w5.putObj w.heap.size (.deferred none)) :=
      rebase hs5 (fun b hne hb => World.putObj_heap_other fun e2 => by
        subst e2
        rcases hb with hb | ⟨k, hk, e3⟩
        · exact hnotD _ _ hb
        · obtain ⟨B, hB⟩ := Option.ne_none_iff_exists'.1 hk
          obtain ⟨c9, q9, _⟩ := hs5.blks k B hB
          rw [← e3] at q9
          have : hp w5 w.heap.size = some (.deferred (some [])) := hD5
          rw [this] at q9; cases q9) rfl rfl (fun j b n hj => by cases hj)
    obtain ⟨v5, hv5, hrel5⟩ := results_run hsN hfn hres
    have hok5 : ∀ b, okI (reF F2 S5.blk ρ5 w5 (w5.putObj w.heap.size (.deferred none)) a5.defers (fun _ => none) none (fun _ => False) (fun _ _ => False)) S5.blk ρ5 b → F.okA b ∨ F.w0.heap.size ≤ b := fun b hb => by
      rcases hb.1 with ⟨hb0, _⟩ | hb0
      · rw [hF2] at hb0
        rcases hb0.1 with (⟨hb1, _⟩ | hb1) | hb1
        · rw [hFL] at hb1
          rcases hb1.1 with ⟨hb2, _⟩ | hb2
          · exact hb2.1
          · have : W1.heap.size ≤ b := hb2
            exact .inr (by omega)
        · rcases hb1 with hb1 | hb1
          · exact .inr (hown3 _ hb1).1
          · exact hb1.elim
        · have : W4.heap.size ≤ b := hb1
          exact .inr (by omega)
      · have : (w5.putObj w.heap.size (.deferred none)).heap.size ≤ b := hb0
        have h9 := hfr5.size
        rw [hF2w] at h9
        simp at this
        exact .inr (by omega)
    refine hesc a5 w5 v5 w.heap.size (by rw [hs5.df, hF2]; rfl) hD5 hv5 (Rel.mono (fun b hb _ => ⟨hok5 b hb, rfl⟩) _ _ hrel5) ⟨?_, ?_, ?_, ?_, fun b hb hx => ?_⟩
    · show w5.os = _
      rw [hfr5.os, hF2w, hW4]; exact (hs2.frame.os.trans (by rw [hw0]; exact hos1.1)).trans h.frame.os
    · show w5.tape = _
      rw [hfr5.tape, hF2w, hW4]; exact (hs2.frame.tape.trans (by rw [hw0]; exact hos1.2.1)).trans h.frame.tape
    · show w5.output = _
      rw [hfr5.output, hF2w, hW4]; exact (hs2.frame.output.trans (by rw [hw0]; exact hos1.2.2)).trans h.frame.output
    · have := hfr5.size; rw [hF2w] at this; simp; omega
    · rw [World.putObj_heap_other (by omega), hfr5.block b (by rw [hF2w]; omega) (fun hh => by
        rcases hLike2.X b hh with h9 | h9
        · exact hx h9
        · omega), hF2w]
      exact hblk4 b hb hx
/-- A function that may leave with the mark of a range over a function. -/
theorem says_of_esc {E : Env} {f : FuncId} {fn : Func} {c : Code} {args xs : List Pure} {rs : List ResultVar} {n : Nat} (hf : E.P.funcs[f]? = some fn) (hb : fn.body = some c) (hn : fn.ntmps = n) (hr : fn.results = rs.toArray) (hle : args.length ≤ n)
    (h : ∀ F : Fr, E.G F.w0 → (∀ b, ¬ F.X b) → F.nt = n → F.df = [] → (∀ k, Nat.blt k 1000 = true → F.pin k = none) → F.ro = none → (∀ a w v D, a.defers = [{ target := .collected D, args := #[] }] → w.heap[D]? = some (.deferred (some [])) → (results fn a.tmps).run E.P (w.putObj D (.deferred none)) = .ok v (w.putObj D (.deferred none)) → Rel (fun b => F.okA b ∨ F.w0.heap.size ≤ b) (hp (w.putObj D (.deferred none))) (resOf xs) v → Frame F (w.putObj D (.deferred none)) → F.esc a w) →
      Exec E.P F c ⟨argSlots 0 args, []⟩ (fun e S => (e = .normal ∨ e = .ret) ∧ ResVs E.P S rs xs)) : Says E f args (resOf xs) := by
  intro ok w vals hG hrel
  have hvl := hrel.length
  let F : Fr := ⟨w, ok, fun _ => False, n, [], fun _ => none, none, fun a w' => ∃ D v, a.defers = [{ target := .collected D, args := #[] }] ∧ w'.heap[D]? = some (.deferred (some [])) ∧ (results fn a.tmps).run E.P (w'.putObj D (.deferred none)) = .ok v (w'.putObj D (.deferred none)) ∧ Rel (fun b => ok b ∨ w.heap.size ≤ b) (hp (w'.putObj D (.deferred none))) (resOf xs) v ∧ Below w.heap.size w (w'.putObj D (.deferred none))⟩
  have hS : Sat F ⟨argSlots 0 args, []⟩ { tmps := vals.toArray ++ Array.replicate (fn.ntmps - vals.toArray.size) undef, defers := [] } w := by
    refine ⟨fun _ => 0, ⟨fun t v ht => ?_, fun k B hB => by simp [St.blk] at hB, fun k k' hk => by simp [St.blk] at hk, ⟨rfl, rfl, rfl, Nat.le_refl _, fun _ _ _ => rfl⟩, ?_, rfl, fun j b n hj => by cases hj⟩⟩
    · obtain ⟨j, x, rfl, hx, rfl⟩ := argSlots_get ht
      obtain ⟨u, hu, hru⟩ := hrel.get hx
      refine ⟨u, ?_, ?_⟩
      · rw [Nat.zero_add, Array.getElem?_append_left (by have := (List.getElem?_eq_some_iff.1 hu).1; simpa using this)]
        simpa using hu
      · simp only [RelV]
        exact Rel.mono (fun b hb _ => ⟨⟨.inl hb, fun k hk => by simp [St.blk] at hk⟩, rfl⟩) _ _ hru
    · simp [F, hn]; omega
  refine callsIn_wide.1 (callsIn_of_wp_marks (n := 0) hf hb trivial (wpIn_mono ((h F hG (fun _ h => h) rfl rfl (fun _ _ => rfl) rfl (fun a w' v D h1 h2 h3 h4 h5 => ⟨D, v, h1, h2, h3, h4, ⟨h5.os, h5.tape, h5.output, h5.size, fun b hb => h5.block b hb (fun h => h)⟩⟩)).run 0 _ w hS) fun e a' w' hq => ?_))
  rcases hq with ⟨S', ⟨he, hres⟩, ⟨ρ, hS'⟩⟩ | ⟨rfl, D, v, h1, h2, h3, h4, h5⟩
  · obtain ⟨v, hv, hrv⟩ := results_run hS' hr hres
    have hfin : ∃ v0, Ending.returned v = .returned v0 ∧ Rel (fun b => ok b ∨ w.heap.size ≤ b) (hp w') (resOf xs) v0 ∧ Below w.heap.size w w' :=
      ⟨v, rfl, Rel.mono (fun b hb _ => ⟨hb.1, rfl⟩) _ _ hrv, ⟨hS'.frame.os, hS'.frame.tape, hS'.frame.output, hS'.frame.size, fun k hk => hS'.frame.block k hk (fun h => h)⟩⟩
    have hl : LeavesInM Fence.wide 0 E.P fn a'.tmps (fun e w' => ∃ v, e = .returned v ∧ Rel (fun b => ok b ∨ w.heap.size ≤ b) (hp w') (resOf xs) v ∧ Below w.heap.size w w') a'.defers .returning w' := by
      rw [show a'.defers = [] from hS'.df]
      exact ⟨v, hv, hfin⟩
    rcases he with rfl | rfl <;> exact hl
  · show LeavesInM Fence.wide 0 E.P fn a'.tmps _ a'.defers .returning w'
    rw [h1]
    exact ⟨by simp, .inl ⟨D, _, rfl, run_takeDeferred h2, ⟨v, h3, v, rfl, h4, h5⟩⟩⟩
end Go.Proofs.YtebkelnibecmjaaDoor.SH
namespace Go.Proofs.YtebkelnibecmjaaDoor.SH
open Go Go.RowKit
/-- The function answers a closure that has captured one new box. -/
def SaysC (E : Env) (f : FuncId) (args : List Pure) (gf : FuncId) (T : TypeId) (x : Pure) : Prop :=
  ∀ (ok : Nat → Prop) (w : World) (vals : List Value), E.G w → RelL ok (hp w) args vals →
    Calls E.P f vals.toArray w fun e w' => ∃ (b : Nat) (c : Array Value), e = .returned (.func (.func gf) #[] #[.pointer (some ⟨b, 0, none⟩)]) ∧ w.heap.size ≤ b ∧ hp w' b = some (.cells c T (0, 0)) ∧ 1 ≤ c.size ∧
      (∀ (i : Nat) (y : PV), (Cells.mix [.p x]).get i = some y → ∃ u : Value, c[i]? = some u ∧ u.oneCell' = true ∧ ∃ z, y = .p z ∧ Rel (fun a => (ok a ∨ w.heap.size ≤ a) ∧ a ≠ b) (hp w') z u) ∧ Below w.heap.size w w'

theorem saysC_of {E : Env} {f : FuncId} {fn : Func} {c : Code} {args : List Pure} {x : Pure} {t k gf m : Nat} {T : TypeId} (hf : E.P.funcs[f]? = some fn) (hb : fn.body = some c) (hn : fn.ntmps = m) (hr : fn.results = #[.tmp t]) (hle : args.length ≤ m)
    (h : ∀ F : Fr, E.G F.w0 → (∀ b, ¬ F.X b) → F.nt = m → F.df = [] → (∀ k, Nat.blt k 1000 = true → F.pin k = none) → Exec E.P F c ⟨argSlots 0 args, []⟩ (fun e S => (e = .normal ∨ e = .ret) ∧ S.slot t = some (.clo (.func gf) [] [.at_ k 0 1]) ∧ S.blk k = some ⟨T, 1, .mix [.p x]⟩)) : SaysC E f args gf T x := by
  intro ok w vals hG hrel
  have hvl := hrel.length
  let F : Fr := ⟨w, ok, fun _ => False, m, [], fun _ => none, none, fun _ _ => False⟩
  have hS : Sat F ⟨argSlots 0 args, []⟩ { tmps := vals.toArray ++ Array.replicate (fn.ntmps - vals.toArray.size) undef, defers := [] } w := by
    refine ⟨fun _ => 0, ⟨fun t v ht => ?_, fun k B hB => by simp [St.blk] at hB, fun k k' hk => by simp [St.blk] at hk, ⟨rfl, rfl, rfl, Nat.le_refl _, fun _ _ _ => rfl⟩, ?_, rfl, fun j b n hj => by cases hj⟩⟩
    · obtain ⟨j, x, rfl, hx, rfl⟩ := argSlots_get ht
      obtain ⟨u, hu, hru⟩ := hrel.get hx
      refine ⟨u, ?_, ?_⟩
      · rw [Nat.zero_add, Array.getElem?_append_left (by have := (List.getElem?_eq_some_iff.1 hu).1; simpa using this)]
        simpa using hu
      · simp only [RelV]
        exact Rel.mono (fun b hb _ => ⟨⟨.inl hb, fun k hk => by simp [St.blk] at hk⟩, rfl⟩) _ _ hru
    · simp [F, hn]; omega
  refine calls_of_wp hf hb (wp_mono (wpIn_wide.1 ((h F hG (fun _ h => h) rfl rfl (fun _ _ => rfl)).run 0 _ w hS)) fun e a' w' hq => ?_)
  obtain ⟨S', ⟨he, hs, hB⟩, ⟨ρ, hS'⟩⟩ := hq.resolve_right (fun h => h.2)
  obtain ⟨c', g1, g2, g3, g4⟩ := hS'.blks k _ hB
  have hbn : F.w0.heap.size ≤ ρ k := by
    rcases g2 with g2 | g2
    · exact g2.elim
    · exact g2
  obtain ⟨u0, hu0, hr0⟩ := hS'.slots t _ hs
  simp only [RelV, RelVL] at hr0
  obtain ⟨fs, cs, h3, rfl, v1, r1, rfl, h4, rfl⟩ := hr0
  rw [(h4 _ hB).2 rfl] at h3
  have hv : (results fn a'.tmps).run E.P w' = .ok (.func (.func gf) #[] #[.pointer (some ⟨ρ k, 0, none⟩)]) w' := by
    have e : results fn a'.tmps = (do let vs ← [ResultVar.tmp t].toArray.mapM (resRun a'.tmps); pure (if h : vs.size = 1 then vs[0] else .tuple vs)) := by
      unfold results
      rw [hr]
      rfl
    have hm : ([ResultVar.tmp t].toArray.mapM (resRun a'.tmps)).run E.P w' = .ok #[.func (.func gf) #[] #[.pointer (some ⟨ρ k, 0, none⟩)]] w' := by
      rw [List.mapM_toArray]
      simp [List.mapM_cons, resRun, Array.getD_eq_getD_getElem?, hu0, h3]
    rw [e]
    simp only [Sem.run_bind, hm, Result.andThen_ok, Sem.run_pure]
    rfl
  have hfin : ∃ (b : Nat) (c : Array Value), Ending.returned (.func (.func gf) #[] #[.pointer (some ⟨ρ k, 0, none⟩)]) = .returned (.func (.func gf) #[] #[.pointer (some ⟨b, 0, none⟩)]) ∧ w.heap.size ≤ b ∧ hp w' b = some (.cells c T (0, 0)) ∧ 1 ≤ c.size ∧
      (∀ (i : Nat) (y : PV), (Cells.mix [.p x]).get i = some y → ∃ u : Value, c[i]? = some u ∧ u.oneCell' = true ∧ ∃ z, y = .p z ∧ Rel (fun a => (ok a ∨ w.heap.size ≤ a) ∧ a ≠ b) (hp w') z u) ∧ Below w.heap.size w w' := by
    refine ⟨ρ k, c', rfl, hbn, g1, g3, fun i y hy => ?_, ⟨hS'.frame.os, hS'.frame.tape, hS'.frame.output, hS'.frame.size, fun k hk => hS'.frame.block k hk (fun h => h)⟩⟩
    obtain ⟨u, hu, ho, hru⟩ := g4 i y hy
    cases i with
    | zero =>
      obtain rfl : y = .p x := by simpa [Cells.get] using hy.symm
      simp only [RelV] at hru
      exact ⟨u, hu, ho, x, rfl, Rel.mono (fun b hb _ => ⟨⟨hb.1, hb.2 k (by simp [hB])⟩, rfl⟩) _ _ hru⟩
    | succ i => simp [Cells.get] at hy
  rcases he with rfl | rfl <;> exact ⟨hS'.df, _, hv, hfin⟩

/-- A call that answers such a closure. -/
theorem core_callC {E : Env} {F : Fr} (hG : E.G F.w0) (hX : ∀ b, F.X b → E.ng ≤ b) {d k : Nat} {f : FuncId} {os : List Operand} {xs : List Pure} {x : Pure} {gf : FuncId} {T' : TypeId} {ts : Array TypeId} {T : TypeId} {pos : String} {aft : Array Edge} {g : Option (Nat × Bool)}
    (hcall : ∀ args w, (callFunc f args).run E.P w = .ok (.enter f args) w) (hlen : os.length = xs.length) (hng : E.ng ≤ F.w0.heap.size) (hs : SaysC E f xs gf T' x) (hpk : F.pin k = none) (hlt : d < F.nt) :
    CoreOk E.P F ⟨some d, .call ⟨.value (.func f), os.toArray, ts⟩, T, pos, aft, g⟩ ⟨os.zip (xs.map .p), [], some k, [(d, .clo (.func gf) [] [.at_ k 0 1])], [(k, ⟨T', 1, .mix [.p x]⟩)]⟩ := by
  intro S a w ⟨ρ, h⟩ hA Q K hK
  obtain ⟨hk, hf⟩ := hA.fresh k rfl
  have hrun : (execOp a.eval ⟨some d, .call ⟨.value (.func f), os.toArray, ts⟩, T, pos, aft, g⟩).run E.P w = .ok (.enter f (os.map a.eval).toArray) w := by
    simp [execOp, resolve, Act.eval, Deferred.ofValue, invoke, hcall]
  unfold Oper.wp
  rw [hrun]
  simp only [Oper.upon]
  have hrel : RelL (okI F S.blk ρ) (hp w) xs (os.map a.eval) := RelL.of (by simp [hlen]) fun i x hx => by
    have hlt : i < os.length := by rw [hlen]; exact (List.getElem?_eq_some_iff.1 hx).1
    have hm : (os[i], PV.p x) ∈ os.zip (xs.map .p) := by
      rw [List.mem_iff_getElem?]
      exact ⟨i, by rw [List.getElem?_zip_eq_some]; simp [hx, hlt]⟩
    have := opd_rel h (hA.rs _ hm)
    exact ⟨a.eval os[i], by simp [hlt], by simpa [RelV] using this⟩
  have hGw : E.G w := E.stab F.w0 w hG fun b hb => h.frame.block b (by omega) (fun hx => by have := hX b hx; omega)
  refine Calls.mono (hs (okI F S.blk ρ) w _ hGw hrel) fun e w' ⟨b, c, he, hbn, hH, hsz, hcs, hbl⟩ => ?_
  subst he
  refine hK _ _ ?_
  let ρ' : Nat → Nat := fun j => if j = k then b else ρ j
  let S' : St := ⟨(d, .clo (.func gf) [] [.at_ k 0 1]) :: S.sl, (k, ⟨T', 1, .mix [.p x]⟩) :: S.hb⟩
  show Sat F S' _ w'
  have hbk : ∀ j, S'.blk j = if j = k then some ⟨T', 1, .mix [.p x]⟩ else S.blk j := fun j => by
    simp only [S', St.blk, List.lookup_cons]
    by_cases e : j = k
    · simp [e]
    · rw [show (j == k) = false by simpa using e]; simp [e]
  have hlt' : ∀ j, S.blk j ≠ none → ρ j < w.heap.size := fun j hj => by
    cases hB : S.blk j with
    | none => exact absurd hB hj
    | some B' => obtain ⟨c', e1, _⟩ := h.blks j B' hB; exact World.size_lt e1
  have hhp : ∀ b, b < w.heap.size → hp w' b = hp w b := fun b hb => hbl.block b hb
  have hc : Carry (okI F S.blk ρ) (okI F S'.blk ρ') (hp w) (hp w') := fun b' hb hne => by
    have hbs : b' < w.heap.size := by
      cases e : hp w b' with
      | none => exact absurd e hne
      | some o => exact World.size_lt e
    refine ⟨⟨hb.1, fun j hj => ?_⟩, hhp _ hbs⟩
    simp only [ρ']
    split
    · omega
    · rename_i e
      rw [hbk, if_neg e] at hj
      exact hb.2 j hj
  have hkp : Keep (fun j => j ≠ k) S.blk S'.blk ρ ρ' (hp w) (hp w') := fun j hj B' hB' => by
    rw [hbk, if_neg hj] at hB'
    exact ⟨B', hB', rfl, Nat.le_refl _, fun _ => ⟨if_neg hj, fun c T fr hc' => ⟨c, T, fr, by rw [hhp _ (World.size_lt hc')]; exact hc', rfl⟩⟩⟩
  refine ⟨ρ', h.upd (Kp := fun j => j ≠ k) ⟨hbl.os.trans h.frame.os, hbl.tape.trans h.frame.tape, hbl.output.trans h.frame.output, Nat.le_trans h.frame.size hbl.size, fun b hb hx => (hbl.block b (Nat.lt_of_lt_of_le hb h.frame.size)).trans (h.frame.block b hb hx)⟩ (by simp [Act.put, h.nt]) (by simp [Act.put, h.df]) hc hkp (fun j j' hj hj' he => ?_) (fun j b' m hj hS => ?_) (fun t v ht => ?_) (fun j B hB => ?_)⟩
  · simp only [ρ'] at he
    rw [hbk] at hj hj'
    by_cases e1 : j = k <;> by_cases e2 : j' = k
    · rw [e1, e2]
    · rw [if_pos e1, if_neg e2] at he
      rw [if_neg e2] at hj'
      have := hlt' j' hj'; omega
    · rw [if_neg e1, if_pos e2] at he
      rw [if_neg e1] at hj
      have := hlt' j hj; omega
    · rw [if_neg e1, if_neg e2] at he
      rw [if_neg e1] at hj
      rw [if_neg e2] at hj'
      exact h.inj j j' hj hj' he
  · have hjk : j ≠ k := fun e => by subst e; rw [hpk] at hj; cases hj
    rw [hbk, if_neg hjk] at hS
    exact ⟨hS, if_neg hjk, fun c T hc' => ⟨c, T, by rw [hhp _ (World.size_lt hc')]; exact hc', rfl⟩⟩
  · rw [put_get (by rw [h.nt]; exact hlt)]
    simp only [S', St.slot, List.lookup_cons] at ht
    by_cases ed : t = d
    · subst ed
      simp only [BEq.rfl, Option.some.injEq] at ht
      subst ht
      refine .inr ⟨_, by simp; rfl, ?_⟩
      simp only [RelV, RelVL]
      refine ⟨[], [.pointer (some ⟨b, 0, none⟩)], rfl, rfl, _, [], rfl, ?_, rfl⟩
      intro B hB
      rw [hbk, if_pos rfl] at hB
      injection hB with hB; subst hB
      exact ⟨Nat.le_refl _, fun _ => by simp [ρ']⟩
    · rw [show (t == d) = false by simpa using ed] at ht
      refine .inl ⟨ht, by rw [if_neg ed], fun j hj e => ?_⟩
      subst e
      have := St.free_slot hf ht
      rw [hj] at this; cases this
  · rw [hbk] at hB
    by_cases e : j = k
    · subst e
      rw [if_pos rfl] at hB
      injection hB with hB
      subst hB
      refine .inr ⟨c, by simp only [ρ', if_pos]; exact hH, .inr (by simp only [ρ', if_pos]; exact Nat.le_trans h.frame.size hbn), by simp only [Cells.len, List.length_singleton]; exact hsz, fun i y hy => ?_⟩
      obtain ⟨u, hu, ho, z, rfl, hr⟩ := hcs i y hy
      refine ⟨u, hu, ho, ?_⟩
      simp only [RelV]
      refine Rel.mono (fun b' hb' _ => ⟨?_, rfl⟩) _ _ hr
      have hne : ∀ q, S'.blk q ≠ none → (q = j ∨ S.blk q ≠ none ∧ q ≠ j) := fun q hq => by
        rw [hbk] at hq
        by_cases e : q = j
        · exact .inl e
        · rw [if_neg e] at hq; exact .inr ⟨hq, e⟩
      rcases hb'.1 with h1 | h1
      · refine ⟨h1.1, fun q hq => ?_⟩
        rcases hne q hq with rfl | ⟨h3, h4⟩
        · simp only [ρ', if_pos]; exact hb'.2
        · simp only [ρ']; rw [if_neg h4]; exact h1.2 q h3
      · refine ⟨.inr (Nat.le_trans h.frame.size h1), fun q hq => ?_⟩
        rcases hne q hq with rfl | ⟨h3, h4⟩
        · simp only [ρ', if_pos]; exact hb'.2
        · simp only [ρ']; rw [if_neg h4]; have := hlt' q h3; omega
    · rw [if_neg e] at hB
      refine .inl ⟨hB, if_neg e, hhp _ (hlt' j (by simp [hB])), fun i x hx q hq e2 => ?_⟩
      subst e2
      have := St.free_blk hf hB hx
      rw [hq] at this; cases this
theorem Like.g {E : Env} {F F' : Fr} {pn : Nat → Bool} (h : Like F F' pn) (hG : E.G F.w0) (hN : E.ng ≤ F.w0.heap.size) (hX0 : ∀ b, ¬ F.X b) : E.G F'.w0 :=
  E.stab F.w0 F'.w0 hG fun b hb => h.block b (by omega) (hX0 b)
theorem Like.le {E : Env} {F F' : Fr} {pn : Nat → Bool} (h : Like F F' pn) (hN : E.ng ≤ F.w0.heap.size) (hX0 : ∀ b, ¬ F.X b) : ∀ b, F'.X b → E.ng ≤ b := fun b hb => by
  rcases h.X b hb with h | h
  · exact absurd h (hX0 b)
  · omega
end Go.Proofs.YtebkelnibecmjaaDoor.SH
namespace Go.Proofs.YtebkelnibecmjaaDoor.SH
open Go Go.RowKit
section
variable {P : Program} {F : Fr} {d : Nat} {T : TypeId} {pos : String} {aft : Array Edge} {g : Option (Nat × Bool)} {t tx : TypeId}
/-- The bytes of a text, as data. -/
def encU (bs : List UInt8) : List Pure := bs.map fun b => .a (.int .u8 b.toNat)
@[simp] theorem encU_length (bs : List UInt8) : (encU bs).length = bs.length := by simp [encU]
theorem encU_app (a b : List UInt8) : encU a ++ encU b = encU (a ++ b) := by simp [encU]
/-- 'string(b)' of a row of the call's own. -/
theorem core_b2s {src dst e : TypeId} {x : Operand} {k n sz : Nat} {l : List UInt8} {xs : List Pure} {s : ByteArray} (hs : P.underlying src = some (.slice e)) (he : P.underlying e = some (.int .u8)) (hd : P.underlying dst = some .string) (hsz : sz = 1) (hn : l.length = n) (hx : xs = encU l) (hs' : s = ⟨l.toArray⟩) (hlt : d < F.nt) :
    CoreOk P F ⟨some d, .convert src dst x, T, pos, aft, g⟩ { rs := [(x, .ref k 0 n n)], rb := [(k, ⟨e, sz, .pure xs⟩)], ws := [(d, .p (.a (.string s)))] } :=
  core_val rfl hlt rfl rfl fun ρ S a w h hA => by
    subst hx hs' hn hsz
    have hB := hA.rb (k, ⟨e, 1, .pure (encU l)⟩) (by simp)
    obtain ⟨cap, c, hev, hc, hH, _⟩ := ref_eval h (hA.rs (x, .ref k 0 l.length l.length) (by simp)) hB (by simp [Cells.len])
    refine ⟨.string ⟨l.toArray⟩, ?_, by simp [RelV, Rel]⟩
    have hrun := run_convert_bytes_back (P := P) w src dst e ⟨ρ k, 0, none⟩ cap l hs he hd fun j hj => by
      obtain ⟨c0, e1, e2, e3, e4⟩ := h.blks k _ hB
      rw [hH] at e1
      injection e1 with e1
      injection e1 with e1
      subst e1
      obtain ⟨u, hu, _, hr⟩ := e4 j (.p (.a (.int .u8 (l[j].toNat : Int)))) (by simp [Cells.get, encU, hj])
      have ea : (⟨ρ k, 0, none⟩ : Addr).add j = ⟨ρ k, j, none⟩ := by unfold Addr.add; split <;> simp_all
      rw [ea, cell_hp, cellAt_of hH, hu]
      simp only [RelV, Rel] at hr
      rw [hr]
    simp only [execOp, hev, Sem.run_bind, hrun, Result.andThen_ok, Sem.run_pure]
/-- append of a text's bytes to a row of the call's own. -/
theorem apPS {x y : Operand} {k n m tot q r : Nat} {e : TypeId} {ie : TypeInfo} {z : Value} {xs zs : List Pure} {s : ByteArray} (hu : P.underlying t = some (.slice e)) (hux : P.underlying tx = some .string) (hi : ∀ w, (typeInfo e).run P w = .ok ie w) (hz : ie.zero = some z) (hsz : ie.size = 1)
    (hzl : z.cells.size = 1) (hl : xs.length = tot) (hn : n = tot) (hm : s.size = m) (he : xs ++ encU s.data.toList = zs) (hq : n + m = q) (hr : tot + m = r) (hby : 2 * q * ie.bytes ≤ 281474976710656) (h63 : q ≤ 9223372036854775807) (hpk : F.pin k = none) (hlt : d < F.nt) :
    CoreOk P F ⟨some d, .call ⟨.builtin .append, #[x, y], #[t, tx]⟩, T, pos, aft, g⟩ ⟨[(x, .ref k 0 n tot), (y, .p (.a (.string s)))], [(k, ⟨e, 1, .pure xs⟩)], none, [(d, .ref k 0 q r)], [(k, ⟨e, 1, .pure zs⟩)]⟩ := by
  subst he hq hr hm
  have hd : s.data.toList.length = s.size := rfl
  exact core_app hu hi hz hsz hzl (by decide) hl (by omega) (srcS hux rfl) (by simp [hd]) .data (by simp) hby h63 hpk hlt
variable {x y : Operand} {xT yT : TypeId} {s u : ByteArray}
theorem beq_dec (a b : List UInt8) : (a == b) = decide (a = b) := by
  by_cases h : a = b
  · subst h; simp
  · rw [decide_eq_false h]; simpa using h
theorem core_seql (hlt : d < F.nt) : CoreOk P F ⟨some d, .binOp .eql xT x y yT, T, pos, aft, g⟩ { rs := [(x, .p (.a (.string s))), (y, .p (.a (.string u)))], ws := [(d, .p (.a (.bool (decide (s.data.toList = u.data.toList)))))] } :=
  core_atom2 hlt fun e w h1 h2 => by simp only [execOp, h1, h2, binOp, eqGuard, Op.stringOp, ByteArray.toList_eq, beq_dec]; simp
theorem core_sneq (hlt : d < F.nt) : CoreOk P F ⟨some d, .binOp .neq xT x y yT, T, pos, aft, g⟩ { rs := [(x, .p (.a (.string s))), (y, .p (.a (.string u)))], ws := [(d, .p (.a (.bool (!decide (s.data.toList = u.data.toList)))))] } :=
  core_atom2 hlt fun e w h1 h2 => by simp only [execOp, h1, h2, binOp, eqGuard, Op.stringOp, ByteArray.toList_eq, beq_dec]; simp
theorem core_sadd {r : ByteArray} (hlt : d < F.nt) (hsz : s.size + u.size ≤ 9223372036854775807) (hr : s ++ u = r) : CoreOk P F ⟨some d, .binOp .add xT x y yT, T, pos, aft, g⟩ { rs := [(x, .p (.a (.string s))), (y, .p (.a (.string u)))], ws := [(d, .p (.a (.string r)))] } :=
  core_atom2 hlt fun e w h1 h2 => by subst hr; simp [execOp, h1, h2, binOp, eqGuard, run_string_add_sum w s u hsz]
end
end Go.Proofs.YtebkelnibecmjaaDoor.SH
namespace Go.Proofs.YtebkelnibecmjaaDoor.SH
open Go Go.RowKit Go.ChangeShapes Go.WideShapes Go.ChangeAt
variable {H : Type} {enc : TypeId × Value → H} {P : Program}
/-- The arguments read behind the call as they did before it. -/
theorem trodAll_stays (hl : laidOutB P = true) {W W' : World} (hb : Below W.heap.size W W') : ∀ {ts : List TypeId} {vs : List Value} {ds : List (DataW H)} {ps : List MemPlace},
    (ts.all fun t => P.readableRec t && decide (t < P.types.size)) = true → DataW.TrodAll enc P W 0 (fun _ => true) true ts vs ds ps → (∀ x ∈ ps, x.block < W.heap.size) →
    DataW.TrodAll enc P W' 0 (fun b => decide (b < W.heap.size)) true ts vs ds ps
  | [], vs, ds, ps, _, h, _ => by
    obtain ⟨rfl, rfl, rfl⟩ := trodAll_nil h
    rfl
  | t :: ts, vs, ds, ps, hr, h, hlt => by
    obtain ⟨v, vs', d, ds', p, q, rfl, rfl, rfl, h1, h2⟩ := trodAll_cons h
    simp only [List.all_cons, Bool.and_eq_true, decide_eq_true_eq] at hr
    exact trodAll_cons_mk (Below.trod hl hr.1.1 hr.1.2 h1 hb fun x hx => hlt x (List.mem_append_left _ hx)) (trodAll_stays hl hb hr.2 h2 fun x hx => hlt x (List.mem_append_right _ hx))
/-- A law that answers true and turns nothing that was there. -/
theorem post_law {fn : Func} {s : ChangeSpec} {apart fresh handsOn : Bool} {W W' : World} {args : Array Value} {ds gs : List (DataW H)} {before : List MemPlace} {tb : TypeId} (hl : laidOutB P = true) (hr : (fn.params.toList.all fun t => P.readableRec t && decide (t < P.types.size)) = true) (htb : P.underlying tb = some .bool) (hrt : fn.resultTypes = #[tb]) (hv : s.vars = [])
    (hW : DataW.Whole enc P fn.params.toList s.vars apart W args.toList ds gs before) (hb : Below W.heap.size W W') (hs : s.fn H (ds ++ gs) = { results := [.lit (.bool true)], args := ds }) : s.post enc P fn apart fresh handsOn false W args (.bool true) W' := by
  have hW' := hW
  obtain ⟨p, q, hA, hV, rfl, hfz, hnd⟩ := hW
  rw [hv] at hV
  obtain ⟨rfl, rfl⟩ := trodVars_none hV
  refine ⟨ds, [], p ++ [], [], p, [], hW', ?_, ?_, ?_, hb.frame _, fun h => by cases h⟩
  · rw [hs, hrt]; exact trodAll_mk1 (shut_bool htb true)
  · rw [hs]; exact trodAll_stays hl hb hr hA fun x hx => hW'.lt x (List.mem_append_left _ hx)
  · rw [hs, hv]; rfl
end Go.Proofs.YtebkelnibecmjaaDoor.SH
