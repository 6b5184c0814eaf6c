/- Part WalkA of the proof: lemmas for the walks of the given functions. No statement of its own. -/
import Derived.Shelf.Strconv.Itoa3
import Derived.Test.YtebkelnibecmjaaDoorProg
import Derived.Test.YtebkelnibecmjaaDoorLogicB
import Derived.Test.YtebkelnibecmjaaDoorPlain
set_option linter.unusedVariables false
set_option linter.unusedSimpArgs false
set_option linter.deprecated false
namespace Go.Proofs.YtebkelnibecmjaaDoor.N
open Go Go.Shelf Go.Sort
def itoaRen : Go.Shelf.Ren := ⟨fun | 171 => 78 | 243 => 90 | 246 => 97 | 283 => 98 | 284 => 99 | 285 => 100 | 286 => 101 | 129 => 103 | 317 => 102 | 318 => 104 | 319 => 105 | 320 => 106 | 337 => 107 | 338 => 108 | n => n, fun | 3 => 3 | 9 => 9 | 2 => 2 | 4 => 4 | 171 => 94 | 0 => 0 | 53 => 52 | 37 => 50 | 5 => 5 | 173 => 97 | 212 => 101 | 51 => 53 | 20 => 20 | 213 => 102 | 46 => 55 | 232 => 105 | 233 => 106 | n => n, fun | 17 => 0 | 18 => 1 | 19 => 2 | n => n⟩
set_option maxRecDepth 100000 in
theorem itoaLays : LaysM.n171 Tryd.prog itoaRen where
  mixed := by kernel_rfl
  f129 := Tryd.func103.trans (congrArg some (by kernel_rfl))
  f171 := Tryd.func78.trans (congrArg some (by kernel_rfl))
  f243 := Tryd.func90.trans (congrArg some (by kernel_rfl))
  f246 := Tryd.func97.trans (congrArg some (by kernel_rfl))
  f283 := Tryd.func98.trans (congrArg some (by kernel_rfl))
  f284 := Tryd.func99.trans (congrArg some (by kernel_rfl))
  f285 := Tryd.func100.trans (congrArg some (by kernel_rfl))
  f286 := Tryd.func101.trans (congrArg some (by kernel_rfl))
  f317 := Tryd.func102.trans (congrArg some (by kernel_rfl))
  f318 := Tryd.func104.trans (congrArg some (by kernel_rfl))
  f319 := Tryd.func105.trans (congrArg some (by kernel_rfl))
  f320 := Tryd.func106.trans (congrArg some (by kernel_rfl))
  f337 := Tryd.func107.trans (congrArg some (by kernel_rfl))
  f338 := Tryd.func108.trans (congrArg some (by kernel_rfl))
  t0 := Tryd.underlying0
  a0 := Tryd.isAgg0
  z0 := Tryd.sizeOf0
  v0 := Tryd.zeroValue0
  t2 := Tryd.underlying2
  a2 := Tryd.isAgg2
  z2 := Tryd.sizeOf2
  v2 := Tryd.zeroValue2
  t3 := Tryd.underlying3
  a3 := Tryd.isAgg3
  z3 := Tryd.sizeOf3
  v3 := Tryd.zeroValue3
  t4 := Tryd.underlying4
  a4 := Tryd.isAgg4
  z4 := Tryd.sizeOf4
  v4 := Tryd.zeroValue4
  t5 := Tryd.underlying5
  a5 := Tryd.isAgg5
  z5 := Tryd.sizeOf5
  v5 := Tryd.zeroValue5
  t9 := Tryd.underlying9
  a9 := Tryd.isAgg9
  z9 := Tryd.sizeOf9
  v9 := Tryd.zeroValue9
  t20 := Tryd.underlying20
  a20 := Tryd.isAgg20
  z20 := Tryd.sizeOf20
  v20 := Tryd.zeroValue20
  t37 := Tryd.underlying50
  a37 := Tryd.isAgg50
  z37 := Tryd.sizeOf50
  v37 := Tryd.zeroValue50
  t46 := Tryd.underlying55
  a46 := Tryd.isAgg55
  z46 := Tryd.sizeOf55
  v46 := Tryd.zeroValue55
  t51 := Tryd.underlying53
  a51 := Tryd.isAgg53
  z51 := Tryd.sizeOf53
  v51 := Tryd.zeroValue53
  t53 := Tryd.underlying52
  a53 := Tryd.isAgg52
  z53 := Tryd.sizeOf52
  v53 := Tryd.zeroValue52
  t171 := Tryd.underlying94
  a171 := Tryd.isAgg94
  z171 := Tryd.sizeOf94
  v171 := Tryd.zeroValue94
  t173 := Tryd.underlying97
  a173 := Tryd.isAgg97
  z173 := Tryd.sizeOf97
  v173 := Tryd.zeroValue97
  t212 := Tryd.underlying101
  a212 := Tryd.isAgg101
  z212 := Tryd.sizeOf101
  v212 := Tryd.zeroValue101
  t213 := Tryd.underlying102
  a213 := Tryd.isAgg102
  z213 := Tryd.sizeOf102
  t232 := Tryd.underlying105
  a232 := Tryd.isAgg105
  z232 := Tryd.sizeOf105
  v232 := Tryd.zeroValue105
  t233 := Tryd.underlying106
  a233 := Tryd.isAgg106
  z233 := Tryd.sizeOf106
  v233 := Tryd.zeroValue106
  g17 := by kernel_rfl
  g18 := by kernel_rfl
  g19 := by kernel_rfl
  i0 := by kernel_rfl
  i2 := by kernel_rfl
  i3 := by kernel_rfl
  i4 := by kernel_rfl
  i5 := by kernel_rfl
  i9 := by kernel_rfl
  i20 := by kernel_rfl
  i37 := by kernel_rfl
  i46 := by kernel_rfl
  i51 := by kernel_rfl
  i53 := by kernel_rfl
  i171 := by kernel_rfl
  i173 := by kernel_rfl
  i212 := by kernel_rfl
  i232 := by kernel_rfl
  i233 := by kernel_rfl
  m17 := by kernel_rfl
  m18 := by kernel_rfl
  m19 := by kernel_rfl
theorem itoa_calls (n : Int) (h0 : -9223372036854775808 ≤ n) (h1 : n ≤ 9223372036854775807) (w : World) (htab : Lib.TabIs Tryd.prog w "internal/strconv.uint64pow10" .u64 Lib.pow10Tab) :
    Calls Tryd.prog 78 #[.int .i64 n] w fun e w' => e = .returned (.string ⟨(Lib.itoa n).toArray⟩) ∧ ∃ k os, w' = grow (w.drewN k) os :=
  Any.strconv_Itoa itoaLays n h0 h1 w htab
end Go.Proofs.YtebkelnibecmjaaDoor.N
namespace Go.Proofs.YtebkelnibecmjaaDoor.N
theorem T0 : True := trivial
open Go Go.Proofs.YtebkelnibecmjaaDoor.SH Go.Proofs.YtebkelnibecmjaaDoor.NumA
/-- The table that strconv.Itoa reads. -/
abbrev Tab (w : World) : Prop := Lib.TabIs Tryd.prog w "internal/strconv.uint64pow10" .u64 Lib.pow10Tab
theorem tabG : Tryd.prog.globalNamed "internal/strconv.uint64pow10" = some 0 := by kernel_rfl
theorem tab_eq {w w' : World} (h : Tab w) (e : w'.heap[0]? = w.heap[0]?) : Tab w' := by
  unfold Tab Lib.TabIs World.var? at h ⊢
  rw [tabG] at h ⊢
  simp only [Option.bind_some] at h ⊢
  rw [e]; exact h
theorem tab_le {w : World} (h : Tab w) : 1 ≤ w.heap.size := by
  unfold Tab Lib.TabIs World.var? at h
  rw [tabG] at h
  simp only [Option.bind_some] at h
  cases e : w.heap[0]? with
  | none => rw [e] at h; simp at h
  | some o => obtain ⟨hl, _⟩ := Array.getElem?_eq_some_iff.mp e; omega
noncomputable abbrev E : Env := { P := Tryd.prog, G := Tab, ng := 1, stab := fun _ _ h e => tab_eq h (e 0 (by decide)) }
theorem ng_le {w : World} (h : E.G w) : E.ng ≤ w.heap.size := tab_le h
theorem s64 : ∀ (u v c : Nat) (w : World), c ≤ 1 → (callFunc 91 #[.int .u64 u, .int .u64 v, .int .u64 c]).run Tryd.prog w = .ok (.value (.tuple #[.int .u64 (((u + 18446744073709551616 - v - c) % 18446744073709551616 : Nat) : Int), .int .u64 ((if u < v + c then 1 else 0 : Nat) : Int)])) w :=
  sub64_run Tryd.func91 (by rfl) (by rfl) (by rfl) (by rfl) (fun _ _ _ => rfl) (fun _ _ _ => rfl)
/-- Words, the lowest first. -/
def encW (ws : List Int) : List Pure := ws.map fun n => .a (.int .u32 n)
@[reducible] def pW (ws : List Int) : Pure := .sl ws.length (encW ws)
@[reducible] def pI (neg : Bool) (ws : List Int) : Pure := .agg [.a (.bool neg), .sl ws.length (encW ws)]
@[reducible] def pZ (n : Int) : Pure := pI (decide (n < 0)) (digs n.natAbs)
@[reducible] def vZ (n : Int) : Pure := .a (.int .i64 n)
@[reducible] def uZ (n : Int) : Pure := .a (.int .u64 n)
@[reducible] def oZ (n : Int) : Pure := .a (.int .u32 n)
@[reducible] def bZ (b : Bool) : Pure := .a (.bool b)
@[simp] theorem encW_length (ws : List Int) : (encW ws).length = ws.length := by simp [encW]
theorem getW {ws : List Int} {i : Nat} (h : i < ws.length) : (encW ws)[i]? = some (.a (.int .u32 (ws.getD i 0))) := by
  simp [encW, h, List.getD_eq_getElem?_getD]
theorem encW_set (ws : List Int) (i : Nat) (v : Int) : (encW ws).set i (.a (.int .u32 v)) = encW (ws.set i v) := by simp [encW, List.map_set]
theorem encW_app (ws : List Int) (v : Int) : encW ws ++ [.a (.int .u32 v)] = encW (ws ++ [v]) := by simp [encW]
theorem encW_app2 (ws vs : List Int) : encW ws ++ encW vs = encW (ws ++ vs) := by simp [encW]
theorem encW_take (ws : List Int) (n : Nat) : (encW ws).take n = encW (ws.take n) := by simp [encW]
theorem encW_drop (ws : List Int) (n : Nat) : (encW ws).drop n = encW (ws.drop n) := by simp [encW]
theorem encW_rep (n : Nat) : List.replicate n (.a (.int .u32 0)) = encW (List.replicate n 0) := by simp [encW]
theorem dec_eq {p q : Prop} [Decidable p] [Decidable q] (h : p ↔ q) : decide p = decide q := by simp [h]
theorem vcong {a b : Int} (h : a = b) : [vZ a] = [vZ b] := by rw [h]
theorem dt {p : Prop} [Decidable p] (h : decide p = true) : p := of_decide_eq_true h
theorem df {p : Prop} [Decidable p] (h : decide p = false) : ¬ p := of_decide_eq_false h
theorem ndt {p : Prop} [Decidable p] (h : (!decide p) = true) : ¬ p := by simpa using h
theorem ndf {p : Prop} [Decidable p] (h : (!decide p) = false) : p := by simpa using h
/-- What 'made' returns. -/
def madeR (neg : Bool) (ws : List Int) : Pure := if trim ws = [] then pI false [] else pI neg (trim ws)
theorem pZ_zero : pZ 0 = pI false [] := by simp [pZ, digs_zero]
theorem madeR_eq {neg : Bool} {ws : List Int} (h : Wd ws) : madeR neg ws = pZ (sg neg (val ws)) := by
  have hv := val_nonneg h
  unfold madeR
  rw [trim_eq_digs h]
  split
  · rename_i e
    rw [digs_nil] at e
    have : val ws = 0 := by omega
    rw [this]; cases neg <;> simp [sg, pZ, digs_zero]
  · rename_i e
    rw [digs_nil] at e
    cases neg with
    | false =>
      have e1 : decide (sg false (val ws) < 0) = false := by simp [sg]; omega
      have e2 : (sg false (val ws)).natAbs = (val ws).toNat := by simp [sg]; omega
      rw [pZ, e1, e2]
    | true =>
      have e1 : decide (sg true (val ws) < 0) = true := by simp [sg]; omega
      have e2 : (sg true (val ws)).natAbs = (val ws).toNat := by simp [sg]; omega
      rw [pZ, e1, e2]
theorem pI_eq {neg : Bool} {ws : List Int} (h : Wd ws) (hc : canon neg ws = true) : pI neg ws = pZ (sg neg (val ws)) := by
  obtain ⟨h1, h2⟩ := canon_eq h hc
  rw [pZ, h1, h2]
/-- Rows of integers. -/
def encI (l : List (Bool × List Int)) : List Pure := l.flatMap fun p => [.a (.bool p.1), .sl p.2.length (encW p.2)]
theorem encI_length (l : List (Bool × List Int)) : (encI l).length = l.length * 2 := by
  induction l with
  | nil => rfl
  | cons p l ih => simp only [encI, List.flatMap_cons, List.length_append, List.length_cons, List.length_nil] at ih ⊢; omega
theorem getI : ∀ {l : List (Bool × List Int)} {i : Nat}, i < l.length → ((encI l).drop (i * 2)).take 2 = [.a (.bool (l.getD i (false, [])).1), .sl (l.getD i (false, [])).2.length (encW (l.getD i (false, [])).2)]
  | [], i, h => by simp at h
  | p :: l, 0, _ => by simp [encI]
  | p :: l, i + 1, h => by
    have := getI (l := l) (i := i) (by simpa using h)
    rw [show (i + 1) * 2 = i * 2 + 2 by omega]
    simpa [encI] using this
end Go.Proofs.YtebkelnibecmjaaDoor.N
namespace Go.Proofs.YtebkelnibecmjaaDoor.N
open Go Go.Proofs.YtebkelnibecmjaaDoor.SH Go.Proofs.YtebkelnibecmjaaDoor.NumA
theorem sh2 {i : Nat} {w : Int} (hi : i < 2) (h0 : 0 ≤ w) (h1 : w < 4294967296) : IntKind.u64.wrap (w * 2 ^ (min ((32 : Int) * (i : Int)).toNat IntKind.u64.bits)) = w * 4294967296 ^ i := by
  rcases (show i = 0 ∨ i = 1 by omega) with rfl | rfl
  · exact shlE (c := 1) (by rfl) (by rw [wu64]; simp; omega)
  · exact shlE (c := 4294967296) (by rfl) (by rw [wu64]; simp; omega)
theorem or2 {ws : List Int} (h : Wd ws) {i : Nat} (hi : i < 2) (hl : i < ws.length) : IntKind.u64.wrap ((BitVec.ofInt IntKind.u64.bits (val (ws.take i)) ||| BitVec.ofInt IntKind.u64.bits (ws.getD i 0 * 4294967296 ^ i)).toNat : Nat) = val (ws.take (i + 1)) := by
  rw [val_take_succ hl]
  have h1 := h.get hl
  have h2 := val_lt (h.take i)
  have h3 := val_nonneg (h.take i)
  rw [List.length_take, Nat.min_eq_left (by omega)] at h2
  generalize ws.getD i 0 = u at *
  rcases (show i = 0 ∨ i = 1 by omega) with rfl | rfl
  · rw [or64 (b := u) 0 (by simp) (by simp [val]) (by simp [val]) h1.1 (by decide) (by simp; omega) (by simp [val]; omega)]
    simp
  · rw [or64 (b := u) 32 (by simp) h3 (by simp at h2 ⊢; omega) h1.1 (by decide) (by simp; omega) (by simp at h2 ⊢; omega)]
    simp; rw [Int.mul_comm]
end Go.Proofs.YtebkelnibecmjaaDoor.N
namespace Go.Proofs.YtebkelnibecmjaaDoor.N
open Go Go.Proofs.YtebkelnibecmjaaDoor.SH Go.Proofs.YtebkelnibecmjaaDoor.NumA
set_option maxRecDepth 100000 in
set_option maxHeartbeats 4000000 in
theorem is_says (neg : Bool) (ws : List Int) (hl : ws.length < 1000000000) : Says E 16 [pI neg ws] (bZ (canon neg ws)) := by
  refine says_of (xs := [bZ (canon neg ws)]) Tryd.func16 rfl Tryd.ntmps16 Tryd.results16 (by simp) fun F hG hX0 hnt hdf P0 => ?_
  have L := ltn hnt
  have hX : ∀ b, F.X b → E.ng ≤ b := fun b h => absurd h (hX0 b)
  have hN := ng_le hG
  refine exr ?_
  refine swb (core_box (k := 1) (n := 2) (.pagg (.cons (.cons .nil))) rfl rfl (P0 _ rfl) (L _ rfl)) ⟨rfl, T0⟩ T0 ⟨rfl, rfl⟩ ?_
  refine sw (core_assign (L _ rfl)) ⟨rfl, T0⟩ T0 ?_
  refine seq_nil ⟨[(1, _)], [(1, _)], ⟨rfl, T0⟩, ⟨rfl, T0⟩, ?_⟩
  refine exr ?_
  refine sw (core_fieldAddr Tryd.underlying24 rfl Tryd.sizeOf22 (by decide) (by exact rfl) (L _ rfl)) ⟨rfl, T0⟩ ⟨rfl, T0⟩ ?_
  refine sw (core_load1 Tryd.isAgg22 (by rfl) (by rfl) (L _ rfl)) ⟨rfl, T0⟩ ⟨rfl, T0⟩ ?_
  refine sw (core_len Tryd.underlying22 (L _ rfl)) ⟨rfl, T0⟩ T0 ?_
  refine sw (core_assign (L _ rfl)) ⟨rfl, T0⟩ T0 ?_
  refine seq_nil ⟨[(1, _), (3, _)], [(1, _)], ⟨rfl, rfl, T0⟩, ⟨rfl, T0⟩, ?_⟩
  refine ex_seq ?_
  refine exr ?_
  refine sw (core_move (L _ rfl)) ⟨rfl, T0⟩ T0 ?_
  refine sw (core_eql (L _ rfl)) ⟨rfl, rfl, T0⟩ T0 ?_
  refine seq_nil ⟨[(1, _), (3, _), (8, _)], [(1, _)], ⟨rfl, rfl, rfl, T0⟩, ⟨rfl, T0⟩, ?_⟩
  refine ex_if rfl (fun h0 => ?_) (fun h0 => ?_)
  · refine exr ?_
    refine sw (core_fieldAddr Tryd.underlying24 rfl Tryd.sizeOf4 (by decide) (by exact rfl) (L _ rfl)) ⟨rfl, T0⟩ ⟨rfl, T0⟩ ?_
    refine sw (core_load1 Tryd.isAgg4 (by rfl) (by rfl) (L _ rfl)) ⟨rfl, T0⟩ ⟨rfl, T0⟩ ?_
    refine sw (core_not (L _ rfl)) ⟨rfl, T0⟩ T0 ?_
    refine sw (core_assign (L _ rfl)) ⟨rfl, T0⟩ T0 ?_
    refine seq_nil ⟨[(2, _)], [], ⟨rfl, T0⟩, trivial, ?_⟩
    refine ex_ret ?_
    refine ⟨.inr rfl, ResVs.cast (.cons (.tmp rfl) .nil) ?_⟩
    have h0 := dt h0; have h1 : ws.length = 0 := by omega
    simp only [canon, h1, if_true]
  · have h0 := df h0
    refine ex_skip (show Exec _ _ _ _ _ from ?_)
    refine exr ?_
    refine sw (core_fieldAddr Tryd.underlying24 rfl Tryd.sizeOf22 (by decide) (by exact rfl) (L _ rfl)) ⟨rfl, T0⟩ ⟨rfl, T0⟩ ?_
    refine sw (core_load1 Tryd.isAgg22 (by rfl) (by rfl) (L _ rfl)) ⟨rfl, T0⟩ ⟨rfl, T0⟩ ?_
    refine sw (core_move (L _ rfl)) ⟨rfl, T0⟩ T0 ?_
    refine sw (core_sub (L _ rfl) (w64 (by omega) (by omega))) ⟨rfl, rfl, T0⟩ T0 ?_
    refine sw (ixJ Tryd.underlying22 Tryd.sizeOf53 (j := ws.length - 1) (by first | exact rfl | omega) (by omega) (by simp) (L _ rfl)) ⟨rfl, rfl, T0⟩ T0 ?_
    refine sw (core_loadI1 Tryd.isAgg53 (by first | exact getW (by omega) | rfl) (L _ rfl)) ⟨rfl, T0⟩ T0 ?_
    refine sw (core_neq (L _ rfl)) ⟨rfl, rfl, T0⟩ T0 ?_
    refine sw (core_assign (L _ rfl)) ⟨rfl, T0⟩ T0 ?_
    refine seq_nil ⟨[(2, _)], [], ⟨rfl, T0⟩, trivial, ?_⟩
    refine ex_ret ?_
    refine ⟨.inr rfl, ResVs.cast (.cons (.tmp rfl) .nil) ?_⟩
    have h1 : ws.length ≠ 0 := by omega
    simp only [canon, h1, if_false]

set_option maxRecDepth 100000 in
set_option maxHeartbeats 4000000 in
theorem made_says0 (neg : Bool) (ws : List Int) (hl : ws.length < 1000000000) : Says E 62 [.a (.bool neg), pW ws] (madeR neg ws) := by
  refine says_of (xs := [madeR neg ws]) Tryd.func62 rfl Tryd.ntmps62 Tryd.results62 (by simp) fun F hG hX0 hnt hdf P0 => ?_
  have L := ltn hnt
  have hX : ∀ b, F.X b → E.ng ≤ b := fun b h => absurd h (hX0 b)
  have hN := ng_le hG
  refine exr ?_
  refine swb (core_alloc (k := 4) (n := 2) Tryd.zeroValue24 (.cons rfl (.cons rfl .nil)) rfl (P0 _ rfl) (L _ rfl)) trivial trivial ⟨rfl, rfl⟩ ?_
  refine seq_nil ⟨[(0, _), (1, _), (4, _)], [(4, _)], ⟨rfl, rfl, rfl, T0⟩, ⟨rfl, T0⟩, ?_⟩
  refine exr ?_
  refine sw (core_move (L _ rfl)) ⟨rfl, T0⟩ T0 ?_
  refine sw (core_len Tryd.underlying22 (L _ rfl)) ⟨rfl, T0⟩ T0 ?_
  refine sw (core_assign (L _ rfl)) ⟨rfl, T0⟩ T0 ?_
  refine seq_nil ⟨[(0, _), (1, _), (4, _), (5, _)], [(4, _)], ⟨rfl, rfl, rfl, rfl, T0⟩, ⟨rfl, T0⟩, ?_⟩
  refine ex_seq ?_
  refine ex_block ?_
  refine exl (α := Nat) (fun n => [(5, vi (n:Int))]) (fun n => []) (fun n => n ≤ ws.length ∧ trimN ws n = trimN ws ws.length) (fun n => n) (ws.length) (sl := [(0, _), (1, _), (4, _)]) (hb := [(4, _)]) ?_ ⟨(by first | exact rfl | exact oi (by omega) rfl), rfl, rfl, rfl, T0⟩ ⟨rfl, T0⟩ ?_
  · exact ⟨Nat.le_refl _, rfl⟩
  intro n hn
  refine ex_seq ?_
  refine exm (sl := [(18, vb (decide (0 < n ∧ ws.getD (n - 1) 0 = 0)))]) (sl0 := [(0, _), (1, _), (4, _), (5, _)]) (hb := []) (hb0 := [(4, _)]) ⟨rfl, rfl, rfl, rfl, T0⟩ ⟨rfl, T0⟩ ?_ ?_
  · by_cases h : n = 0
    · refine sw (core_move (L _ rfl)) ⟨rfl, T0⟩ T0 ?_
      refine sw (core_gtr (L _ rfl)) ⟨rfl, rfl, T0⟩ T0 ?_
      refine sw (core_move (L _ rfl)) ⟨rfl, T0⟩ T0 ?_
      refine swn (g := 11) rfl (by simp [h]) (L _ rfl) rfl ?_
      refine swn (g := 11) rfl (by simp [h]) (L _ rfl) rfl ?_
      refine swn (g := 11) rfl (by simp [h]) (L _ rfl) rfl ?_
      refine swn (g := 11) rfl (by simp [h]) (L _ rfl) rfl ?_
      refine swn (g := 11) rfl (by simp [h]) (L _ rfl) rfl ?_
      refine swn (g := 11) rfl (by simp [h]) (L _ rfl) rfl ?_
      refine sw (core_pick_f (by simp [h]) (L _ rfl)) ⟨rfl, rfl, T0⟩ T0 ?_
      exact seq_nil ⟨⟨ob rfl (by simp [h]), rfl, rfl, rfl, rfl, T0⟩, ⟨rfl, T0⟩⟩
    · refine sw (core_move (L _ rfl)) ⟨rfl, T0⟩ T0 ?_
      refine sw (core_gtr (L _ rfl)) ⟨rfl, rfl, T0⟩ T0 ?_
      refine sw (core_move (L _ rfl)) ⟨rfl, T0⟩ T0 ?_
      refine swg (g := 11) rfl (by simp; omega) (core_move (L _ rfl)) rfl ⟨rfl, T0⟩ T0 ?_
      refine swg (g := 11) rfl (by simp; omega) (core_move (L _ rfl)) rfl ⟨rfl, T0⟩ T0 ?_
      refine swg (g := 11) rfl (by simp; omega) (core_sub (L _ rfl) (w64 (by omega) (by omega))) rfl ⟨rfl, rfl, T0⟩ T0 ?_
      refine swg (g := 11) rfl (by simp; omega) (ixJ Tryd.underlying22 Tryd.sizeOf53 (j := n - 1) (by first | exact rfl | omega) (by omega) (by simp) (L _ rfl)) rfl ⟨rfl, rfl, T0⟩ T0 ?_
      refine swg (g := 11) rfl (by simp; omega) (core_loadI1 Tryd.isAgg53 (by first | exact getW (by omega) | rfl) (L _ rfl)) rfl ⟨rfl, T0⟩ T0 ?_
      refine swg (g := 11) rfl (by simp; omega) (core_eql (L _ rfl)) rfl ⟨rfl, rfl, T0⟩ T0 ?_
      refine sw (core_pick_t (by simp; omega) (L _ rfl)) ⟨rfl, rfl, T0⟩ T0 ?_
      exact seq_nil ⟨⟨ob rfl (by simp; omega), rfl, rfl, rfl, rfl, T0⟩, ⟨rfl, T0⟩⟩
  refine ex_if rfl (fun hc => ?_) (fun hc => ?_)
  · have hc := dt hc
    refine ex_skip (show Exec _ _ _ _ _ from ?_)
    refine ex_block ?_
    refine exr0 ?_
    refine sw (core_move (L _ rfl)) ⟨rfl, T0⟩ T0 ?_
    refine sw (core_sub (L _ rfl) (w64 (by omega) (by omega))) ⟨rfl, rfl, T0⟩ T0 ?_
    refine sw (core_assign (L _ rfl)) ⟨rfl, T0⟩ T0 ?_
    refine seq_nil ?_
    exact ⟨n - 1, ⟨by omega, by rw [← hn.2]; conv => rhs; rw [show n = (n - 1) + 1 by omega]; simp only [trimN, hc.2, if_true]⟩, by omega, le_of ⟨(by first | exact rfl | exact oi (by omega) rfl), rfl, rfl, rfl, T0⟩ ⟨rfl, T0⟩⟩
  · have hc := df hc
    have e : trimN ws ws.length = n := by
      rw [← hn.2]
      cases n with
      | zero => rfl
      | succ n => simp only [trimN]; rw [if_neg]; intro h; exact hc ⟨by omega, by simpa using h⟩
    have e1 : trim ws = ws.take n := by rw [trim, e]
    refine ex_exit (show Exec _ _ _ _ _ from ?_)
    refine ex_seq ?_
    refine exr ?_
    refine sw (core_move (L _ rfl)) ⟨rfl, T0⟩ T0 ?_
    refine sw (core_eql (L _ rfl)) ⟨rfl, rfl, T0⟩ T0 ?_
    refine seq_nil ⟨[(0, _), (1, _), (4, _), (5, _), (22, _)], [(4, _)], ⟨rfl, rfl, rfl, rfl, rfl, T0⟩, ⟨rfl, T0⟩, ?_⟩
    refine ex_if rfl (fun h0 => ?_) (fun h0 => ?_)
    · have h0 := dt h0
      refine exr ?_
      refine sw (core_pc (core_buildP (vs := []) Tryd.underlying24 Tryd.zeroValue24 (.cons rfl (.cons rfl .nil)) ((Places.cons Tryd.sizeOf4 (Places.cons Tryd.sizeOf22 Places.nil))).to rfl .nil (.cons (.cons .nil)) (L _ rfl)) (.agg (.cons .same (.cons .nil .nil)))) T0 T0 ?_
      refine sb (core_storeM Tryd.sizeOf24 (by rfl) (.pagg (.cons (.cons .nil))) rfl (.put (.put .here))) ⟨rfl, rfl, T0⟩ ⟨rfl, T0⟩ ?_
      refine seq_nil ⟨[(4, _)], [(4, _)], ⟨rfl, T0⟩, ⟨rfl, T0⟩, ?_⟩
      refine ex_ret ?_
      refine ⟨.inr rfl, ResVs.cast (.cons (.agg rfl rfl rfl Tryd.isAgg24 Tryd.sizeOf24 (.cons (.cons .nil))) .nil) ?_⟩
      have h1 : n = 0 := by omega
      simp [madeR, e1, h1, encW]
    · have h0 := df h0
      refine ex_skip (show Exec _ _ _ _ _ from ?_)
      refine exr ?_
      refine sw (core_move (L _ rfl)) ⟨rfl, T0⟩ T0 ?_
      refine swb (core_make1 (k := 25) Tryd.underlying22 Tryd.typeInfo53 rfl rfl rfl rfl rfl rfl (Nat.le_refl _) (by simp [Tryd.t53]; omega) (by omega) (P0 _ rfl) (L _ rfl)) ⟨rfl, rfl, T0⟩ T0 ⟨rfl, rfl⟩ ?_
      refine sw (core_assign (L _ rfl)) ⟨rfl, T0⟩ T0 ?_
      refine seq_nil ⟨[(0, _), (1, _), (4, _), (6, _)], [(4, _), (25, _)], ⟨rfl, rfl, rfl, rfl, T0⟩, ⟨rfl, rfl, T0⟩, ?_⟩
      refine exr ?_
      refine sw (core_move (L _ rfl)) ⟨rfl, T0⟩ T0 ?_
      refine sw (core_move (L _ rfl)) ⟨rfl, T0⟩ T0 ?_
      refine swb (core_copyI Tryd.underlying22 Tryd.typeInfo53 (by exact List.length_replicate) rfl (by simp) (L _ rfl)) ⟨rfl, rfl, T0⟩ ⟨rfl, T0⟩ T0 ?_
      refine seq_nil ⟨[(0, _), (4, _), (6, _)], [(4, _), (25, _)], ⟨rfl, rfl, rfl, T0⟩, ⟨rfl, rfl, T0⟩, ?_⟩
      refine exr ?_
      refine sw (core_move (L _ rfl)) ⟨rfl, T0⟩ T0 ?_
      refine sw (core_move (L _ rfl)) ⟨rfl, T0⟩ T0 ?_
      refine sw (core_buildA (vs := [_, _]) Tryd.underlying24 Tryd.zeroValue24 (.cons rfl (.cons rfl .nil)) ((Places.cons Tryd.sizeOf4 (Places.cons Tryd.sizeOf22 Places.nil))).to rfl (.cons rfl (.atom rfl) rfl (.put .here) (.cons rfl .ref rfl (.skip (.put .here)) .nil)) (L _ rfl)) ⟨rfl, rfl, T0⟩ T0 ?_
      refine sb (core_storeM Tryd.sizeOf24 (by rfl) .agg rfl (.put (.put .here))) ⟨rfl, rfl, T0⟩ ⟨rfl, T0⟩ ?_
      refine seq_nil ⟨[(4, _)], [(4, _), (25, _)], ⟨rfl, T0⟩, ⟨rfl, rfl, T0⟩, ?_⟩
      refine ex_cv [25] (sl := [(4, _)]) (hb := [(4, _)]) (own_none hX0) ⟨⟨_, rfl, .same⟩, T0⟩ ⟨⟨rfl, _, rfl, (.mix (.cons .same (.cons (.ref rfl rfl (by exact (by first | (simp; done) | (simp; omega))) (by first | rfl | omega)) .nil)))⟩, T0⟩ ?_
      refine ex_ret ?_
      refine ⟨.inr rfl, ResVs.cast (.cons (.agg rfl rfl rfl Tryd.isAgg24 Tryd.sizeOf24 (.cons (.cons .nil))) .nil) ?_⟩
      have h2 : ¬ ws.take n = [] := by intro h; have := congrArg List.length h; rw [List.length_take] at this; simp only [List.length_nil] at this; omega
      simp [madeR, e1, h2, encW, Nat.min_eq_left hn.1]
      omega

theorem made_says (neg : Bool) (ws : List Int) (hl : ws.length < 1000000000) (h : Wd ws) : Says E 62 [.a (.bool neg), pW ws] (pZ (sg neg (val ws))) := by
  rw [← madeR_eq h]; exact made_says0 neg ws hl
set_option maxRecDepth 100000 in
set_option maxHeartbeats 4000000 in
theorem all_says (l : List (Bool × List Int)) (hl : l.length < 1000000) (hw : ∀ p ∈ l, p.2.length < 1000000000) : Says E 59 [.sl l.length (encI l)] (bZ (l.all fun p => canon p.1 p.2)) := by
  refine says_of (xs := [bZ (l.all fun p => canon p.1 p.2)]) Tryd.func59 rfl Tryd.ntmps59 Tryd.results59 (by simp) fun F hG hX0 hnt hdf P0 => ?_
  have L := ltn hnt
  have hX : ∀ b, F.X b → E.ng ≤ b := fun b h => absurd h (hX0 b)
  have hN := ng_le hG
  refine exr ?_
  refine sw (core_assign (L _ rfl)) ⟨rfl, T0⟩ T0 ?_
  refine seq_nil ⟨[(0, _)], [], ⟨rfl, T0⟩, trivial, ?_⟩
  refine ex_seq ?_
  refine exr ?_
  refine sw (core_move (L _ rfl)) ⟨rfl, T0⟩ T0 ?_
  refine sw (core_len Tryd.underlying78 (L _ rfl)) ⟨rfl, T0⟩ T0 ?_
  refine sw (core_move (L _ rfl)) ⟨rfl, T0⟩ T0 ?_
  refine seq_nil ⟨[(5, _), (6, _), (7, _)], [], ⟨rfl, rfl, rfl, T0⟩, trivial, ?_⟩
  refine ex_block ?_
  refine exl (α := Nat) (fun i => [(7, vi (i:Int))]) (fun i => []) (fun i => i ≤ l.length ∧ (l.take i).all (fun p => canon p.1 p.2) = true) (fun i => l.length - i) (0) (sl := [(5, _), (6, _)]) (hb := []) ?_ ⟨(by first | exact rfl | exact oi (by omega) rfl), rfl, rfl, T0⟩ T0 ?_
  · exact ⟨Nat.zero_le _, rfl⟩
  intro i hi
  refine exr ?_
  refine sw (core_lss (L _ rfl)) ⟨rfl, rfl, T0⟩ T0 ?_
  refine seq_nil ⟨[(5, _), (6, _), (7, _), (8, _)], [], ⟨rfl, rfl, rfl, rfl, T0⟩, trivial, ?_⟩
  refine ex_seq ?_
  refine ex_if rfl (fun hc => ?_) (fun hc => ?_)
  · have hc := dt hc
    have hi2 : i < l.length := by omega
    have e : l.getD i (false, []) = l[i] := by simp [List.getD_eq_getElem?_getD, hi2]
    refine ex_skip (show Exec _ _ _ _ _ from ?_)
    refine ex_seq ?_
    refine ex_block ?_
    refine exr ?_
    refine sw (core_indexAddrJ Tryd.underlying78 Tryd.sizeOf24 (by omega) (by omega) (encI_length l) (by decide) (L _ rfl)) ⟨rfl, rfl, T0⟩ T0 ?_
    refine sw (core_loadIA Tryd.isAgg24 Tryd.sizeOf24 (getI hi2) rfl (L _ rfl)) ⟨rfl, T0⟩ T0 ?_
    refine swb (core_alloc (k := 4) (n := 2) Tryd.zeroValue24 (.cons rfl (.cons rfl .nil)) rfl (P0 _ rfl) (L _ rfl)) trivial trivial ⟨rfl, rfl⟩ ?_
    refine sb (core_storeM Tryd.sizeOf24 (by rfl) (.pagg (.cons (.cons .nil))) rfl (.put (.put .here))) ⟨rfl, rfl, T0⟩ ⟨rfl, T0⟩ ?_
    refine seq_nil ⟨[(4, _), (5, _), (6, _), (7, _)], [(4, _)], ⟨rfl, rfl, rfl, rfl, T0⟩, ⟨rfl, T0⟩, ?_⟩
    refine exr ?_
    refine sw (core_loadP Tryd.isAgg24 Tryd.sizeOf24 (by rfl) (by exact (.cons (.cons .nil))) rfl (L _ rfl)) ⟨rfl, T0⟩ ⟨rfl, T0⟩ ?_
    refine sw (core_call (E := E) hG hX Tryd.call16 rfl hN (is_says (l.getD i (false, [])).1 (l.getD i (false, [])).2 (hw _ (by rw [e]; exact List.getElem_mem hi2))) (L _ rfl)) ⟨rfl, T0⟩ T0 ?_
    refine sw (core_not (L _ rfl)) ⟨rfl, T0⟩ T0 ?_
    refine seq_nil ⟨[(5, _), (6, _), (7, _), (13, _)], [], ⟨rfl, rfl, rfl, rfl, T0⟩, trivial, ?_⟩
    refine ex_if rfl (fun hb => ?_) (fun hb => ?_)
    · refine exr ?_
      refine sw (core_assign (L _ rfl)) ⟨rfl, T0⟩ T0 ?_
      refine seq_nil ⟨[(2, _)], [], ⟨rfl, T0⟩, trivial, ?_⟩
      refine ex_ret ?_
      refine ⟨.inr rfl, ResVs.cast (.cons (.tmp rfl) .nil) ?_⟩
      have hb : canon l[i].1 l[i].2 = false := by rw [← e]; simpa using hb
      congr 3
      rw [eq_comm, List.all_eq_false]
      exact ⟨l[i], List.getElem_mem hi2, by simp [hb]⟩
    · have hb : canon l[i].1 l[i].2 = true := by rw [← e]; simpa using hb
      refine ex_skip (show Exec _ _ _ _ _ from ?_)
      refine exr0 ?_
      refine sw (core_add (L _ rfl) (w64 (by omega) (by omega))) ⟨rfl, rfl, T0⟩ T0 ?_
      refine sw (core_move (L _ rfl)) ⟨rfl, T0⟩ T0 ?_
      refine seq_nil ?_
      exact ⟨i + 1, ⟨by omega, all_take_succ hi2 hi.2 hb⟩, by omega, le_of ⟨(by first | exact rfl | exact oi (by omega) rfl), rfl, rfl, T0⟩ T0⟩
  · have hc := df hc
    refine ex_exit (show Exec _ _ _ _ _ from ?_)
    refine exr ?_
    refine sw (core_assign (L _ rfl)) ⟨rfl, T0⟩ T0 ?_
    refine seq_nil ⟨[(2, _)], [], ⟨rfl, T0⟩, trivial, ?_⟩
    refine ex_ret ?_
    refine ⟨.inr rfl, ResVs.cast (.cons (.tmp rfl) .nil) ?_⟩
    have e : l.take i = l := List.take_of_length_le (by omega)
    have := hi.2; rw [e] at this; rw [this]

set_option maxRecDepth 100000 in
set_option maxHeartbeats 4000000 in
theorem natural_says (neg : Bool) (n : Int) (h0 : 0 ≤ n) (h1 : n < 18446744073709551616) : Says E 55 [.a (.bool neg), uZ n] (pZ (sg neg n)) := by
  refine says_of (xs := [pZ (sg neg n)]) Tryd.func55 rfl Tryd.ntmps55 Tryd.results55 (by simp) fun F hG hX0 hnt hdf P0 => ?_
  have L := ltn hnt
  have hX : ∀ b, F.X b → E.ng ≤ b := fun b h => absurd h (hX0 b)
  have hN := ng_le hG
  refine exr ?_
  refine swb (core_alloc (k := 4) (n := 2) Tryd.zeroValue24 (.cons rfl (.cons rfl .nil)) rfl (P0 _ rfl) (L _ rfl)) trivial trivial ⟨rfl, rfl⟩ ?_
  refine seq_nil ⟨[(0, _), (1, _), (4, _)], [(4, _)], ⟨rfl, rfl, rfl, T0⟩, ⟨rfl, T0⟩, ?_⟩
  refine exr ?_
  refine sw (core_move (L _ rfl)) ⟨rfl, T0⟩ T0 ?_
  refine sw (core_move (L _ rfl)) ⟨rfl, T0⟩ T0 ?_
  refine sw (core_conv Tryd.underlying52 Tryd.underlying53 (L _ rfl) wu32) ⟨rfl, T0⟩ T0 ?_
  refine sw (core_move (L _ rfl)) ⟨rfl, T0⟩ T0 ?_
  refine sw (core_shr (L _ rfl) (by decide) (shrE (c := 4294967296) (by rfl) (by decide))) ⟨rfl, rfl, T0⟩ T0 ?_
  refine sw (core_conv Tryd.underlying52 Tryd.underlying53 (L _ rfl) wu32) ⟨rfl, T0⟩ T0 ?_
  refine sw (core_bsI (vs := [_, _]) Tryd.underlying22 Tryd.typeInfo53 rfl rfl (by decide) (by decide) rfl (zs_made (.cons rfl .nil) rfl) rfl (.cons rfl (.atom rfl) rfl (.put .here) (.cons rfl (.atom rfl) rfl (.skip (.put .here)) .nil)) (.cons (.cons .nil)) (L _ rfl)) ⟨rfl, rfl, T0⟩ T0 ?_
  refine sw (core_call (E := E) hG hX Tryd.call62 rfl hN (made_says neg [n % 4294967296, n / 4294967296 % 4294967296] (by simp) (by simp [Wd]; omega)) (L _ rfl)) ⟨rfl, rfl, T0⟩ T0 ?_
  refine sb (core_storeM Tryd.sizeOf24 (by rfl) (.pagg (.cons (.cons .nil))) rfl (.put (.put .here))) ⟨rfl, rfl, T0⟩ ⟨rfl, T0⟩ ?_
  refine seq_nil ⟨[(4, _)], [(4, _)], ⟨rfl, T0⟩, ⟨rfl, T0⟩, ?_⟩
  refine ex_ret ?_
  refine ⟨.inr rfl, ResVs.cast (.cons (.agg rfl rfl rfl Tryd.isAgg24 Tryd.sizeOf24 (.cons (.cons .nil))) .nil) ?_⟩
  have : val [n % 4294967296, n / 4294967296 % 4294967296] = n := by simp only [val]; omega
  rw [this]

set_option maxRecDepth 100000 in
set_option maxHeartbeats 4000000 in
theorem of_says (n : Int) (h0 : -9223372036854775808 ≤ n) (h1 : n < 9223372036854775808) : Says E 19 [vZ n] (pZ n) := by
  refine says_of (xs := [pZ n]) Tryd.func19 rfl Tryd.ntmps19 Tryd.results19 (by simp) fun F hG hX0 hnt hdf P0 => ?_
  have L := ltn hnt
  have hX : ∀ b, F.X b → E.ng ≤ b := fun b h => absurd h (hX0 b)
  have hN := ng_le hG
  refine exr ?_
  refine swb (core_alloc (k := 2) (n := 2) Tryd.zeroValue24 (.cons rfl (.cons rfl .nil)) rfl (P0 _ rfl) (L _ rfl)) trivial trivial ⟨rfl, rfl⟩ ?_
  refine seq_nil ⟨[(0, _), (2, _)], [(2, _)], ⟨rfl, rfl, T0⟩, ⟨rfl, T0⟩, ?_⟩
  refine ex_seq ?_
  refine exr ?_
  refine sw (core_move (L _ rfl)) ⟨rfl, T0⟩ T0 ?_
  refine sw (core_lss (L _ rfl)) ⟨rfl, rfl, T0⟩ T0 ?_
  refine seq_nil ⟨[(0, _), (2, _), (4, _)], [(2, _)], ⟨rfl, rfl, rfl, T0⟩, ⟨rfl, T0⟩, ?_⟩
  refine ex_if rfl (fun hc => ?_) (fun hc => ?_)
  · have hc := dt hc
    refine exr ?_
    refine sw (core_move (L _ rfl)) ⟨rfl, T0⟩ T0 ?_
    refine sw (core_conv Tryd.underlying3 Tryd.underlying52 (L _ rfl) wu64) ⟨rfl, T0⟩ T0 ?_
    refine sw (core_neg (L _ rfl) (show _ = -n by rw [wu64]; omega)) ⟨rfl, T0⟩ T0 ?_
    refine sw (core_call (E := E) hG hX Tryd.call55 rfl hN (natural_says true (-n) (by omega) (by omega)) (L _ rfl)) ⟨rfl, rfl, T0⟩ T0 ?_
    refine sb (core_storeM Tryd.sizeOf24 (by rfl) (.pagg (.cons (.cons .nil))) rfl (.put (.put .here))) ⟨rfl, rfl, T0⟩ ⟨rfl, T0⟩ ?_
    refine seq_nil ⟨[(2, _)], [(2, _)], ⟨rfl, T0⟩, ⟨rfl, T0⟩, ?_⟩
    refine ex_ret ?_
    refine ⟨.inr rfl, ResVs.cast (.cons (.agg rfl rfl rfl Tryd.isAgg24 Tryd.sizeOf24 (.cons (.cons .nil))) .nil) ?_⟩
    simp [sg]
  · have hc := df hc
    refine ex_skip (show Exec _ _ _ _ _ from ?_)
    refine exr ?_
    refine sw (core_move (L _ rfl)) ⟨rfl, T0⟩ T0 ?_
    refine sw (core_conv Tryd.underlying3 Tryd.underlying52 (L _ rfl) (fu64 (by omega) (by omega))) ⟨rfl, T0⟩ T0 ?_
    refine sw (core_call (E := E) hG hX Tryd.call55 rfl hN (natural_says false n (by omega) (by omega)) (L _ rfl)) ⟨rfl, rfl, T0⟩ T0 ?_
    refine sb (core_storeM Tryd.sizeOf24 (by rfl) (.pagg (.cons (.cons .nil))) rfl (.put (.put .here))) ⟨rfl, rfl, T0⟩ ⟨rfl, T0⟩ ?_
    refine seq_nil ⟨[(2, _)], [(2, _)], ⟨rfl, T0⟩, ⟨rfl, T0⟩, ?_⟩
    refine ex_ret ?_
    refine ⟨.inr rfl, ResVs.cast (.cons (.agg rfl rfl rfl Tryd.isAgg24 Tryd.sizeOf24 (.cons (.cons .nil))) .nil) ?_⟩
    simp [sg]

end Go.Proofs.YtebkelnibecmjaaDoor.N
namespace Go.Proofs.YtebkelnibecmjaaDoor.N
open Go Go.Proofs.YtebkelnibecmjaaDoor.SH Go.Proofs.YtebkelnibecmjaaDoor.NumA
theorem blb (j : Nat) (h : j < 256) : (((UInt8.ofNat (bl j)).toNat : Nat) : Int) = bl j := by
  have : bl j ≤ 8 := bl_spec.2 (by omega)
  simp
  omega
theorem c8 {j : Nat} (h : j < 256) : IntKind.i64.wrap (((UInt8.ofNat (bl j)).toNat : Nat) : Int) = bl j := by
  rw [blb j h]; have : bl j ≤ 8 := bl_spec.2 (by omega); exact w64 (by omega) (by omega)
theorem bl8 {x : Int} (h : x < 256) (h0 : 0 ≤ x) : bl x.toNat ≤ 8 := bl_spec.2 (by omega)
theorem bl_shift {x : Int} (k : Nat) {c : Int} (hc : c = ((2 ^ k : Nat) : Int)) (h : c ≤ x) : bl x.toNat = k + bl (x / c).toNat := by
  subst hc
  have : (x / ((2 ^ k : Nat) : Int)).toNat = x.toNat / 2 ^ k := by
    obtain ⟨y, rfl⟩ := Int.eq_ofNat_of_zero_le (show 0 ≤ x by have := Nat.pow_pos (n := k) (show 0 < 2 by decide); omega)
    rw [← Int.natCast_ediv, Int.toNat_natCast, Int.toNat_natCast]
  rw [this, bl_div (k := k) (by omega)]
set_option maxRecDepth 100000 in
set_option maxHeartbeats 4000000 in
theorem len32_says (x : Int) (h0 : 0 ≤ x) (h1 : x < 4294967296) : Says E 57 [.a (.int .u32 x)] (vZ (bl x.toNat)) := by
  refine says_of (xs := [vZ (bl x.toNat)]) Tryd.func57 rfl Tryd.ntmps57 Tryd.results57 (by simp) fun F hG hX0 hnt hdf P0 => ?_
  have L := ltn hnt
  have hX : ∀ b, F.X b → E.ng ≤ b := fun b h => absurd h (hX0 b)
  have hN := ng_le hG
  refine exr ?_
  refine sw (core_assign (L _ rfl)) ⟨rfl, T0⟩ T0 ?_
  refine seq_nil ⟨[(0, _), (2, _)], [], ⟨rfl, rfl, T0⟩, trivial, ?_⟩
  refine ex_seq ?_
  refine exr ?_
  refine sw (core_move (L _ rfl)) ⟨rfl, T0⟩ T0 ?_
  refine sw (core_geq (L _ rfl)) ⟨rfl, rfl, T0⟩ T0 ?_
  refine seq_nil ⟨[(0, _), (2, _), (4, _)], [], ⟨rfl, rfl, rfl, T0⟩, trivial, ?_⟩
  refine ex_if rfl (fun hc => ?_) (fun hc => ?_)
  · have hc := dt hc
    refine exr ?_
    refine sw (core_move (L _ rfl)) ⟨rfl, T0⟩ T0 ?_
    refine sw (core_shr (L _ rfl) (by decide) (shrE (c := 65536) (by rfl) (by decide))) ⟨rfl, rfl, T0⟩ T0 ?_
    refine sw (core_assign (L _ rfl)) ⟨rfl, T0⟩ T0 ?_
    refine seq_nil ⟨[(0, _)], [], ⟨rfl, T0⟩, trivial, ?_⟩
    refine exr0 ?_
    refine sw (core_assign (L _ rfl)) ⟨rfl, T0⟩ T0 ?_
    refine seq_nil ?_
    refine ex_seq ?_
    refine exr ?_
    refine sw (core_move (L _ rfl)) ⟨rfl, T0⟩ T0 ?_
    refine sw (core_geq (L _ rfl)) ⟨rfl, rfl, T0⟩ T0 ?_
    refine seq_nil ⟨[(0, _), (2, _), (8, _)], [], ⟨rfl, rfl, rfl, T0⟩, trivial, ?_⟩
    refine ex_if rfl (fun hd => ?_) (fun hd => ?_)
    · have hd := dt hd
      have h8 := bl8 (x := x / 65536 / 256) (by omega) (by omega)
      refine exr ?_
      refine sw (core_move (L _ rfl)) ⟨rfl, T0⟩ T0 ?_
      refine sw (core_shr (L _ rfl) (by decide) (shrE (c := 256) (by rfl) (by decide))) ⟨rfl, rfl, T0⟩ T0 ?_
      refine sw (core_assign (L _ rfl)) ⟨rfl, T0⟩ T0 ?_
      refine seq_nil ⟨[(0, _), (2, _)], [], ⟨rfl, rfl, T0⟩, trivial, ?_⟩
      refine exr0 ?_
      refine sw (core_move (L _ rfl)) ⟨rfl, T0⟩ T0 ?_
      refine sw (core_add (L _ rfl) (w64 (by omega) (by omega))) ⟨rfl, rfl, T0⟩ T0 ?_
      refine sw (core_assign (L _ rfl)) ⟨rfl, T0⟩ T0 ?_
      refine seq_nil ?_
      refine exr ?_
      refine sw (core_move (L _ rfl)) ⟨rfl, T0⟩ T0 ?_
      refine sw (core_move (L _ rfl)) ⟨rfl, T0⟩ T0 ?_
      refine sw (core_conv Tryd.underlying53 Tryd.underlying5 (L _ rfl) (fu8 (by omega) (by omega))) ⟨rfl, T0⟩ T0 ?_
      refine sw (core_indexS Tryd.underlying9 (by omega) (tabOf (n := 256) (f := fun j => UInt8.ofNat (bl j)) (by decide) (by omega) (by omega)) (L _ rfl)) ⟨rfl, rfl, T0⟩ T0 ?_
      refine sw (core_conv Tryd.underlying5 Tryd.underlying3 (L _ rfl) (c8 (j := (x / 65536 / 256).toNat) (by omega))) ⟨rfl, T0⟩ T0 ?_
      refine sw (core_add (L _ rfl) (w64 (by omega) (by omega))) ⟨rfl, rfl, T0⟩ T0 ?_
      refine sw (core_assign (L _ rfl)) ⟨rfl, T0⟩ T0 ?_
      refine seq_nil ⟨[(2, _)], [], ⟨rfl, T0⟩, trivial, ?_⟩
      refine ex_ret ?_
      refine ⟨.inr rfl, ResVs.cast (.cons (.tmp rfl) .nil) ?_⟩
      exact vcong (by rw [bl_shift (x := x) 16 (c := 65536) rfl (by omega), bl_shift (x := x / 65536) 8 (c := 256) rfl (by omega)]; push_cast; omega)
    · have hd := df hd
      have h8 := bl8 (x := x / 65536) (by omega) (by omega)
      refine ex_skip (show Exec _ _ _ _ _ from ?_)
      refine exr ?_
      refine sw (core_move (L _ rfl)) ⟨rfl, T0⟩ T0 ?_
      refine sw (core_move (L _ rfl)) ⟨rfl, T0⟩ T0 ?_
      refine sw (core_conv Tryd.underlying53 Tryd.underlying5 (L _ rfl) (fu8 (by omega) (by omega))) ⟨rfl, T0⟩ T0 ?_
      refine sw (core_indexS Tryd.underlying9 (by omega) (tabOf (n := 256) (f := fun j => UInt8.ofNat (bl j)) (by decide) (by omega) (by omega)) (L _ rfl)) ⟨rfl, rfl, T0⟩ T0 ?_
      refine sw (core_conv Tryd.underlying5 Tryd.underlying3 (L _ rfl) (c8 (j := (x / 65536).toNat) (by omega))) ⟨rfl, T0⟩ T0 ?_
      refine sw (core_add (L _ rfl) (w64 (by omega) (by omega))) ⟨rfl, rfl, T0⟩ T0 ?_
      refine sw (core_assign (L _ rfl)) ⟨rfl, T0⟩ T0 ?_
      refine seq_nil ⟨[(2, _)], [], ⟨rfl, T0⟩, trivial, ?_⟩
      refine ex_ret ?_
      refine ⟨.inr rfl, ResVs.cast (.cons (.tmp rfl) .nil) ?_⟩
      exact vcong (by rw [bl_shift (x := x) 16 (c := 65536) rfl (by omega)]; push_cast; rfl)
  · have hc := df hc
    refine ex_skip (show Exec _ _ _ _ _ from ?_)
    refine ex_seq ?_
    refine exr ?_
    refine sw (core_move (L _ rfl)) ⟨rfl, T0⟩ T0 ?_
    refine sw (core_geq (L _ rfl)) ⟨rfl, rfl, T0⟩ T0 ?_
    refine seq_nil ⟨[(0, _), (2, _), (8, _)], [], ⟨rfl, rfl, rfl, T0⟩, trivial, ?_⟩
    refine ex_if rfl (fun hd => ?_) (fun hd => ?_)
    · have hd := dt hd
      have h8 := bl8 (x := x / 256) (by omega) (by omega)
      refine exr ?_
      refine sw (core_move (L _ rfl)) ⟨rfl, T0⟩ T0 ?_
      refine sw (core_shr (L _ rfl) (by decide) (shrE (c := 256) (by rfl) (by decide))) ⟨rfl, rfl, T0⟩ T0 ?_
      refine sw (core_assign (L _ rfl)) ⟨rfl, T0⟩ T0 ?_
      refine seq_nil ⟨[(0, _), (2, _)], [], ⟨rfl, rfl, T0⟩, trivial, ?_⟩
      refine exr0 ?_
      refine sw (core_move (L _ rfl)) ⟨rfl, T0⟩ T0 ?_
      refine sw (core_add (L _ rfl) (w64 (by omega) (by omega))) ⟨rfl, rfl, T0⟩ T0 ?_
      refine sw (core_assign (L _ rfl)) ⟨rfl, T0⟩ T0 ?_
      refine seq_nil ?_
      refine exr ?_
      refine sw (core_move (L _ rfl)) ⟨rfl, T0⟩ T0 ?_
      refine sw (core_move (L _ rfl)) ⟨rfl, T0⟩ T0 ?_
      refine sw (core_conv Tryd.underlying53 Tryd.underlying5 (L _ rfl) (fu8 (by omega) (by omega))) ⟨rfl, T0⟩ T0 ?_
      refine sw (core_indexS Tryd.underlying9 (by omega) (tabOf (n := 256) (f := fun j => UInt8.ofNat (bl j)) (by decide) (by omega) (by omega)) (L _ rfl)) ⟨rfl, rfl, T0⟩ T0 ?_
      refine sw (core_conv Tryd.underlying5 Tryd.underlying3 (L _ rfl) (c8 (j := (x / 256).toNat) (by omega))) ⟨rfl, T0⟩ T0 ?_
      refine sw (core_add (L _ rfl) (w64 (by omega) (by omega))) ⟨rfl, rfl, T0⟩ T0 ?_
      refine sw (core_assign (L _ rfl)) ⟨rfl, T0⟩ T0 ?_
      refine seq_nil ⟨[(2, _)], [], ⟨rfl, T0⟩, trivial, ?_⟩
      refine ex_ret ?_
      refine ⟨.inr rfl, ResVs.cast (.cons (.tmp rfl) .nil) ?_⟩
      exact vcong (by rw [bl_shift (x := x) 8 (c := 256) rfl (by omega)]; push_cast; omega)
    · have hd := df hd
      have h8 := bl8 (x := x) (by omega) (by omega)
      refine ex_skip (show Exec _ _ _ _ _ from ?_)
      refine exr ?_
      refine sw (core_move (L _ rfl)) ⟨rfl, T0⟩ T0 ?_
      refine sw (core_move (L _ rfl)) ⟨rfl, T0⟩ T0 ?_
      refine sw (core_conv Tryd.underlying53 Tryd.underlying5 (L _ rfl) (fu8 (by omega) (by omega))) ⟨rfl, T0⟩ T0 ?_
      refine sw (core_indexS Tryd.underlying9 (by omega) (tabOf (n := 256) (f := fun j => UInt8.ofNat (bl j)) (by decide) (by omega) (by omega)) (L _ rfl)) ⟨rfl, rfl, T0⟩ T0 ?_
      refine sw (core_conv Tryd.underlying5 Tryd.underlying3 (L _ rfl) (c8 (j := x.toNat) (by omega))) ⟨rfl, T0⟩ T0 ?_
      refine sw (core_add (L _ rfl) (w64 (by omega) (by omega))) ⟨rfl, rfl, T0⟩ T0 ?_
      refine sw (core_assign (L _ rfl)) ⟨rfl, T0⟩ T0 ?_
      refine seq_nil ⟨[(2, _)], [], ⟨rfl, T0⟩, trivial, ?_⟩
      refine ex_ret ?_
      refine ⟨.inr rfl, ResVs.cast (.cons (.tmp rfl) .nil) ?_⟩
      exact vcong (by omega)

set_option maxRecDepth 100000 in
set_option maxHeartbeats 4000000 in
theorem sign_says (neg : Bool) (ws : List Int) (hl : ws.length < 1000000000) (h : Wd ws) : Says E 23 [pI neg ws] (vZ (if canon neg ws = true then (sg neg (val ws)).sign else 0)) := by
  refine says_of (xs := [vZ (if canon neg ws = true then (sg neg (val ws)).sign else 0)]) Tryd.func23 rfl Tryd.ntmps23 Tryd.results23 (by simp) fun F hG hX0 hnt hdf P0 => ?_
  have L := ltn hnt
  have hX : ∀ b, F.X b → E.ng ≤ b := fun b h => absurd h (hX0 b)
  have hN := ng_le hG
  refine exr ?_
  refine swb (core_box (k := 1) (n := 2) (.pagg (.cons (.cons .nil))) rfl rfl (P0 _ rfl) (L _ rfl)) ⟨rfl, T0⟩ T0 ⟨rfl, rfl⟩ ?_
  refine sw (core_assign (L _ rfl)) ⟨rfl, T0⟩ T0 ?_
  refine seq_nil ⟨[(1, _)], [(1, _)], ⟨rfl, T0⟩, ⟨rfl, T0⟩, ?_⟩
  refine ex_seq ?_
  refine ex_block ?_
  refine exm (sl := [(3, vb (!(canon neg ws && !decide (ws.length = 0))))]) (sl0 := [(1, _)]) (hb := []) (hb0 := [(1, _)]) ⟨rfl, T0⟩ ⟨rfl, T0⟩ ?_ ?_
  · by_cases hc : canon neg ws = true
    · refine sw (core_loadP Tryd.isAgg24 Tryd.sizeOf24 (by rfl) (by exact (.cons (.cons .nil))) rfl (L _ rfl)) ⟨rfl, T0⟩ ⟨rfl, T0⟩ ?_
      refine sw (core_call (E := E) hG hX Tryd.call16 rfl hN (is_says neg ws hl) (L _ rfl)) ⟨rfl, T0⟩ T0 ?_
      refine sw (core_not (L _ rfl)) ⟨rfl, T0⟩ T0 ?_
      refine sw (core_move (L _ rfl)) ⟨rfl, T0⟩ T0 ?_
      refine swg (g := 7) rfl (by simp [hc]) (core_fieldAddr Tryd.underlying24 rfl Tryd.sizeOf22 (by decide) (by exact rfl) (L _ rfl)) rfl ⟨rfl, T0⟩ ⟨rfl, T0⟩ ?_
      refine swg (g := 7) rfl (by simp [hc]) (core_load1 Tryd.isAgg22 (by rfl) (by rfl) (L _ rfl)) rfl ⟨rfl, T0⟩ ⟨rfl, T0⟩ ?_
      refine swg (g := 7) rfl (by simp [hc]) (core_len Tryd.underlying22 (L _ rfl)) rfl ⟨rfl, T0⟩ T0 ?_
      refine swg (g := 7) rfl (by simp [hc]) (core_eql (L _ rfl)) rfl ⟨rfl, rfl, T0⟩ T0 ?_
      refine sw (core_pick_f (by simp [hc]) (L _ rfl)) ⟨rfl, rfl, T0⟩ T0 ?_
      refine sw (core_assign (L _ rfl)) ⟨rfl, T0⟩ T0 ?_
      exact seq_nil ⟨⟨ob rfl (by simp [hc]), rfl, T0⟩, ⟨rfl, T0⟩⟩
    · refine sw (core_loadP Tryd.isAgg24 Tryd.sizeOf24 (by rfl) (by exact (.cons (.cons .nil))) rfl (L _ rfl)) ⟨rfl, T0⟩ ⟨rfl, T0⟩ ?_
      refine sw (core_call (E := E) hG hX Tryd.call16 rfl hN (is_says neg ws hl) (L _ rfl)) ⟨rfl, T0⟩ T0 ?_
      refine sw (core_not (L _ rfl)) ⟨rfl, T0⟩ T0 ?_
      refine sw (core_move (L _ rfl)) ⟨rfl, T0⟩ T0 ?_
      refine swn (g := 7) rfl (by simp [hc]) (L _ rfl) rfl ?_
      refine swn (g := 7) rfl (by simp [hc]) (L _ rfl) rfl ?_
      refine swn (g := 7) rfl (by simp [hc]) (L _ rfl) rfl ?_
      refine swn (g := 7) rfl (by simp [hc]) (L _ rfl) rfl ?_
      refine sw (core_pick_t (by simp [hc]) (L _ rfl)) ⟨rfl, rfl, T0⟩ T0 ?_
      refine sw (core_assign (L _ rfl)) ⟨rfl, T0⟩ T0 ?_
      exact seq_nil ⟨⟨ob rfl (by simp [hc]), rfl, T0⟩, ⟨rfl, T0⟩⟩
  refine ex_if rfl (fun hd => ?_) (fun hd => ?_)
  · refine exr ?_
    refine sw (core_assign (L _ rfl)) ⟨rfl, T0⟩ T0 ?_
    refine seq_nil ⟨[(2, _)], [], ⟨rfl, T0⟩, trivial, ?_⟩
    refine ex_ret ?_
    refine ⟨.inr rfl, ResVs.cast (.cons (.tmp rfl) .nil) ?_⟩
    have hd : canon neg ws = true → ws = [] := by intro hc; simpa [hc] using hd
    split
    · rename_i hc; rw [hd hc]; cases neg <;> simp [sg, val]
    · rfl
  · have hd : canon neg ws = true ∧ ¬ ws = [] := by simpa using hd
    have hv := val_nonneg h
    have hv2 : val ws ≠ 0 := fun e => hd.2 (val_eq_zero h (canon_tr hd.1).1 e)
    refine exr ?_
    refine sw (core_fieldAddr Tryd.underlying24 rfl Tryd.sizeOf4 (by decide) (by exact rfl) (L _ rfl)) ⟨rfl, T0⟩ ⟨rfl, T0⟩ ?_
    refine sw (core_load1 Tryd.isAgg4 (by rfl) (by rfl) (L _ rfl)) ⟨rfl, T0⟩ ⟨rfl, T0⟩ ?_
    refine sw (core_assign (L _ rfl)) ⟨rfl, T0⟩ T0 ?_
    refine seq_nil ⟨[(13, _)], [], ⟨rfl, T0⟩, trivial, ?_⟩
    refine ex_if rfl (fun hn => ?_) (fun hn => ?_)
    · refine exr ?_
      refine sw (core_assign (L _ rfl)) ⟨rfl, T0⟩ T0 ?_
      refine seq_nil ⟨[(2, _)], [], ⟨rfl, T0⟩, trivial, ?_⟩
      refine ex_ret ?_
      refine ⟨.inr rfl, ResVs.cast (.cons (.tmp rfl) .nil) ?_⟩
      rw [if_pos hd.1, hn, sg, if_pos rfl, Int.sign_eq_neg_one_of_neg (by omega)]
    · refine ex_skip (show Exec _ _ _ _ _ from ?_)
      refine exr ?_
      refine sw (core_assign (L _ rfl)) ⟨rfl, T0⟩ T0 ?_
      refine seq_nil ⟨[(2, _)], [], ⟨rfl, T0⟩, trivial, ?_⟩
      refine ex_ret ?_
      refine ⟨.inr rfl, ResVs.cast (.cons (.tmp rfl) .nil) ?_⟩
      rw [if_pos hd.1, hn, sg]
      simp only [Bool.false_eq_true, if_false]
      rw [Int.sign_eq_one_of_pos (by omega)]

set_option maxRecDepth 100000 in
set_option maxHeartbeats 4000000 in
theorem compared_says (ws vs : List Int) (hl : ws.length < 1000000000) (hl2 : vs.length < 1000000000) (h : Wd ws) (h2 : Wd vs) (ht : Tr ws) (ht2 : Tr vs) : Says E 60 [pW ws, pW vs] (vZ (cmpI (val ws) (val vs))) := by
  refine says_of (xs := [vZ (cmpI (val ws) (val vs))]) Tryd.func60 rfl Tryd.ntmps60 Tryd.results60 (by simp) fun F hG hX0 hnt hdf P0 => ?_
  have L := ltn hnt
  have hX : ∀ b, F.X b → E.ng ≤ b := fun b h => absurd h (hX0 b)
  have hN := ng_le hG
  refine exr ?_
  refine sw (core_assign (L _ rfl)) ⟨rfl, T0⟩ T0 ?_
  refine seq_nil ⟨[(0, _), (1, _)], [], ⟨rfl, rfl, T0⟩, trivial, ?_⟩
  refine ex_seq ?_
  refine exr ?_
  refine sw (core_move (L _ rfl)) ⟨rfl, T0⟩ T0 ?_
  refine sw (core_len Tryd.underlying22 (L _ rfl)) ⟨rfl, T0⟩ T0 ?_
  refine sw (core_move (L _ rfl)) ⟨rfl, T0⟩ T0 ?_
  refine sw (core_len Tryd.underlying22 (L _ rfl)) ⟨rfl, T0⟩ T0 ?_
  refine sw (core_neq (L _ rfl)) ⟨rfl, rfl, T0⟩ T0 ?_
  refine seq_nil ⟨[(0, _), (1, _), (10, _)], [], ⟨rfl, rfl, rfl, T0⟩, trivial, ?_⟩
  refine ex_if rfl (fun hc => ?_) (fun hc => ?_)
  · have hc := ndt hc
    refine ex_seq ?_
    refine exr ?_
    refine sw (core_move (L _ rfl)) ⟨rfl, T0⟩ T0 ?_
    refine sw (core_len Tryd.underlying22 (L _ rfl)) ⟨rfl, T0⟩ T0 ?_
    refine sw (core_move (L _ rfl)) ⟨rfl, T0⟩ T0 ?_
    refine sw (core_len Tryd.underlying22 (L _ rfl)) ⟨rfl, T0⟩ T0 ?_
    refine sw (core_lss (L _ rfl)) ⟨rfl, rfl, T0⟩ T0 ?_
    refine seq_nil ⟨[(15, _)], [], ⟨rfl, T0⟩, trivial, ?_⟩
    refine ex_if rfl (fun hd => ?_) (fun hd => ?_)
    · have hd := dt hd
      refine exr ?_
      refine sw (core_assign (L _ rfl)) ⟨rfl, T0⟩ T0 ?_
      refine seq_nil ⟨[(4, _)], [], ⟨rfl, T0⟩, trivial, ?_⟩
      refine ex_ret ?_
      refine ⟨.inr rfl, ResVs.cast (.cons (.tmp rfl) .nil) ?_⟩
      rw [cmpI_len h h2 ht ht2 (by omega), if_pos (by omega)]
    · have hd := df hd
      refine ex_skip (show Exec _ _ _ _ _ from ?_)
      refine exr ?_
      refine sw (core_assign (L _ rfl)) ⟨rfl, T0⟩ T0 ?_
      refine seq_nil ⟨[(4, _)], [], ⟨rfl, T0⟩, trivial, ?_⟩
      refine ex_ret ?_
      refine ⟨.inr rfl, ResVs.cast (.cons (.tmp rfl) .nil) ?_⟩
      rw [cmpI_len h h2 ht ht2 (by omega), if_neg (by omega)]
  · have hc := ndf hc
    refine ex_skip (show Exec _ _ _ _ _ from ?_)
    refine ex_seq ?_
    refine exr ?_
    refine sw (core_move (L _ rfl)) ⟨rfl, T0⟩ T0 ?_
    refine sw (core_len Tryd.underlying22 (L _ rfl)) ⟨rfl, T0⟩ T0 ?_
    refine sw (core_sub (L _ rfl) (w64 (by omega) (by omega))) ⟨rfl, rfl, T0⟩ T0 ?_
    refine sw (core_assign (L _ rfl)) ⟨rfl, T0⟩ T0 ?_
    refine seq_nil ⟨[(0, _), (1, _), (5, _)], [], ⟨rfl, rfl, rfl, T0⟩, trivial, ?_⟩
    refine ex_block ?_
    refine exl (α := Nat) (fun n => [(5, vi ((n:Int) - 1))]) (fun n => []) (fun n => n ≤ ws.length ∧ ws.drop n = vs.drop n) (fun n => n) (ws.length) (sl := [(0, _), (1, _)]) (hb := []) ?_ ⟨(by first | exact rfl | exact oi (by omega) rfl), rfl, rfl, T0⟩ T0 ?_
    · exact ⟨Nat.le_refl _, by rw [List.drop_length, List.drop_of_length_le (by omega)]⟩
    intro n hn
    refine ex_seq ?_
    refine exr ?_
    refine sw (core_move (L _ rfl)) ⟨rfl, T0⟩ T0 ?_
    refine sw (core_geq (L _ rfl)) ⟨rfl, rfl, T0⟩ T0 ?_
    refine seq_nil ⟨[(0, _), (1, _), (5, _), (20, _)], [], ⟨rfl, rfl, rfl, rfl, T0⟩, trivial, ?_⟩
    refine ex_if rfl (fun hd => ?_) (fun hd => ?_)
    · have hd := dt hd
      have hs : n - 1 + 1 = n := by omega
      refine ex_skip (show Exec _ _ _ _ _ from ?_)
      refine ex_seq ?_
      refine ex_block ?_
      refine exd (by rfl) ?_
      refine sw (core_move (L _ rfl)) ⟨rfl, T0⟩ T0 ?_
      refine sw (core_move (L _ rfl)) ⟨rfl, T0⟩ T0 ?_
      refine sw (ixJ Tryd.underlying22 Tryd.sizeOf53 (j := n - 1) (by first | exact rfl | omega) (by omega) (by simp) (L _ rfl)) ⟨rfl, rfl, T0⟩ T0 ?_
      refine sw (core_loadI1 Tryd.isAgg53 (by first | exact getW (by omega) | rfl) (L _ rfl)) ⟨rfl, T0⟩ T0 ?_
      refine sw (core_move (L _ rfl)) ⟨rfl, T0⟩ T0 ?_
      refine sw (core_move (L _ rfl)) ⟨rfl, T0⟩ T0 ?_
      refine sw (ixJ Tryd.underlying22 Tryd.sizeOf53 (j := n - 1) (by first | exact rfl | omega) (by omega) (by simp) (L _ rfl)) ⟨rfl, rfl, T0⟩ T0 ?_
      refine sw (core_loadI1 Tryd.isAgg53 (by first | exact getW (by omega) | rfl) (L _ rfl)) ⟨rfl, T0⟩ T0 ?_
      refine sw (core_neq (L _ rfl)) ⟨rfl, rfl, T0⟩ T0 ?_
      refine seq_nil ⟨aoks [⟨[0], [], [23], []⟩, ⟨[5], [], [24], []⟩, ⟨[23, 24], [], [25], []⟩, ⟨[25], [], [26], []⟩, ⟨[1], [], [27], []⟩, ⟨[5], [], [28], []⟩, ⟨[27, 28], [], [29], []⟩, ⟨[29], [], [30], []⟩, ⟨[26, 30], [], [31], []⟩] (by rfl) (by rfl) (by decide), [(0, _), (1, _), (5, _), (31, _)], [], ⟨rfl, rfl, rfl, rfl, T0⟩, trivial, ?_⟩
      refine ex_if rfl (fun he => ?_) (fun he => ?_)
      · have he := ndt he
        refine ex_seq ?_
        refine exd (by rfl) ?_
        refine sw (core_move (L _ rfl)) ⟨rfl, T0⟩ T0 ?_
        refine sw (core_move (L _ rfl)) ⟨rfl, T0⟩ T0 ?_
        refine sw (ixJ Tryd.underlying22 Tryd.sizeOf53 (j := n - 1) (by first | exact rfl | omega) (by omega) (by simp) (L _ rfl)) ⟨rfl, rfl, T0⟩ T0 ?_
        refine sw (core_loadI1 Tryd.isAgg53 (by first | exact getW (by omega) | rfl) (L _ rfl)) ⟨rfl, T0⟩ T0 ?_
        refine sw (core_move (L _ rfl)) ⟨rfl, T0⟩ T0 ?_
        refine sw (core_move (L _ rfl)) ⟨rfl, T0⟩ T0 ?_
        refine sw (ixJ Tryd.underlying22 Tryd.sizeOf53 (j := n - 1) (by first | exact rfl | omega) (by omega) (by simp) (L _ rfl)) ⟨rfl, rfl, T0⟩ T0 ?_
        refine sw (core_loadI1 Tryd.isAgg53 (by first | exact getW (by omega) | rfl) (L _ rfl)) ⟨rfl, T0⟩ T0 ?_
        refine sw (core_lss (L _ rfl)) ⟨rfl, rfl, T0⟩ T0 ?_
        refine seq_nil ⟨aoks [⟨[0], [], [32], []⟩, ⟨[5], [], [33], []⟩, ⟨[32, 33], [], [34], []⟩, ⟨[34], [], [35], []⟩, ⟨[1], [], [36], []⟩, ⟨[5], [], [37], []⟩, ⟨[36, 37], [], [38], []⟩, ⟨[38], [], [39], []⟩, ⟨[35, 39], [], [40], []⟩] (by rfl) (by rfl) (by decide), [(40, _)], [], ⟨rfl, T0⟩, trivial, ?_⟩
        refine ex_if rfl (fun hf => ?_) (fun hf => ?_)
        · have hf := dt hf
          refine exr ?_
          refine sw (core_assign (L _ rfl)) ⟨rfl, T0⟩ T0 ?_
          refine seq_nil ⟨[(4, _)], [], ⟨rfl, T0⟩, trivial, ?_⟩
          refine ex_ret ?_
          refine ⟨.inr rfl, ResVs.cast (.cons (.tmp rfl) .nil) ?_⟩
          rw [cmpI_drop h h2 (by omega) (i := n - 1) (by omega) (by rw [hs]; exact hn.2) he, if_pos hf]
        · have hf := df hf
          refine ex_skip (show Exec _ _ _ _ _ from ?_)
          refine exr ?_
          refine sw (core_assign (L _ rfl)) ⟨rfl, T0⟩ T0 ?_
          refine seq_nil ⟨[(4, _)], [], ⟨rfl, T0⟩, trivial, ?_⟩
          refine ex_ret ?_
          refine ⟨.inr rfl, ResVs.cast (.cons (.tmp rfl) .nil) ?_⟩
          rw [cmpI_drop h h2 (by omega) (i := n - 1) (by omega) (by rw [hs]; exact hn.2) he, if_neg hf]
      · have he := ndf he
        refine ex_skip (show Exec _ _ _ _ _ from ?_)
        refine exr0 ?_
        refine sw (core_move (L _ rfl)) ⟨rfl, T0⟩ T0 ?_
        refine sw (core_sub (L _ rfl) (w64 (by omega) (by omega))) ⟨rfl, rfl, T0⟩ T0 ?_
        refine sw (core_assign (L _ rfl)) ⟨rfl, T0⟩ T0 ?_
        refine seq_nil ?_
        exact ⟨n - 1, ⟨by omega, drop_eq_succ (by omega) (by omega) (by rw [hs]; exact hn.2) he⟩, by omega, le_of ⟨(by first | exact rfl | exact oi (by omega) rfl), rfl, rfl, T0⟩ T0⟩
    · have hd := df hd
      have h3 : n = 0 := by omega
      subst h3
      refine ex_exit (show Exec _ _ _ _ _ from ?_)
      refine exr ?_
      refine sw (core_assign (L _ rfl)) ⟨rfl, T0⟩ T0 ?_
      refine seq_nil ⟨[(4, _)], [], ⟨rfl, T0⟩, trivial, ?_⟩
      refine ex_ret ?_
      refine ⟨.inr rfl, ResVs.cast (.cons (.tmp rfl) .nil) ?_⟩
      have e : ws = vs := by simpa using hn.2
      rw [e, cmpI_self]

end Go.Proofs.YtebkelnibecmjaaDoor.N
namespace Go.Proofs.YtebkelnibecmjaaDoor.N
open Go Go.Proofs.YtebkelnibecmjaaDoor.SH Go.Proofs.YtebkelnibecmjaaDoor.NumA
theorem bl32 {x : Int} (h : x < 4294967296) : bl x.toNat ≤ 32 := bl_spec.2 (by omega)
set_option maxRecDepth 100000 in
set_option maxHeartbeats 4000000 in
theorem bits_says (neg : Bool) (ws : List Int) (hl : ws.length < 1000000000) (h : Wd ws) : Says E 21 [pI neg ws] (vZ (if canon neg ws = true then (bl (val ws).toNat : Int) else 0)) := by
  refine says_of (xs := [vZ (if canon neg ws = true then (bl (val ws).toNat : Int) else 0)]) Tryd.func21 rfl Tryd.ntmps21 Tryd.results21 (by simp) fun F hG hX0 hnt hdf P0 => ?_
  have L := ltn hnt
  have hX : ∀ b, F.X b → E.ng ≤ b := fun b h => absurd h (hX0 b)
  have hN := ng_le hG
  refine exr ?_
  refine swb (core_box (k := 1) (n := 2) (.pagg (.cons (.cons .nil))) rfl rfl (P0 _ rfl) (L _ rfl)) ⟨rfl, T0⟩ T0 ⟨rfl, rfl⟩ ?_
  refine sw (core_assign (L _ rfl)) ⟨rfl, T0⟩ T0 ?_
  refine seq_nil ⟨[(1, _)], [(1, _)], ⟨rfl, T0⟩, ⟨rfl, T0⟩, ?_⟩
  refine exr ?_
  refine sw (core_fieldAddr Tryd.underlying24 rfl Tryd.sizeOf22 (by decide) (by exact rfl) (L _ rfl)) ⟨rfl, T0⟩ ⟨rfl, T0⟩ ?_
  refine sw (core_load1 Tryd.isAgg22 (by rfl) (by rfl) (L _ rfl)) ⟨rfl, T0⟩ ⟨rfl, T0⟩ ?_
  refine sw (core_len Tryd.underlying22 (L _ rfl)) ⟨rfl, T0⟩ T0 ?_
  refine sw (core_assign (L _ rfl)) ⟨rfl, T0⟩ T0 ?_
  refine seq_nil ⟨[(1, _), (3, _)], [(1, _)], ⟨rfl, rfl, T0⟩, ⟨rfl, T0⟩, ?_⟩
  refine ex_seq ?_
  refine exm (sl := [(13, vb (!(canon neg ws && !decide (ws.length = 0))))]) (sl0 := [(1, _), (3, _)]) (hb := []) (hb0 := [(1, _)]) ⟨rfl, rfl, T0⟩ ⟨rfl, T0⟩ ?_ ?_
  · by_cases hc : ws.length = 0
    · refine sw (core_move (L _ rfl)) ⟨rfl, T0⟩ T0 ?_
      refine sw (core_eql (L _ rfl)) ⟨rfl, rfl, T0⟩ T0 ?_
      refine sw (core_move (L _ rfl)) ⟨rfl, T0⟩ T0 ?_
      refine swn (g := 9) rfl (decide_eq_true (by omega)) (L _ rfl) rfl ?_
      refine swn (g := 9) rfl (decide_eq_true (by omega)) (L _ rfl) rfl ?_
      refine swn (g := 9) rfl (decide_eq_true (by omega)) (L _ rfl) rfl ?_
      refine sw (core_pick_t (decide_eq_true (by omega)) (L _ rfl)) ⟨rfl, rfl, T0⟩ T0 ?_
      exact seq_nil ⟨⟨ob rfl (by simp [hc]), rfl, rfl, T0⟩, ⟨rfl, T0⟩⟩
    · refine sw (core_move (L _ rfl)) ⟨rfl, T0⟩ T0 ?_
      refine sw (core_eql (L _ rfl)) ⟨rfl, rfl, T0⟩ T0 ?_
      refine sw (core_move (L _ rfl)) ⟨rfl, T0⟩ T0 ?_
      refine swg (g := 9) rfl (decide_eq_false (by omega)) (core_loadP Tryd.isAgg24 Tryd.sizeOf24 (by rfl) (by exact (.cons (.cons .nil))) rfl (L _ rfl)) rfl ⟨rfl, T0⟩ ⟨rfl, T0⟩ ?_
      refine swg (g := 9) rfl (decide_eq_false (by omega)) (core_call (E := E) hG hX Tryd.call16 rfl hN (is_says neg ws hl) (L _ rfl)) rfl ⟨rfl, T0⟩ T0 ?_
      refine swg (g := 9) rfl (decide_eq_false (by omega)) (core_not (L _ rfl)) rfl ⟨rfl, T0⟩ T0 ?_
      refine sw (core_pick_f (decide_eq_false (by omega)) (L _ rfl)) ⟨rfl, rfl, T0⟩ T0 ?_
      exact seq_nil ⟨⟨ob rfl (by simp [hc]), rfl, rfl, T0⟩, ⟨rfl, T0⟩⟩
  refine ex_if rfl (fun hd => ?_) (fun hd => ?_)
  · have hd : canon neg ws = true → ws = [] := by intro hc; simpa [hc] using hd
    refine exr ?_
    refine sw (core_assign (L _ rfl)) ⟨rfl, T0⟩ T0 ?_
    refine seq_nil ⟨[(2, _)], [], ⟨rfl, T0⟩, trivial, ?_⟩
    refine ex_ret ?_
    refine ⟨.inr rfl, ResVs.cast (.cons (.tmp rfl) .nil) ?_⟩
    refine vcong ?_
    split
    · rename_i hc; rw [hd hc]; simp [val, bl]
    · rfl
  · have hd : canon neg ws = true ∧ ¬ ws = [] := by simpa using hd
    have h0 : 0 < ws.length := List.length_pos_iff.2 hd.2
    have h1 := h.getD (ws.length - 1)
    have h2 := bl32 h1.2
    refine ex_skip (show Exec _ _ _ _ _ from ?_)
    refine exr ?_
    refine sw (core_move (L _ rfl)) ⟨rfl, T0⟩ T0 ?_
    refine sw (core_sub (L _ rfl) (w64 (by omega) (by omega))) ⟨rfl, rfl, T0⟩ T0 ?_
    refine sw (core_mul (L _ rfl) (w64 (by omega) (by omega))) ⟨rfl, rfl, T0⟩ T0 ?_
    refine sw (core_fieldAddr Tryd.underlying24 rfl Tryd.sizeOf22 (by decide) (by exact rfl) (L _ rfl)) ⟨rfl, T0⟩ ⟨rfl, T0⟩ ?_
    refine sw (core_load1 Tryd.isAgg22 (by rfl) (by rfl) (L _ rfl)) ⟨rfl, T0⟩ ⟨rfl, T0⟩ ?_
    refine sw (core_move (L _ rfl)) ⟨rfl, T0⟩ T0 ?_
    refine sw (core_sub (L _ rfl) (w64 (by omega) (by omega))) ⟨rfl, rfl, T0⟩ T0 ?_
    refine sw (ixJ Tryd.underlying22 Tryd.sizeOf53 (j := ws.length - 1) (by first | exact rfl | omega) (by omega) (by simp) (L _ rfl)) ⟨rfl, rfl, T0⟩ T0 ?_
    refine sw (core_loadI1 Tryd.isAgg53 (by first | exact getW (by omega) | rfl) (L _ rfl)) ⟨rfl, T0⟩ T0 ?_
    refine sw (core_call (E := E) hG hX Tryd.call57 rfl hN (len32_says (ws.getD (ws.length - 1) 0) h1.1 h1.2) (L _ rfl)) ⟨rfl, T0⟩ T0 ?_
    refine sw (core_add (L _ rfl) (w64 (by omega) (by omega))) ⟨rfl, rfl, T0⟩ T0 ?_
    refine sw (core_assign (L _ rfl)) ⟨rfl, T0⟩ T0 ?_
    refine seq_nil ⟨[(2, _)], [], ⟨rfl, T0⟩, trivial, ?_⟩
    refine ex_ret ?_
    refine ⟨.inr rfl, ResVs.cast (.cons (.tmp rfl) .nil) ?_⟩
    exact vcong (by rw [if_pos hd.1, bl_val h (canon_tr hd.1).1 hd.2])

set_option maxRecDepth 100000 in
set_option maxHeartbeats 4000000 in
theorem neg_says (neg : Bool) (ws : List Int) (hl : ws.length < 1000000000) (h : Wd ws) : Says E 27 [pI neg ws] (pZ (if canon neg ws = true then -(sg neg (val ws)) else 0)) := by
  refine says_of (xs := [pZ (if canon neg ws = true then -(sg neg (val ws)) else 0)]) Tryd.func27 rfl Tryd.ntmps27 Tryd.results27 (by simp) fun F hG hX0 hnt hdf P0 => ?_
  have L := ltn hnt
  have hX : ∀ b, F.X b → E.ng ≤ b := fun b h => absurd h (hX0 b)
  have hN := ng_le hG
  refine exr ?_
  refine swb (core_box (k := 1) (n := 2) (.pagg (.cons (.cons .nil))) rfl rfl (P0 _ rfl) (L _ rfl)) ⟨rfl, T0⟩ T0 ⟨rfl, rfl⟩ ?_
  refine swb (core_alloc (k := 2) (n := 2) Tryd.zeroValue24 (.cons rfl (.cons rfl .nil)) rfl (P0 _ rfl) (L _ rfl)) trivial trivial ⟨rfl, rfl⟩ ?_
  refine seq_nil ⟨[(1, _), (2, _)], [(1, _), (2, _)], ⟨rfl, rfl, T0⟩, ⟨rfl, rfl, T0⟩, ?_⟩
  refine ex_seq ?_
  refine exr ?_
  refine sw (core_loadP Tryd.isAgg24 Tryd.sizeOf24 (by rfl) (by exact (.cons (.cons .nil))) rfl (L _ rfl)) ⟨rfl, T0⟩ ⟨rfl, T0⟩ ?_
  refine sw (core_call (E := E) hG hX Tryd.call16 rfl hN (is_says neg ws hl) (L _ rfl)) ⟨rfl, T0⟩ T0 ?_
  refine sw (core_not (L _ rfl)) ⟨rfl, T0⟩ T0 ?_
  refine seq_nil ⟨[(1, _), (2, _), (5, _)], [(1, _), (2, _)], ⟨rfl, rfl, rfl, T0⟩, ⟨rfl, rfl, T0⟩, ?_⟩
  refine ex_if rfl (fun hc => ?_) (fun hc => ?_)
  · have hc : canon neg ws = false := by simpa using hc
    refine exr ?_
    refine sw (core_pc (core_buildP (vs := []) Tryd.underlying24 Tryd.zeroValue24 (.cons rfl (.cons rfl .nil)) ((Places.cons Tryd.sizeOf4 (Places.cons Tryd.sizeOf22 Places.nil))).to rfl .nil (.cons (.cons .nil)) (L _ rfl)) (.agg (.cons .same (.cons .nil .nil)))) T0 T0 ?_
    refine sb (core_storeM Tryd.sizeOf24 (by rfl) (.pagg (.cons (.cons .nil))) rfl (.put (.put .here))) ⟨rfl, rfl, T0⟩ ⟨rfl, T0⟩ ?_
    refine seq_nil ⟨[(2, _)], [(2, _)], ⟨rfl, T0⟩, ⟨rfl, T0⟩, ?_⟩
    refine ex_ret ?_
    refine ⟨.inr rfl, ResVs.cast (.cons (.agg rfl rfl rfl Tryd.isAgg24 Tryd.sizeOf24 (.cons (.cons .nil))) .nil) ?_⟩
    simp [hc, pZ, digs_zero]; rfl
  · have hc : canon neg ws = true := by simpa using hc
    refine ex_skip (show Exec _ _ _ _ _ from ?_)
    refine exr ?_
    refine sw (core_fieldAddr Tryd.underlying24 rfl Tryd.sizeOf4 (by decide) (by exact rfl) (L _ rfl)) ⟨rfl, T0⟩ ⟨rfl, T0⟩ ?_
    refine sw (core_load1 Tryd.isAgg4 (by rfl) (by rfl) (L _ rfl)) ⟨rfl, T0⟩ ⟨rfl, T0⟩ ?_
    refine sw (core_not (L _ rfl)) ⟨rfl, T0⟩ T0 ?_
    refine sw (core_fieldAddr Tryd.underlying24 rfl Tryd.sizeOf22 (by decide) (by exact rfl) (L _ rfl)) ⟨rfl, T0⟩ ⟨rfl, T0⟩ ?_
    refine sw (core_load1 Tryd.isAgg22 (by rfl) (by rfl) (L _ rfl)) ⟨rfl, T0⟩ ⟨rfl, T0⟩ ?_
    refine sw (core_call (E := E) hG hX Tryd.call62 rfl hN (made_says (!neg) ws hl h) (L _ rfl)) ⟨rfl, rfl, T0⟩ T0 ?_
    refine sb (core_storeM Tryd.sizeOf24 (by rfl) (.pagg (.cons (.cons .nil))) rfl (.put (.put .here))) ⟨rfl, rfl, T0⟩ ⟨rfl, T0⟩ ?_
    refine seq_nil ⟨[(2, _)], [(2, _)], ⟨rfl, T0⟩, ⟨rfl, T0⟩, ?_⟩
    refine ex_ret ?_
    refine ⟨.inr rfl, ResVs.cast (.cons (.agg rfl rfl rfl Tryd.isAgg24 Tryd.sizeOf24 (.cons (.cons .nil))) .nil) ?_⟩
    rw [if_pos hc]; cases neg <;> simp [sg]

set_option maxRecDepth 100000 in
set_option maxHeartbeats 4000000 in
theorem abs_says (neg : Bool) (ws : List Int) (hl : ws.length < 1000000000) (h : Wd ws) : Says E 29 [pI neg ws] (pZ (if canon neg ws = true then ((sg neg (val ws)).natAbs : Int) else 0)) := by
  refine says_of (xs := [pZ (if canon neg ws = true then ((sg neg (val ws)).natAbs : Int) else 0)]) Tryd.func29 rfl Tryd.ntmps29 Tryd.results29 (by simp) fun F hG hX0 hnt hdf P0 => ?_
  have L := ltn hnt
  have hX : ∀ b, F.X b → E.ng ≤ b := fun b h => absurd h (hX0 b)
  have hN := ng_le hG
  refine exr ?_
  refine swb (core_box (k := 1) (n := 2) (.pagg (.cons (.cons .nil))) rfl rfl (P0 _ rfl) (L _ rfl)) ⟨rfl, T0⟩ T0 ⟨rfl, rfl⟩ ?_
  refine swb (core_alloc (k := 2) (n := 2) Tryd.zeroValue24 (.cons rfl (.cons rfl .nil)) rfl (P0 _ rfl) (L _ rfl)) trivial trivial ⟨rfl, rfl⟩ ?_
  refine seq_nil ⟨[(1, _), (2, _)], [(1, _), (2, _)], ⟨rfl, rfl, T0⟩, ⟨rfl, rfl, T0⟩, ?_⟩
  refine ex_seq ?_
  refine exr ?_
  refine sw (core_loadP Tryd.isAgg24 Tryd.sizeOf24 (by rfl) (by exact (.cons (.cons .nil))) rfl (L _ rfl)) ⟨rfl, T0⟩ ⟨rfl, T0⟩ ?_
  refine sw (core_call (E := E) hG hX Tryd.call16 rfl hN (is_says neg ws hl) (L _ rfl)) ⟨rfl, T0⟩ T0 ?_
  refine sw (core_not (L _ rfl)) ⟨rfl, T0⟩ T0 ?_
  refine seq_nil ⟨[(1, _), (2, _), (5, _)], [(1, _), (2, _)], ⟨rfl, rfl, rfl, T0⟩, ⟨rfl, rfl, T0⟩, ?_⟩
  refine ex_if rfl (fun hc => ?_) (fun hc => ?_)
  · have hc : canon neg ws = false := by simpa using hc
    refine exr ?_
    refine sw (core_pc (core_buildP (vs := []) Tryd.underlying24 Tryd.zeroValue24 (.cons rfl (.cons rfl .nil)) ((Places.cons Tryd.sizeOf4 (Places.cons Tryd.sizeOf22 Places.nil))).to rfl .nil (.cons (.cons .nil)) (L _ rfl)) (.agg (.cons .same (.cons .nil .nil)))) T0 T0 ?_
    refine sb (core_storeM Tryd.sizeOf24 (by rfl) (.pagg (.cons (.cons .nil))) rfl (.put (.put .here))) ⟨rfl, rfl, T0⟩ ⟨rfl, T0⟩ ?_
    refine seq_nil ⟨[(2, _)], [(2, _)], ⟨rfl, T0⟩, ⟨rfl, T0⟩, ?_⟩
    refine ex_ret ?_
    refine ⟨.inr rfl, ResVs.cast (.cons (.agg rfl rfl rfl Tryd.isAgg24 Tryd.sizeOf24 (.cons (.cons .nil))) .nil) ?_⟩
    simp [hc, pZ, digs_zero]; rfl
  · have hc : canon neg ws = true := by simpa using hc
    refine ex_skip (show Exec _ _ _ _ _ from ?_)
    refine exr ?_
    refine sw (core_fieldAddr Tryd.underlying24 rfl Tryd.sizeOf22 (by decide) (by exact rfl) (L _ rfl)) ⟨rfl, T0⟩ ⟨rfl, T0⟩ ?_
    refine sw (core_load1 Tryd.isAgg22 (by rfl) (by rfl) (L _ rfl)) ⟨rfl, T0⟩ ⟨rfl, T0⟩ ?_
    refine sw (core_call (E := E) hG hX Tryd.call62 rfl hN (made_says false ws hl h) (L _ rfl)) ⟨rfl, rfl, T0⟩ T0 ?_
    refine sb (core_storeM Tryd.sizeOf24 (by rfl) (.pagg (.cons (.cons .nil))) rfl (.put (.put .here))) ⟨rfl, rfl, T0⟩ ⟨rfl, T0⟩ ?_
    refine seq_nil ⟨[(2, _)], [(2, _)], ⟨rfl, T0⟩, ⟨rfl, T0⟩, ?_⟩
    refine ex_ret ?_
    refine ⟨.inr rfl, ResVs.cast (.cons (.agg rfl rfl rfl Tryd.isAgg24 Tryd.sizeOf24 (.cons (.cons .nil))) .nil) ?_⟩
    have e : ((sg neg (val ws)).natAbs : Int) = sg false (val ws) := by have := val_nonneg h; cases neg <;> simp [sg] <;> omega
    rw [if_pos hc, e]

set_option maxRecDepth 100000 in
set_option maxHeartbeats 4000000 in
theorem cmp_says (m n : Bool) (ws vs : List Int) (hl : ws.length < 1000000000) (hl2 : vs.length < 1000000000) (h : Wd ws) (h2 : Wd vs) : Says E 25 [pI m ws, pI n vs] (vZ (if canon m ws = true ∧ canon n vs = true then cmpI (sg m (val ws)) (sg n (val vs)) else 0)) := by
  refine says_of (xs := [vZ (if canon m ws = true ∧ canon n vs = true then cmpI (sg m (val ws)) (sg n (val vs)) else 0)]) Tryd.func25 rfl Tryd.ntmps25 Tryd.results25 (by simp) fun F hG hX0 hnt hdf P0 => ?_
  have L := ltn hnt
  have hX : ∀ b, F.X b → E.ng ≤ b := fun b h => absurd h (hX0 b)
  have hN := ng_le hG
  refine exr ?_
  refine swb (core_box (k := 2) (n := 2) (.pagg (.cons (.cons .nil))) rfl rfl (P0 _ rfl) (L _ rfl)) ⟨rfl, T0⟩ T0 ⟨rfl, rfl⟩ ?_
  refine swb (core_box (k := 3) (n := 2) (.pagg (.cons (.cons .nil))) rfl rfl (P0 _ rfl) (L _ rfl)) ⟨rfl, T0⟩ T0 ⟨rfl, rfl⟩ ?_
  refine sw (core_assign (L _ rfl)) ⟨rfl, T0⟩ T0 ?_
  refine seq_nil ⟨[(2, _), (3, _)], [(2, _), (3, _)], ⟨rfl, rfl, T0⟩, ⟨rfl, rfl, T0⟩, ?_⟩
  refine ex_seq ?_
  refine exr ?_
  refine sw (core_loadP Tryd.isAgg24 Tryd.sizeOf24 (by rfl) (by exact (.cons (.cons .nil))) rfl (L _ rfl)) ⟨rfl, T0⟩ ⟨rfl, T0⟩ ?_
  refine sw (core_loadP Tryd.isAgg24 Tryd.sizeOf24 (by rfl) (by exact (.cons (.cons .nil))) rfl (L _ rfl)) ⟨rfl, T0⟩ ⟨rfl, T0⟩ ?_
  refine sw (core_bsI (vs := [_, _]) Tryd.underlying78 Tryd.typeInfo24 rfl rfl (by decide) (by decide) rfl (zs_made (.cons rfl (.cons rfl .nil)) rfl) rfl (.cons rfl (.pagg (.cons (.cons .nil))) rfl (.put (.put .here)) (.cons rfl (.pagg (.cons (.cons .nil))) rfl (.skip (.skip (.put (.put .here)))) .nil)) (.cons (.cons (.cons (.cons .nil)))) (L _ rfl)) ⟨rfl, rfl, T0⟩ T0 ?_
  refine sw (core_call (E := E) hG hX Tryd.call59 rfl hN (all_says [(m, ws), (n, vs)] (by simp) (by simp; omega)) (L _ rfl)) ⟨rfl, T0⟩ T0 ?_
  refine sw (core_not (L _ rfl)) ⟨rfl, T0⟩ T0 ?_
  refine seq_nil ⟨[(2, _), (3, _), (10, _)], [(2, _), (3, _)], ⟨rfl, rfl, rfl, T0⟩, ⟨rfl, rfl, T0⟩, ?_⟩
  refine ex_if rfl (fun hc => ?_) (fun hc => ?_)
  · have hc : ¬ (canon m ws = true ∧ canon n vs = true) := by rintro ⟨h1, h2⟩; simp [h1, h2] at hc
    refine exr ?_
    refine sw (core_assign (L _ rfl)) ⟨rfl, T0⟩ T0 ?_
    refine seq_nil ⟨[(4, _)], [], ⟨rfl, T0⟩, trivial, ?_⟩
    refine ex_ret ?_
    refine ⟨.inr rfl, ResVs.cast (.cons (.tmp rfl) .nil) ?_⟩
    rw [if_neg hc]
  · have hc : canon m ws = true ∧ canon n vs = true := by simpa using hc
    have e := cmp_sg h h2 hc.1 hc.2
    refine ex_skip (show Exec _ _ _ _ _ from ?_)
    refine ex_seq ?_
    refine exr ?_
    refine sw (core_fieldAddr Tryd.underlying24 rfl Tryd.sizeOf4 (by decide) (by exact rfl) (L _ rfl)) ⟨rfl, T0⟩ ⟨rfl, T0⟩ ?_
    refine sw (core_load1 Tryd.isAgg4 (by rfl) (by rfl) (L _ rfl)) ⟨rfl, T0⟩ ⟨rfl, T0⟩ ?_
    refine sw (core_fieldAddr Tryd.underlying24 rfl Tryd.sizeOf4 (by decide) (by exact rfl) (L _ rfl)) ⟨rfl, T0⟩ ⟨rfl, T0⟩ ?_
    refine sw (core_load1 Tryd.isAgg4 (by rfl) (by rfl) (L _ rfl)) ⟨rfl, T0⟩ ⟨rfl, T0⟩ ?_
    refine sw (core_bne Tryd.underlying4 (L _ rfl)) ⟨rfl, rfl, T0⟩ T0 ?_
    refine seq_nil ⟨[(2, _), (3, _), (15, _)], [(2, _), (3, _)], ⟨rfl, rfl, rfl, T0⟩, ⟨rfl, rfl, T0⟩, ?_⟩
    refine ex_if rfl (fun hd => ?_) (fun hd => ?_)
    · have hd : m ≠ n := by simpa using hd
      refine ex_seq ?_
      refine exr ?_
      refine sw (core_fieldAddr Tryd.underlying24 rfl Tryd.sizeOf4 (by decide) (by exact rfl) (L _ rfl)) ⟨rfl, T0⟩ ⟨rfl, T0⟩ ?_
      refine sw (core_load1 Tryd.isAgg4 (by rfl) (by rfl) (L _ rfl)) ⟨rfl, T0⟩ ⟨rfl, T0⟩ ?_
      refine seq_nil ⟨[(17, _)], [], ⟨rfl, T0⟩, trivial, ?_⟩
      refine ex_if rfl (fun hm => ?_) (fun hm => ?_)
      · refine exr ?_
        refine sw (core_assign (L _ rfl)) ⟨rfl, T0⟩ T0 ?_
        refine seq_nil ⟨[(4, _)], [], ⟨rfl, T0⟩, trivial, ?_⟩
        refine ex_ret ?_
        refine ⟨.inr rfl, ResVs.cast (.cons (.tmp rfl) .nil) ?_⟩
        rw [if_pos hc, e, if_pos hd, if_pos hm]
      · refine ex_skip (show Exec _ _ _ _ _ from ?_)
        refine exr ?_
        refine sw (core_assign (L _ rfl)) ⟨rfl, T0⟩ T0 ?_
        refine seq_nil ⟨[(4, _)], [], ⟨rfl, T0⟩, trivial, ?_⟩
        refine ex_ret ?_
        refine ⟨.inr rfl, ResVs.cast (.cons (.tmp rfl) .nil) ?_⟩
        rw [if_pos hc, e, if_pos hd, if_neg (by simp [hm])]
    · have hd : ¬ m ≠ n := by simpa using hd
      have hb : -1 ≤ cmpI (val ws) (val vs) ∧ cmpI (val ws) (val vs) ≤ 1 := by unfold cmpI; split <;> (try split) <;> omega
      refine ex_skip (show Exec _ _ _ _ _ from ?_)
      refine exr ?_
      refine sw (core_fieldAddr Tryd.underlying24 rfl Tryd.sizeOf22 (by decide) (by exact rfl) (L _ rfl)) ⟨rfl, T0⟩ ⟨rfl, T0⟩ ?_
      refine sw (core_load1 Tryd.isAgg22 (by rfl) (by rfl) (L _ rfl)) ⟨rfl, T0⟩ ⟨rfl, T0⟩ ?_
      refine sw (core_fieldAddr Tryd.underlying24 rfl Tryd.sizeOf22 (by decide) (by exact rfl) (L _ rfl)) ⟨rfl, T0⟩ ⟨rfl, T0⟩ ?_
      refine sw (core_load1 Tryd.isAgg22 (by rfl) (by rfl) (L _ rfl)) ⟨rfl, T0⟩ ⟨rfl, T0⟩ ?_
      refine sw (core_call (E := E) hG hX Tryd.call60 rfl hN (compared_says ws vs hl hl2 h h2 (canon_tr hc.1).1 (canon_tr hc.2).1) (L _ rfl)) ⟨rfl, rfl, T0⟩ T0 ?_
      refine sw (core_assign (L _ rfl)) ⟨rfl, T0⟩ T0 ?_
      refine seq_nil ⟨[(2, _), (5, _)], [(2, _)], ⟨rfl, rfl, T0⟩, ⟨rfl, T0⟩, ?_⟩
      refine ex_seq ?_
      refine exr ?_
      refine sw (core_fieldAddr Tryd.underlying24 rfl Tryd.sizeOf4 (by decide) (by exact rfl) (L _ rfl)) ⟨rfl, T0⟩ ⟨rfl, T0⟩ ?_
      refine sw (core_load1 Tryd.isAgg4 (by rfl) (by rfl) (L _ rfl)) ⟨rfl, T0⟩ ⟨rfl, T0⟩ ?_
      refine seq_nil ⟨[(5, _), (24, _)], [], ⟨rfl, rfl, T0⟩, trivial, ?_⟩
      refine ex_if rfl (fun hm => ?_) (fun hm => ?_)
      · refine exr ?_
        refine sw (core_move (L _ rfl)) ⟨rfl, T0⟩ T0 ?_
        refine sw (core_neg (L _ rfl) (w64 (by omega) (by omega))) ⟨rfl, T0⟩ T0 ?_
        refine sw (core_assign (L _ rfl)) ⟨rfl, T0⟩ T0 ?_
        refine seq_nil ⟨[(4, _)], [], ⟨rfl, T0⟩, trivial, ?_⟩
        refine ex_ret ?_
        refine ⟨.inr rfl, ResVs.cast (.cons (.tmp rfl) .nil) ?_⟩
        exact vcong (by rw [if_pos hc, e, if_neg hd, if_pos hm]; omega)
      · refine ex_skip (show Exec _ _ _ _ _ from ?_)
        refine exr ?_
        refine sw (core_move (L _ rfl)) ⟨rfl, T0⟩ T0 ?_
        refine sw (core_assign (L _ rfl)) ⟨rfl, T0⟩ T0 ?_
        refine seq_nil ⟨[(4, _)], [], ⟨rfl, T0⟩, trivial, ?_⟩
        refine ex_ret ?_
        refine ⟨.inr rfl, ResVs.cast (.cons (.tmp rfl) .nil) ?_⟩
        rw [if_pos hc, e, if_neg hd, if_neg (by simp [hm])]

set_option maxRecDepth 100000 in
set_option maxHeartbeats 4000000 in
theorem small_says (neg : Bool) (ws : List Int) (hl : ws.length < 1000000000) (h : Wd ws) : Says E 14 [pI neg ws] (.tup [vZ (if canon neg ws = true ∧ -9223372036854775808 ≤ sg neg (val ws) ∧ sg neg (val ws) < 9223372036854775808 then sg neg (val ws) else 0), vZ (if canon neg ws = true then if -9223372036854775808 ≤ sg neg (val ws) ∧ sg neg (val ws) < 9223372036854775808 then 0 else 2 else 3)]) := by
  refine says_of (xs := [vZ (if canon neg ws = true ∧ -9223372036854775808 ≤ sg neg (val ws) ∧ sg neg (val ws) < 9223372036854775808 then sg neg (val ws) else 0), vZ (if canon neg ws = true then if -9223372036854775808 ≤ sg neg (val ws) ∧ sg neg (val ws) < 9223372036854775808 then 0 else 2 else 3)]) Tryd.func14 rfl Tryd.ntmps14 Tryd.results14 (by simp) fun F hG hX0 hnt hdf P0 => ?_
  have L := ltn hnt
  have hX : ∀ b, F.X b → E.ng ≤ b := fun b h => absurd h (hX0 b)
  have hN := ng_le hG
  refine exr ?_
  refine swb (core_box (k := 1) (n := 2) (.pagg (.cons (.cons .nil))) rfl rfl (P0 _ rfl) (L _ rfl)) ⟨rfl, T0⟩ T0 ⟨rfl, rfl⟩ ?_
  refine sw (core_assign (L _ rfl)) ⟨rfl, T0⟩ T0 ?_
  refine sw (core_assign (L _ rfl)) ⟨rfl, T0⟩ T0 ?_
  refine seq_nil ⟨[(1, _)], [(1, _)], ⟨rfl, T0⟩, ⟨rfl, T0⟩, ?_⟩
  refine ex_seq ?_
  refine exr ?_
  refine sw (core_loadP Tryd.isAgg24 Tryd.sizeOf24 (by rfl) (by exact (.cons (.cons .nil))) rfl (L _ rfl)) ⟨rfl, T0⟩ ⟨rfl, T0⟩ ?_
  refine sw (core_call (E := E) hG hX Tryd.call16 rfl hN (is_says neg ws hl) (L _ rfl)) ⟨rfl, T0⟩ T0 ?_
  refine sw (core_not (L _ rfl)) ⟨rfl, T0⟩ T0 ?_
  refine seq_nil ⟨[(1, _), (9, _)], [(1, _)], ⟨rfl, rfl, T0⟩, ⟨rfl, T0⟩, ?_⟩
  refine ex_if rfl (fun hc => ?_) (fun hc => ?_)
  · have hc : canon neg ws = false := by simpa using hc
    refine exr ?_
    refine sw (core_assign (L _ rfl)) ⟨rfl, T0⟩ T0 ?_
    refine sw (core_assign (L _ rfl)) ⟨rfl, T0⟩ T0 ?_
    refine seq_nil ⟨[(2, _), (3, _)], [], ⟨rfl, rfl, T0⟩, trivial, ?_⟩
    refine ex_ret ?_
    refine ⟨.inr rfl, ResVs.cast (.cons (.tmp rfl) (.cons (.tmp rfl) .nil)) ?_⟩
    simp [hc]
  · have hc : canon neg ws = true := by simpa using hc
    have hv := val_nonneg h
    refine ex_skip (show Exec _ _ _ _ _ from ?_)
    refine ex_seq ?_
    refine exr ?_
    refine sw (core_fieldAddr Tryd.underlying24 rfl Tryd.sizeOf22 (by decide) (by exact rfl) (L _ rfl)) ⟨rfl, T0⟩ ⟨rfl, T0⟩ ?_
    refine sw (core_load1 Tryd.isAgg22 (by rfl) (by rfl) (L _ rfl)) ⟨rfl, T0⟩ ⟨rfl, T0⟩ ?_
    refine sw (core_len Tryd.underlying22 (L _ rfl)) ⟨rfl, T0⟩ T0 ?_
    refine sw (core_gtr (L _ rfl)) ⟨rfl, rfl, T0⟩ T0 ?_
    refine seq_nil ⟨[(1, _), (13, _)], [(1, _)], ⟨rfl, rfl, T0⟩, ⟨rfl, T0⟩, ?_⟩
    refine ex_if rfl (fun hd => ?_) (fun hd => ?_)
    · have hd := dt hd
      have hb : 18446744073709551616 ≤ val ws := big2 h (canon_tr hc).1 (by omega)
      refine exr ?_
      refine sw (core_assign (L _ rfl)) ⟨rfl, T0⟩ T0 ?_
      refine sw (core_assign (L _ rfl)) ⟨rfl, T0⟩ T0 ?_
      refine seq_nil ⟨[(2, _), (3, _)], [], ⟨rfl, rfl, T0⟩, trivial, ?_⟩
      refine ex_ret ?_
      refine ⟨.inr rfl, ResVs.cast (.cons (.tmp rfl) (.cons (.tmp rfl) .nil)) ?_⟩
      rw [if_neg (by cases neg <;> simp [sg] <;> omega), if_pos hc, if_neg (by cases neg <;> simp [sg] <;> omega)]
    · have hd := df hd
      refine ex_skip (show Exec _ _ _ _ _ from ?_)
      refine exr ?_
      refine sw (core_assign (L _ rfl)) ⟨rfl, T0⟩ T0 ?_
      refine seq_nil ⟨[(1, _), (4, _)], [(1, _)], ⟨rfl, rfl, T0⟩, ⟨rfl, T0⟩, ?_⟩
      refine ex_seq ?_
      refine exr ?_
      refine sw (core_fieldAddr Tryd.underlying24 rfl Tryd.sizeOf22 (by decide) (by exact rfl) (L _ rfl)) ⟨rfl, T0⟩ ⟨rfl, T0⟩ ?_
      refine sw (core_load1 Tryd.isAgg22 (by rfl) (by rfl) (L _ rfl)) ⟨rfl, T0⟩ ⟨rfl, T0⟩ ?_
      refine sw (core_len Tryd.underlying22 (L _ rfl)) ⟨rfl, T0⟩ T0 ?_
      refine sw (core_move (L _ rfl)) ⟨rfl, T0⟩ T0 ?_
      refine seq_nil ⟨[(1, _), (4, _), (15, _), (16, _), (17, _)], [(1, _)], ⟨rfl, rfl, rfl, rfl, rfl, T0⟩, ⟨rfl, T0⟩, ?_⟩
      refine ex_block ?_
      refine exl (α := Nat) (fun i => [(17, vi (i:Int)), (4, vw (val (ws.take i)))]) (fun i => []) (fun i => i ≤ ws.length) (fun i => ws.length - i) (0) (sl := [(1, _), (15, _), (16, _)]) (hb := [(1, _)]) ?_ ⟨(by first | exact rfl | exact oi (by omega) rfl), (by first | exact rfl | exact oi (by omega) rfl), rfl, rfl, rfl, T0⟩ ⟨rfl, T0⟩ ?_
      · exact Nat.zero_le _
      intro i hi
      refine exr ?_
      refine sw (core_lss (L _ rfl)) ⟨rfl, rfl, T0⟩ T0 ?_
      refine seq_nil ⟨[(1, _), (4, _), (15, _), (16, _), (17, _), (18, _)], [(1, _)], ⟨rfl, rfl, rfl, rfl, rfl, rfl, T0⟩, ⟨rfl, T0⟩, ?_⟩
      refine ex_seq ?_
      refine ex_if rfl (fun he => ?_) (fun he => ?_)
      · have he := dt he
        have hw := h.get (i := i) (by omega)
        refine ex_skip (show Exec _ _ _ _ _ from ?_)
        refine ex_seq ?_
        refine ex_block ?_
        refine exr ?_
        refine sw (core_move (L _ rfl)) ⟨rfl, T0⟩ T0 ?_
        refine sw (ixJ Tryd.underlying22 Tryd.sizeOf53 (j := i) (by first | exact rfl | omega) (by omega) (by simp) (L _ rfl)) ⟨rfl, rfl, T0⟩ T0 ?_
        refine sw (core_loadI1 Tryd.isAgg53 (by first | exact getW (by omega) | rfl) (L _ rfl)) ⟨rfl, T0⟩ T0 ?_
        refine sw (core_assign (L _ rfl)) ⟨rfl, T0⟩ T0 ?_
        refine sw (core_assign (L _ rfl)) ⟨rfl, T0⟩ T0 ?_
        refine seq_nil ⟨[(1, _), (4, _), (5, _), (6, _), (15, _), (16, _), (17, _)], [(1, _)], ⟨rfl, rfl, rfl, rfl, rfl, rfl, rfl, T0⟩, ⟨rfl, T0⟩, ?_⟩
        refine exr0 ?_
        refine sw (core_move (L _ rfl)) ⟨rfl, T0⟩ T0 ?_
        refine sw (core_move (L _ rfl)) ⟨rfl, T0⟩ T0 ?_
        refine sw (core_conv Tryd.underlying53 Tryd.underlying52 (L _ rfl) (fu64 (by omega) (by omega))) ⟨rfl, T0⟩ T0 ?_
        refine sw (core_move (L _ rfl)) ⟨rfl, T0⟩ T0 ?_
        refine sw (core_mul (L _ rfl) (w64 (by omega) (by omega))) ⟨rfl, rfl, T0⟩ T0 ?_
        refine sw (core_shl (L _ rfl) (by omega) (sh2 (i := i) (by omega) hw.1 hw.2)) ⟨rfl, rfl, T0⟩ T0 ?_
        refine sw (core_or (L _ rfl) (or2 h (i := i) (by omega) (by omega))) ⟨rfl, rfl, T0⟩ T0 ?_
        refine sw (core_assign (L _ rfl)) ⟨rfl, T0⟩ T0 ?_
        refine seq_nil ?_
        refine exr0 ?_
        refine sw (core_add (L _ rfl) (w64 (by omega) (by omega))) ⟨rfl, rfl, T0⟩ T0 ?_
        refine sw (core_move (L _ rfl)) ⟨rfl, T0⟩ T0 ?_
        refine seq_nil ?_
        exact ⟨i + 1, (by omega), by omega, le_of ⟨(by first | exact rfl | exact oi (by omega) rfl), (by first | exact rfl | exact oi (by omega) rfl), rfl, rfl, rfl, T0⟩ ⟨rfl, T0⟩⟩
      · have he := df he
        have e : ws.take i = ws := List.take_of_length_le (by omega)
        rw [e]
        have hs := small2 h (by omega)
        refine ex_exit (show Exec _ _ _ _ _ from ?_)
        refine ex_seq ?_
        refine ex_block ?_
        refine exm (sl := [(30, vb (neg && decide (val ws ≤ 9223372036854775808)))]) (sl0 := [(1, _), (4, _)]) (hb := []) (hb0 := [(1, _)]) ⟨rfl, rfl, T0⟩ ⟨rfl, T0⟩ ?_ ?_
        · by_cases hn : neg = true
          · refine sw (core_fieldAddr Tryd.underlying24 rfl Tryd.sizeOf4 (by decide) (by exact rfl) (L _ rfl)) ⟨rfl, T0⟩ ⟨rfl, T0⟩ ?_
            refine sw (core_load1 Tryd.isAgg4 (by rfl) (by rfl) (L _ rfl)) ⟨rfl, T0⟩ ⟨rfl, T0⟩ ?_
            refine sw (core_move (L _ rfl)) ⟨rfl, T0⟩ T0 ?_
            refine swg (g := 33) rfl hn (core_move (L _ rfl)) rfl ⟨rfl, T0⟩ T0 ?_
            refine swg (g := 33) rfl hn (core_leq (L _ rfl)) rfl ⟨rfl, rfl, T0⟩ T0 ?_
            refine sw (core_pick_t hn (L _ rfl)) ⟨rfl, rfl, T0⟩ T0 ?_
            refine sw (core_assign (L _ rfl)) ⟨rfl, T0⟩ T0 ?_
            exact seq_nil ⟨⟨ob rfl (by simp [hn]), rfl, rfl, T0⟩, ⟨rfl, T0⟩⟩
          · refine sw (core_fieldAddr Tryd.underlying24 rfl Tryd.sizeOf4 (by decide) (by exact rfl) (L _ rfl)) ⟨rfl, T0⟩ ⟨rfl, T0⟩ ?_
            refine sw (core_load1 Tryd.isAgg4 (by rfl) (by rfl) (L _ rfl)) ⟨rfl, T0⟩ ⟨rfl, T0⟩ ?_
            refine sw (core_move (L _ rfl)) ⟨rfl, T0⟩ T0 ?_
            refine swn (g := 33) rfl (by simpa using hn) (L _ rfl) rfl ?_
            refine swn (g := 33) rfl (by simpa using hn) (L _ rfl) rfl ?_
            refine sw (core_pick_f (by simpa using hn) (L _ rfl)) ⟨rfl, rfl, T0⟩ T0 ?_
            refine sw (core_assign (L _ rfl)) ⟨rfl, T0⟩ T0 ?_
            exact seq_nil ⟨⟨ob rfl (by simp [hn]), rfl, rfl, T0⟩, ⟨rfl, T0⟩⟩
        refine ex_if rfl (fun hf => ?_) (fun hf => ?_)
        · have hf : neg = true ∧ val ws ≤ 9223372036854775808 := by simpa using hf
          refine exr ?_
          refine sw (core_move (L _ rfl)) ⟨rfl, T0⟩ T0 ?_
          refine sw (core_neg (L _ rfl) wu64) ⟨rfl, T0⟩ T0 ?_
          refine sw (core_conv Tryd.underlying52 Tryd.underlying3 (L _ rfl) (show _ = -(val ws) by rw [IntKind.wrap_i64]; omega)) ⟨rfl, T0⟩ T0 ?_
          refine sw (core_assign (L _ rfl)) ⟨rfl, T0⟩ T0 ?_
          refine sw (core_assign (L _ rfl)) ⟨rfl, T0⟩ T0 ?_
          refine seq_nil ⟨[(2, _), (3, _)], [], ⟨rfl, rfl, T0⟩, trivial, ?_⟩
          refine ex_ret ?_
          refine ⟨.inr rfl, ResVs.cast (.cons (.tmp rfl) (.cons (.tmp rfl) .nil)) ?_⟩
          have hx : -9223372036854775808 ≤ sg neg (val ws) ∧ sg neg (val ws) < 9223372036854775808 := by rw [hf.1]; simp [sg]; omega
          rw [if_pos ⟨hc, hx⟩, if_pos hc, if_pos hx, hf.1]; simp [sg]
        · have hf : neg = true → ¬ val ws ≤ 9223372036854775808 := by intro hn; simpa [hn] using hf
          refine exm (sl := [(40, vb (!neg && decide (val ws < 9223372036854775808)))]) (sl0 := [(4, _)]) (hb := []) (hb0 := []) ⟨rfl, T0⟩ T0 ?_ ?_
          · by_cases hn : neg = true
            · refine sw (core_fieldAddr Tryd.underlying24 rfl Tryd.sizeOf4 (by decide) (by exact rfl) (L _ rfl)) ⟨rfl, T0⟩ ⟨rfl, T0⟩ ?_
              refine sw (core_load1 Tryd.isAgg4 (by rfl) (by rfl) (L _ rfl)) ⟨rfl, T0⟩ ⟨rfl, T0⟩ ?_
              refine sw (core_not (L _ rfl)) ⟨rfl, T0⟩ T0 ?_
              refine sw (core_move (L _ rfl)) ⟨rfl, T0⟩ T0 ?_
              refine swn (g := 44) rfl (by simp [hn]) (L _ rfl) rfl ?_
              refine swn (g := 44) rfl (by simp [hn]) (L _ rfl) rfl ?_
              refine sw (core_pick_f (by simp [hn]) (L _ rfl)) ⟨rfl, rfl, T0⟩ T0 ?_
              refine sw (core_assign (L _ rfl)) ⟨rfl, T0⟩ T0 ?_
              exact seq_nil ⟨⟨ob rfl (by simp [hn]), rfl, T0⟩, T0⟩
            · refine sw (core_fieldAddr Tryd.underlying24 rfl Tryd.sizeOf4 (by decide) (by exact rfl) (L _ rfl)) ⟨rfl, T0⟩ ⟨rfl, T0⟩ ?_
              refine sw (core_load1 Tryd.isAgg4 (by rfl) (by rfl) (L _ rfl)) ⟨rfl, T0⟩ ⟨rfl, T0⟩ ?_
              refine sw (core_not (L _ rfl)) ⟨rfl, T0⟩ T0 ?_
              refine sw (core_move (L _ rfl)) ⟨rfl, T0⟩ T0 ?_
              refine swg (g := 44) rfl (by simp [hn]) (core_move (L _ rfl)) rfl ⟨rfl, T0⟩ T0 ?_
              refine swg (g := 44) rfl (by simp [hn]) (core_lss (L _ rfl)) rfl ⟨rfl, rfl, T0⟩ T0 ?_
              refine sw (core_pick_t (by simp [hn]) (L _ rfl)) ⟨rfl, rfl, T0⟩ T0 ?_
              refine sw (core_assign (L _ rfl)) ⟨rfl, T0⟩ T0 ?_
              exact seq_nil ⟨⟨ob rfl (by simp [hn]), rfl, T0⟩, T0⟩
          refine ex_if rfl (fun hg => ?_) (fun hg => ?_)
          · have hg : neg = false ∧ val ws < 9223372036854775808 := by simpa using hg
            refine exr ?_
            refine sw (core_move (L _ rfl)) ⟨rfl, T0⟩ T0 ?_
            refine sw (core_conv Tryd.underlying52 Tryd.underlying3 (L _ rfl) (w64 (by omega) (by omega))) ⟨rfl, T0⟩ T0 ?_
            refine sw (core_assign (L _ rfl)) ⟨rfl, T0⟩ T0 ?_
            refine sw (core_assign (L _ rfl)) ⟨rfl, T0⟩ T0 ?_
            refine seq_nil ⟨[(2, _), (3, _)], [], ⟨rfl, rfl, T0⟩, trivial, ?_⟩
            refine ex_ret ?_
            refine ⟨.inr rfl, ResVs.cast (.cons (.tmp rfl) (.cons (.tmp rfl) .nil)) ?_⟩
            have hx : -9223372036854775808 ≤ sg neg (val ws) ∧ sg neg (val ws) < 9223372036854775808 := by rw [hg.1]; simp [sg]; omega
            rw [if_pos ⟨hc, hx⟩, if_pos hc, if_pos hx, hg.1]; simp [sg]
          · have hg : neg = false → ¬ val ws < 9223372036854775808 := by intro hn; simpa [hn] using hg
            refine ex_skip (show Exec _ _ _ _ _ from ?_)
            refine exr ?_
            refine sw (core_assign (L _ rfl)) ⟨rfl, T0⟩ T0 ?_
            refine sw (core_assign (L _ rfl)) ⟨rfl, T0⟩ T0 ?_
            refine seq_nil ⟨[(2, _), (3, _)], [], ⟨rfl, rfl, T0⟩, trivial, ?_⟩
            refine ex_ret ?_
            refine ⟨.inr rfl, ResVs.cast (.cons (.tmp rfl) (.cons (.tmp rfl) .nil)) ?_⟩
            have hx : ¬ (-9223372036854775808 ≤ sg neg (val ws) ∧ sg neg (val ws) < 9223372036854775808) := by cases neg <;> simp [sg] at hf hg ⊢ <;> omega
            rw [if_pos hc, if_neg hx, if_neg (fun h => hx h.2)]

end Go.Proofs.YtebkelnibecmjaaDoor.N
namespace Go.Proofs.YtebkelnibecmjaaDoor.N
open Go Go.Proofs.YtebkelnibecmjaaDoor.SH Go.Proofs.YtebkelnibecmjaaDoor.NumA
set_option maxRecDepth 100000 in
set_option maxHeartbeats 4000000 in
theorem ris_says (neg : Bool) (ws : List Int) (hl : ws.length < 1000000000) : Says E 17 [pI neg ws] (bZ (canon neg ws)) := by
  refine says_of (xs := [bZ (canon neg ws)]) Tryd.func17 rfl Tryd.ntmps17 Tryd.results17 (by simp) fun F hG hX0 hnt hdf P0 => ?_
  have L := ltn hnt
  have hX : ∀ b, F.X b → E.ng ≤ b := fun b h => absurd h (hX0 b)
  have hN := ng_le hG
  refine exr ?_
  refine swb (core_box (k := 1) (n := 2) (.pagg (.cons (.cons .nil))) rfl rfl (P0 _ rfl) (L _ rfl)) ⟨rfl, T0⟩ T0 ⟨rfl, rfl⟩ ?_
  refine sw (core_assign (L _ rfl)) ⟨rfl, T0⟩ T0 ?_
  refine seq_nil ⟨[(1, _)], [(1, _)], ⟨rfl, T0⟩, ⟨rfl, T0⟩, ?_⟩
  refine exr ?_
  refine sw (core_fieldAddr Tryd.underlying24 rfl Tryd.sizeOf22 (by decide) (by exact rfl) (L _ rfl)) ⟨rfl, T0⟩ ⟨rfl, T0⟩ ?_
  refine sw (core_load1 Tryd.isAgg22 (by rfl) (by rfl) (L _ rfl)) ⟨rfl, T0⟩ ⟨rfl, T0⟩ ?_
  refine sw (core_len Tryd.underlying22 (L _ rfl)) ⟨rfl, T0⟩ T0 ?_
  refine sw (core_assign (L _ rfl)) ⟨rfl, T0⟩ T0 ?_
  refine seq_nil ⟨[(1, _), (3, _)], [(1, _)], ⟨rfl, rfl, T0⟩, ⟨rfl, T0⟩, ?_⟩
  refine ex_seq ?_
  refine exr ?_
  refine sw (core_move (L _ rfl)) ⟨rfl, T0⟩ T0 ?_
  refine sw (core_eql (L _ rfl)) ⟨rfl, rfl, T0⟩ T0 ?_
  refine seq_nil ⟨[(1, _), (3, _), (8, _)], [(1, _)], ⟨rfl, rfl, rfl, T0⟩, ⟨rfl, T0⟩, ?_⟩
  refine ex_if rfl (fun h0 => ?_) (fun h0 => ?_)
  · refine exr ?_
    refine sw (core_fieldAddr Tryd.underlying24 rfl Tryd.sizeOf4 (by decide) (by exact rfl) (L _ rfl)) ⟨rfl, T0⟩ ⟨rfl, T0⟩ ?_
    refine sw (core_load1 Tryd.isAgg4 (by rfl) (by rfl) (L _ rfl)) ⟨rfl, T0⟩ ⟨rfl, T0⟩ ?_
    refine sw (core_not (L _ rfl)) ⟨rfl, T0⟩ T0 ?_
    refine sw (core_assign (L _ rfl)) ⟨rfl, T0⟩ T0 ?_
    refine seq_nil ⟨[(2, _)], [], ⟨rfl, T0⟩, trivial, ?_⟩
    refine ex_ret ?_
    refine ⟨.inr rfl, ResVs.cast (.cons (.tmp rfl) .nil) ?_⟩
    have h0 := dt h0; have h1 : ws.length = 0 := by omega
    simp only [canon, h1, if_true]
  · have h0 := df h0
    refine ex_skip (show Exec _ _ _ _ _ from ?_)
    refine exr ?_
    refine sw (core_fieldAddr Tryd.underlying24 rfl Tryd.sizeOf22 (by decide) (by exact rfl) (L _ rfl)) ⟨rfl, T0⟩ ⟨rfl, T0⟩ ?_
    refine sw (core_load1 Tryd.isAgg22 (by rfl) (by rfl) (L _ rfl)) ⟨rfl, T0⟩ ⟨rfl, T0⟩ ?_
    refine sw (core_move (L _ rfl)) ⟨rfl, T0⟩ T0 ?_
    refine sw (core_sub (L _ rfl) (w64 (by omega) (by omega))) ⟨rfl, rfl, T0⟩ T0 ?_
    refine sw (ixJ Tryd.underlying22 Tryd.sizeOf53 (j := ws.length - 1) (by first | exact rfl | omega) (by omega) (by simp) (L _ rfl)) ⟨rfl, rfl, T0⟩ T0 ?_
    refine sw (core_loadI1 Tryd.isAgg53 (by first | exact getW (by omega) | rfl) (L _ rfl)) ⟨rfl, T0⟩ T0 ?_
    refine sw (core_neq (L _ rfl)) ⟨rfl, rfl, T0⟩ T0 ?_
    refine sw (core_assign (L _ rfl)) ⟨rfl, T0⟩ T0 ?_
    refine seq_nil ⟨[(2, _)], [], ⟨rfl, T0⟩, trivial, ?_⟩
    refine ex_ret ?_
    refine ⟨.inr rfl, ResVs.cast (.cons (.tmp rfl) .nil) ?_⟩
    have h1 : ws.length ≠ 0 := by omega
    simp only [canon, h1, if_false]

set_option maxRecDepth 100000 in
set_option maxHeartbeats 4000000 in
theorem rsame_says (m n : Bool) (ws vs : List Int) (hl : ws.length < 1000000000) (hl2 : vs.length < 1000000000) : Says E 18 [pI m ws, pI n vs] (bZ (decide (m = n ∧ ws = vs))) := by
  refine says_of (xs := [bZ (decide (m = n ∧ ws = vs))]) Tryd.func18 rfl Tryd.ntmps18 Tryd.results18 (by simp) fun F hG hX0 hnt hdf P0 => ?_
  have L := ltn hnt
  have hX : ∀ b, F.X b → E.ng ≤ b := fun b h => absurd h (hX0 b)
  have hN := ng_le hG
  refine exr ?_
  refine swb (core_box (k := 2) (n := 2) (.pagg (.cons (.cons .nil))) rfl rfl (P0 _ rfl) (L _ rfl)) ⟨rfl, T0⟩ T0 ⟨rfl, rfl⟩ ?_
  refine swb (core_box (k := 3) (n := 2) (.pagg (.cons (.cons .nil))) rfl rfl (P0 _ rfl) (L _ rfl)) ⟨rfl, T0⟩ T0 ⟨rfl, rfl⟩ ?_
  refine sw (core_assign (L _ rfl)) ⟨rfl, T0⟩ T0 ?_
  refine seq_nil ⟨[(2, _), (3, _)], [(2, _), (3, _)], ⟨rfl, rfl, T0⟩, ⟨rfl, rfl, T0⟩, ?_⟩
  refine ex_seq ?_
  refine exm (sl := [(19, vb (!decide (m = n ∧ ws.length = vs.length)))]) (sl0 := [(2, _), (3, _)]) (hb := []) (hb0 := [(2, _), (3, _)]) ⟨rfl, rfl, T0⟩ ⟨rfl, rfl, T0⟩ ?_ ?_
  · by_cases hc : m = n
    · refine sw (core_fieldAddr Tryd.underlying24 rfl Tryd.sizeOf4 (by decide) (by exact rfl) (L _ rfl)) ⟨rfl, T0⟩ ⟨rfl, T0⟩ ?_
      refine sw (core_load1 Tryd.isAgg4 (by rfl) (by rfl) (L _ rfl)) ⟨rfl, T0⟩ ⟨rfl, T0⟩ ?_
      refine sw (core_fieldAddr Tryd.underlying24 rfl Tryd.sizeOf4 (by decide) (by exact rfl) (L _ rfl)) ⟨rfl, T0⟩ ⟨rfl, T0⟩ ?_
      refine sw (core_load1 Tryd.isAgg4 (by rfl) (by rfl) (L _ rfl)) ⟨rfl, T0⟩ ⟨rfl, T0⟩ ?_
      refine sw (core_bne Tryd.underlying4 (L _ rfl)) ⟨rfl, rfl, T0⟩ T0 ?_
      refine sw (core_move (L _ rfl)) ⟨rfl, T0⟩ T0 ?_
      refine swg (g := 11) rfl (by simp [hc]) (core_fieldAddr Tryd.underlying24 rfl Tryd.sizeOf22 (by decide) (by exact rfl) (L _ rfl)) rfl ⟨rfl, T0⟩ ⟨rfl, T0⟩ ?_
      refine swg (g := 11) rfl (by simp [hc]) (core_load1 Tryd.isAgg22 (by rfl) (by rfl) (L _ rfl)) rfl ⟨rfl, T0⟩ ⟨rfl, T0⟩ ?_
      refine swg (g := 11) rfl (by simp [hc]) (core_len Tryd.underlying22 (L _ rfl)) rfl ⟨rfl, T0⟩ T0 ?_
      refine swg (g := 11) rfl (by simp [hc]) (core_fieldAddr Tryd.underlying24 rfl Tryd.sizeOf22 (by decide) (by exact rfl) (L _ rfl)) rfl ⟨rfl, T0⟩ ⟨rfl, T0⟩ ?_
      refine swg (g := 11) rfl (by simp [hc]) (core_load1 Tryd.isAgg22 (by rfl) (by rfl) (L _ rfl)) rfl ⟨rfl, T0⟩ ⟨rfl, T0⟩ ?_
      refine swg (g := 11) rfl (by simp [hc]) (core_len Tryd.underlying22 (L _ rfl)) rfl ⟨rfl, T0⟩ T0 ?_
      refine swg (g := 11) rfl (by simp [hc]) (core_neq (L _ rfl)) rfl ⟨rfl, rfl, T0⟩ T0 ?_
      refine sw (core_pick_f (by simp [hc]) (L _ rfl)) ⟨rfl, rfl, T0⟩ T0 ?_
      exact seq_nil ⟨⟨ob rfl (by simp [hc]; omega), rfl, rfl, T0⟩, ⟨rfl, rfl, T0⟩⟩
    · refine sw (core_fieldAddr Tryd.underlying24 rfl Tryd.sizeOf4 (by decide) (by exact rfl) (L _ rfl)) ⟨rfl, T0⟩ ⟨rfl, T0⟩ ?_
      refine sw (core_load1 Tryd.isAgg4 (by rfl) (by rfl) (L _ rfl)) ⟨rfl, T0⟩ ⟨rfl, T0⟩ ?_
      refine sw (core_fieldAddr Tryd.underlying24 rfl Tryd.sizeOf4 (by decide) (by exact rfl) (L _ rfl)) ⟨rfl, T0⟩ ⟨rfl, T0⟩ ?_
      refine sw (core_load1 Tryd.isAgg4 (by rfl) (by rfl) (L _ rfl)) ⟨rfl, T0⟩ ⟨rfl, T0⟩ ?_
      refine sw (core_bne Tryd.underlying4 (L _ rfl)) ⟨rfl, rfl, T0⟩ T0 ?_
      refine sw (core_move (L _ rfl)) ⟨rfl, T0⟩ T0 ?_
      refine swn (g := 11) rfl (by simpa using hc) (L _ rfl) rfl ?_
      refine swn (g := 11) rfl (by simpa using hc) (L _ rfl) rfl ?_
      refine swn (g := 11) rfl (by simpa using hc) (L _ rfl) rfl ?_
      refine swn (g := 11) rfl (by simpa using hc) (L _ rfl) rfl ?_
      refine swn (g := 11) rfl (by simpa using hc) (L _ rfl) rfl ?_
      refine swn (g := 11) rfl (by simpa using hc) (L _ rfl) rfl ?_
      refine swn (g := 11) rfl (by simpa using hc) (L _ rfl) rfl ?_
      refine sw (core_pick_t (by simpa using hc) (L _ rfl)) ⟨rfl, rfl, T0⟩ T0 ?_
      exact seq_nil ⟨⟨ob rfl (by simp [hc]), rfl, rfl, T0⟩, ⟨rfl, rfl, T0⟩⟩
  refine ex_if rfl (fun hd => ?_) (fun hd => ?_)
  · have hd : ¬ (m = n ∧ ws.length = vs.length) := by rintro ⟨h1, h2⟩; simp [h1, h2] at hd
    refine exr ?_
    refine sw (core_assign (L _ rfl)) ⟨rfl, T0⟩ T0 ?_
    refine seq_nil ⟨[(4, _)], [], ⟨rfl, T0⟩, trivial, ?_⟩
    refine ex_ret ?_
    refine ⟨.inr rfl, ResVs.cast (.cons (.tmp rfl) .nil) ?_⟩
    rw [eq_comm]; congr 3; simp only [decide_eq_false_iff_not]; exact fun h => hd ⟨h.1, by rw [h.2]⟩
  · have hd : m = n ∧ ws.length = vs.length := by simpa using hd
    refine ex_skip (show Exec _ _ _ _ _ from ?_)
    refine ex_seq ?_
    refine exr ?_
    refine sw (core_assign (L _ rfl)) ⟨rfl, T0⟩ T0 ?_
    refine seq_nil ⟨[(2, _), (3, _), (5, _)], [(2, _), (3, _)], ⟨rfl, rfl, rfl, T0⟩, ⟨rfl, rfl, T0⟩, ?_⟩
    refine ex_block ?_
    refine exl (α := Nat) (fun i => [(5, vi (i:Int))]) (fun i => []) (fun i => i ≤ ws.length ∧ ws.take i = vs.take i) (fun i => ws.length - i) (0) (sl := [(2, _), (3, _)]) (hb := [(2, _), (3, _)]) ?_ ⟨(by first | exact rfl | exact oi (by omega) rfl), rfl, rfl, T0⟩ ⟨rfl, rfl, T0⟩ ?_
    · exact ⟨Nat.zero_le _, rfl⟩
    intro i hi
    refine ex_seq ?_
    refine exr ?_
    refine sw (core_move (L _ rfl)) ⟨rfl, T0⟩ T0 ?_
    refine sw (core_fieldAddr Tryd.underlying24 rfl Tryd.sizeOf22 (by decide) (by exact rfl) (L _ rfl)) ⟨rfl, T0⟩ ⟨rfl, T0⟩ ?_
    refine sw (core_load1 Tryd.isAgg22 (by rfl) (by rfl) (L _ rfl)) ⟨rfl, T0⟩ ⟨rfl, T0⟩ ?_
    refine sw (core_len Tryd.underlying22 (L _ rfl)) ⟨rfl, T0⟩ T0 ?_
    refine sw (core_lss (L _ rfl)) ⟨rfl, rfl, T0⟩ T0 ?_
    refine seq_nil ⟨[(2, _), (3, _), (5, _), (24, _)], [(2, _), (3, _)], ⟨rfl, rfl, rfl, rfl, T0⟩, ⟨rfl, rfl, T0⟩, ?_⟩
    refine ex_if rfl (fun he => ?_) (fun he => ?_)
    · have he := dt he
      refine ex_skip (show Exec _ _ _ _ _ from ?_)
      refine ex_seq ?_
      refine ex_block ?_
      refine exd (by rfl) ?_
      refine sw (core_fieldAddr Tryd.underlying24 rfl Tryd.sizeOf22 (by decide) (by exact rfl) (L _ rfl)) ⟨rfl, T0⟩ ⟨rfl, T0⟩ ?_
      refine sw (core_load1 Tryd.isAgg22 (by rfl) (by rfl) (L _ rfl)) ⟨rfl, T0⟩ ⟨rfl, T0⟩ ?_
      refine sw (core_move (L _ rfl)) ⟨rfl, T0⟩ T0 ?_
      refine sw (ixJ Tryd.underlying22 Tryd.sizeOf53 (j := i) (by first | exact rfl | omega) (by omega) (by simp) (L _ rfl)) ⟨rfl, rfl, T0⟩ T0 ?_
      refine sw (core_loadI1 Tryd.isAgg53 (by first | exact getW (by omega) | rfl) (L _ rfl)) ⟨rfl, T0⟩ T0 ?_
      refine sw (core_fieldAddr Tryd.underlying24 rfl Tryd.sizeOf22 (by decide) (by exact rfl) (L _ rfl)) ⟨rfl, T0⟩ ⟨rfl, T0⟩ ?_
      refine sw (core_load1 Tryd.isAgg22 (by rfl) (by rfl) (L _ rfl)) ⟨rfl, T0⟩ ⟨rfl, T0⟩ ?_
      refine sw (core_move (L _ rfl)) ⟨rfl, T0⟩ T0 ?_
      refine sw (ixJ Tryd.underlying22 Tryd.sizeOf53 (j := i) (by first | exact rfl | omega) (by omega) (by simp) (L _ rfl)) ⟨rfl, rfl, T0⟩ T0 ?_
      refine sw (core_loadI1 Tryd.isAgg53 (by first | exact getW (by omega) | rfl) (L _ rfl)) ⟨rfl, T0⟩ T0 ?_
      refine sw (core_neq (L _ rfl)) ⟨rfl, rfl, T0⟩ T0 ?_
      refine seq_nil ⟨aoks [⟨[2], [2], [27], []⟩, ⟨[27], [2], [28], []⟩, ⟨[5], [], [29], []⟩, ⟨[28, 29], [], [30], []⟩, ⟨[30], [], [31], []⟩, ⟨[3], [3], [32], []⟩, ⟨[32], [3], [33], []⟩, ⟨[5], [], [34], []⟩, ⟨[33, 34], [], [35], []⟩, ⟨[35], [], [36], []⟩, ⟨[31, 36], [], [37], []⟩] (by rfl) (by rfl) (by decide), [(2, _), (3, _), (5, _), (37, _)], [(2, _), (3, _)], ⟨rfl, rfl, rfl, rfl, T0⟩, ⟨rfl, rfl, T0⟩, ?_⟩
      refine ex_if rfl (fun hf => ?_) (fun hf => ?_)
      · have hf := ndt hf
        refine exr ?_
        refine sw (core_assign (L _ rfl)) ⟨rfl, T0⟩ T0 ?_
        refine seq_nil ⟨[(4, _)], [], ⟨rfl, T0⟩, trivial, ?_⟩
        refine ex_ret ?_
        refine ⟨.inr rfl, ResVs.cast (.cons (.tmp rfl) .nil) ?_⟩
        rw [eq_comm]; congr 3; simp only [decide_eq_false_iff_not]; exact fun h => hf (by rw [h.2])
      · have hf := ndf hf
        refine ex_skip (show Exec _ _ _ _ _ from ?_)
        refine exr0 ?_
        refine sw (core_move (L _ rfl)) ⟨rfl, T0⟩ T0 ?_
        refine sw (core_add (L _ rfl) (w64 (by omega) (by omega))) ⟨rfl, rfl, T0⟩ T0 ?_
        refine sw (core_assign (L _ rfl)) ⟨rfl, T0⟩ T0 ?_
        refine seq_nil ?_
        exact ⟨i + 1, ⟨by omega, take_succ_eq (by omega) hd.2 hi.2 hf⟩, by omega, le_of ⟨(by first | exact rfl | exact oi (by omega) rfl), rfl, rfl, T0⟩ ⟨rfl, rfl, T0⟩⟩
    · have he := df he
      refine ex_exit (show Exec _ _ _ _ _ from ?_)
      refine exr ?_
      refine sw (core_assign (L _ rfl)) ⟨rfl, T0⟩ T0 ?_
      refine seq_nil ⟨[(4, _)], [], ⟨rfl, T0⟩, trivial, ?_⟩
      refine ex_ret ?_
      refine ⟨.inr rfl, ResVs.cast (.cons (.tmp rfl) .nil) ?_⟩
      have e : ws = vs := by have := hi.2; rwa [List.take_of_length_le (by omega), List.take_of_length_le (by omega)] at this
      rw [eq_comm]; congr 3; simp [hd.1, e]

set_option maxRecDepth 100000 in
set_option maxHeartbeats 4000000 in
theorem rtrim_says (ws : List Int) (hl : ws.length < 1000000000) : Says E 76 [pW ws] (pW (trim ws)) := by
  refine says_of (xs := [pW (trim ws)]) Tryd.func76 rfl Tryd.ntmps76 Tryd.results76 (by simp) fun F hG hX0 hnt hdf P0 => ?_
  have L := ltn hnt
  have hX : ∀ b, F.X b → E.ng ≤ b := fun b h => absurd h (hX0 b)
  have hN := ng_le hG
  refine exr ?_
  refine sw (core_assign (L _ rfl)) ⟨rfl, T0⟩ T0 ?_
  refine seq_nil ⟨[(0, _)], [], ⟨rfl, T0⟩, trivial, ?_⟩
  refine exr ?_
  refine sw (core_move (L _ rfl)) ⟨rfl, T0⟩ T0 ?_
  refine sw (core_len Tryd.underlying22 (L _ rfl)) ⟨rfl, T0⟩ T0 ?_
  refine sw (core_assign (L _ rfl)) ⟨rfl, T0⟩ T0 ?_
  refine seq_nil ⟨[(0, _), (3, _)], [], ⟨rfl, rfl, T0⟩, trivial, ?_⟩
  refine ex_seq ?_
  refine ex_block ?_
  refine exl (α := Nat) (fun n => [(3, vi (n:Int))]) (fun n => []) (fun n => n ≤ ws.length ∧ trimN ws n = trimN ws ws.length) (fun n => n) (ws.length) (sl := [(0, _)]) (hb := []) ?_ ⟨(by first | exact rfl | exact oi (by omega) rfl), rfl, T0⟩ T0 ?_
  · exact ⟨Nat.le_refl _, rfl⟩
  intro n hn
  refine ex_seq ?_
  refine exm (sl := [(15, vb (decide (0 < n ∧ ws.getD (n - 1) 0 = 0)))]) (sl0 := [(0, _), (3, _)]) (hb := []) (hb0 := []) ⟨rfl, rfl, T0⟩ T0 ?_ ?_
  · by_cases h : n = 0
    · refine sw (core_move (L _ rfl)) ⟨rfl, T0⟩ T0 ?_
      refine sw (core_gtr (L _ rfl)) ⟨rfl, rfl, T0⟩ T0 ?_
      refine sw (core_move (L _ rfl)) ⟨rfl, T0⟩ T0 ?_
      refine swn (g := 8) rfl (by simp [h]) (L _ rfl) rfl ?_
      refine swn (g := 8) rfl (by simp [h]) (L _ rfl) rfl ?_
      refine swn (g := 8) rfl (by simp [h]) (L _ rfl) rfl ?_
      refine swn (g := 8) rfl (by simp [h]) (L _ rfl) rfl ?_
      refine swn (g := 8) rfl (by simp [h]) (L _ rfl) rfl ?_
      refine swn (g := 8) rfl (by simp [h]) (L _ rfl) rfl ?_
      refine sw (core_pick_f (by simp [h]) (L _ rfl)) ⟨rfl, rfl, T0⟩ T0 ?_
      exact seq_nil ⟨⟨ob rfl (by simp [h]), rfl, rfl, T0⟩, T0⟩
    · refine sw (core_move (L _ rfl)) ⟨rfl, T0⟩ T0 ?_
      refine sw (core_gtr (L _ rfl)) ⟨rfl, rfl, T0⟩ T0 ?_
      refine sw (core_move (L _ rfl)) ⟨rfl, T0⟩ T0 ?_
      refine swg (g := 8) rfl (by simp; omega) (core_move (L _ rfl)) rfl ⟨rfl, T0⟩ T0 ?_
      refine swg (g := 8) rfl (by simp; omega) (core_move (L _ rfl)) rfl ⟨rfl, T0⟩ T0 ?_
      refine swg (g := 8) rfl (by simp; omega) (core_sub (L _ rfl) (w64 (by omega) (by omega))) rfl ⟨rfl, rfl, T0⟩ T0 ?_
      refine swg (g := 8) rfl (by simp; omega) (ixJ Tryd.underlying22 Tryd.sizeOf53 (j := n - 1) (by first | exact rfl | omega) (by omega) (by simp) (L _ rfl)) rfl ⟨rfl, rfl, T0⟩ T0 ?_
      refine swg (g := 8) rfl (by simp; omega) (core_loadI1 Tryd.isAgg53 (by first | exact getW (by omega) | rfl) (L _ rfl)) rfl ⟨rfl, T0⟩ T0 ?_
      refine swg (g := 8) rfl (by simp; omega) (core_eql (L _ rfl)) rfl ⟨rfl, rfl, T0⟩ T0 ?_
      refine sw (core_pick_t (by simp; omega) (L _ rfl)) ⟨rfl, rfl, T0⟩ T0 ?_
      exact seq_nil ⟨⟨ob rfl (by simp; omega), rfl, rfl, T0⟩, T0⟩
  refine ex_if rfl (fun hc => ?_) (fun hc => ?_)
  · have hc := dt hc
    refine ex_skip (show Exec _ _ _ _ _ from ?_)
    refine ex_block ?_
    refine exr0 ?_
    refine sw (core_move (L _ rfl)) ⟨rfl, T0⟩ T0 ?_
    refine sw (core_sub (L _ rfl) (w64 (by omega) (by omega))) ⟨rfl, rfl, T0⟩ T0 ?_
    refine sw (core_assign (L _ rfl)) ⟨rfl, T0⟩ T0 ?_
    refine seq_nil ?_
    exact ⟨n - 1, ⟨by omega, by rw [← hn.2]; conv => rhs; rw [show n = (n - 1) + 1 by omega]; simp only [trimN, hc.2, if_true]⟩, by omega, le_of ⟨(by first | exact rfl | exact oi (by omega) rfl), rfl, T0⟩ T0⟩
  · have hc := df hc
    have e : trimN ws ws.length = n := by
      rw [← hn.2]
      cases n with
      | zero => rfl
      | succ n => simp only [trimN]; rw [if_neg]; intro h; exact hc ⟨by omega, by simpa using h⟩
    have e1 : trim ws = ws.take n := by rw [trim, e]
    refine ex_exit (show Exec _ _ _ _ _ from ?_)
    refine exr ?_
    refine sw (core_move (L _ rfl)) ⟨rfl, T0⟩ T0 ?_
    refine sw (core_move (L _ rfl)) ⟨rfl, T0⟩ T0 ?_
    refine sw (slI_hi Tryd.underlying22 Tryd.sizeOf53 (h := n) (by first | exact rfl | omega) (by omega) (by rw [Nat.mul_one, encW_take]) (L _ rfl)) ⟨rfl, rfl, T0⟩ T0 ?_
    refine sw (core_assign (L _ rfl)) ⟨rfl, T0⟩ T0 ?_
    refine seq_nil ⟨[(2, _)], [], ⟨rfl, T0⟩, trivial, ?_⟩
    refine ex_ret ?_
    refine ⟨.inr rfl, ResVs.cast (.cons (.tmp rfl) .nil) ?_⟩
    rw [e1]; simp [Nat.min_eq_left hn.1]

set_option maxRecDepth 100000 in
set_option maxHeartbeats 4000000 in
theorem rword_says (ws : List Int) (hl : ws.length < 1000000000) (h : Wd ws) (i : Nat) (hi : i < 1000000000) : Says E 54 [pW ws, vZ i] (uZ (ws.getD i 0)) := by
  refine says_of (xs := [uZ (ws.getD i 0)]) Tryd.func54 rfl Tryd.ntmps54 Tryd.results54 (by simp) fun F hG hX0 hnt hdf P0 => ?_
  have L := ltn hnt
  have hX : ∀ b, F.X b → E.ng ≤ b := fun b h => absurd h (hX0 b)
  have hN := ng_le hG
  refine exr ?_
  refine sw (core_assign (L _ rfl)) ⟨rfl, T0⟩ T0 ?_
  refine seq_nil ⟨[(0, _), (1, _)], [], ⟨rfl, rfl, T0⟩, trivial, ?_⟩
  refine ex_seq ?_
  refine exr ?_
  refine sw (core_move (L _ rfl)) ⟨rfl, T0⟩ T0 ?_
  refine sw (core_move (L _ rfl)) ⟨rfl, T0⟩ T0 ?_
  refine sw (core_len Tryd.underlying22 (L _ rfl)) ⟨rfl, T0⟩ T0 ?_
  refine sw (core_lss (L _ rfl)) ⟨rfl, rfl, T0⟩ T0 ?_
  refine seq_nil ⟨[(0, _), (1, _), (8, _)], [], ⟨rfl, rfl, rfl, T0⟩, trivial, ?_⟩
  refine ex_if rfl (fun hc => ?_) (fun hc => ?_)
  · have hc := dt hc
    have hw := h.get (i := i) (by omega)
    refine exr ?_
    refine sw (core_move (L _ rfl)) ⟨rfl, T0⟩ T0 ?_
    refine sw (core_move (L _ rfl)) ⟨rfl, T0⟩ T0 ?_
    refine sw (ixJ Tryd.underlying22 Tryd.sizeOf53 (j := i) (by first | exact rfl | omega) (by omega) (by simp) (L _ rfl)) ⟨rfl, rfl, T0⟩ T0 ?_
    refine sw (core_loadI1 Tryd.isAgg53 (by first | exact getW (by omega) | rfl) (L _ rfl)) ⟨rfl, T0⟩ T0 ?_
    refine sw (core_conv Tryd.underlying53 Tryd.underlying52 (L _ rfl) (fu64 (by omega) (by omega))) ⟨rfl, T0⟩ T0 ?_
    refine sw (core_assign (L _ rfl)) ⟨rfl, T0⟩ T0 ?_
    refine seq_nil ⟨[(4, _)], [], ⟨rfl, T0⟩, trivial, ?_⟩
    refine ex_ret ?_
    refine ⟨.inr rfl, ResVs.cast (.cons (.tmp rfl) .nil) ?_⟩
    rfl
  · have hc := df hc
    refine ex_skip (show Exec _ _ _ _ _ from ?_)
    refine exr ?_
    refine sw (core_assign (L _ rfl)) ⟨rfl, T0⟩ T0 ?_
    refine seq_nil ⟨[(4, _)], [], ⟨rfl, T0⟩, trivial, ?_⟩
    refine ex_ret ?_
    refine ⟨.inr rfl, ResVs.cast (.cons (.tmp rfl) .nil) ?_⟩
    rw [List.getD_eq_getElem?_getD, List.getElem?_eq_none (by omega)]; rfl

set_option maxRecDepth 100000 in
set_option maxHeartbeats 4000000 in
theorem rbitsOf_says (ws : List Int) (hl : ws.length < 1000000000) (h : Wd ws) (ht : Tr ws) : Says E 58 [pW ws] (vZ (bl (val ws).toNat)) := by
  refine says_of (xs := [vZ (bl (val ws).toNat)]) Tryd.func58 rfl Tryd.ntmps58 Tryd.results58 (by simp) fun F hG hX0 hnt hdf P0 => ?_
  have L := ltn hnt
  have hX : ∀ b, F.X b → E.ng ≤ b := fun b h => absurd h (hX0 b)
  have hN := ng_le hG
  refine exr ?_
  refine sw (core_assign (L _ rfl)) ⟨rfl, T0⟩ T0 ?_
  refine seq_nil ⟨[(0, _)], [], ⟨rfl, T0⟩, trivial, ?_⟩
  refine ex_seq ?_
  refine exr ?_
  refine sw (core_move (L _ rfl)) ⟨rfl, T0⟩ T0 ?_
  refine sw (core_len Tryd.underlying22 (L _ rfl)) ⟨rfl, T0⟩ T0 ?_
  refine sw (core_eql (L _ rfl)) ⟨rfl, rfl, T0⟩ T0 ?_
  refine seq_nil ⟨[(0, _), (7, _)], [], ⟨rfl, rfl, T0⟩, trivial, ?_⟩
  refine ex_if rfl (fun hc => ?_) (fun hc => ?_)
  · have hc := dt hc
    refine exr ?_
    refine sw (core_assign (L _ rfl)) ⟨rfl, T0⟩ T0 ?_
    refine seq_nil ⟨[(2, _)], [], ⟨rfl, T0⟩, trivial, ?_⟩
    refine ex_ret ?_
    refine ⟨.inr rfl, ResVs.cast (.cons (.tmp rfl) .nil) ?_⟩
    have e : ws = [] := List.eq_nil_of_length_eq_zero (by omega)
    rw [e]; simp [val, bl]
  · have hc := df hc
    have hw := h.getD (ws.length - 1)
    refine ex_skip (show Exec _ _ _ _ _ from ?_)
    refine exr ?_
    refine sw (core_move (L _ rfl)) ⟨rfl, T0⟩ T0 ?_
    refine sw (core_len Tryd.underlying22 (L _ rfl)) ⟨rfl, T0⟩ T0 ?_
    refine sw (core_sub (L _ rfl) (w64 (by omega) (by omega))) ⟨rfl, rfl, T0⟩ T0 ?_
    refine sw (core_mul (L _ rfl) (w64 (by omega) (by omega))) ⟨rfl, rfl, T0⟩ T0 ?_
    refine sw (core_assign (L _ rfl)) ⟨rfl, T0⟩ T0 ?_
    refine seq_nil ⟨[(0, _), (3, _)], [], ⟨rfl, rfl, T0⟩, trivial, ?_⟩
    refine ex_seq ?_
    refine exr ?_
    refine sw (core_move (L _ rfl)) ⟨rfl, T0⟩ T0 ?_
    refine sw (core_move (L _ rfl)) ⟨rfl, T0⟩ T0 ?_
    refine sw (core_len Tryd.underlying22 (L _ rfl)) ⟨rfl, T0⟩ T0 ?_
    refine sw (core_sub (L _ rfl) (w64 (by omega) (by omega))) ⟨rfl, rfl, T0⟩ T0 ?_
    refine sw (ixJ Tryd.underlying22 Tryd.sizeOf53 (j := ws.length - 1) (by first | exact rfl | omega) (by omega) (by simp) (L _ rfl)) ⟨rfl, rfl, T0⟩ T0 ?_
    refine sw (core_loadI1 Tryd.isAgg53 (by first | exact getW (by omega) | rfl) (L _ rfl)) ⟨rfl, T0⟩ T0 ?_
    refine sw (core_assign (L _ rfl)) ⟨rfl, T0⟩ T0 ?_
    refine seq_nil ⟨[(3, _), (4, _)], [], ⟨rfl, rfl, T0⟩, trivial, ?_⟩
    refine ex_block ?_
    refine exl (α := Nat) (fun x => [(4, vu (x:Int)), (3, vi (32 * ((ws.length:Int) - 1) + (bl (ws.getD (ws.length - 1) 0).toNat : Int) - (bl x : Int)))]) (fun x => []) (fun x => x ≤ (ws.getD (ws.length - 1) 0).toNat ∧ bl x ≤ bl (ws.getD (ws.length - 1) 0).toNat) (fun x => x) ((ws.getD (ws.length - 1) 0).toNat) (sl := []) (hb := []) ?_ ⟨oi (by omega) rfl, oi (by omega) rfl, T0⟩ T0 ?_
    · exact ⟨Nat.le_refl _, Nat.le_refl _⟩
    intro x hx
    have h32 := bl32 hw.2
    refine ex_seq ?_
    refine exr ?_
    refine sw (core_move (L _ rfl)) ⟨rfl, T0⟩ T0 ?_
    refine sw (core_neq (L _ rfl)) ⟨rfl, rfl, T0⟩ T0 ?_
    refine seq_nil ⟨[(3, _), (4, _), (19, _)], [], ⟨rfl, rfl, rfl, T0⟩, trivial, ?_⟩
    refine ex_if rfl (fun hd => ?_) (fun hd => ?_)
    · have hd := ndt hd
      have hs := bl_half (n := x) (by omega)
      refine ex_skip (show Exec _ _ _ _ _ from ?_)
      refine ex_seq ?_
      refine ex_block ?_
      refine exr0 ?_
      refine sw (core_move (L _ rfl)) ⟨rfl, T0⟩ T0 ?_
      refine sw (core_add (L _ rfl) (w64 (by omega) (by omega))) ⟨rfl, rfl, T0⟩ T0 ?_
      refine sw (core_assign (L _ rfl)) ⟨rfl, T0⟩ T0 ?_
      refine seq_nil ?_
      refine exr0 ?_
      refine sw (core_move (L _ rfl)) ⟨rfl, T0⟩ T0 ?_
      refine sw (core_shr (L _ rfl) (by decide) (shrE (c := 2) (by rfl) (by decide))) ⟨rfl, rfl, T0⟩ T0 ?_
      refine sw (core_assign (L _ rfl)) ⟨rfl, T0⟩ T0 ?_
      refine seq_nil ?_
      exact ⟨x / 2, ⟨by omega, by omega⟩, by omega, le_of ⟨(by first | exact rfl | exact oi (by omega) rfl), (by first | exact rfl | exact oi (by omega) rfl), T0⟩ T0⟩
    · have hd := ndf hd
      have hx0 : x = 0 := by omega
      subst hx0
      refine ex_exit (show Exec _ _ _ _ _ from ?_)
      refine exr ?_
      refine sw (core_move (L _ rfl)) ⟨rfl, T0⟩ T0 ?_
      refine sw (core_assign (L _ rfl)) ⟨rfl, T0⟩ T0 ?_
      refine seq_nil ⟨[(2, _)], [], ⟨rfl, T0⟩, trivial, ?_⟩
      refine ex_ret ?_
      refine ⟨.inr rfl, ResVs.cast (.cons (.tmp rfl) .nil) ?_⟩
      have hne : ws ≠ [] := by intro e; subst e; simp at hc
      exact vcong (by rw [bl_val h ht hne]; simp [bl])

end Go.Proofs.YtebkelnibecmjaaDoor.N
namespace Go.Proofs.YtebkelnibecmjaaDoor.N
open Go Go.Proofs.YtebkelnibecmjaaDoor.SH Go.Proofs.YtebkelnibecmjaaDoor.NumA
set_option maxRecDepth 100000 in
set_option maxHeartbeats 4000000 in
theorem rmade_says (neg : Bool) (ws : List Int) (hl : ws.length < 1000000000) (h : Wd ws) : Says E 56 [.a (.bool neg), pW ws] (pZ (sg neg (val ws))) := by
  refine says_of (xs := [pZ (sg neg (val ws))]) Tryd.func56 rfl Tryd.ntmps56 Tryd.results56 (by simp) fun F hG hX0 hnt hdf P0 => ?_
  have L := ltn hnt
  have hX : ∀ b, F.X b → E.ng ≤ b := fun b h => absurd h (hX0 b)
  have hN := ng_le hG
  have hb : (trim ws).length ≤ ws.length := by rw [trim_length]; exact trimN_le _ _
  have hr : pZ (sg neg (val ws)) = madeR neg ws := (madeR_eq h).symm
  rw [hr]
  refine exr ?_
  refine swb (core_alloc (k := 4) (n := 2) Tryd.zeroValue24 (.cons rfl (.cons rfl .nil)) rfl (P0 _ rfl) (L _ rfl)) trivial trivial ⟨rfl, rfl⟩ ?_
  refine seq_nil ⟨[(0, _), (1, _), (4, _)], [(4, _)], ⟨rfl, rfl, rfl, T0⟩, ⟨rfl, T0⟩, ?_⟩
  refine exr ?_
  refine sw (core_move (L _ rfl)) ⟨rfl, T0⟩ T0 ?_
  refine sw (core_call (E := E) hG hX Tryd.call76 rfl hN (rtrim_says ws hl) (L _ rfl)) ⟨rfl, T0⟩ T0 ?_
  refine sw (core_assign (L _ rfl)) ⟨rfl, T0⟩ T0 ?_
  refine seq_nil ⟨[(0, _), (1, _), (4, _)], [(4, _)], ⟨rfl, rfl, rfl, T0⟩, ⟨rfl, T0⟩, ?_⟩
  refine ex_seq ?_
  refine exr ?_
  refine sw (core_move (L _ rfl)) ⟨rfl, T0⟩ T0 ?_
  refine sw (core_len Tryd.underlying22 (L _ rfl)) ⟨rfl, T0⟩ T0 ?_
  refine sw (core_eql (L _ rfl)) ⟨rfl, rfl, T0⟩ T0 ?_
  refine seq_nil ⟨[(0, _), (1, _), (4, _), (9, _)], [(4, _)], ⟨rfl, rfl, rfl, rfl, T0⟩, ⟨rfl, T0⟩, ?_⟩
  refine ex_if rfl (fun hc => ?_) (fun hc => ?_)
  · have hc := dt hc
    have e : trim ws = [] := List.eq_nil_of_length_eq_zero (by omega)
    refine exr ?_
    refine sw (core_pc (core_buildP (vs := []) Tryd.underlying24 Tryd.zeroValue24 (.cons rfl (.cons rfl .nil)) ((Places.cons Tryd.sizeOf4 (Places.cons Tryd.sizeOf22 Places.nil))).to rfl .nil (.cons (.cons .nil)) (L _ rfl)) (.agg (.cons .same (.cons .nil .nil)))) T0 T0 ?_
    refine sb (core_storeM Tryd.sizeOf24 (by rfl) (.pagg (.cons (.cons .nil))) rfl (.put (.put .here))) ⟨rfl, rfl, T0⟩ ⟨rfl, T0⟩ ?_
    refine seq_nil ⟨[(4, _)], [(4, _)], ⟨rfl, T0⟩, ⟨rfl, T0⟩, ?_⟩
    refine ex_ret ?_
    refine ⟨.inr rfl, ResVs.cast (.cons (.agg rfl rfl rfl Tryd.isAgg24 Tryd.sizeOf24 (.cons (.cons .nil))) .nil) ?_⟩
    simp only [madeR, e, if_true]; rfl
  · have hc := df hc
    have e : ¬ trim ws = [] := by intro e; rw [e] at hc; simp at hc
    refine ex_skip (show Exec _ _ _ _ _ from ?_)
    refine exr ?_
    refine sw (core_move (L _ rfl)) ⟨rfl, T0⟩ T0 ?_
    refine swb (core_bs0R (k := 12) (sz := 1) Tryd.underlying22 Tryd.typeInfo53 (P0 _ rfl) (L _ rfl)) trivial trivial ⟨rfl, rfl⟩ ?_
    refine sw (core_move (L _ rfl)) ⟨rfl, T0⟩ T0 ?_
    refine swb (apP (sz := 1) Tryd.underlying22 Tryd.underlying22 Tryd.typeInfo53 rfl rfl rfl (by decide) (by exact rfl) (by omega) (by simp) rfl rfl rfl (by first | (simp [Tryd.t53]; done) | (simp [Tryd.t53]; omega)) (by omega) (P0 _ rfl) (L _ rfl)) ⟨rfl, rfl, T0⟩ ⟨rfl, T0⟩ T0 ?_
    refine sw (core_buildA (vs := [_, _]) Tryd.underlying24 Tryd.zeroValue24 (.cons rfl (.cons rfl .nil)) ((Places.cons Tryd.sizeOf4 (Places.cons Tryd.sizeOf22 Places.nil))).to rfl (.cons rfl (.atom rfl) rfl (.put .here) (.cons rfl .ref rfl (.skip (.put .here)) .nil)) (L _ rfl)) ⟨rfl, rfl, T0⟩ T0 ?_
    refine sb (core_storeM Tryd.sizeOf24 (by rfl) .agg rfl (.put (.put .here))) ⟨rfl, rfl, T0⟩ ⟨rfl, T0⟩ ?_
    refine seq_nil ⟨[(4, _)], [(4, _), (12, _)], ⟨rfl, T0⟩, ⟨rfl, rfl, T0⟩, ?_⟩
    refine ex_cv [12] (sl := [(4, _)]) (hb := [(4, _)]) (own_none hX0) ⟨⟨_, rfl, .same⟩, T0⟩ ⟨⟨rfl, _, rfl, (.mix (.cons .same (.cons (.ref rfl rfl (by exact (by simp)) (by first | rfl | omega)) .nil)))⟩, T0⟩ ?_
    refine ex_ret ?_
    refine ⟨.inr rfl, ResVs.cast (.cons (.agg rfl rfl rfl Tryd.isAgg24 Tryd.sizeOf24 (.cons (.cons .nil))) .nil) ?_⟩
    simp [madeR, e]

set_option maxRecDepth 100000 in
set_option maxHeartbeats 4000000 in
theorem rcmp_says (ws vs : List Int) (hl : ws.length < 1000000000) (hl2 : vs.length < 1000000000) (h : Wd ws) (h2 : Wd vs) (ht : Tr ws) (ht2 : Tr vs) : Says E 61 [pW ws, pW vs] (vZ (cmpI (val ws) (val vs))) := by
  refine says_of (xs := [vZ (cmpI (val ws) (val vs))]) Tryd.func61 rfl Tryd.ntmps61 Tryd.results61 (by simp) fun F hG hX0 hnt hdf P0 => ?_
  have L := ltn hnt
  have hX : ∀ b, F.X b → E.ng ≤ b := fun b h => absurd h (hX0 b)
  have hN := ng_le hG
  refine exr ?_
  refine sw (core_assign (L _ rfl)) ⟨rfl, T0⟩ T0 ?_
  refine seq_nil ⟨[(0, _), (1, _)], [], ⟨rfl, rfl, T0⟩, trivial, ?_⟩
  refine ex_seq ?_
  refine exr ?_
  refine sw (core_move (L _ rfl)) ⟨rfl, T0⟩ T0 ?_
  refine sw (core_len Tryd.underlying22 (L _ rfl)) ⟨rfl, T0⟩ T0 ?_
  refine sw (core_move (L _ rfl)) ⟨rfl, T0⟩ T0 ?_
  refine sw (core_len Tryd.underlying22 (L _ rfl)) ⟨rfl, T0⟩ T0 ?_
  refine sw (core_neq (L _ rfl)) ⟨rfl, rfl, T0⟩ T0 ?_
  refine seq_nil ⟨[(0, _), (1, _), (10, _)], [], ⟨rfl, rfl, rfl, T0⟩, trivial, ?_⟩
  refine ex_if rfl (fun hc => ?_) (fun hc => ?_)
  · have hc := ndt hc
    refine ex_seq ?_
    refine exr ?_
    refine sw (core_move (L _ rfl)) ⟨rfl, T0⟩ T0 ?_
    refine sw (core_len Tryd.underlying22 (L _ rfl)) ⟨rfl, T0⟩ T0 ?_
    refine sw (core_move (L _ rfl)) ⟨rfl, T0⟩ T0 ?_
    refine sw (core_len Tryd.underlying22 (L _ rfl)) ⟨rfl, T0⟩ T0 ?_
    refine sw (core_lss (L _ rfl)) ⟨rfl, rfl, T0⟩ T0 ?_
    refine seq_nil ⟨[(15, _)], [], ⟨rfl, T0⟩, trivial, ?_⟩
    refine ex_if rfl (fun hd => ?_) (fun hd => ?_)
    · have hd := dt hd
      refine exr ?_
      refine sw (core_assign (L _ rfl)) ⟨rfl, T0⟩ T0 ?_
      refine seq_nil ⟨[(4, _)], [], ⟨rfl, T0⟩, trivial, ?_⟩
      refine ex_ret ?_
      refine ⟨.inr rfl, ResVs.cast (.cons (.tmp rfl) .nil) ?_⟩
      rw [cmpI_len h h2 ht ht2 (by omega), if_pos (by omega)]
    · have hd := df hd
      refine ex_skip (show Exec _ _ _ _ _ from ?_)
      refine exr ?_
      refine sw (core_assign (L _ rfl)) ⟨rfl, T0⟩ T0 ?_
      refine seq_nil ⟨[(4, _)], [], ⟨rfl, T0⟩, trivial, ?_⟩
      refine ex_ret ?_
      refine ⟨.inr rfl, ResVs.cast (.cons (.tmp rfl) .nil) ?_⟩
      rw [cmpI_len h h2 ht ht2 (by omega), if_neg (by omega)]
  · have hc := ndf hc
    refine ex_skip (show Exec _ _ _ _ _ from ?_)
    refine ex_seq ?_
    refine exr ?_
    refine sw (core_move (L _ rfl)) ⟨rfl, T0⟩ T0 ?_
    refine sw (core_len Tryd.underlying22 (L _ rfl)) ⟨rfl, T0⟩ T0 ?_
    refine sw (core_sub (L _ rfl) (w64 (by omega) (by omega))) ⟨rfl, rfl, T0⟩ T0 ?_
    refine sw (core_assign (L _ rfl)) ⟨rfl, T0⟩ T0 ?_
    refine seq_nil ⟨[(0, _), (1, _), (5, _)], [], ⟨rfl, rfl, rfl, T0⟩, trivial, ?_⟩
    refine ex_block ?_
    refine exl (α := Nat) (fun n => [(5, vi ((n:Int) - 1))]) (fun n => []) (fun n => n ≤ ws.length ∧ ws.drop n = vs.drop n) (fun n => n) (ws.length) (sl := [(0, _), (1, _)]) (hb := []) ?_ ⟨(by first | exact rfl | exact oi (by omega) rfl), rfl, rfl, T0⟩ T0 ?_
    · exact ⟨Nat.le_refl _, by rw [List.drop_length, List.drop_of_length_le (by omega)]⟩
    intro n hn
    refine ex_seq ?_
    refine exr ?_
    refine sw (core_move (L _ rfl)) ⟨rfl, T0⟩ T0 ?_
    refine sw (core_geq (L _ rfl)) ⟨rfl, rfl, T0⟩ T0 ?_
    refine seq_nil ⟨[(0, _), (1, _), (5, _), (20, _)], [], ⟨rfl, rfl, rfl, rfl, T0⟩, trivial, ?_⟩
    refine ex_if rfl (fun hd => ?_) (fun hd => ?_)
    · have hd := dt hd
      have hs : n - 1 + 1 = n := by omega
      refine ex_skip (show Exec _ _ _ _ _ from ?_)
      refine ex_seq ?_
      refine ex_block ?_
      refine ex_seq ?_
      refine exd (by rfl) ?_
      refine sw (core_move (L _ rfl)) ⟨rfl, T0⟩ T0 ?_
      refine sw (core_move (L _ rfl)) ⟨rfl, T0⟩ T0 ?_
      refine sw (ixJ Tryd.underlying22 Tryd.sizeOf53 (j := n - 1) (by first | exact rfl | omega) (by omega) (by simp) (L _ rfl)) ⟨rfl, rfl, T0⟩ T0 ?_
      refine sw (core_loadI1 Tryd.isAgg53 (by first | exact getW (by omega) | rfl) (L _ rfl)) ⟨rfl, T0⟩ T0 ?_
      refine sw (core_move (L _ rfl)) ⟨rfl, T0⟩ T0 ?_
      refine sw (core_move (L _ rfl)) ⟨rfl, T0⟩ T0 ?_
      refine sw (ixJ Tryd.underlying22 Tryd.sizeOf53 (j := n - 1) (by first | exact rfl | omega) (by omega) (by simp) (L _ rfl)) ⟨rfl, rfl, T0⟩ T0 ?_
      refine sw (core_loadI1 Tryd.isAgg53 (by first | exact getW (by omega) | rfl) (L _ rfl)) ⟨rfl, T0⟩ T0 ?_
      refine sw (core_lss (L _ rfl)) ⟨rfl, rfl, T0⟩ T0 ?_
      refine seq_nil ⟨aoks [⟨[0], [], [23], []⟩, ⟨[5], [], [24], []⟩, ⟨[23, 24], [], [25], []⟩, ⟨[25], [], [26], []⟩, ⟨[1], [], [27], []⟩, ⟨[5], [], [28], []⟩, ⟨[27, 28], [], [29], []⟩, ⟨[29], [], [30], []⟩, ⟨[26, 30], [], [31], []⟩] (by rfl) (by rfl) (by decide), [(0, _), (1, _), (5, _), (31, _)], [], ⟨rfl, rfl, rfl, rfl, T0⟩, trivial, ?_⟩
      refine ex_if rfl (fun he => ?_) (fun he => ?_)
      · have he := dt he
        refine exr ?_
        refine sw (core_assign (L _ rfl)) ⟨rfl, T0⟩ T0 ?_
        refine seq_nil ⟨[(4, _)], [], ⟨rfl, T0⟩, trivial, ?_⟩
        refine ex_ret ?_
        refine ⟨.inr rfl, ResVs.cast (.cons (.tmp rfl) .nil) ?_⟩
        rw [cmpI_drop h h2 (by omega) (i := n - 1) (by omega) (by rw [hs]; exact hn.2) (by omega), if_pos he]
      · have he := df he
        refine ex_skip (show Exec _ _ _ _ _ from ?_)
        refine exd (by rfl) ?_
        refine sw (core_move (L _ rfl)) ⟨rfl, T0⟩ T0 ?_
        refine sw (core_move (L _ rfl)) ⟨rfl, T0⟩ T0 ?_
        refine sw (ixJ Tryd.underlying22 Tryd.sizeOf53 (j := n - 1) (by first | exact rfl | omega) (by omega) (by simp) (L _ rfl)) ⟨rfl, rfl, T0⟩ T0 ?_
        refine sw (core_loadI1 Tryd.isAgg53 (by first | exact getW (by omega) | rfl) (L _ rfl)) ⟨rfl, T0⟩ T0 ?_
        refine sw (core_move (L _ rfl)) ⟨rfl, T0⟩ T0 ?_
        refine sw (core_move (L _ rfl)) ⟨rfl, T0⟩ T0 ?_
        refine sw (ixJ Tryd.underlying22 Tryd.sizeOf53 (j := n - 1) (by first | exact rfl | omega) (by omega) (by simp) (L _ rfl)) ⟨rfl, rfl, T0⟩ T0 ?_
        refine sw (core_loadI1 Tryd.isAgg53 (by first | exact getW (by omega) | rfl) (L _ rfl)) ⟨rfl, T0⟩ T0 ?_
        refine sw (core_gtr (L _ rfl)) ⟨rfl, rfl, T0⟩ T0 ?_
        refine seq_nil ⟨aoks [⟨[0], [], [32], []⟩, ⟨[5], [], [33], []⟩, ⟨[32, 33], [], [34], []⟩, ⟨[34], [], [35], []⟩, ⟨[1], [], [36], []⟩, ⟨[5], [], [37], []⟩, ⟨[36, 37], [], [38], []⟩, ⟨[38], [], [39], []⟩, ⟨[35, 39], [], [40], []⟩] (by rfl) (by rfl) (by decide), [(0, _), (1, _), (5, _), (40, _)], [], ⟨rfl, rfl, rfl, rfl, T0⟩, trivial, ?_⟩
        refine ex_if rfl (fun hf => ?_) (fun hf => ?_)
        · have hf := dt hf
          refine exr ?_
          refine sw (core_assign (L _ rfl)) ⟨rfl, T0⟩ T0 ?_
          refine seq_nil ⟨[(4, _)], [], ⟨rfl, T0⟩, trivial, ?_⟩
          refine ex_ret ?_
          refine ⟨.inr rfl, ResVs.cast (.cons (.tmp rfl) .nil) ?_⟩
          rw [cmpI_drop h h2 (by omega) (i := n - 1) (by omega) (by rw [hs]; exact hn.2) (by omega), if_neg he]
        · have hf := df hf
          refine ex_skip (show Exec _ _ _ _ _ from ?_)
          refine exr0 ?_
          refine sw (core_move (L _ rfl)) ⟨rfl, T0⟩ T0 ?_
          refine sw (core_sub (L _ rfl) (w64 (by omega) (by omega))) ⟨rfl, rfl, T0⟩ T0 ?_
          refine sw (core_assign (L _ rfl)) ⟨rfl, T0⟩ T0 ?_
          refine seq_nil ?_
          exact ⟨n - 1, ⟨by omega, drop_eq_succ (by omega) (by omega) (by rw [hs]; exact hn.2) (by omega)⟩, by omega, le_of ⟨(by first | exact rfl | exact oi (by omega) rfl), rfl, rfl, T0⟩ T0⟩
    · have hd := df hd
      have h3 : n = 0 := by omega
      subst h3
      refine ex_exit (show Exec _ _ _ _ _ from ?_)
      refine exr ?_
      refine sw (core_assign (L _ rfl)) ⟨rfl, T0⟩ T0 ?_
      refine seq_nil ⟨[(4, _)], [], ⟨rfl, T0⟩, trivial, ?_⟩
      refine ex_ret ?_
      refine ⟨.inr rfl, ResVs.cast (.cons (.tmp rfl) .nil) ?_⟩
      have e : ws = vs := by simpa using hn.2
      rw [e, cmpI_self]

set_option maxRecDepth 100000 in
set_option maxHeartbeats 4000000 in
theorem rof_says (n : Int) (h0 : -9223372036854775808 ≤ n) (h1 : n < 9223372036854775808) : Says E 20 [vZ n] (pZ n) := by
  refine says_of (xs := [pZ n]) Tryd.func20 rfl Tryd.ntmps20 Tryd.results20 (by simp) fun F hG hX0 hnt hdf P0 => ?_
  have L := ltn hnt
  have hX : ∀ b, F.X b → E.ng ≤ b := fun b h => absurd h (hX0 b)
  have hN := ng_le hG
  refine exr ?_
  refine swb (core_alloc (k := 2) (n := 2) Tryd.zeroValue24 (.cons rfl (.cons rfl .nil)) rfl (P0 _ rfl) (L _ rfl)) trivial trivial ⟨rfl, rfl⟩ ?_
  refine seq_nil ⟨[(0, _), (2, _)], [(2, _)], ⟨rfl, rfl, T0⟩, ⟨rfl, T0⟩, ?_⟩
  refine exr ?_
  refine sw (core_move (L _ rfl)) ⟨rfl, T0⟩ T0 ?_
  refine sw (core_conv Tryd.underlying3 Tryd.underlying52 (L _ rfl) wu64) ⟨rfl, T0⟩ T0 ?_
  refine sw (core_assign (L _ rfl)) ⟨rfl, T0⟩ T0 ?_
  refine seq_nil ⟨[(0, _), (2, _), (3, _)], [(2, _)], ⟨rfl, rfl, rfl, T0⟩, ⟨rfl, T0⟩, ?_⟩
  refine ex_seq ?_
  refine exr ?_
  refine sw (core_move (L _ rfl)) ⟨rfl, T0⟩ T0 ?_
  refine sw (core_lss (L _ rfl)) ⟨rfl, rfl, T0⟩ T0 ?_
  refine seq_nil ⟨[(0, _), (2, _), (3, _), (7, _)], [(2, _)], ⟨rfl, rfl, rfl, rfl, T0⟩, ⟨rfl, T0⟩, ?_⟩
  refine ex_if rfl (fun hc => ?_) (fun hc => ?_)
  · have hc := dt hc
    refine exr0 ?_
    refine sw (core_move (L _ rfl)) ⟨rfl, T0⟩ T0 ?_
    refine sw (core_neg (L _ rfl) (show _ = -n by rw [wu64]; omega)) ⟨rfl, T0⟩ T0 ?_
    refine sw (core_assign (L _ rfl)) ⟨rfl, T0⟩ T0 ?_
    refine seq_nil ?_
    refine exr ?_
    refine sw (core_move (L _ rfl)) ⟨rfl, T0⟩ T0 ?_
    refine sw (core_lss (L _ rfl)) ⟨rfl, rfl, T0⟩ T0 ?_
    refine sw (core_move (L _ rfl)) ⟨rfl, T0⟩ T0 ?_
    refine sw (core_conv Tryd.underlying52 Tryd.underlying53 (L _ rfl) wu32) ⟨rfl, T0⟩ T0 ?_
    refine sw (core_move (L _ rfl)) ⟨rfl, T0⟩ T0 ?_
    refine sw (core_shr (L _ rfl) (by decide) (shrE (c := 4294967296) (by rfl) (by decide))) ⟨rfl, rfl, T0⟩ T0 ?_
    refine sw (core_conv Tryd.underlying52 Tryd.underlying53 (L _ rfl) wu32) ⟨rfl, T0⟩ T0 ?_
    refine sw (core_bsI (vs := [_, _]) Tryd.underlying22 Tryd.typeInfo53 rfl rfl (by decide) (by decide) rfl (zs_made (.cons rfl .nil) rfl) rfl (.cons rfl (.atom rfl) rfl (.put .here) (.cons rfl (.atom rfl) rfl (.skip (.put .here)) .nil)) (.cons (.cons .nil)) (L _ rfl)) ⟨rfl, rfl, T0⟩ T0 ?_
    refine sw (core_call (E := E) hG hX Tryd.call56 rfl hN (rmade_says (decide (n < 0)) [-n % 4294967296, -n / 4294967296 % 4294967296] (by simp) (by simp [Wd]; omega)) (L _ rfl)) ⟨rfl, rfl, T0⟩ T0 ?_
    refine sb (core_storeM Tryd.sizeOf24 (by rfl) (.pagg (.cons (.cons .nil))) rfl (.put (.put .here))) ⟨rfl, rfl, T0⟩ ⟨rfl, T0⟩ ?_
    refine seq_nil ⟨[(2, _)], [(2, _)], ⟨rfl, T0⟩, ⟨rfl, T0⟩, ?_⟩
    refine ex_ret ?_
    refine ⟨.inr rfl, ResVs.cast (.cons (.agg rfl rfl rfl Tryd.isAgg24 Tryd.sizeOf24 (.cons (.cons .nil))) .nil) ?_⟩
    have : val [-n % 4294967296, -n / 4294967296 % 4294967296] = -n := by simp only [val]; omega
    rw [this]; simp [sg, hc]
  · have hc := df hc
    refine ex_skip (show Exec _ _ _ _ _ from ?_)
    refine exr ?_
    refine sw (core_move (L _ rfl)) ⟨rfl, T0⟩ T0 ?_
    refine sw (core_lss (L _ rfl)) ⟨rfl, rfl, T0⟩ T0 ?_
    refine sw (core_move (L _ rfl)) ⟨rfl, T0⟩ T0 ?_
    refine sw (core_conv Tryd.underlying52 Tryd.underlying53 (L _ rfl) wu32) ⟨rfl, T0⟩ T0 ?_
    refine sw (core_move (L _ rfl)) ⟨rfl, T0⟩ T0 ?_
    refine sw (core_shr (L _ rfl) (by decide) (shrE (c := 4294967296) (by rfl) (by decide))) ⟨rfl, rfl, T0⟩ T0 ?_
    refine sw (core_conv Tryd.underlying52 Tryd.underlying53 (L _ rfl) wu32) ⟨rfl, T0⟩ T0 ?_
    refine sw (core_bsI (vs := [_, _]) Tryd.underlying22 Tryd.typeInfo53 rfl rfl (by decide) (by decide) rfl (zs_made (.cons rfl .nil) rfl) rfl (.cons rfl (.atom rfl) rfl (.put .here) (.cons rfl (.atom rfl) rfl (.skip (.put .here)) .nil)) (.cons (.cons .nil)) (L _ rfl)) ⟨rfl, rfl, T0⟩ T0 ?_
    refine sw (core_call (E := E) hG hX Tryd.call56 rfl hN (rmade_says (decide (n < 0)) [n % 18446744073709551616 % 4294967296, n % 18446744073709551616 / 4294967296 % 4294967296] (by simp) (by simp [Wd]; omega)) (L _ rfl)) ⟨rfl, rfl, T0⟩ T0 ?_
    refine sb (core_storeM Tryd.sizeOf24 (by rfl) (.pagg (.cons (.cons .nil))) rfl (.put (.put .here))) ⟨rfl, rfl, T0⟩ ⟨rfl, T0⟩ ?_
    refine seq_nil ⟨[(2, _)], [(2, _)], ⟨rfl, T0⟩, ⟨rfl, T0⟩, ?_⟩
    refine ex_ret ?_
    refine ⟨.inr rfl, ResVs.cast (.cons (.agg rfl rfl rfl Tryd.isAgg24 Tryd.sizeOf24 (.cons (.cons .nil))) .nil) ?_⟩
    have : val [n % 18446744073709551616 % 4294967296, n % 18446744073709551616 / 4294967296 % 4294967296] = n := by simp only [val]; omega
    rw [this]; simp [sg, hc]

set_option maxRecDepth 100000 in
set_option maxHeartbeats 4000000 in
theorem rbits_says (neg : Bool) (ws : List Int) (hl : ws.length < 1000000000) (h : Wd ws) : Says E 22 [pI neg ws] (vZ (if canon neg ws = true then (bl (val ws).toNat : Int) else 0)) := by
  refine says_of (xs := [vZ (if canon neg ws = true then (bl (val ws).toNat : Int) else 0)]) Tryd.func22 rfl Tryd.ntmps22 Tryd.results22 (by simp) fun F hG hX0 hnt hdf P0 => ?_
  have L := ltn hnt
  have hX : ∀ b, F.X b → E.ng ≤ b := fun b h => absurd h (hX0 b)
  have hN := ng_le hG
  refine exr ?_
  refine swb (core_box (k := 1) (n := 2) (.pagg (.cons (.cons .nil))) rfl rfl (P0 _ rfl) (L _ rfl)) ⟨rfl, T0⟩ T0 ⟨rfl, rfl⟩ ?_
  refine sw (core_assign (L _ rfl)) ⟨rfl, T0⟩ T0 ?_
  refine seq_nil ⟨[(1, _)], [(1, _)], ⟨rfl, T0⟩, ⟨rfl, T0⟩, ?_⟩
  refine ex_seq ?_
  refine exr ?_
  refine sw (core_loadP Tryd.isAgg24 Tryd.sizeOf24 (by rfl) (by exact (.cons (.cons .nil))) rfl (L _ rfl)) ⟨rfl, T0⟩ ⟨rfl, T0⟩ ?_
  refine sw (core_call (E := E) hG hX Tryd.call17 rfl hN (ris_says neg ws hl) (L _ rfl)) ⟨rfl, T0⟩ T0 ?_
  refine sw (core_not (L _ rfl)) ⟨rfl, T0⟩ T0 ?_
  refine seq_nil ⟨[(1, _), (5, _)], [(1, _)], ⟨rfl, rfl, T0⟩, ⟨rfl, T0⟩, ?_⟩
  refine ex_if rfl (fun hc => ?_) (fun hc => ?_)
  · have hc : canon neg ws = false := by simpa using hc
    refine exr ?_
    refine sw (core_assign (L _ rfl)) ⟨rfl, T0⟩ T0 ?_
    refine seq_nil ⟨[(2, _)], [], ⟨rfl, T0⟩, trivial, ?_⟩
    refine ex_ret ?_
    refine ⟨.inr rfl, ResVs.cast (.cons (.tmp rfl) .nil) ?_⟩
    rw [hc]; rfl
  · have hc : canon neg ws = true := by simpa using hc
    refine ex_skip (show Exec _ _ _ _ _ from ?_)
    refine exr ?_
    refine sw (core_fieldAddr Tryd.underlying24 rfl Tryd.sizeOf22 (by decide) (by exact rfl) (L _ rfl)) ⟨rfl, T0⟩ ⟨rfl, T0⟩ ?_
    refine sw (core_load1 Tryd.isAgg22 (by rfl) (by rfl) (L _ rfl)) ⟨rfl, T0⟩ ⟨rfl, T0⟩ ?_
    refine sw (core_call (E := E) hG hX Tryd.call58 rfl hN (rbitsOf_says ws hl h (canon_tr hc).1) (L _ rfl)) ⟨rfl, T0⟩ T0 ?_
    refine sw (core_assign (L _ rfl)) ⟨rfl, T0⟩ T0 ?_
    refine seq_nil ⟨[(2, _)], [], ⟨rfl, T0⟩, trivial, ?_⟩
    refine ex_ret ?_
    refine ⟨.inr rfl, ResVs.cast (.cons (.tmp rfl) .nil) ?_⟩
    rw [if_pos hc]

set_option maxRecDepth 100000 in
set_option maxHeartbeats 4000000 in
theorem rsign_says (neg : Bool) (ws : List Int) (hl : ws.length < 1000000000) (h : Wd ws) : Says E 24 [pI neg ws] (vZ (if canon neg ws = true then (sg neg (val ws)).sign else 0)) := by
  refine says_of (xs := [vZ (if canon neg ws = true then (sg neg (val ws)).sign else 0)]) Tryd.func24 rfl Tryd.ntmps24 Tryd.results24 (by simp) fun F hG hX0 hnt hdf P0 => ?_
  have L := ltn hnt
  have hX : ∀ b, F.X b → E.ng ≤ b := fun b h => absurd h (hX0 b)
  have hN := ng_le hG
  refine exr ?_
  refine swb (core_box (k := 1) (n := 2) (.pagg (.cons (.cons .nil))) rfl rfl (P0 _ rfl) (L _ rfl)) ⟨rfl, T0⟩ T0 ⟨rfl, rfl⟩ ?_
  refine sw (core_assign (L _ rfl)) ⟨rfl, T0⟩ T0 ?_
  refine seq_nil ⟨[(1, _)], [(1, _)], ⟨rfl, T0⟩, ⟨rfl, T0⟩, ?_⟩
  refine ex_seq ?_
  refine exm (sl := [(11, vb (!(canon neg ws && !decide (ws.length = 0))))]) (sl0 := [(1, _)]) (hb := []) (hb0 := [(1, _)]) ⟨rfl, T0⟩ ⟨rfl, T0⟩ ?_ ?_
  · by_cases hc : canon neg ws = true
    · refine sw (core_loadP Tryd.isAgg24 Tryd.sizeOf24 (by rfl) (by exact (.cons (.cons .nil))) rfl (L _ rfl)) ⟨rfl, T0⟩ ⟨rfl, T0⟩ ?_
      refine sw (core_call (E := E) hG hX Tryd.call17 rfl hN (ris_says neg ws hl) (L _ rfl)) ⟨rfl, T0⟩ T0 ?_
      refine sw (core_not (L _ rfl)) ⟨rfl, T0⟩ T0 ?_
      refine sw (core_move (L _ rfl)) ⟨rfl, T0⟩ T0 ?_
      refine swg (g := 6) rfl (by simp [hc]) (core_fieldAddr Tryd.underlying24 rfl Tryd.sizeOf22 (by decide) (by exact rfl) (L _ rfl)) rfl ⟨rfl, T0⟩ ⟨rfl, T0⟩ ?_
      refine swg (g := 6) rfl (by simp [hc]) (core_load1 Tryd.isAgg22 (by rfl) (by rfl) (L _ rfl)) rfl ⟨rfl, T0⟩ ⟨rfl, T0⟩ ?_
      refine swg (g := 6) rfl (by simp [hc]) (core_len Tryd.underlying22 (L _ rfl)) rfl ⟨rfl, T0⟩ T0 ?_
      refine swg (g := 6) rfl (by simp [hc]) (core_eql (L _ rfl)) rfl ⟨rfl, rfl, T0⟩ T0 ?_
      refine sw (core_pick_f (by simp [hc]) (L _ rfl)) ⟨rfl, rfl, T0⟩ T0 ?_
      exact seq_nil ⟨⟨ob rfl (by simp [hc]), rfl, T0⟩, ⟨rfl, T0⟩⟩
    · refine sw (core_loadP Tryd.isAgg24 Tryd.sizeOf24 (by rfl) (by exact (.cons (.cons .nil))) rfl (L _ rfl)) ⟨rfl, T0⟩ ⟨rfl, T0⟩ ?_
      refine sw (core_call (E := E) hG hX Tryd.call17 rfl hN (ris_says neg ws hl) (L _ rfl)) ⟨rfl, T0⟩ T0 ?_
      refine sw (core_not (L _ rfl)) ⟨rfl, T0⟩ T0 ?_
      refine sw (core_move (L _ rfl)) ⟨rfl, T0⟩ T0 ?_
      refine swn (g := 6) rfl (by simp [hc]) (L _ rfl) rfl ?_
      refine swn (g := 6) rfl (by simp [hc]) (L _ rfl) rfl ?_
      refine swn (g := 6) rfl (by simp [hc]) (L _ rfl) rfl ?_
      refine swn (g := 6) rfl (by simp [hc]) (L _ rfl) rfl ?_
      refine sw (core_pick_t (by simp [hc]) (L _ rfl)) ⟨rfl, rfl, T0⟩ T0 ?_
      exact seq_nil ⟨⟨ob rfl (by simp [hc]), rfl, T0⟩, ⟨rfl, T0⟩⟩
  refine ex_if rfl (fun hd => ?_) (fun hd => ?_)
  · refine exr ?_
    refine sw (core_assign (L _ rfl)) ⟨rfl, T0⟩ T0 ?_
    refine seq_nil ⟨[(2, _)], [], ⟨rfl, T0⟩, trivial, ?_⟩
    refine ex_ret ?_
    refine ⟨.inr rfl, ResVs.cast (.cons (.tmp rfl) .nil) ?_⟩
    have hd : canon neg ws = true → ws = [] := by intro hc; simpa [hc] using hd
    split
    · rename_i hc; rw [hd hc]; cases neg <;> simp [sg, val]
    · rfl
  · have hd : canon neg ws = true ∧ ¬ ws = [] := by simpa using hd
    have hv := val_nonneg h
    have hv2 : val ws ≠ 0 := fun e => hd.2 (val_eq_zero h (canon_tr hd.1).1 e)
    refine ex_skip (show Exec _ _ _ _ _ from ?_)
    refine ex_seq ?_
    refine exr ?_
    refine sw (core_fieldAddr Tryd.underlying24 rfl Tryd.sizeOf4 (by decide) (by exact rfl) (L _ rfl)) ⟨rfl, T0⟩ ⟨rfl, T0⟩ ?_
    refine sw (core_load1 Tryd.isAgg4 (by rfl) (by rfl) (L _ rfl)) ⟨rfl, T0⟩ ⟨rfl, T0⟩ ?_
    refine seq_nil ⟨[(13, _)], [], ⟨rfl, T0⟩, trivial, ?_⟩
    refine ex_if rfl (fun hn => ?_) (fun hn => ?_)
    · refine exr ?_
      refine sw (core_assign (L _ rfl)) ⟨rfl, T0⟩ T0 ?_
      refine seq_nil ⟨[(2, _)], [], ⟨rfl, T0⟩, trivial, ?_⟩
      refine ex_ret ?_
      refine ⟨.inr rfl, ResVs.cast (.cons (.tmp rfl) .nil) ?_⟩
      rw [if_pos hd.1, hn, sg, if_pos rfl, Int.sign_eq_neg_one_of_neg (by omega)]
    · refine ex_skip (show Exec _ _ _ _ _ from ?_)
      refine exr ?_
      refine sw (core_assign (L _ rfl)) ⟨rfl, T0⟩ T0 ?_
      refine seq_nil ⟨[(2, _)], [], ⟨rfl, T0⟩, trivial, ?_⟩
      refine ex_ret ?_
      refine ⟨.inr rfl, ResVs.cast (.cons (.tmp rfl) .nil) ?_⟩
      rw [if_pos hd.1, hn, sg]
      simp only [Bool.false_eq_true, if_false]
      rw [Int.sign_eq_one_of_pos (by omega)]

set_option maxRecDepth 100000 in
set_option maxHeartbeats 4000000 in
theorem rcmpI_says (m n : Bool) (ws vs : List Int) (hl : ws.length < 1000000000) (hl2 : vs.length < 1000000000) (h : Wd ws) (h2 : Wd vs) : Says E 26 [pI m ws, pI n vs] (vZ (if canon m ws = true ∧ canon n vs = true then cmpI (sg m (val ws)) (sg n (val vs)) else 0)) := by
  refine says_of (xs := [vZ (if canon m ws = true ∧ canon n vs = true then cmpI (sg m (val ws)) (sg n (val vs)) else 0)]) Tryd.func26 rfl Tryd.ntmps26 Tryd.results26 (by simp) fun F hG hX0 hnt hdf P0 => ?_
  have L := ltn hnt
  have hX : ∀ b, F.X b → E.ng ≤ b := fun b h => absurd h (hX0 b)
  have hN := ng_le hG
  refine exr ?_
  refine swb (core_box (k := 2) (n := 2) (.pagg (.cons (.cons .nil))) rfl rfl (P0 _ rfl) (L _ rfl)) ⟨rfl, T0⟩ T0 ⟨rfl, rfl⟩ ?_
  refine swb (core_box (k := 3) (n := 2) (.pagg (.cons (.cons .nil))) rfl rfl (P0 _ rfl) (L _ rfl)) ⟨rfl, T0⟩ T0 ⟨rfl, rfl⟩ ?_
  refine sw (core_assign (L _ rfl)) ⟨rfl, T0⟩ T0 ?_
  refine seq_nil ⟨[(2, _), (3, _)], [(2, _), (3, _)], ⟨rfl, rfl, T0⟩, ⟨rfl, rfl, T0⟩, ?_⟩
  refine ex_seq ?_
  refine exm (sl := [(13, vb (!(canon m ws && canon n vs)))]) (sl0 := [(2, _), (3, _)]) (hb := []) (hb0 := [(2, _), (3, _)]) ⟨rfl, rfl, T0⟩ ⟨rfl, rfl, T0⟩ ?_ ?_
  · by_cases hc : canon m ws = true
    · refine sw (core_loadP Tryd.isAgg24 Tryd.sizeOf24 (by rfl) (by exact (.cons (.cons .nil))) rfl (L _ rfl)) ⟨rfl, T0⟩ ⟨rfl, T0⟩ ?_
      refine sw (core_call (E := E) hG hX Tryd.call17 rfl hN (ris_says m ws hl) (L _ rfl)) ⟨rfl, T0⟩ T0 ?_
      refine sw (core_not (L _ rfl)) ⟨rfl, T0⟩ T0 ?_
      refine sw (core_move (L _ rfl)) ⟨rfl, T0⟩ T0 ?_
      refine swg (g := 9) rfl (by simp [hc]) (core_loadP Tryd.isAgg24 Tryd.sizeOf24 (by rfl) (by exact (.cons (.cons .nil))) rfl (L _ rfl)) rfl ⟨rfl, T0⟩ ⟨rfl, T0⟩ ?_
      refine swg (g := 9) rfl (by simp [hc]) (core_call (E := E) hG hX Tryd.call17 rfl hN (ris_says n vs hl2) (L _ rfl)) rfl ⟨rfl, T0⟩ T0 ?_
      refine swg (g := 9) rfl (by simp [hc]) (core_not (L _ rfl)) rfl ⟨rfl, T0⟩ T0 ?_
      refine sw (core_pick_f (by simp [hc]) (L _ rfl)) ⟨rfl, rfl, T0⟩ T0 ?_
      exact seq_nil ⟨⟨ob rfl (by simp [hc]), rfl, rfl, T0⟩, ⟨rfl, rfl, T0⟩⟩
    · refine sw (core_loadP Tryd.isAgg24 Tryd.sizeOf24 (by rfl) (by exact (.cons (.cons .nil))) rfl (L _ rfl)) ⟨rfl, T0⟩ ⟨rfl, T0⟩ ?_
      refine sw (core_call (E := E) hG hX Tryd.call17 rfl hN (ris_says m ws hl) (L _ rfl)) ⟨rfl, T0⟩ T0 ?_
      refine sw (core_not (L _ rfl)) ⟨rfl, T0⟩ T0 ?_
      refine sw (core_move (L _ rfl)) ⟨rfl, T0⟩ T0 ?_
      refine swn (g := 9) rfl (by simp [hc]) (L _ rfl) rfl ?_
      refine swn (g := 9) rfl (by simp [hc]) (L _ rfl) rfl ?_
      refine swn (g := 9) rfl (by simp [hc]) (L _ rfl) rfl ?_
      refine sw (core_pick_t (by simp [hc]) (L _ rfl)) ⟨rfl, rfl, T0⟩ T0 ?_
      exact seq_nil ⟨⟨ob rfl (by simp [hc]), rfl, rfl, T0⟩, ⟨rfl, rfl, T0⟩⟩
  refine ex_if rfl (fun hc => ?_) (fun hc => ?_)
  · have hc : ¬ (canon m ws = true ∧ canon n vs = true) := by rintro ⟨h1, h2⟩; simp [h1, h2] at hc
    refine exr ?_
    refine sw (core_assign (L _ rfl)) ⟨rfl, T0⟩ T0 ?_
    refine seq_nil ⟨[(4, _)], [], ⟨rfl, T0⟩, trivial, ?_⟩
    refine ex_ret ?_
    refine ⟨.inr rfl, ResVs.cast (.cons (.tmp rfl) .nil) ?_⟩
    rw [if_neg hc]
  · have hc : canon m ws = true ∧ canon n vs = true := by simpa using hc
    have e := cmp_sg h h2 hc.1 hc.2
    refine ex_skip (show Exec _ _ _ _ _ from ?_)
    refine ex_seq ?_
    refine exr ?_
    refine sw (core_fieldAddr Tryd.underlying24 rfl Tryd.sizeOf4 (by decide) (by exact rfl) (L _ rfl)) ⟨rfl, T0⟩ ⟨rfl, T0⟩ ?_
    refine sw (core_load1 Tryd.isAgg4 (by rfl) (by rfl) (L _ rfl)) ⟨rfl, T0⟩ ⟨rfl, T0⟩ ?_
    refine sw (core_fieldAddr Tryd.underlying24 rfl Tryd.sizeOf4 (by decide) (by exact rfl) (L _ rfl)) ⟨rfl, T0⟩ ⟨rfl, T0⟩ ?_
    refine sw (core_load1 Tryd.isAgg4 (by rfl) (by rfl) (L _ rfl)) ⟨rfl, T0⟩ ⟨rfl, T0⟩ ?_
    refine sw (core_bne Tryd.underlying4 (L _ rfl)) ⟨rfl, rfl, T0⟩ T0 ?_
    refine seq_nil ⟨[(2, _), (3, _), (18, _)], [(2, _), (3, _)], ⟨rfl, rfl, rfl, T0⟩, ⟨rfl, rfl, T0⟩, ?_⟩
    refine ex_if rfl (fun hd => ?_) (fun hd => ?_)
    · have hd : m ≠ n := by simpa using hd
      refine ex_seq ?_
      refine exr ?_
      refine sw (core_fieldAddr Tryd.underlying24 rfl Tryd.sizeOf4 (by decide) (by exact rfl) (L _ rfl)) ⟨rfl, T0⟩ ⟨rfl, T0⟩ ?_
      refine sw (core_load1 Tryd.isAgg4 (by rfl) (by rfl) (L _ rfl)) ⟨rfl, T0⟩ ⟨rfl, T0⟩ ?_
      refine seq_nil ⟨[(20, _)], [], ⟨rfl, T0⟩, trivial, ?_⟩
      refine ex_if rfl (fun hm => ?_) (fun hm => ?_)
      · refine exr ?_
        refine sw (core_assign (L _ rfl)) ⟨rfl, T0⟩ T0 ?_
        refine seq_nil ⟨[(4, _)], [], ⟨rfl, T0⟩, trivial, ?_⟩
        refine ex_ret ?_
        refine ⟨.inr rfl, ResVs.cast (.cons (.tmp rfl) .nil) ?_⟩
        rw [if_pos hc, e, if_pos hd, if_pos hm]
      · refine ex_skip (show Exec _ _ _ _ _ from ?_)
        refine exr ?_
        refine sw (core_assign (L _ rfl)) ⟨rfl, T0⟩ T0 ?_
        refine seq_nil ⟨[(4, _)], [], ⟨rfl, T0⟩, trivial, ?_⟩
        refine ex_ret ?_
        refine ⟨.inr rfl, ResVs.cast (.cons (.tmp rfl) .nil) ?_⟩
        rw [if_pos hc, e, if_pos hd, if_neg (by simp [hm])]
    · have hd : ¬ m ≠ n := by simpa using hd
      have hb : -1 ≤ cmpI (val ws) (val vs) ∧ cmpI (val ws) (val vs) ≤ 1 := by unfold cmpI; split <;> (try split) <;> omega
      refine ex_skip (show Exec _ _ _ _ _ from ?_)
      refine exr ?_
      refine sw (core_fieldAddr Tryd.underlying24 rfl Tryd.sizeOf22 (by decide) (by exact rfl) (L _ rfl)) ⟨rfl, T0⟩ ⟨rfl, T0⟩ ?_
      refine sw (core_load1 Tryd.isAgg22 (by rfl) (by rfl) (L _ rfl)) ⟨rfl, T0⟩ ⟨rfl, T0⟩ ?_
      refine sw (core_fieldAddr Tryd.underlying24 rfl Tryd.sizeOf22 (by decide) (by exact rfl) (L _ rfl)) ⟨rfl, T0⟩ ⟨rfl, T0⟩ ?_
      refine sw (core_load1 Tryd.isAgg22 (by rfl) (by rfl) (L _ rfl)) ⟨rfl, T0⟩ ⟨rfl, T0⟩ ?_
      refine sw (core_call (E := E) hG hX Tryd.call61 rfl hN (rcmp_says ws vs hl hl2 h h2 (canon_tr hc.1).1 (canon_tr hc.2).1) (L _ rfl)) ⟨rfl, rfl, T0⟩ T0 ?_
      refine sw (core_assign (L _ rfl)) ⟨rfl, T0⟩ T0 ?_
      refine seq_nil ⟨[(2, _), (5, _)], [(2, _)], ⟨rfl, rfl, T0⟩, ⟨rfl, T0⟩, ?_⟩
      refine ex_seq ?_
      refine exr ?_
      refine sw (core_fieldAddr Tryd.underlying24 rfl Tryd.sizeOf4 (by decide) (by exact rfl) (L _ rfl)) ⟨rfl, T0⟩ ⟨rfl, T0⟩ ?_
      refine sw (core_load1 Tryd.isAgg4 (by rfl) (by rfl) (L _ rfl)) ⟨rfl, T0⟩ ⟨rfl, T0⟩ ?_
      refine seq_nil ⟨[(5, _), (27, _)], [], ⟨rfl, rfl, T0⟩, trivial, ?_⟩
      refine ex_if rfl (fun hm => ?_) (fun hm => ?_)
      · refine exr ?_
        refine sw (core_move (L _ rfl)) ⟨rfl, T0⟩ T0 ?_
        refine sw (core_neg (L _ rfl) (w64 (by omega) (by omega))) ⟨rfl, T0⟩ T0 ?_
        refine sw (core_assign (L _ rfl)) ⟨rfl, T0⟩ T0 ?_
        refine seq_nil ⟨[(4, _)], [], ⟨rfl, T0⟩, trivial, ?_⟩
        refine ex_ret ?_
        refine ⟨.inr rfl, ResVs.cast (.cons (.tmp rfl) .nil) ?_⟩
        exact vcong (by rw [if_pos hc, e, if_neg hd, if_pos hm]; omega)
      · refine ex_skip (show Exec _ _ _ _ _ from ?_)
        refine exr ?_
        refine sw (core_move (L _ rfl)) ⟨rfl, T0⟩ T0 ?_
        refine sw (core_assign (L _ rfl)) ⟨rfl, T0⟩ T0 ?_
        refine seq_nil ⟨[(4, _)], [], ⟨rfl, T0⟩, trivial, ?_⟩
        refine ex_ret ?_
        refine ⟨.inr rfl, ResVs.cast (.cons (.tmp rfl) .nil) ?_⟩
        rw [if_pos hc, e, if_neg hd, if_neg (by simp [hm])]

set_option maxRecDepth 100000 in
set_option maxHeartbeats 4000000 in
theorem rneg_says (neg : Bool) (ws : List Int) (hl : ws.length < 1000000000) (h : Wd ws) : Says E 28 [pI neg ws] (pZ (if canon neg ws = true then -(sg neg (val ws)) else 0)) := by
  refine says_of (xs := [pZ (if canon neg ws = true then -(sg neg (val ws)) else 0)]) Tryd.func28 rfl Tryd.ntmps28 Tryd.results28 (by simp) fun F hG hX0 hnt hdf P0 => ?_
  have L := ltn hnt
  have hX : ∀ b, F.X b → E.ng ≤ b := fun b h => absurd h (hX0 b)
  have hN := ng_le hG
  refine exr ?_
  refine swb (core_box (k := 1) (n := 2) (.pagg (.cons (.cons .nil))) rfl rfl (P0 _ rfl) (L _ rfl)) ⟨rfl, T0⟩ T0 ⟨rfl, rfl⟩ ?_
  refine swb (core_alloc (k := 2) (n := 2) Tryd.zeroValue24 (.cons rfl (.cons rfl .nil)) rfl (P0 _ rfl) (L _ rfl)) trivial trivial ⟨rfl, rfl⟩ ?_
  refine seq_nil ⟨[(1, _), (2, _)], [(1, _), (2, _)], ⟨rfl, rfl, T0⟩, ⟨rfl, rfl, T0⟩, ?_⟩
  refine ex_seq ?_
  refine exr ?_
  refine sw (core_loadP Tryd.isAgg24 Tryd.sizeOf24 (by rfl) (by exact (.cons (.cons .nil))) rfl (L _ rfl)) ⟨rfl, T0⟩ ⟨rfl, T0⟩ ?_
  refine sw (core_call (E := E) hG hX Tryd.call17 rfl hN (ris_says neg ws hl) (L _ rfl)) ⟨rfl, T0⟩ T0 ?_
  refine sw (core_not (L _ rfl)) ⟨rfl, T0⟩ T0 ?_
  refine seq_nil ⟨[(1, _), (2, _), (5, _)], [(1, _), (2, _)], ⟨rfl, rfl, rfl, T0⟩, ⟨rfl, rfl, T0⟩, ?_⟩
  refine ex_if rfl (fun hc => ?_) (fun hc => ?_)
  · have hc : canon neg ws = false := by simpa using hc
    refine exr ?_
    refine sw (core_pc (core_buildP (vs := []) Tryd.underlying24 Tryd.zeroValue24 (.cons rfl (.cons rfl .nil)) ((Places.cons Tryd.sizeOf4 (Places.cons Tryd.sizeOf22 Places.nil))).to rfl .nil (.cons (.cons .nil)) (L _ rfl)) (.agg (.cons .same (.cons .nil .nil)))) T0 T0 ?_
    refine sb (core_storeM Tryd.sizeOf24 (by rfl) (.pagg (.cons (.cons .nil))) rfl (.put (.put .here))) ⟨rfl, rfl, T0⟩ ⟨rfl, T0⟩ ?_
    refine seq_nil ⟨[(2, _)], [(2, _)], ⟨rfl, T0⟩, ⟨rfl, T0⟩, ?_⟩
    refine ex_ret ?_
    refine ⟨.inr rfl, ResVs.cast (.cons (.agg rfl rfl rfl Tryd.isAgg24 Tryd.sizeOf24 (.cons (.cons .nil))) .nil) ?_⟩
    simp [hc, pZ, digs_zero]; rfl
  · have hc : canon neg ws = true := by simpa using hc
    refine ex_skip (show Exec _ _ _ _ _ from ?_)
    refine exr ?_
    refine sw (core_fieldAddr Tryd.underlying24 rfl Tryd.sizeOf4 (by decide) (by exact rfl) (L _ rfl)) ⟨rfl, T0⟩ ⟨rfl, T0⟩ ?_
    refine sw (core_load1 Tryd.isAgg4 (by rfl) (by rfl) (L _ rfl)) ⟨rfl, T0⟩ ⟨rfl, T0⟩ ?_
    refine sw (core_not (L _ rfl)) ⟨rfl, T0⟩ T0 ?_
    refine sw (core_fieldAddr Tryd.underlying24 rfl Tryd.sizeOf22 (by decide) (by exact rfl) (L _ rfl)) ⟨rfl, T0⟩ ⟨rfl, T0⟩ ?_
    refine sw (core_load1 Tryd.isAgg22 (by rfl) (by rfl) (L _ rfl)) ⟨rfl, T0⟩ ⟨rfl, T0⟩ ?_
    refine sw (core_call (E := E) hG hX Tryd.call56 rfl hN (rmade_says (!neg) ws hl h) (L _ rfl)) ⟨rfl, rfl, T0⟩ T0 ?_
    refine sb (core_storeM Tryd.sizeOf24 (by rfl) (.pagg (.cons (.cons .nil))) rfl (.put (.put .here))) ⟨rfl, rfl, T0⟩ ⟨rfl, T0⟩ ?_
    refine seq_nil ⟨[(2, _)], [(2, _)], ⟨rfl, T0⟩, ⟨rfl, T0⟩, ?_⟩
    refine ex_ret ?_
    refine ⟨.inr rfl, ResVs.cast (.cons (.agg rfl rfl rfl Tryd.isAgg24 Tryd.sizeOf24 (.cons (.cons .nil))) .nil) ?_⟩
    rw [if_pos hc]; cases neg <;> simp [sg]

set_option maxRecDepth 100000 in
set_option maxHeartbeats 4000000 in
theorem rabs_says (neg : Bool) (ws : List Int) (hl : ws.length < 1000000000) (h : Wd ws) : Says E 30 [pI neg ws] (pZ (if canon neg ws = true then ((sg neg (val ws)).natAbs : Int) else 0)) := by
  refine says_of (xs := [pZ (if canon neg ws = true then ((sg neg (val ws)).natAbs : Int) else 0)]) Tryd.func30 rfl Tryd.ntmps30 Tryd.results30 (by simp) fun F hG hX0 hnt hdf P0 => ?_
  have L := ltn hnt
  have hX : ∀ b, F.X b → E.ng ≤ b := fun b h => absurd h (hX0 b)
  have hN := ng_le hG
  refine exr ?_
  refine swb (core_box (k := 1) (n := 2) (.pagg (.cons (.cons .nil))) rfl rfl (P0 _ rfl) (L _ rfl)) ⟨rfl, T0⟩ T0 ⟨rfl, rfl⟩ ?_
  refine swb (core_alloc (k := 2) (n := 2) Tryd.zeroValue24 (.cons rfl (.cons rfl .nil)) rfl (P0 _ rfl) (L _ rfl)) trivial trivial ⟨rfl, rfl⟩ ?_
  refine seq_nil ⟨[(1, _), (2, _)], [(1, _), (2, _)], ⟨rfl, rfl, T0⟩, ⟨rfl, rfl, T0⟩, ?_⟩
  refine ex_seq ?_
  refine exr ?_
  refine sw (core_loadP Tryd.isAgg24 Tryd.sizeOf24 (by rfl) (by exact (.cons (.cons .nil))) rfl (L _ rfl)) ⟨rfl, T0⟩ ⟨rfl, T0⟩ ?_
  refine sw (core_call (E := E) hG hX Tryd.call17 rfl hN (ris_says neg ws hl) (L _ rfl)) ⟨rfl, T0⟩ T0 ?_
  refine sw (core_not (L _ rfl)) ⟨rfl, T0⟩ T0 ?_
  refine seq_nil ⟨[(1, _), (2, _), (5, _)], [(1, _), (2, _)], ⟨rfl, rfl, rfl, T0⟩, ⟨rfl, rfl, T0⟩, ?_⟩
  refine ex_if rfl (fun hc => ?_) (fun hc => ?_)
  · have hc : canon neg ws = false := by simpa using hc
    refine exr ?_
    refine sw (core_pc (core_buildP (vs := []) Tryd.underlying24 Tryd.zeroValue24 (.cons rfl (.cons rfl .nil)) ((Places.cons Tryd.sizeOf4 (Places.cons Tryd.sizeOf22 Places.nil))).to rfl .nil (.cons (.cons .nil)) (L _ rfl)) (.agg (.cons .same (.cons .nil .nil)))) T0 T0 ?_
    refine sb (core_storeM Tryd.sizeOf24 (by rfl) (.pagg (.cons (.cons .nil))) rfl (.put (.put .here))) ⟨rfl, rfl, T0⟩ ⟨rfl, T0⟩ ?_
    refine seq_nil ⟨[(2, _)], [(2, _)], ⟨rfl, T0⟩, ⟨rfl, T0⟩, ?_⟩
    refine ex_ret ?_
    refine ⟨.inr rfl, ResVs.cast (.cons (.agg rfl rfl rfl Tryd.isAgg24 Tryd.sizeOf24 (.cons (.cons .nil))) .nil) ?_⟩
    simp [hc, pZ, digs_zero]; rfl
  · have hc : canon neg ws = true := by simpa using hc
    refine ex_skip (show Exec _ _ _ _ _ from ?_)
    refine exr ?_
    refine sw (core_fieldAddr Tryd.underlying24 rfl Tryd.sizeOf22 (by decide) (by exact rfl) (L _ rfl)) ⟨rfl, T0⟩ ⟨rfl, T0⟩ ?_
    refine sw (core_load1 Tryd.isAgg22 (by rfl) (by rfl) (L _ rfl)) ⟨rfl, T0⟩ ⟨rfl, T0⟩ ?_
    refine sw (core_call (E := E) hG hX Tryd.call56 rfl hN (rmade_says false ws hl h) (L _ rfl)) ⟨rfl, rfl, T0⟩ T0 ?_
    refine sb (core_storeM Tryd.sizeOf24 (by rfl) (.pagg (.cons (.cons .nil))) rfl (.put (.put .here))) ⟨rfl, rfl, T0⟩ ⟨rfl, T0⟩ ?_
    refine seq_nil ⟨[(2, _)], [(2, _)], ⟨rfl, T0⟩, ⟨rfl, T0⟩, ?_⟩
    refine ex_ret ?_
    refine ⟨.inr rfl, ResVs.cast (.cons (.agg rfl rfl rfl Tryd.isAgg24 Tryd.sizeOf24 (.cons (.cons .nil))) .nil) ?_⟩
    have e : ((sg neg (val ws)).natAbs : Int) = sg false (val ws) := by have := val_nonneg h; cases neg <;> simp [sg] <;> omega
    rw [if_pos hc, e]

end Go.Proofs.YtebkelnibecmjaaDoor.N
namespace Go.Proofs.YtebkelnibecmjaaDoor.N
open Go Go.Proofs.YtebkelnibecmjaaDoor.SH Go.Proofs.YtebkelnibecmjaaDoor.NumA
set_option maxRecDepth 100000 in
set_option maxHeartbeats 4000000 in
theorem add32_says (x y c : Int) (hx : 0 ≤ x ∧ x < 4294967296) (hy : 0 ≤ y ∧ y < 4294967296) (hc : 0 ≤ c ∧ c ≤ 1) : Says E 92 [oZ x, oZ y, oZ c] (.tup [oZ ((x + y + c) % 4294967296), oZ ((x + y + c) / 4294967296)]) := by
  refine says_of (xs := [oZ ((x + y + c) % 4294967296), oZ ((x + y + c) / 4294967296)]) Tryd.func92 rfl Tryd.ntmps92 Tryd.results92 (by simp) fun F hG hX0 hnt hdf P0 => ?_
  have L := ltn hnt
  have hX : ∀ b, F.X b → E.ng ≤ b := fun b h => absurd h (hX0 b)
  have hN := ng_le hG
  refine exr ?_
  refine sw (core_assign (L _ rfl)) ⟨rfl, T0⟩ T0 ?_
  refine sw (core_assign (L _ rfl)) ⟨rfl, T0⟩ T0 ?_
  refine seq_nil ⟨[(0, _), (1, _), (2, _)], [], ⟨rfl, rfl, rfl, T0⟩, trivial, ?_⟩
  refine exr ?_
  refine sw (core_move (L _ rfl)) ⟨rfl, T0⟩ T0 ?_
  refine sw (core_conv Tryd.underlying53 Tryd.underlying52 (L _ rfl) (fu64 (by omega) (by omega))) ⟨rfl, T0⟩ T0 ?_
  refine sw (core_move (L _ rfl)) ⟨rfl, T0⟩ T0 ?_
  refine sw (core_conv Tryd.underlying53 Tryd.underlying52 (L _ rfl) (fu64 (by omega) (by omega))) ⟨rfl, T0⟩ T0 ?_
  refine sw (core_add (L _ rfl) (fu64 (by omega) (by omega))) ⟨rfl, rfl, T0⟩ T0 ?_
  refine sw (core_move (L _ rfl)) ⟨rfl, T0⟩ T0 ?_
  refine sw (core_conv Tryd.underlying53 Tryd.underlying52 (L _ rfl) (fu64 (by omega) (by omega))) ⟨rfl, T0⟩ T0 ?_
  refine sw (core_add (L _ rfl) (fu64 (by omega) (by omega))) ⟨rfl, rfl, T0⟩ T0 ?_
  refine sw (core_assign (L _ rfl)) ⟨rfl, T0⟩ T0 ?_
  refine seq_nil ⟨[(8, _)], [], ⟨rfl, T0⟩, trivial, ?_⟩
  refine exr ?_
  refine sw (core_move (L _ rfl)) ⟨rfl, T0⟩ T0 ?_
  refine sw (core_conv Tryd.underlying52 Tryd.underlying53 (L _ rfl) wu32) ⟨rfl, T0⟩ T0 ?_
  refine sw (core_assign (L _ rfl)) ⟨rfl, T0⟩ T0 ?_
  refine seq_nil ⟨[(6, _), (8, _)], [], ⟨rfl, rfl, T0⟩, trivial, ?_⟩
  refine exr ?_
  refine sw (core_move (L _ rfl)) ⟨rfl, T0⟩ T0 ?_
  refine sw (core_shr (L _ rfl) (by decide) (shrE (c := 4294967296) (by rfl) (by decide))) ⟨rfl, rfl, T0⟩ T0 ?_
  refine sw (core_conv Tryd.underlying52 Tryd.underlying53 (L _ rfl) (fu32 (by omega) (by omega))) ⟨rfl, T0⟩ T0 ?_
  refine sw (core_assign (L _ rfl)) ⟨rfl, T0⟩ T0 ?_
  refine seq_nil ⟨[(6, _), (7, _)], [], ⟨rfl, rfl, T0⟩, trivial, ?_⟩
  refine ex_ret ?_
  refine ⟨.inr rfl, ResVs.cast (.cons (.tmp rfl) (.cons (.tmp rfl) .nil)) ?_⟩
  rfl

set_option maxRecDepth 100000 in
set_option maxHeartbeats 4000000 in
theorem plus1_says (x y c : Int) (hx : 0 ≤ x ∧ x < 4294967296) (hy : 0 ≤ y ∧ y < 4294967296) (hc : 0 ≤ c ∧ c ≤ 1) : SaysX E 94 [.p (oZ x), .p (oZ y), .at_ 1000 0 1] [(1000, ⟨53, 1, .mix [.p (oZ c)]⟩)] [(1000, ⟨53, 1, .mix [.p (oZ ((x + y + c) / 4294967296))]⟩)] (oZ ((x + y + c) % 4294967296)) := by
  refine saysX_of (xs := [oZ ((x + y + c) % 4294967296)]) Tryd.func94 rfl Tryd.ntmps94 Tryd.results94 (by simp) rfl (sub_of rfl) fun F hG hX hnt hdf P0 hXp => ?_
  have L := ltn hnt
  have hN := ng_le hG
  refine exr ?_
  refine sw (core_assign (L _ rfl)) ⟨rfl, T0⟩ T0 ?_
  refine seq_nil ⟨[(0, _), (1, _), (2, _)], [(1000, _)], ⟨rfl, rfl, rfl, T0⟩, ⟨rfl, T0⟩, ?_⟩
  refine exr ?_
  refine sw (core_move (L _ rfl)) ⟨rfl, T0⟩ T0 ?_
  refine sw (core_move (L _ rfl)) ⟨rfl, T0⟩ T0 ?_
  refine sw (core_load1 Tryd.isAgg53 (by rfl) (by rfl) (L _ rfl)) ⟨rfl, T0⟩ ⟨rfl, T0⟩ ?_
  refine sw (core_call (E := E) hG hX Tryd.call92 rfl hN (add32_says x y c hx hy hc) (L _ rfl)) ⟨rfl, rfl, rfl, T0⟩ T0 ?_
  refine sw (core_move (L _ rfl)) ⟨rfl, T0⟩ T0 ?_
  refine sw (core_extract rfl (L _ rfl)) ⟨rfl, T0⟩ T0 ?_
  refine sw (core_extract rfl (L _ rfl)) ⟨rfl, T0⟩ T0 ?_
  refine sw (core_assign (L _ rfl)) ⟨rfl, T0⟩ T0 ?_
  refine sw (core_assign (L _ rfl)) ⟨rfl, T0⟩ T0 ?_
  refine seq_nil ⟨[(2, _), (6, _), (7, _)], [(1000, _)], ⟨rfl, rfl, rfl, T0⟩, ⟨rfl, T0⟩, ?_⟩
  refine exr ?_
  refine sw (core_move (L _ rfl)) ⟨rfl, T0⟩ T0 ?_
  refine sb (core_storeM Tryd.sizeOf53 (by rfl) (.atom rfl) rfl (.put .here)) ⟨rfl, rfl, T0⟩ ⟨rfl, T0⟩ ?_
  refine seq_nil ⟨[(6, _)], [(1000, _)], ⟨rfl, T0⟩, ⟨rfl, T0⟩, ?_⟩
  refine exr ?_
  refine sw (core_move (L _ rfl)) ⟨rfl, T0⟩ T0 ?_
  refine sw (core_assign (L _ rfl)) ⟨rfl, T0⟩ T0 ?_
  refine seq_nil ⟨[(5, _)], [(1000, _)], ⟨rfl, T0⟩, ⟨rfl, T0⟩, ?_⟩
  refine ex_ret ?_
  refine ⟨.inr rfl, ResVs.cast (.cons (.tmp rfl) .nil) ?_, ⟨rfl, T0⟩⟩
  rfl

set_option maxRecDepth 100000 in
set_option maxHeartbeats 4000000 in
theorem word_says (neg : Bool) (ws : List Int) (hl : ws.length < 1000000000) (h : Wd ws) : Says E 84 [.a (.bool neg), pW ws] (.tup [vZ (if ws.length ≤ 1 then sg neg (val ws) else 0), bZ (decide (ws.length ≤ 1))]) := by
  refine says_of (xs := [vZ (if ws.length ≤ 1 then sg neg (val ws) else 0), bZ (decide (ws.length ≤ 1))]) Tryd.func84 rfl Tryd.ntmps84 Tryd.results84 (by simp) fun F hG hX0 hnt hdf P0 => ?_
  have L := ltn hnt
  have hX : ∀ b, F.X b → E.ng ≤ b := fun b h => absurd h (hX0 b)
  have hN := ng_le hG
  refine exr ?_
  refine sw (core_assign (L _ rfl)) ⟨rfl, T0⟩ T0 ?_
  refine sw (core_assign (L _ rfl)) ⟨rfl, T0⟩ T0 ?_
  refine seq_nil ⟨[(0, _), (1, _)], [], ⟨rfl, rfl, T0⟩, trivial, ?_⟩
  refine ex_seq ?_
  refine exr ?_
  refine sw (core_move (L _ rfl)) ⟨rfl, T0⟩ T0 ?_
  refine sw (core_len Tryd.underlying22 (L _ rfl)) ⟨rfl, T0⟩ T0 ?_
  refine sw (core_gtr (L _ rfl)) ⟨rfl, rfl, T0⟩ T0 ?_
  refine seq_nil ⟨[(0, _), (1, _), (9, _)], [], ⟨rfl, rfl, rfl, T0⟩, trivial, ?_⟩
  refine ex_if rfl (fun hc => ?_) (fun hc => ?_)
  · have hc := dt hc
    refine exr ?_
    refine sw (core_assign (L _ rfl)) ⟨rfl, T0⟩ T0 ?_
    refine sw (core_assign (L _ rfl)) ⟨rfl, T0⟩ T0 ?_
    refine seq_nil ⟨[(4, _), (5, _)], [], ⟨rfl, rfl, T0⟩, trivial, ?_⟩
    refine ex_ret ?_
    refine ⟨.inr rfl, ResVs.cast (.cons (.tmp rfl) (.cons (.tmp rfl) .nil)) ?_⟩
    rw [if_neg (by omega), decide_eq_false (by omega)]
  · have hc := df hc
    refine ex_skip (show Exec _ _ _ _ _ from ?_)
    refine exr ?_
    refine sw (core_assign (L _ rfl)) ⟨rfl, T0⟩ T0 ?_
    refine seq_nil ⟨[(0, _), (1, _), (6, _)], [], ⟨rfl, rfl, rfl, T0⟩, trivial, ?_⟩
    refine ex_seq ?_
    refine exr ?_
    refine sw (core_move (L _ rfl)) ⟨rfl, T0⟩ T0 ?_
    refine sw (core_len Tryd.underlying22 (L _ rfl)) ⟨rfl, T0⟩ T0 ?_
    refine sw (core_eql (L _ rfl)) ⟨rfl, rfl, T0⟩ T0 ?_
    refine seq_nil ⟨[(0, _), (1, _), (6, _), (12, _)], [], ⟨rfl, rfl, rfl, rfl, T0⟩, trivial, ?_⟩
    refine ex_cut (sl := [(6, vi (val ws))]) (sl0 := [(0, _)]) (hb := []) (hb0 := []) ⟨rfl, T0⟩ T0 ?_ ?_
    · refine ex_if rfl (fun hd => ?_) (fun hd => ?_)
      · have hd := dt hd
        have hw := h.get (i := 0) (by omega)
        refine exr0 ?_
        refine sw (core_move (L _ rfl)) ⟨rfl, T0⟩ T0 ?_
        refine sw (ixJ Tryd.underlying22 Tryd.sizeOf53 (j := 0) rfl (by omega) (by simp) (L _ rfl)) ⟨rfl, rfl, T0⟩ T0 ?_
        refine sw (core_loadI1 Tryd.isAgg53 (by first | exact getW (by omega) | rfl) (L _ rfl)) ⟨rfl, T0⟩ T0 ?_
        refine sw (core_conv Tryd.underlying53 Tryd.underlying2 (L _ rfl) (w64 (by omega) (by omega))) ⟨rfl, T0⟩ T0 ?_
        refine sw (core_assign (L _ rfl)) ⟨rfl, T0⟩ T0 ?_
        refine seq_nil ?_
        exact ⟨⟨oi (val_one (by omega)) rfl, (by first | exact rfl | exact oi (by omega) rfl), T0⟩, T0⟩
      · have hd := df hd
        have e : ws = [] := List.eq_nil_of_length_eq_zero (by omega)
        refine ex_skip ?_
        exact ⟨⟨oi (by rw [e]; rfl) rfl, (by first | exact rfl | exact oi (by omega) rfl), T0⟩, T0⟩
    · have hv := val_nonneg h
      have hv2 := val_lt1 h (by omega)
      refine ex_seq ?_
      refine exr ?_
      refine sw (core_move (L _ rfl)) ⟨rfl, T0⟩ T0 ?_
      refine seq_nil ⟨[(6, _), (17, _)], [], ⟨rfl, rfl, T0⟩, trivial, ?_⟩
      refine ex_cut (sl := [(6, vi (sg neg (val ws)))]) (sl0 := []) (hb := []) (hb0 := []) T0 T0 ?_ ?_
      · refine ex_if rfl (fun hn => ?_) (fun hn => ?_)
        · refine exr0 ?_
          refine sw (core_move (L _ rfl)) ⟨rfl, T0⟩ T0 ?_
          refine sw (core_neg (L _ rfl) (w64 (by omega) (by omega))) ⟨rfl, T0⟩ T0 ?_
          refine sw (core_assign (L _ rfl)) ⟨rfl, T0⟩ T0 ?_
          refine seq_nil ?_
          exact ⟨⟨oi (by rw [hn, sg, if_pos rfl]; omega) rfl, T0⟩, T0⟩
        · refine ex_skip ?_
          exact ⟨⟨oi (by rw [hn]; rfl) rfl, T0⟩, T0⟩
      · refine exr ?_
        refine sw (core_move (L _ rfl)) ⟨rfl, T0⟩ T0 ?_
        refine sw (core_assign (L _ rfl)) ⟨rfl, T0⟩ T0 ?_
        refine sw (core_assign (L _ rfl)) ⟨rfl, T0⟩ T0 ?_
        refine seq_nil ⟨[(4, _), (5, _)], [], ⟨rfl, rfl, T0⟩, trivial, ?_⟩
        refine ex_ret ?_
        refine ⟨.inr rfl, ResVs.cast (.cons (.tmp rfl) (.cons (.tmp rfl) .nil)) ?_⟩
        rw [if_pos (by omega), decide_eq_true (by omega)]

end Go.Proofs.YtebkelnibecmjaaDoor.N
namespace Go.Proofs.YtebkelnibecmjaaDoor.N
open Go Go.Proofs.YtebkelnibecmjaaDoor.SH Go.Proofs.YtebkelnibecmjaaDoor.NumA
set_option maxRecDepth 100000 in
set_option maxHeartbeats 4000000 in
theorem sub32_bv (X Y : BitVec 32) (b : Int) (hb : 0 ≤ b ∧ b ≤ 1) : Says E 96 [oZ X.toNat, oZ Y.toNat, oZ b] (.tup [oZ (((X.toNat : Int) - Y.toNat - b) % 4294967296), oZ (if (X.toNat : Int) < Y.toNat + b then 1 else 0)]) := by
  refine says_of (xs := [oZ (((X.toNat : Int) - Y.toNat - b) % 4294967296), oZ (if (X.toNat : Int) < Y.toNat + b then 1 else 0)]) Tryd.func96 rfl Tryd.ntmps96 Tryd.results96 (by simp) fun F hG hX0 hnt hdf P0 => ?_
  have L := ltn hnt
  have hX : ∀ b, F.X b → E.ng ≤ b := fun b h => absurd h (hX0 b)
  have hN := ng_le hG
  have hx := X.isLt
  have hy := Y.isLt
  obtain ⟨D, hD⟩ : ∃ D : BitVec 32, (D.toNat : Int) = ((X.toNat : Int) - Y.toNat - b) % 4294967296 := ⟨BitVec.ofInt 32 ((X.toNat : Int) - Y.toNat - b), by rw [BitVec.toNat_ofInt]; omega⟩
  refine exr ?_
  refine sw (core_assign (L _ rfl)) ⟨rfl, T0⟩ T0 ?_
  refine sw (core_assign (L _ rfl)) ⟨rfl, T0⟩ T0 ?_
  refine seq_nil ⟨[(0, _), (1, _), (2, _)], [], ⟨rfl, rfl, rfl, T0⟩, trivial, ?_⟩
  refine exr ?_
  refine sw (core_move (L _ rfl)) ⟨rfl, T0⟩ T0 ?_
  refine sw (core_move (L _ rfl)) ⟨rfl, T0⟩ T0 ?_
  refine sw (core_sub (L _ rfl) wu32) ⟨rfl, rfl, T0⟩ T0 ?_
  refine sw (core_move (L _ rfl)) ⟨rfl, T0⟩ T0 ?_
  refine sw (core_sub (L _ rfl) (show _ = (D.toNat : Int) by rw [wu32, hD]; omega)) ⟨rfl, rfl, T0⟩ T0 ?_
  refine sw (core_assign (L _ rfl)) ⟨rfl, T0⟩ T0 ?_
  refine seq_nil ⟨[(0, _), (1, _), (6, _)], [], ⟨rfl, rfl, rfl, T0⟩, trivial, ?_⟩
  refine exr ?_
  refine sw (core_move (L _ rfl)) ⟨rfl, T0⟩ T0 ?_
  refine sw (core_xorU rfl (L _ rfl) (bx_not X)) ⟨rfl, T0⟩ T0 ?_
  refine sw (core_move (L _ rfl)) ⟨rfl, T0⟩ T0 ?_
  refine sw (core_and (L _ rfl) (bx_and (~~~X) Y)) ⟨rfl, rfl, T0⟩ T0 ?_
  refine sw (core_move (L _ rfl)) ⟨rfl, T0⟩ T0 ?_
  refine sw (core_move (L _ rfl)) ⟨rfl, T0⟩ T0 ?_
  refine sw (core_xor (L _ rfl) (bx_xor X Y)) ⟨rfl, rfl, T0⟩ T0 ?_
  refine sw (core_xorU rfl (L _ rfl) (bx_not (X ^^^ Y))) ⟨rfl, T0⟩ T0 ?_
  refine sw (core_move (L _ rfl)) ⟨rfl, T0⟩ T0 ?_
  refine sw (core_and (L _ rfl) (bx_and (~~~(X ^^^ Y)) D)) ⟨rfl, rfl, T0⟩ T0 ?_
  refine sw (core_or (L _ rfl) (bx_or (~~~X &&& Y) (~~~(X ^^^ Y) &&& D))) ⟨rfl, rfl, T0⟩ T0 ?_
  refine sw (core_shr (L _ rfl) (by decide) (shrE (c := 2147483648) (by rfl) (by decide))) ⟨rfl, rfl, T0⟩ T0 ?_
  refine sw (core_assign (L _ rfl)) ⟨rfl, T0⟩ T0 ?_
  refine seq_nil ⟨[(6, _), (7, _)], [], ⟨rfl, rfl, T0⟩, trivial, ?_⟩
  refine ex_ret ?_
  refine ⟨.inr rfl, ResVs.cast (.cons (.tmp rfl) (.cons (.tmp rfl) .nil)) ?_⟩
  rw [borrow32 X Y b hb D hD, hD]

theorem sub32_says (x y c : Int) (hx : 0 ≤ x ∧ x < 4294967296) (hy : 0 ≤ y ∧ y < 4294967296) (hc : 0 ≤ c ∧ c ≤ 1) : Says E 96 [oZ x, oZ y, oZ c] (.tup [oZ ((x - y - c) % 4294967296), oZ (if x < y + c then 1 else 0)]) := by
  have e : ∀ {z : Int}, 0 ≤ z ∧ z < 4294967296 → ((BitVec.ofInt 32 z).toNat : Int) = z := fun {z} hz => by rw [BitVec.toNat_ofInt]; omega
  have := sub32_bv (BitVec.ofInt 32 x) (BitVec.ofInt 32 y) c hc
  rwa [e hx, e hy] at this
set_option maxRecDepth 100000 in
set_option maxHeartbeats 4000000 in
theorem minus1_says (x y c : Int) (hx : 0 ≤ x ∧ x < 4294967296) (hy : 0 ≤ y ∧ y < 4294967296) (hc : 0 ≤ c ∧ c ≤ 1) : SaysX E 95 [.p (oZ x), .p (oZ y), .at_ 1000 0 1] [(1000, ⟨53, 1, .mix [.p (oZ c)]⟩)] [(1000, ⟨53, 1, .mix [.p (oZ (if x < y + c then 1 else 0))]⟩)] (oZ ((x - y - c) % 4294967296)) := by
  refine saysX_of (xs := [oZ ((x - y - c) % 4294967296)]) Tryd.func95 rfl Tryd.ntmps95 Tryd.results95 (by simp) rfl (sub_of rfl) fun F hG hX hnt hdf P0 hXp => ?_
  have L := ltn hnt
  have hN := ng_le hG
  refine exr ?_
  refine sw (core_assign (L _ rfl)) ⟨rfl, T0⟩ T0 ?_
  refine seq_nil ⟨[(0, _), (1, _), (2, _)], [(1000, _)], ⟨rfl, rfl, rfl, T0⟩, ⟨rfl, T0⟩, ?_⟩
  refine exr ?_
  refine sw (core_move (L _ rfl)) ⟨rfl, T0⟩ T0 ?_
  refine sw (core_move (L _ rfl)) ⟨rfl, T0⟩ T0 ?_
  refine sw (core_load1 Tryd.isAgg53 (by rfl) (by rfl) (L _ rfl)) ⟨rfl, T0⟩ ⟨rfl, T0⟩ ?_
  refine sw (core_call (E := E) hG hX Tryd.call96 rfl hN (sub32_says x y c hx hy hc) (L _ rfl)) ⟨rfl, rfl, rfl, T0⟩ T0 ?_
  refine sw (core_move (L _ rfl)) ⟨rfl, T0⟩ T0 ?_
  refine sw (core_extract rfl (L _ rfl)) ⟨rfl, T0⟩ T0 ?_
  refine sw (core_extract rfl (L _ rfl)) ⟨rfl, T0⟩ T0 ?_
  refine sw (core_assign (L _ rfl)) ⟨rfl, T0⟩ T0 ?_
  refine sw (core_assign (L _ rfl)) ⟨rfl, T0⟩ T0 ?_
  refine seq_nil ⟨[(2, _), (6, _), (7, _)], [(1000, _)], ⟨rfl, rfl, rfl, T0⟩, ⟨rfl, T0⟩, ?_⟩
  refine exr ?_
  refine sw (core_move (L _ rfl)) ⟨rfl, T0⟩ T0 ?_
  refine sb (core_storeM Tryd.sizeOf53 (by rfl) (.atom rfl) rfl (.put .here)) ⟨rfl, rfl, T0⟩ ⟨rfl, T0⟩ ?_
  refine seq_nil ⟨[(6, _)], [(1000, _)], ⟨rfl, T0⟩, ⟨rfl, T0⟩, ?_⟩
  refine exr ?_
  refine sw (core_move (L _ rfl)) ⟨rfl, T0⟩ T0 ?_
  refine sw (core_assign (L _ rfl)) ⟨rfl, T0⟩ T0 ?_
  refine seq_nil ⟨[(5, _)], [(1000, _)], ⟨rfl, T0⟩, ⟨rfl, T0⟩, ?_⟩
  refine ex_ret ?_
  refine ⟨.inr rfl, ResVs.cast (.cons (.tmp rfl) .nil) ?_, ⟨rfl, T0⟩⟩
  rfl

set_option maxRecDepth 100000 in
set_option maxHeartbeats 4000000 in
theorem zipp_says (ws vs : List Int) (hl : ws.length < 1000000000) (hl2 : vs.length < 1000000000) (h : Wd ws) (h2 : Wd vs) : SaysX E 93 [.p (pW ws), .p (pW vs), .clo (.func 94) [] [.at_ 1000 0 1]] [(1000, ⟨53, 1, .mix [.p (oZ 0)]⟩)] [(1000, ⟨53, 1, .mix [.p (oZ 0)]⟩)] (pW (digN (max ws.length vs.length + 1) (val ws + val vs))) := by
  refine saysX_of (xs := [pW (digN (max ws.length vs.length + 1) (val ws + val vs))]) Tryd.func93 rfl Tryd.ntmps93 Tryd.results93 (by simp) rfl (sub_of rfl) fun F hG hX hnt hdf P0 hXp => ?_
  have L := ltn hnt
  have hN := ng_le hG
  obtain ⟨n, hn⟩ : ∃ n, n = max ws.length vs.length + 1 := ⟨_, rfl⟩
  rw [← hn]
  refine exr ?_
  refine sw (core_assign (L _ rfl)) ⟨rfl, T0⟩ T0 ?_
  refine seq_nil ⟨[(0, _), (1, _), (2, _)], [(1000, _)], ⟨rfl, rfl, rfl, T0⟩, ⟨rfl, T0⟩, ?_⟩
  refine exr ?_
  refine sw (core_move (L _ rfl)) ⟨rfl, T0⟩ T0 ?_
  refine sw (core_len Tryd.underlying22 (L _ rfl)) ⟨rfl, T0⟩ T0 ?_
  refine sw (core_move (L _ rfl)) ⟨rfl, T0⟩ T0 ?_
  refine sw (core_len Tryd.underlying22 (L _ rfl)) ⟨rfl, T0⟩ T0 ?_
  refine sw (core_max (L _ rfl)) ⟨rfl, rfl, T0⟩ T0 ?_
  refine sw (core_add (L _ rfl) (w64 (by omega) (by omega))) ⟨rfl, rfl, T0⟩ T0 ?_
  refine sw (core_assign (L _ rfl)) ⟨rfl, T0⟩ T0 ?_
  refine seq_nil ⟨[(0, _), (1, _), (2, _), (7, vi (n : Int))], [(1000, _)], ⟨rfl, rfl, rfl, oi (by omega) rfl, T0⟩, ⟨rfl, T0⟩, ?_⟩
  refine exr ?_
  refine sw (core_move (L _ rfl)) ⟨rfl, T0⟩ T0 ?_
  refine swb (core_make1 (k := 19) Tryd.underlying22 Tryd.typeInfo53 rfl rfl rfl rfl rfl rfl (Nat.le_refl _) (by simp [Tryd.t53]; omega) (by omega) (P0 _ rfl) (L _ rfl)) ⟨rfl, rfl, T0⟩ T0 ⟨rfl, rfl⟩ ?_
  refine sw (core_assign (L _ rfl)) ⟨rfl, T0⟩ T0 ?_
  refine seq_nil ⟨[(0, _), (1, _), (2, _), (7, _), (8, _)], [(19, _), (1000, _)], ⟨rfl, rfl, rfl, rfl, rfl, T0⟩, ⟨rfl, rfl, T0⟩, ?_⟩
  refine ex_seq ?_
  refine exr ?_
  refine sw (core_move (L _ rfl)) ⟨rfl, T0⟩ T0 ?_
  refine sw (core_move (L _ rfl)) ⟨rfl, T0⟩ T0 ?_
  refine seq_nil ⟨[(0, _), (1, _), (2, _), (8, _), (20, _), (21, _)], [(19, _), (1000, _)], ⟨rfl, rfl, rfl, rfl, rfl, rfl, T0⟩, ⟨rfl, rfl, T0⟩, ?_⟩
  refine ex_block ?_
  refine exl (α := (Nat × List Int × Int)) (fun x => [(21, vi (x.1:Int))]) (fun x => [(19, ⟨53, 1, .pure (encW (x.2.1 ++ List.replicate (n - x.1) 0))⟩), (1000, ⟨53, 1, .mix [.p (oZ x.2.2)]⟩)]) (fun x => AddAt ws vs n x) (fun x => n - x.1) (((0 : Nat), ([] : List Int), (0 : Int))) (sl := [(0, _), (1, _), (2, _), (8, _), (20, _)]) (hb := []) ?_ ⟨(by first | exact rfl | exact oi (by omega) rfl), rfl, rfl, rfl, rfl, rfl, T0⟩ ⟨obl rfl (by simp [encW]), rfl, T0⟩ ?_
  · exact AddAt.zero ws vs n
  intro x hx
  obtain ⟨i, ys, c⟩ := x
  have hlen := hx.len
  have hle := hx.le
  have hc0 := hx.c0
  have hc1 := hx.c1
  simp only at hlen hle hc0 hc1
  dsimp only
  have hw := h.getD i
  have hw2 := h2.getD i
  refine exr ?_
  refine sw (core_lss (L _ rfl)) ⟨rfl, rfl, T0⟩ T0 ?_
  refine seq_nil ⟨[(0, _), (1, _), (2, _), (8, _), (20, _), (21, _), (22, _)], [(19, _), (1000, _)], ⟨rfl, rfl, rfl, rfl, rfl, rfl, rfl, T0⟩, ⟨rfl, rfl, T0⟩, ?_⟩
  refine ex_seq ?_
  refine ex_if rfl (fun he => ?_) (fun he => ?_)
  · have he := dt he
    refine ex_skip (show Exec _ _ _ _ _ from ?_)
    refine ex_seq ?_
    refine ex_block ?_
    refine exr ?_
    refine sw (core_move (L _ rfl)) ⟨rfl, T0⟩ T0 ?_
    refine sw (core_assign (L _ rfl)) ⟨rfl, T0⟩ T0 ?_
    refine seq_nil ⟨[(0, _), (1, _), (2, _), (8, _), (9, _), (20, _), (21, _)], [(19, _), (1000, _)], ⟨rfl, rfl, rfl, rfl, rfl, rfl, rfl, T0⟩, ⟨rfl, rfl, T0⟩, ?_⟩
    refine exr ?_
    refine sw (core_assign (L _ rfl)) ⟨rfl, T0⟩ T0 ?_
    refine sw (core_assign (L _ rfl)) ⟨rfl, T0⟩ T0 ?_
    refine seq_nil ⟨[(0, _), (1, _), (2, _), (8, _), (9, _), (10, _), (11, _), (20, _), (21, _)], [(19, _), (1000, _)], ⟨rfl, rfl, rfl, rfl, rfl, rfl, rfl, rfl, rfl, T0⟩, ⟨rfl, rfl, T0⟩, ?_⟩
    refine ex_seq ?_
    refine exr ?_
    refine sw (core_move (L _ rfl)) ⟨rfl, T0⟩ T0 ?_
    refine sw (core_move (L _ rfl)) ⟨rfl, T0⟩ T0 ?_
    refine sw (core_len Tryd.underlying22 (L _ rfl)) ⟨rfl, T0⟩ T0 ?_
    refine sw (core_lss (L _ rfl)) ⟨rfl, rfl, T0⟩ T0 ?_
    refine seq_nil ⟨[(0, _), (1, _), (2, _), (8, _), (9, _), (10, _), (11, _), (20, _), (21, _), (27, _)], [(19, _), (1000, _)], ⟨rfl, rfl, rfl, rfl, rfl, rfl, rfl, rfl, rfl, rfl, T0⟩, ⟨rfl, rfl, T0⟩, ?_⟩
    refine ex_cut (sl := [(10, vu (ws.getD i 0))]) (sl0 := [(0, _), (1, _), (2, _), (8, _), (9, _), (11, _), (20, _), (21, _)]) (hb := []) (hb0 := [(19, _), (1000, _)]) ⟨rfl, rfl, rfl, rfl, rfl, rfl, rfl, rfl, T0⟩ ⟨rfl, rfl, T0⟩ ?_ ?_
    · refine ex_if rfl (fun hd => ?_) (fun hd => ?_)
      · have hd := dt hd
        refine exr0 ?_
        refine sw (core_move (L _ rfl)) ⟨rfl, T0⟩ T0 ?_
        refine sw (core_move (L _ rfl)) ⟨rfl, T0⟩ T0 ?_
        refine sw (ixJ Tryd.underlying22 Tryd.sizeOf53 (j := i) (by first | exact rfl | omega) (by omega) (by simp) (L _ rfl)) ⟨rfl, rfl, T0⟩ T0 ?_
        refine sw (core_loadI1 Tryd.isAgg53 (by first | exact getW (by omega) | rfl) (L _ rfl)) ⟨rfl, T0⟩ T0 ?_
        refine sw (core_assign (L _ rfl)) ⟨rfl, T0⟩ T0 ?_
        refine seq_nil ?_
        exact ⟨⟨(by first | exact rfl | exact oi (by omega) rfl), (by first | exact rfl | exact oi (by omega) rfl), (by first | exact rfl | exact oi (by omega) rfl), (by first | exact rfl | exact oi (by omega) rfl), (by first | exact rfl | exact oi (by omega) rfl), (by first | exact rfl | exact oi (by omega) rfl), (by first | exact rfl | exact oi (by omega) rfl), (by first | exact rfl | exact oi (by omega) rfl), (by first | exact rfl | exact oi (by omega) rfl), T0⟩, ⟨rfl, rfl, T0⟩⟩
      · have hd := df hd
        refine ex_skip ?_
        exact ⟨⟨oi (getD_out (by omega)).symm rfl, (by first | exact rfl | exact oi (by omega) rfl), (by first | exact rfl | exact oi (by omega) rfl), (by first | exact rfl | exact oi (by omega) rfl), (by first | exact rfl | exact oi (by omega) rfl), (by first | exact rfl | exact oi (by omega) rfl), (by first | exact rfl | exact oi (by omega) rfl), (by first | exact rfl | exact oi (by omega) rfl), (by first | exact rfl | exact oi (by omega) rfl), T0⟩, ⟨rfl, rfl, T0⟩⟩
    · refine ex_seq ?_
      refine exr ?_
      refine sw (core_move (L _ rfl)) ⟨rfl, T0⟩ T0 ?_
      refine sw (core_move (L _ rfl)) ⟨rfl, T0⟩ T0 ?_
      refine sw (core_len Tryd.underlying22 (L _ rfl)) ⟨rfl, T0⟩ T0 ?_
      refine sw (core_lss (L _ rfl)) ⟨rfl, rfl, T0⟩ T0 ?_
      refine seq_nil ⟨[(0, _), (1, _), (2, _), (8, _), (9, _), (10, _), (11, _), (20, _), (21, _), (35, _)], [(19, _), (1000, _)], ⟨rfl, rfl, rfl, rfl, rfl, rfl, rfl, rfl, rfl, rfl, T0⟩, ⟨rfl, rfl, T0⟩, ?_⟩
      refine ex_cut (sl := [(11, vu (vs.getD i 0))]) (sl0 := [(0, _), (1, _), (2, _), (8, _), (9, _), (10, _), (20, _), (21, _)]) (hb := []) (hb0 := [(19, _), (1000, _)]) ⟨rfl, rfl, rfl, rfl, rfl, rfl, rfl, rfl, T0⟩ ⟨rfl, rfl, T0⟩ ?_ ?_
      · refine ex_if rfl (fun hd => ?_) (fun hd => ?_)
        · have hd := dt hd
          refine exr0 ?_
          refine sw (core_move (L _ rfl)) ⟨rfl, T0⟩ T0 ?_
          refine sw (core_move (L _ rfl)) ⟨rfl, T0⟩ T0 ?_
          refine sw (ixJ Tryd.underlying22 Tryd.sizeOf53 (j := i) (by first | exact rfl | omega) (by omega) (by simp) (L _ rfl)) ⟨rfl, rfl, T0⟩ T0 ?_
          refine sw (core_loadI1 Tryd.isAgg53 (by first | exact getW (by omega) | rfl) (L _ rfl)) ⟨rfl, T0⟩ T0 ?_
          refine sw (core_assign (L _ rfl)) ⟨rfl, T0⟩ T0 ?_
          refine seq_nil ?_
          exact ⟨⟨(by first | exact rfl | exact oi (by omega) rfl), (by first | exact rfl | exact oi (by omega) rfl), (by first | exact rfl | exact oi (by omega) rfl), (by first | exact rfl | exact oi (by omega) rfl), (by first | exact rfl | exact oi (by omega) rfl), (by first | exact rfl | exact oi (by omega) rfl), (by first | exact rfl | exact oi (by omega) rfl), (by first | exact rfl | exact oi (by omega) rfl), (by first | exact rfl | exact oi (by omega) rfl), T0⟩, ⟨rfl, rfl, T0⟩⟩
        · have hd := df hd
          refine ex_skip ?_
          exact ⟨⟨oi (getD_out (by omega)).symm rfl, (by first | exact rfl | exact oi (by omega) rfl), (by first | exact rfl | exact oi (by omega) rfl), (by first | exact rfl | exact oi (by omega) rfl), (by first | exact rfl | exact oi (by omega) rfl), (by first | exact rfl | exact oi (by omega) rfl), (by first | exact rfl | exact oi (by omega) rfl), (by first | exact rfl | exact oi (by omega) rfl), (by first | exact rfl | exact oi (by omega) rfl), T0⟩, ⟨rfl, rfl, T0⟩⟩
      · refine exr0 ?_
        refine sw (core_move (L _ rfl)) ⟨rfl, T0⟩ T0 ?_
        refine sw (core_move (L _ rfl)) ⟨rfl, T0⟩ T0 ?_
        refine sw (core_move (L _ rfl)) ⟨rfl, T0⟩ T0 ?_
        refine sw (core_move (L _ rfl)) ⟨rfl, T0⟩ T0 ?_
        refine sw (core_move (L _ rfl)) ⟨rfl, T0⟩ T0 ?_
        refine swB (core_callX (E := E) hG hX [1000] hN (plus1_says (ws.getD i 0) (vs.getD i 0) c hw hw2 ⟨hc0, hc1⟩) rfl (args_clo (fst := []) (ys := [_, _]) (cap := [_]) Tryd.call94 rfl (by rfl)) (by rfl) (by rfl) (by rfl) (by rfl) (SameH.to (.cons rfl .nil)) (by rfl) (by rfl) (L _ rfl)) ⟨rfl, rfl, rfl, T0⟩ ⟨rfl, T0⟩ ?_
        refine sw (ixR0 Tryd.underlying22 Tryd.sizeOf53 (by exact (by simp; omega)) (j := i) (by first | exact rfl | omega) (by omega) (L _ rfl)) ⟨rfl, rfl, T0⟩ ⟨rfl, T0⟩ ?_
        refine sb (core_store1 Tryd.sizeOf53 (by exact (by simp; omega)) (.atom rfl) (by omega)) ⟨rfl, rfl, T0⟩ ⟨rfl, T0⟩ ?_
        refine seq_nil ?_
        refine exr0 ?_
        refine sw (core_add (L _ rfl) (w64 (by omega) (by omega))) ⟨rfl, rfl, T0⟩ T0 ?_
        refine sw (core_move (L _ rfl)) ⟨rfl, T0⟩ T0 ?_
        refine seq_nil ?_
        exact ⟨(i + 1, ys ++ [(ws.getD i 0 + vs.getD i 0 + c) % 4294967296], (ws.getD i 0 + vs.getD i 0 + c) / 4294967296), hx.next h h2 (by omega), (by simp only; omega), le_of ⟨(by first | exact rfl | exact oi (by omega) rfl), rfl, rfl, rfl, rfl, rfl, T0⟩ ⟨obl rfl (by rw [encW_set, set_fill hlen (by omega)]), rfl, T0⟩⟩
  · have he := df he
    have hi : i = n := by omega
    subst hi
    obtain ⟨e1, e2⟩ : c = 0 ∧ ys = digN i (val ws + val vs) := add_end h h2 hx.wd hlen hn hc0 hx.eq
    subst e1
    refine ex_exit (show Exec _ _ _ _ _ from ?_)
    refine exr ?_
    refine sw (core_move (L _ rfl)) ⟨rfl, T0⟩ T0 ?_
    refine sw (core_assign (L _ rfl)) ⟨rfl, T0⟩ T0 ?_
    refine seq_nil ⟨[(6, _)], [(19, _), (1000, _)], ⟨rfl, T0⟩, ⟨rfl, rfl, T0⟩, ?_⟩
    refine ex_cv [19] (sl := [(6, _)]) (hb := [(1000, _)]) (own_of hXp rfl) ⟨⟨_, rfl, (.ref rfl rfl (by exact (by simp; omega)) (by first | rfl | omega))⟩, T0⟩ ⟨⟨rfl, _, rfl, .same⟩, T0⟩ ?_
    refine ex_ret ?_
    refine ⟨.inr rfl, ResVs.cast (.cons (.tmp rfl) .nil) ?_, ⟨rfl, T0⟩⟩
    rw [e2]; simp [digN_length]

set_option maxRecDepth 100000 in
set_option maxHeartbeats 4000000 in
theorem zipm_says (ws vs : List Int) (hl : ws.length < 1000000000) (hl2 : vs.length < 1000000000) (h : Wd ws) (h2 : Wd vs) (hle0 : val vs ≤ val ws) : SaysX E 93 [.p (pW ws), .p (pW vs), .clo (.func 95) [] [.at_ 1000 0 1]] [(1000, ⟨53, 1, .mix [.p (oZ 0)]⟩)] [(1000, ⟨53, 1, .mix [.p (oZ 0)]⟩)] (pW (digN (max ws.length vs.length + 1) (val ws - val vs))) := by
  refine saysX_of (xs := [pW (digN (max ws.length vs.length + 1) (val ws - val vs))]) Tryd.func93 rfl Tryd.ntmps93 Tryd.results93 (by simp) rfl (sub_of rfl) fun F hG hX hnt hdf P0 hXp => ?_
  have L := ltn hnt
  have hN := ng_le hG
  obtain ⟨n, hn⟩ : ∃ n, n = max ws.length vs.length + 1 := ⟨_, rfl⟩
  rw [← hn]
  refine exr ?_
  refine sw (core_assign (L _ rfl)) ⟨rfl, T0⟩ T0 ?_
  refine seq_nil ⟨[(0, _), (1, _), (2, _)], [(1000, _)], ⟨rfl, rfl, rfl, T0⟩, ⟨rfl, T0⟩, ?_⟩
  refine exr ?_
  refine sw (core_move (L _ rfl)) ⟨rfl, T0⟩ T0 ?_
  refine sw (core_len Tryd.underlying22 (L _ rfl)) ⟨rfl, T0⟩ T0 ?_
  refine sw (core_move (L _ rfl)) ⟨rfl, T0⟩ T0 ?_
  refine sw (core_len Tryd.underlying22 (L _ rfl)) ⟨rfl, T0⟩ T0 ?_
  refine sw (core_max (L _ rfl)) ⟨rfl, rfl, T0⟩ T0 ?_
  refine sw (core_add (L _ rfl) (w64 (by omega) (by omega))) ⟨rfl, rfl, T0⟩ T0 ?_
  refine sw (core_assign (L _ rfl)) ⟨rfl, T0⟩ T0 ?_
  refine seq_nil ⟨[(0, _), (1, _), (2, _), (7, vi (n : Int))], [(1000, _)], ⟨rfl, rfl, rfl, oi (by omega) rfl, T0⟩, ⟨rfl, T0⟩, ?_⟩
  refine exr ?_
  refine sw (core_move (L _ rfl)) ⟨rfl, T0⟩ T0 ?_
  refine swb (core_make1 (k := 19) Tryd.underlying22 Tryd.typeInfo53 rfl rfl rfl rfl rfl rfl (Nat.le_refl _) (by simp [Tryd.t53]; omega) (by omega) (P0 _ rfl) (L _ rfl)) ⟨rfl, rfl, T0⟩ T0 ⟨rfl, rfl⟩ ?_
  refine sw (core_assign (L _ rfl)) ⟨rfl, T0⟩ T0 ?_
  refine seq_nil ⟨[(0, _), (1, _), (2, _), (7, _), (8, _)], [(19, _), (1000, _)], ⟨rfl, rfl, rfl, rfl, rfl, T0⟩, ⟨rfl, rfl, T0⟩, ?_⟩
  refine ex_seq ?_
  refine exr ?_
  refine sw (core_move (L _ rfl)) ⟨rfl, T0⟩ T0 ?_
  refine sw (core_move (L _ rfl)) ⟨rfl, T0⟩ T0 ?_
  refine seq_nil ⟨[(0, _), (1, _), (2, _), (8, _), (20, _), (21, _)], [(19, _), (1000, _)], ⟨rfl, rfl, rfl, rfl, rfl, rfl, T0⟩, ⟨rfl, rfl, T0⟩, ?_⟩
  refine ex_block ?_
  refine exl (α := (Nat × List Int × Int)) (fun x => [(21, vi (x.1:Int))]) (fun x => [(19, ⟨53, 1, .pure (encW (x.2.1 ++ List.replicate (n - x.1) 0))⟩), (1000, ⟨53, 1, .mix [.p (oZ x.2.2)]⟩)]) (fun x => SubAt ws vs n x) (fun x => n - x.1) (((0 : Nat), ([] : List Int), (0 : Int))) (sl := [(0, _), (1, _), (2, _), (8, _), (20, _)]) (hb := []) ?_ ⟨(by first | exact rfl | exact oi (by omega) rfl), rfl, rfl, rfl, rfl, rfl, T0⟩ ⟨obl rfl (by simp [encW]), rfl, T0⟩ ?_
  · exact SubAt.zero ws vs n
  intro x hx
  obtain ⟨i, ys, c⟩ := x
  have hlen := hx.len
  have hle := hx.le
  have hc0 := hx.c0
  have hc1 := hx.c1
  simp only at hlen hle hc0 hc1
  dsimp only
  have hw := h.getD i
  have hw2 := h2.getD i
  refine exr ?_
  refine sw (core_lss (L _ rfl)) ⟨rfl, rfl, T0⟩ T0 ?_
  refine seq_nil ⟨[(0, _), (1, _), (2, _), (8, _), (20, _), (21, _), (22, _)], [(19, _), (1000, _)], ⟨rfl, rfl, rfl, rfl, rfl, rfl, rfl, T0⟩, ⟨rfl, rfl, T0⟩, ?_⟩
  refine ex_seq ?_
  refine ex_if rfl (fun he => ?_) (fun he => ?_)
  · have he := dt he
    refine ex_skip (show Exec _ _ _ _ _ from ?_)
    refine ex_seq ?_
    refine ex_block ?_
    refine exr ?_
    refine sw (core_move (L _ rfl)) ⟨rfl, T0⟩ T0 ?_
    refine sw (core_assign (L _ rfl)) ⟨rfl, T0⟩ T0 ?_
    refine seq_nil ⟨[(0, _), (1, _), (2, _), (8, _), (9, _), (20, _), (21, _)], [(19, _), (1000, _)], ⟨rfl, rfl, rfl, rfl, rfl, rfl, rfl, T0⟩, ⟨rfl, rfl, T0⟩, ?_⟩
    refine exr ?_
    refine sw (core_assign (L _ rfl)) ⟨rfl, T0⟩ T0 ?_
    refine sw (core_assign (L _ rfl)) ⟨rfl, T0⟩ T0 ?_
    refine seq_nil ⟨[(0, _), (1, _), (2, _), (8, _), (9, _), (10, _), (11, _), (20, _), (21, _)], [(19, _), (1000, _)], ⟨rfl, rfl, rfl, rfl, rfl, rfl, rfl, rfl, rfl, T0⟩, ⟨rfl, rfl, T0⟩, ?_⟩
    refine ex_seq ?_
    refine exr ?_
    refine sw (core_move (L _ rfl)) ⟨rfl, T0⟩ T0 ?_
    refine sw (core_move (L _ rfl)) ⟨rfl, T0⟩ T0 ?_
    refine sw (core_len Tryd.underlying22 (L _ rfl)) ⟨rfl, T0⟩ T0 ?_
    refine sw (core_lss (L _ rfl)) ⟨rfl, rfl, T0⟩ T0 ?_
    refine seq_nil ⟨[(0, _), (1, _), (2, _), (8, _), (9, _), (10, _), (11, _), (20, _), (21, _), (27, _)], [(19, _), (1000, _)], ⟨rfl, rfl, rfl, rfl, rfl, rfl, rfl, rfl, rfl, rfl, T0⟩, ⟨rfl, rfl, T0⟩, ?_⟩
    refine ex_cut (sl := [(10, vu (ws.getD i 0))]) (sl0 := [(0, _), (1, _), (2, _), (8, _), (9, _), (11, _), (20, _), (21, _)]) (hb := []) (hb0 := [(19, _), (1000, _)]) ⟨rfl, rfl, rfl, rfl, rfl, rfl, rfl, rfl, T0⟩ ⟨rfl, rfl, T0⟩ ?_ ?_
    · refine ex_if rfl (fun hd => ?_) (fun hd => ?_)
      · have hd := dt hd
        refine exr0 ?_
        refine sw (core_move (L _ rfl)) ⟨rfl, T0⟩ T0 ?_
        refine sw (core_move (L _ rfl)) ⟨rfl, T0⟩ T0 ?_
        refine sw (ixJ Tryd.underlying22 Tryd.sizeOf53 (j := i) (by first | exact rfl | omega) (by omega) (by simp) (L _ rfl)) ⟨rfl, rfl, T0⟩ T0 ?_
        refine sw (core_loadI1 Tryd.isAgg53 (by first | exact getW (by omega) | rfl) (L _ rfl)) ⟨rfl, T0⟩ T0 ?_
        refine sw (core_assign (L _ rfl)) ⟨rfl, T0⟩ T0 ?_
        refine seq_nil ?_
        exact ⟨⟨(by first | exact rfl | exact oi (by omega) rfl), (by first | exact rfl | exact oi (by omega) rfl), (by first | exact rfl | exact oi (by omega) rfl), (by first | exact rfl | exact oi (by omega) rfl), (by first | exact rfl | exact oi (by omega) rfl), (by first | exact rfl | exact oi (by omega) rfl), (by first | exact rfl | exact oi (by omega) rfl), (by first | exact rfl | exact oi (by omega) rfl), (by first | exact rfl | exact oi (by omega) rfl), T0⟩, ⟨rfl, rfl, T0⟩⟩
      · have hd := df hd
        refine ex_skip ?_
        exact ⟨⟨oi (getD_out (by omega)).symm rfl, (by first | exact rfl | exact oi (by omega) rfl), (by first | exact rfl | exact oi (by omega) rfl), (by first | exact rfl | exact oi (by omega) rfl), (by first | exact rfl | exact oi (by omega) rfl), (by first | exact rfl | exact oi (by omega) rfl), (by first | exact rfl | exact oi (by omega) rfl), (by first | exact rfl | exact oi (by omega) rfl), (by first | exact rfl | exact oi (by omega) rfl), T0⟩, ⟨rfl, rfl, T0⟩⟩
    · refine ex_seq ?_
      refine exr ?_
      refine sw (core_move (L _ rfl)) ⟨rfl, T0⟩ T0 ?_
      refine sw (core_move (L _ rfl)) ⟨rfl, T0⟩ T0 ?_
      refine sw (core_len Tryd.underlying22 (L _ rfl)) ⟨rfl, T0⟩ T0 ?_
      refine sw (core_lss (L _ rfl)) ⟨rfl, rfl, T0⟩ T0 ?_
      refine seq_nil ⟨[(0, _), (1, _), (2, _), (8, _), (9, _), (10, _), (11, _), (20, _), (21, _), (35, _)], [(19, _), (1000, _)], ⟨rfl, rfl, rfl, rfl, rfl, rfl, rfl, rfl, rfl, rfl, T0⟩, ⟨rfl, rfl, T0⟩, ?_⟩
      refine ex_cut (sl := [(11, vu (vs.getD i 0))]) (sl0 := [(0, _), (1, _), (2, _), (8, _), (9, _), (10, _), (20, _), (21, _)]) (hb := []) (hb0 := [(19, _), (1000, _)]) ⟨rfl, rfl, rfl, rfl, rfl, rfl, rfl, rfl, T0⟩ ⟨rfl, rfl, T0⟩ ?_ ?_
      · refine ex_if rfl (fun hd => ?_) (fun hd => ?_)
        · have hd := dt hd
          refine exr0 ?_
          refine sw (core_move (L _ rfl)) ⟨rfl, T0⟩ T0 ?_
          refine sw (core_move (L _ rfl)) ⟨rfl, T0⟩ T0 ?_
          refine sw (ixJ Tryd.underlying22 Tryd.sizeOf53 (j := i) (by first | exact rfl | omega) (by omega) (by simp) (L _ rfl)) ⟨rfl, rfl, T0⟩ T0 ?_
          refine sw (core_loadI1 Tryd.isAgg53 (by first | exact getW (by omega) | rfl) (L _ rfl)) ⟨rfl, T0⟩ T0 ?_
          refine sw (core_assign (L _ rfl)) ⟨rfl, T0⟩ T0 ?_
          refine seq_nil ?_
          exact ⟨⟨(by first | exact rfl | exact oi (by omega) rfl), (by first | exact rfl | exact oi (by omega) rfl), (by first | exact rfl | exact oi (by omega) rfl), (by first | exact rfl | exact oi (by omega) rfl), (by first | exact rfl | exact oi (by omega) rfl), (by first | exact rfl | exact oi (by omega) rfl), (by first | exact rfl | exact oi (by omega) rfl), (by first | exact rfl | exact oi (by omega) rfl), (by first | exact rfl | exact oi (by omega) rfl), T0⟩, ⟨rfl, rfl, T0⟩⟩
        · have hd := df hd
          refine ex_skip ?_
          exact ⟨⟨oi (getD_out (by omega)).symm rfl, (by first | exact rfl | exact oi (by omega) rfl), (by first | exact rfl | exact oi (by omega) rfl), (by first | exact rfl | exact oi (by omega) rfl), (by first | exact rfl | exact oi (by omega) rfl), (by first | exact rfl | exact oi (by omega) rfl), (by first | exact rfl | exact oi (by omega) rfl), (by first | exact rfl | exact oi (by omega) rfl), (by first | exact rfl | exact oi (by omega) rfl), T0⟩, ⟨rfl, rfl, T0⟩⟩
      · refine exr0 ?_
        refine sw (core_move (L _ rfl)) ⟨rfl, T0⟩ T0 ?_
        refine sw (core_move (L _ rfl)) ⟨rfl, T0⟩ T0 ?_
        refine sw (core_move (L _ rfl)) ⟨rfl, T0⟩ T0 ?_
        refine sw (core_move (L _ rfl)) ⟨rfl, T0⟩ T0 ?_
        refine sw (core_move (L _ rfl)) ⟨rfl, T0⟩ T0 ?_
        refine swB (core_callX (E := E) hG hX [1000] hN (minus1_says (ws.getD i 0) (vs.getD i 0) c hw hw2 ⟨hc0, hc1⟩) rfl (args_clo (fst := []) (ys := [_, _]) (cap := [_]) Tryd.call95 rfl (by rfl)) (by rfl) (by rfl) (by rfl) (by rfl) (SameH.to (.cons rfl .nil)) (by rfl) (by rfl) (L _ rfl)) ⟨rfl, rfl, rfl, T0⟩ ⟨rfl, T0⟩ ?_
        refine sw (ixR0 Tryd.underlying22 Tryd.sizeOf53 (by exact (by simp; omega)) (j := i) (by first | exact rfl | omega) (by omega) (L _ rfl)) ⟨rfl, rfl, T0⟩ ⟨rfl, T0⟩ ?_
        refine sb (core_store1 Tryd.sizeOf53 (by exact (by simp; omega)) (.atom rfl) (by omega)) ⟨rfl, rfl, T0⟩ ⟨rfl, T0⟩ ?_
        refine seq_nil ?_
        refine exr0 ?_
        refine sw (core_add (L _ rfl) (w64 (by omega) (by omega))) ⟨rfl, rfl, T0⟩ T0 ?_
        refine sw (core_move (L _ rfl)) ⟨rfl, T0⟩ T0 ?_
        refine seq_nil ?_
        exact ⟨(i + 1, ys ++ [(ws.getD i 0 - vs.getD i 0 - c) % 4294967296], if ws.getD i 0 < vs.getD i 0 + c then 1 else 0), hx.next h h2 (by omega), (by simp only; omega), le_of ⟨(by first | exact rfl | exact oi (by omega) rfl), rfl, rfl, rfl, rfl, rfl, T0⟩ ⟨obl rfl (by rw [encW_set, set_fill hlen (by omega)]), rfl, T0⟩⟩
  · have he := df he
    have hi : i = n := by omega
    subst hi
    obtain ⟨e1, e2⟩ : c = 0 ∧ ys = digN i (val ws - val vs) := sub_end h h2 hle0 (by omega) (by omega) hx
    subst e1
    refine ex_exit (show Exec _ _ _ _ _ from ?_)
    refine exr ?_
    refine sw (core_move (L _ rfl)) ⟨rfl, T0⟩ T0 ?_
    refine sw (core_assign (L _ rfl)) ⟨rfl, T0⟩ T0 ?_
    refine seq_nil ⟨[(6, _)], [(19, _), (1000, _)], ⟨rfl, T0⟩, ⟨rfl, rfl, T0⟩, ?_⟩
    refine ex_cv [19] (sl := [(6, _)]) (hb := [(1000, _)]) (own_of hXp rfl) ⟨⟨_, rfl, (.ref rfl rfl (by exact (by simp; omega)) (by first | rfl | omega))⟩, T0⟩ ⟨⟨rfl, _, rfl, .same⟩, T0⟩ ?_
    refine ex_ret ?_
    refine ⟨.inr rfl, ResVs.cast (.cons (.tmp rfl) .nil) ?_, ⟨rfl, T0⟩⟩
    rw [e2]; simp [digN_length]

set_option maxRecDepth 100000 in
set_option maxHeartbeats 4000000 in
theorem plus_says (ws vs : List Int) (hl : ws.length < 1000000000) (hl2 : vs.length < 1000000000) (h : Wd ws) (h2 : Wd vs) : Says E 85 [pW ws, pW vs] (pW (digN (max ws.length vs.length + 1) (val ws + val vs))) := by
  refine says_of (xs := [pW (digN (max ws.length vs.length + 1) (val ws + val vs))]) Tryd.func85 rfl Tryd.ntmps85 Tryd.results85 (by simp) fun F hG hX0 hnt hdf P0 => ?_
  have L := ltn hnt
  have hX : ∀ b, F.X b → E.ng ≤ b := fun b h => absurd h (hX0 b)
  have hN := ng_le hG
  refine exr ?_
  refine sw (core_assign (L _ rfl)) ⟨rfl, T0⟩ T0 ?_
  refine seq_nil ⟨[(0, _), (1, _)], [], ⟨rfl, rfl, T0⟩, trivial, ?_⟩
  refine exr ?_
  refine swb (core_alloc (k := 5) (n := 1) Tryd.zeroValue53 (.cons rfl .nil) rfl (P0 _ rfl) (L _ rfl)) trivial trivial ⟨rfl, rfl⟩ ?_
  refine seq_nil ⟨[(0, _), (1, _), (5, _)], [(5, _)], ⟨rfl, rfl, rfl, T0⟩, ⟨rfl, T0⟩, ?_⟩
  refine exr ?_
  refine sw (core_move (L _ rfl)) ⟨rfl, T0⟩ T0 ?_
  refine sw (core_move (L _ rfl)) ⟨rfl, T0⟩ T0 ?_
  refine sw (core_func (vs := []) (us := [_]) rfl rfl (L _ rfl)) ⟨rfl, T0⟩ T0 ?_
  refine swB (core_callX (E := E) hG hX [5] hN (zipp_says ws vs hl hl2 h h2) rfl (args_fn (ys := [_, _, _]) Tryd.call93 rfl (by rfl)) (by rfl) (by rfl) (by rfl) (by rfl) (SameH.to (.cons rfl .nil)) (by rfl) (by rfl) (L _ rfl)) ⟨rfl, rfl, rfl, T0⟩ ⟨rfl, T0⟩ ?_
  refine sw (core_assign (L _ rfl)) ⟨rfl, T0⟩ T0 ?_
  refine seq_nil ⟨[(4, _)], [], ⟨rfl, T0⟩, trivial, ?_⟩
  refine ex_ret ?_
  refine ⟨.inr rfl, ResVs.cast (.cons (.tmp rfl) .nil) ?_⟩
  rfl

set_option maxRecDepth 100000 in
set_option maxHeartbeats 4000000 in
theorem minus_says (ws vs : List Int) (hl : ws.length < 1000000000) (hl2 : vs.length < 1000000000) (h : Wd ws) (h2 : Wd vs) (hle : val vs ≤ val ws) : Says E 86 [pW ws, pW vs] (pW (digN (max ws.length vs.length + 1) (val ws - val vs))) := by
  refine says_of (xs := [pW (digN (max ws.length vs.length + 1) (val ws - val vs))]) Tryd.func86 rfl Tryd.ntmps86 Tryd.results86 (by simp) fun F hG hX0 hnt hdf P0 => ?_
  have L := ltn hnt
  have hX : ∀ b, F.X b → E.ng ≤ b := fun b h => absurd h (hX0 b)
  have hN := ng_le hG
  refine exr ?_
  refine sw (core_assign (L _ rfl)) ⟨rfl, T0⟩ T0 ?_
  refine seq_nil ⟨[(0, _), (1, _)], [], ⟨rfl, rfl, T0⟩, trivial, ?_⟩
  refine exr ?_
  refine swb (core_alloc (k := 5) (n := 1) Tryd.zeroValue53 (.cons rfl .nil) rfl (P0 _ rfl) (L _ rfl)) trivial trivial ⟨rfl, rfl⟩ ?_
  refine seq_nil ⟨[(0, _), (1, _), (5, _)], [(5, _)], ⟨rfl, rfl, rfl, T0⟩, ⟨rfl, T0⟩, ?_⟩
  refine exr ?_
  refine sw (core_move (L _ rfl)) ⟨rfl, T0⟩ T0 ?_
  refine sw (core_move (L _ rfl)) ⟨rfl, T0⟩ T0 ?_
  refine sw (core_func (vs := []) (us := [_]) rfl rfl (L _ rfl)) ⟨rfl, T0⟩ T0 ?_
  refine swB (core_callX (E := E) hG hX [5] hN (zipm_says ws vs hl hl2 h h2 hle) rfl (args_fn (ys := [_, _, _]) Tryd.call93 rfl (by rfl)) (by rfl) (by rfl) (by rfl) (by rfl) (SameH.to (.cons rfl .nil)) (by rfl) (by rfl) (L _ rfl)) ⟨rfl, rfl, rfl, T0⟩ ⟨rfl, T0⟩ ?_
  refine sw (core_assign (L _ rfl)) ⟨rfl, T0⟩ T0 ?_
  refine seq_nil ⟨[(4, _)], [], ⟨rfl, T0⟩, trivial, ?_⟩
  refine ex_ret ?_
  refine ⟨.inr rfl, ResVs.cast (.cons (.tmp rfl) .nil) ?_⟩
  rfl

end Go.Proofs.YtebkelnibecmjaaDoor.N
namespace Go.Proofs.YtebkelnibecmjaaDoor.N
open Go Go.Proofs.YtebkelnibecmjaaDoor.SH Go.Proofs.YtebkelnibecmjaaDoor.NumA
set_option maxRecDepth 100000 in
set_option maxHeartbeats 4000000 in
theorem signed_says (ws vs : List Int) (m n : Bool) (hl : ws.length < 999999999) (hl2 : vs.length < 999999999) (h : Wd ws) (h2 : Wd vs) (ht : Tr ws) (ht2 : Tr vs) : Says E 64 [pW ws, bZ m, pW vs, bZ n] (pZ (sg m (val ws) + sg n (val vs))) := by
  refine says_of (xs := [pZ (sg m (val ws) + sg n (val vs))]) Tryd.func64 rfl Tryd.ntmps64 Tryd.results64 (by simp) fun F hG hX0 hnt hdf P0 => ?_
  have L := ltn hnt
  have hX : ∀ b, F.X b → E.ng ≤ b := fun b h => absurd h (hX0 b)
  have hN := ng_le hG
  have hv := val_nonneg h
  have hv2 := val_nonneg h2
  refine exr ?_
  refine swb (core_alloc (k := 8) (n := 2) Tryd.zeroValue24 (.cons rfl (.cons rfl .nil)) rfl (P0 _ rfl) (L _ rfl)) trivial trivial ⟨rfl, rfl⟩ ?_
  refine seq_nil ⟨[(0, _), (1, _), (2, _), (3, _), (8, _)], [(8, _)], ⟨rfl, rfl, rfl, rfl, rfl, T0⟩, ⟨rfl, T0⟩, ?_⟩
  refine ex_seq ?_
  refine exr ?_
  refine sw (core_move (L _ rfl)) ⟨rfl, T0⟩ T0 ?_
  refine sw (core_move (L _ rfl)) ⟨rfl, T0⟩ T0 ?_
  refine sw (core_call (E := E) hG hX Tryd.call84 rfl hN (word_says m ws (by omega) h) (L _ rfl)) ⟨rfl, rfl, T0⟩ T0 ?_
  refine sw (core_move (L _ rfl)) ⟨rfl, T0⟩ T0 ?_
  refine sw (core_extract rfl (L _ rfl)) ⟨rfl, T0⟩ T0 ?_
  refine sw (core_extract rfl (L _ rfl)) ⟨rfl, T0⟩ T0 ?_
  refine sw (core_assign (L _ rfl)) ⟨rfl, T0⟩ T0 ?_
  refine sw (core_assign (L _ rfl)) ⟨rfl, T0⟩ T0 ?_
  refine seq_nil ⟨[(0, _), (1, _), (2, _), (3, _), (8, _), (9, _), (10, _)], [(8, _)], ⟨rfl, rfl, rfl, rfl, rfl, rfl, rfl, T0⟩, ⟨rfl, T0⟩, ?_⟩
  refine exr ?_
  refine sw (core_move (L _ rfl)) ⟨rfl, T0⟩ T0 ?_
  refine seq_nil ⟨[(0, _), (1, _), (2, _), (3, _), (8, _), (9, _), (19, _)], [(8, _)], ⟨rfl, rfl, rfl, rfl, rfl, rfl, rfl, T0⟩, ⟨rfl, T0⟩, ?_⟩
  refine ex_cut (sl := []) (sl0 := [(0, _), (1, _), (2, _), (3, _), (8, _)]) (hb := []) (hb0 := [(8, _)]) ⟨rfl, rfl, rfl, rfl, rfl, T0⟩ ⟨rfl, T0⟩ ?_ ?_
  · refine ex_if rfl (fun hd => ?_) (fun hd => ?_)
    · have hd := dt hd
      have hw := val_lt1 h hd
      refine exr ?_
      refine sw (core_move (L _ rfl)) ⟨rfl, T0⟩ T0 ?_
      refine sw (core_move (L _ rfl)) ⟨rfl, T0⟩ T0 ?_
      refine sw (core_call (E := E) hG hX Tryd.call84 rfl hN (word_says n vs (by omega) h2) (L _ rfl)) ⟨rfl, rfl, T0⟩ T0 ?_
      refine sw (core_move (L _ rfl)) ⟨rfl, T0⟩ T0 ?_
      refine sw (core_extract rfl (L _ rfl)) ⟨rfl, T0⟩ T0 ?_
      refine sw (core_extract rfl (L _ rfl)) ⟨rfl, T0⟩ T0 ?_
      refine sw (core_assign (L _ rfl)) ⟨rfl, T0⟩ T0 ?_
      refine sw (core_assign (L _ rfl)) ⟨rfl, T0⟩ T0 ?_
      refine seq_nil ⟨[(0, _), (1, _), (2, _), (3, _), (8, _), (9, _), (11, _), (12, _)], [(8, _)], ⟨rfl, rfl, rfl, rfl, rfl, rfl, rfl, rfl, T0⟩, ⟨rfl, T0⟩, ?_⟩
      refine exr ?_
      refine sw (core_move (L _ rfl)) ⟨rfl, T0⟩ T0 ?_
      refine seq_nil ⟨[(0, _), (1, _), (2, _), (3, _), (8, _), (9, _), (11, _), (26, _)], [(8, _)], ⟨rfl, rfl, rfl, rfl, rfl, rfl, rfl, rfl, T0⟩, ⟨rfl, T0⟩, ?_⟩
      refine ex_if rfl (fun he => ?_) (fun he => ?_)
      · have he := dt he
        have hw2 := val_lt1 h2 he
        rw [if_pos hd, if_pos he]
        have b1 := sg_bd m hv hw
        have b2 := sg_bd n hv2 hw2
        refine exr ?_
        refine sw (core_move (L _ rfl)) ⟨rfl, T0⟩ T0 ?_
        refine sw (core_move (L _ rfl)) ⟨rfl, T0⟩ T0 ?_
        refine sw (core_add (L _ rfl) (w64 (by omega) (by omega))) ⟨rfl, rfl, T0⟩ T0 ?_
        refine sw (core_call (E := E) hG hX Tryd.call19 rfl hN (of_says (sg m (val ws) + sg n (val vs)) (by omega) (by omega)) (L _ rfl)) ⟨rfl, T0⟩ T0 ?_
        refine sb (core_storeM Tryd.sizeOf24 (by rfl) (.pagg (.cons (.cons .nil))) rfl (.put (.put .here))) ⟨rfl, rfl, T0⟩ ⟨rfl, T0⟩ ?_
        refine seq_nil ⟨[(8, _)], [(8, _)], ⟨rfl, T0⟩, ⟨rfl, T0⟩, ?_⟩
        refine ex_ret ?_
        refine ⟨.inr rfl, ResVs.cast (.cons (.agg rfl rfl rfl Tryd.isAgg24 Tryd.sizeOf24 (.cons (.cons .nil))) .nil) ?_⟩
        rfl
      · refine ex_skip ?_
        exact ⟨⟨(by first | exact rfl | exact oi (by omega) rfl), (by first | exact rfl | exact oi (by omega) rfl), (by first | exact rfl | exact oi (by omega) rfl), (by first | exact rfl | exact oi (by omega) rfl), (by first | exact rfl | exact oi (by omega) rfl), T0⟩, ⟨rfl, T0⟩⟩
    · refine ex_skip ?_
      exact ⟨⟨(by first | exact rfl | exact oi (by omega) rfl), (by first | exact rfl | exact oi (by omega) rfl), (by first | exact rfl | exact oi (by omega) rfl), (by first | exact rfl | exact oi (by omega) rfl), (by first | exact rfl | exact oi (by omega) rfl), T0⟩, ⟨rfl, T0⟩⟩
  · refine ex_seq ?_
    refine exr ?_
    refine sw (core_move (L _ rfl)) ⟨rfl, T0⟩ T0 ?_
    refine sw (core_move (L _ rfl)) ⟨rfl, T0⟩ T0 ?_
    refine sw (core_beq Tryd.underlying4 (L _ rfl)) ⟨rfl, rfl, T0⟩ T0 ?_
    refine seq_nil ⟨[(0, _), (1, _), (2, _), (3, _), (8, _), (33, _)], [(8, _)], ⟨rfl, rfl, rfl, rfl, rfl, rfl, T0⟩, ⟨rfl, T0⟩, ?_⟩
    refine ex_if rfl (fun hd => ?_) (fun hd => ?_)
    · have hd : m = n := by simpa using hd
      subst hd
      refine exr ?_
      refine sw (core_move (L _ rfl)) ⟨rfl, T0⟩ T0 ?_
      refine sw (core_move (L _ rfl)) ⟨rfl, T0⟩ T0 ?_
      refine sw (core_move (L _ rfl)) ⟨rfl, T0⟩ T0 ?_
      refine sw (core_call (E := E) hG hX Tryd.call85 rfl hN (plus_says ws vs (by omega) (by omega) h h2) (L _ rfl)) ⟨rfl, rfl, T0⟩ T0 ?_
      refine sw (core_call (E := E) hG hX Tryd.call62 rfl hN (made_says m (digN (max ws.length vs.length + 1) (val ws + val vs)) (by rw [digN_length]; omega) (digN_wd _ _)) (L _ rfl)) ⟨rfl, rfl, T0⟩ T0 ?_
      refine sb (core_storeM Tryd.sizeOf24 (by rfl) (.pagg (.cons (.cons .nil))) rfl (.put (.put .here))) ⟨rfl, rfl, T0⟩ ⟨rfl, T0⟩ ?_
      refine seq_nil ⟨[(8, _)], [(8, _)], ⟨rfl, T0⟩, ⟨rfl, T0⟩, ?_⟩
      refine ex_ret ?_
      refine ⟨.inr rfl, ResVs.cast (.cons (.agg rfl rfl rfl Tryd.isAgg24 Tryd.sizeOf24 (.cons (.cons .nil))) .nil) ?_⟩
      rw [val_digN (by omega) (pow_max_lt h h2), sg_add]
    · have hd : m ≠ n := by simpa using hd
      refine ex_skip (show Exec _ _ _ _ _ from ?_)
      refine ex_seq ?_
      refine exr ?_
      refine sw (core_move (L _ rfl)) ⟨rfl, T0⟩ T0 ?_
      refine sw (core_move (L _ rfl)) ⟨rfl, T0⟩ T0 ?_
      refine sw (core_call (E := E) hG hX Tryd.call60 rfl hN (compared_says ws vs (by omega) (by omega) h h2 ht ht2) (L _ rfl)) ⟨rfl, rfl, T0⟩ T0 ?_
      refine sw (core_geq (L _ rfl)) ⟨rfl, rfl, T0⟩ T0 ?_
      refine seq_nil ⟨[(0, _), (1, _), (2, _), (3, _), (8, _), (42, _)], [(8, _)], ⟨rfl, rfl, rfl, rfl, rfl, rfl, T0⟩, ⟨rfl, T0⟩, ?_⟩
      have hx : val ws < 4294967296 ^ (max ws.length vs.length + 1) := by have := pow_max_lt h h2; omega
      have hx2 : val vs < 4294967296 ^ (max ws.length vs.length + 1) := by have := pow_max_lt h h2; omega
      refine ex_if rfl (fun he => ?_) (fun he => ?_)
      · have he := cmpI_ge (dt he)
        refine exr ?_
        refine sw (core_move (L _ rfl)) ⟨rfl, T0⟩ T0 ?_
        refine sw (core_move (L _ rfl)) ⟨rfl, T0⟩ T0 ?_
        refine sw (core_move (L _ rfl)) ⟨rfl, T0⟩ T0 ?_
        refine sw (core_call (E := E) hG hX Tryd.call86 rfl hN (minus_says ws vs (by omega) (by omega) h h2 he) (L _ rfl)) ⟨rfl, rfl, T0⟩ T0 ?_
        refine sw (core_call (E := E) hG hX Tryd.call62 rfl hN (made_says m (digN (max ws.length vs.length + 1) (val ws - val vs)) (by rw [digN_length]; omega) (digN_wd _ _)) (L _ rfl)) ⟨rfl, rfl, T0⟩ T0 ?_
        refine sb (core_storeM Tryd.sizeOf24 (by rfl) (.pagg (.cons (.cons .nil))) rfl (.put (.put .here))) ⟨rfl, rfl, T0⟩ ⟨rfl, T0⟩ ?_
        refine seq_nil ⟨[(8, _)], [(8, _)], ⟨rfl, T0⟩, ⟨rfl, T0⟩, ?_⟩
        refine ex_ret ?_
        refine ⟨.inr rfl, ResVs.cast (.cons (.agg rfl rfl rfl Tryd.isAgg24 Tryd.sizeOf24 (.cons (.cons .nil))) .nil) ?_⟩
        rw [val_digN (by omega) (by omega), sg_sub hd]
      · have he := cmpI_lt (df he)
        refine ex_skip (show Exec _ _ _ _ _ from ?_)
        refine exr ?_
        refine sw (core_move (L _ rfl)) ⟨rfl, T0⟩ T0 ?_
        refine sw (core_move (L _ rfl)) ⟨rfl, T0⟩ T0 ?_
        refine sw (core_move (L _ rfl)) ⟨rfl, T0⟩ T0 ?_
        refine sw (core_call (E := E) hG hX Tryd.call86 rfl hN (minus_says vs ws (by omega) (by omega) h2 h (by omega)) (L _ rfl)) ⟨rfl, rfl, T0⟩ T0 ?_
        refine sw (core_call (E := E) hG hX Tryd.call62 rfl hN (made_says n (digN (max vs.length ws.length + 1) (val vs - val ws)) (by rw [digN_length]; omega) (digN_wd _ _)) (L _ rfl)) ⟨rfl, rfl, T0⟩ T0 ?_
        refine sb (core_storeM Tryd.sizeOf24 (by rfl) (.pagg (.cons (.cons .nil))) rfl (.put (.put .here))) ⟨rfl, rfl, T0⟩ ⟨rfl, T0⟩ ?_
        refine seq_nil ⟨[(8, _)], [(8, _)], ⟨rfl, T0⟩, ⟨rfl, T0⟩, ?_⟩
        refine ex_ret ?_
        refine ⟨.inr rfl, ResVs.cast (.cons (.agg rfl rfl rfl Tryd.isAgg24 Tryd.sizeOf24 (.cons (.cons .nil))) .nil) ?_⟩
        rw [val_digN (by omega) (by rw [Nat.max_comm]; omega), sg_sub hd.symm, Int.add_comm]

set_option maxRecDepth 100000 in
set_option maxHeartbeats 4000000 in
theorem add_says (m n : Bool) (ws vs : List Int) (hl : ws.length < 999999999) (hl2 : vs.length < 999999999) (h : Wd ws) (h2 : Wd vs) : Says E 35 [pI m ws, pI n vs] (pZ (if canon m ws = true ∧ canon n vs = true then sg m (val ws) + sg n (val vs) else 0)) := by
  refine says_of (xs := [pZ (if canon m ws = true ∧ canon n vs = true then sg m (val ws) + sg n (val vs) else 0)]) Tryd.func35 rfl Tryd.ntmps35 Tryd.results35 (by simp) fun F hG hX0 hnt hdf P0 => ?_
  have L := ltn hnt
  have hX : ∀ b, F.X b → E.ng ≤ b := fun b h => absurd h (hX0 b)
  have hN := ng_le hG
  refine exr ?_
  refine swb (core_box (k := 2) (n := 2) (.pagg (.cons (.cons .nil))) rfl rfl (P0 _ rfl) (L _ rfl)) ⟨rfl, T0⟩ T0 ⟨rfl, rfl⟩ ?_
  refine swb (core_box (k := 3) (n := 2) (.pagg (.cons (.cons .nil))) rfl rfl (P0 _ rfl) (L _ rfl)) ⟨rfl, T0⟩ T0 ⟨rfl, rfl⟩ ?_
  refine swb (core_alloc (k := 4) (n := 2) Tryd.zeroValue24 (.cons rfl (.cons rfl .nil)) rfl (P0 _ rfl) (L _ rfl)) trivial trivial ⟨rfl, rfl⟩ ?_
  refine seq_nil ⟨[(2, _), (3, _), (4, _)], [(2, _), (3, _), (4, _)], ⟨rfl, rfl, rfl, T0⟩, ⟨rfl, rfl, rfl, T0⟩, ?_⟩
  refine ex_seq ?_
  refine exr ?_
  refine sw (core_loadP Tryd.isAgg24 Tryd.sizeOf24 (by rfl) (by exact (.cons (.cons .nil))) rfl (L _ rfl)) ⟨rfl, T0⟩ ⟨rfl, T0⟩ ?_
  refine sw (core_loadP Tryd.isAgg24 Tryd.sizeOf24 (by rfl) (by exact (.cons (.cons .nil))) rfl (L _ rfl)) ⟨rfl, T0⟩ ⟨rfl, T0⟩ ?_
  refine sw (core_bsI (vs := [_, _]) Tryd.underlying78 Tryd.typeInfo24 rfl rfl (by decide) (by decide) rfl (zs_made (.cons rfl (.cons rfl .nil)) rfl) rfl (.cons rfl (.pagg (.cons (.cons .nil))) rfl (.put (.put .here)) (.cons rfl (.pagg (.cons (.cons .nil))) rfl (.skip (.skip (.put (.put .here)))) .nil)) (.cons (.cons (.cons (.cons .nil)))) (L _ rfl)) ⟨rfl, rfl, T0⟩ T0 ?_
  refine sw (core_call (E := E) hG hX Tryd.call59 rfl hN (all_says [(m, ws), (n, vs)] (by simp) (by simp; omega)) (L _ rfl)) ⟨rfl, T0⟩ T0 ?_
  refine sw (core_not (L _ rfl)) ⟨rfl, T0⟩ T0 ?_
  refine seq_nil ⟨[(2, _), (3, _), (4, _), (9, _)], [(2, _), (3, _), (4, _)], ⟨rfl, rfl, rfl, rfl, T0⟩, ⟨rfl, rfl, rfl, T0⟩, ?_⟩
  refine ex_if rfl (fun hc => ?_) (fun hc => ?_)
  · have hc : ¬ (canon m ws = true ∧ canon n vs = true) := by rintro ⟨h1, h2⟩; simp [h1, h2] at hc
    refine exr ?_
    refine sw (core_pc (core_buildP (vs := []) Tryd.underlying24 Tryd.zeroValue24 (.cons rfl (.cons rfl .nil)) ((Places.cons Tryd.sizeOf4 (Places.cons Tryd.sizeOf22 Places.nil))).to rfl .nil (.cons (.cons .nil)) (L _ rfl)) (.agg (.cons .same (.cons .nil .nil)))) T0 T0 ?_
    refine sb (core_storeM Tryd.sizeOf24 (by rfl) (.pagg (.cons (.cons .nil))) rfl (.put (.put .here))) ⟨rfl, rfl, T0⟩ ⟨rfl, T0⟩ ?_
    refine seq_nil ⟨[(4, _)], [(4, _)], ⟨rfl, T0⟩, ⟨rfl, T0⟩, ?_⟩
    refine ex_ret ?_
    refine ⟨.inr rfl, ResVs.cast (.cons (.agg rfl rfl rfl Tryd.isAgg24 Tryd.sizeOf24 (.cons (.cons .nil))) .nil) ?_⟩
    rw [if_neg hc, pZ_zero]; rfl
  · have hc : canon m ws = true ∧ canon n vs = true := by simpa using hc
    refine ex_skip (show Exec _ _ _ _ _ from ?_)
    refine exr ?_
    refine sw (core_fieldAddr Tryd.underlying24 rfl Tryd.sizeOf22 (by decide) (by exact rfl) (L _ rfl)) ⟨rfl, T0⟩ ⟨rfl, T0⟩ ?_
    refine sw (core_load1 Tryd.isAgg22 (by rfl) (by rfl) (L _ rfl)) ⟨rfl, T0⟩ ⟨rfl, T0⟩ ?_
    refine sw (core_fieldAddr Tryd.underlying24 rfl Tryd.sizeOf4 (by decide) (by exact rfl) (L _ rfl)) ⟨rfl, T0⟩ ⟨rfl, T0⟩ ?_
    refine sw (core_load1 Tryd.isAgg4 (by rfl) (by rfl) (L _ rfl)) ⟨rfl, T0⟩ ⟨rfl, T0⟩ ?_
    refine sw (core_fieldAddr Tryd.underlying24 rfl Tryd.sizeOf22 (by decide) (by exact rfl) (L _ rfl)) ⟨rfl, T0⟩ ⟨rfl, T0⟩ ?_
    refine sw (core_load1 Tryd.isAgg22 (by rfl) (by rfl) (L _ rfl)) ⟨rfl, T0⟩ ⟨rfl, T0⟩ ?_
    refine sw (core_fieldAddr Tryd.underlying24 rfl Tryd.sizeOf4 (by decide) (by exact rfl) (L _ rfl)) ⟨rfl, T0⟩ ⟨rfl, T0⟩ ?_
    refine sw (core_load1 Tryd.isAgg4 (by rfl) (by rfl) (L _ rfl)) ⟨rfl, T0⟩ ⟨rfl, T0⟩ ?_
    refine sw (core_call (E := E) hG hX Tryd.call64 rfl hN (signed_says ws vs m n hl hl2 h h2 (canon_tr hc.1).1 (canon_tr hc.2).1) (L _ rfl)) ⟨rfl, rfl, rfl, rfl, T0⟩ T0 ?_
    refine sb (core_storeM Tryd.sizeOf24 (by rfl) (.pagg (.cons (.cons .nil))) rfl (.put (.put .here))) ⟨rfl, rfl, T0⟩ ⟨rfl, T0⟩ ?_
    refine seq_nil ⟨[(4, _)], [(4, _)], ⟨rfl, T0⟩, ⟨rfl, T0⟩, ?_⟩
    refine ex_ret ?_
    refine ⟨.inr rfl, ResVs.cast (.cons (.agg rfl rfl rfl Tryd.isAgg24 Tryd.sizeOf24 (.cons (.cons .nil))) .nil) ?_⟩
    rw [if_pos hc]

set_option maxRecDepth 100000 in
set_option maxHeartbeats 4000000 in
theorem sub_says (m n : Bool) (ws vs : List Int) (hl : ws.length < 999999999) (hl2 : vs.length < 999999999) (h : Wd ws) (h2 : Wd vs) : Says E 37 [pI m ws, pI n vs] (pZ (if canon m ws = true ∧ canon n vs = true then sg m (val ws) - sg n (val vs) else 0)) := by
  refine says_of (xs := [pZ (if canon m ws = true ∧ canon n vs = true then sg m (val ws) - sg n (val vs) else 0)]) Tryd.func37 rfl Tryd.ntmps37 Tryd.results37 (by simp) fun F hG hX0 hnt hdf P0 => ?_
  have L := ltn hnt
  have hX : ∀ b, F.X b → E.ng ≤ b := fun b h => absurd h (hX0 b)
  have hN := ng_le hG
  refine exr ?_
  refine swb (core_box (k := 2) (n := 2) (.pagg (.cons (.cons .nil))) rfl rfl (P0 _ rfl) (L _ rfl)) ⟨rfl, T0⟩ T0 ⟨rfl, rfl⟩ ?_
  refine swb (core_box (k := 3) (n := 2) (.pagg (.cons (.cons .nil))) rfl rfl (P0 _ rfl) (L _ rfl)) ⟨rfl, T0⟩ T0 ⟨rfl, rfl⟩ ?_
  refine swb (core_alloc (k := 4) (n := 2) Tryd.zeroValue24 (.cons rfl (.cons rfl .nil)) rfl (P0 _ rfl) (L _ rfl)) trivial trivial ⟨rfl, rfl⟩ ?_
  refine seq_nil ⟨[(2, _), (3, _), (4, _)], [(2, _), (3, _), (4, _)], ⟨rfl, rfl, rfl, T0⟩, ⟨rfl, rfl, rfl, T0⟩, ?_⟩
  refine ex_seq ?_
  refine exr ?_
  refine sw (core_loadP Tryd.isAgg24 Tryd.sizeOf24 (by rfl) (by exact (.cons (.cons .nil))) rfl (L _ rfl)) ⟨rfl, T0⟩ ⟨rfl, T0⟩ ?_
  refine sw (core_loadP Tryd.isAgg24 Tryd.sizeOf24 (by rfl) (by exact (.cons (.cons .nil))) rfl (L _ rfl)) ⟨rfl, T0⟩ ⟨rfl, T0⟩ ?_
  refine sw (core_bsI (vs := [_, _]) Tryd.underlying78 Tryd.typeInfo24 rfl rfl (by decide) (by decide) rfl (zs_made (.cons rfl (.cons rfl .nil)) rfl) rfl (.cons rfl (.pagg (.cons (.cons .nil))) rfl (.put (.put .here)) (.cons rfl (.pagg (.cons (.cons .nil))) rfl (.skip (.skip (.put (.put .here)))) .nil)) (.cons (.cons (.cons (.cons .nil)))) (L _ rfl)) ⟨rfl, rfl, T0⟩ T0 ?_
  refine sw (core_call (E := E) hG hX Tryd.call59 rfl hN (all_says [(m, ws), (n, vs)] (by simp) (by simp; omega)) (L _ rfl)) ⟨rfl, T0⟩ T0 ?_
  refine sw (core_not (L _ rfl)) ⟨rfl, T0⟩ T0 ?_
  refine seq_nil ⟨[(2, _), (3, _), (4, _), (9, _)], [(2, _), (3, _), (4, _)], ⟨rfl, rfl, rfl, rfl, T0⟩, ⟨rfl, rfl, rfl, T0⟩, ?_⟩
  refine ex_if rfl (fun hc => ?_) (fun hc => ?_)
  · have hc : ¬ (canon m ws = true ∧ canon n vs = true) := by rintro ⟨h1, h2⟩; simp [h1, h2] at hc
    refine exr ?_
    refine sw (core_pc (core_buildP (vs := []) Tryd.underlying24 Tryd.zeroValue24 (.cons rfl (.cons rfl .nil)) ((Places.cons Tryd.sizeOf4 (Places.cons Tryd.sizeOf22 Places.nil))).to rfl .nil (.cons (.cons .nil)) (L _ rfl)) (.agg (.cons .same (.cons .nil .nil)))) T0 T0 ?_
    refine sb (core_storeM Tryd.sizeOf24 (by rfl) (.pagg (.cons (.cons .nil))) rfl (.put (.put .here))) ⟨rfl, rfl, T0⟩ ⟨rfl, T0⟩ ?_
    refine seq_nil ⟨[(4, _)], [(4, _)], ⟨rfl, T0⟩, ⟨rfl, T0⟩, ?_⟩
    refine ex_ret ?_
    refine ⟨.inr rfl, ResVs.cast (.cons (.agg rfl rfl rfl Tryd.isAgg24 Tryd.sizeOf24 (.cons (.cons .nil))) .nil) ?_⟩
    rw [if_neg hc, pZ_zero]; rfl
  · have hc : canon m ws = true ∧ canon n vs = true := by simpa using hc
    refine ex_skip (show Exec _ _ _ _ _ from ?_)
    refine exr ?_
    refine sw (core_fieldAddr Tryd.underlying24 rfl Tryd.sizeOf22 (by decide) (by exact rfl) (L _ rfl)) ⟨rfl, T0⟩ ⟨rfl, T0⟩ ?_
    refine sw (core_load1 Tryd.isAgg22 (by rfl) (by rfl) (L _ rfl)) ⟨rfl, T0⟩ ⟨rfl, T0⟩ ?_
    refine sw (core_fieldAddr Tryd.underlying24 rfl Tryd.sizeOf4 (by decide) (by exact rfl) (L _ rfl)) ⟨rfl, T0⟩ ⟨rfl, T0⟩ ?_
    refine sw (core_load1 Tryd.isAgg4 (by rfl) (by rfl) (L _ rfl)) ⟨rfl, T0⟩ ⟨rfl, T0⟩ ?_
    refine sw (core_fieldAddr Tryd.underlying24 rfl Tryd.sizeOf22 (by decide) (by exact rfl) (L _ rfl)) ⟨rfl, T0⟩ ⟨rfl, T0⟩ ?_
    refine sw (core_load1 Tryd.isAgg22 (by rfl) (by rfl) (L _ rfl)) ⟨rfl, T0⟩ ⟨rfl, T0⟩ ?_
    refine sw (core_fieldAddr Tryd.underlying24 rfl Tryd.sizeOf4 (by decide) (by exact rfl) (L _ rfl)) ⟨rfl, T0⟩ ⟨rfl, T0⟩ ?_
    refine sw (core_load1 Tryd.isAgg4 (by rfl) (by rfl) (L _ rfl)) ⟨rfl, T0⟩ ⟨rfl, T0⟩ ?_
    refine sw (core_not (L _ rfl)) ⟨rfl, T0⟩ T0 ?_
    refine sw (core_call (E := E) hG hX Tryd.call64 rfl hN (signed_says ws vs m (!n) hl hl2 h h2 (canon_tr hc.1).1 (canon_tr hc.2).1) (L _ rfl)) ⟨rfl, rfl, rfl, rfl, T0⟩ T0 ?_
    refine sb (core_storeM Tryd.sizeOf24 (by rfl) (.pagg (.cons (.cons .nil))) rfl (.put (.put .here))) ⟨rfl, rfl, T0⟩ ⟨rfl, T0⟩ ?_
    refine seq_nil ⟨[(4, _)], [(4, _)], ⟨rfl, T0⟩, ⟨rfl, T0⟩, ?_⟩
    refine ex_ret ?_
    refine ⟨.inr rfl, ResVs.cast (.cons (.agg rfl rfl rfl Tryd.isAgg24 Tryd.sizeOf24 (.cons (.cons .nil))) .nil) ?_⟩
    rw [if_pos hc, sg_not, Int.sub_eq_add_neg]

end Go.Proofs.YtebkelnibecmjaaDoor.N
namespace Go.Proofs.YtebkelnibecmjaaDoor.N
open Go Go.Proofs.YtebkelnibecmjaaDoor.SH Go.Proofs.YtebkelnibecmjaaDoor.NumA
set_option maxRecDepth 100000 in
set_option maxHeartbeats 4000000 in
theorem times_says (ws vs : List Int) (hl : ws.length < 400000000) (hl2 : vs.length < 400000000) (h : Wd ws) (h2 : Wd vs) : Says E 71 [pW ws, pW vs] (pW (digN (ws.length + vs.length) (val ws * val vs))) := by
  refine says_of (xs := [pW (digN (ws.length + vs.length) (val ws * val vs))]) Tryd.func71 rfl Tryd.ntmps71 Tryd.results71 (by simp) fun F hG hX0 hnt hdf P0 => ?_
  have L := ltn hnt
  have hX : ∀ b, F.X b → E.ng ≤ b := fun b h => absurd h (hX0 b)
  have hN := ng_le hG
  refine exr ?_
  refine sw (core_assign (L _ rfl)) ⟨rfl, T0⟩ T0 ?_
  refine seq_nil ⟨[(0, _), (1, _)], [], ⟨rfl, rfl, T0⟩, trivial, ?_⟩
  refine exr ?_
  refine sw (core_move (L _ rfl)) ⟨rfl, T0⟩ T0 ?_
  refine sw (core_len Tryd.underlying22 (L _ rfl)) ⟨rfl, T0⟩ T0 ?_
  refine sw (core_move (L _ rfl)) ⟨rfl, T0⟩ T0 ?_
  refine sw (core_len Tryd.underlying22 (L _ rfl)) ⟨rfl, T0⟩ T0 ?_
  refine sw (core_add (L _ rfl) (w64 (by omega) (by omega))) ⟨rfl, rfl, T0⟩ T0 ?_
  refine swb (core_make1 (k := 17) Tryd.underlying22 Tryd.typeInfo53 rfl rfl rfl rfl (show _ = ((ws.length + vs.length : Nat) : Int) by omega) (show _ = ((ws.length + vs.length : Nat) : Int) by omega) (Nat.le_refl _) (by simp [Tryd.t53]; omega) (by omega) (P0 _ rfl) (L _ rfl)) ⟨rfl, rfl, T0⟩ T0 ⟨rfl, rfl⟩ ?_
  refine sw (core_assign (L _ rfl)) ⟨rfl, T0⟩ T0 ?_
  refine seq_nil ⟨[(0, _), (1, _), (5, _)], [(17, _)], ⟨rfl, rfl, rfl, T0⟩, ⟨rfl, T0⟩, ?_⟩
  refine ex_seq ?_
  refine exr ?_
  refine sw (core_move (L _ rfl)) ⟨rfl, T0⟩ T0 ?_
  refine sw (core_len Tryd.underlying22 (L _ rfl)) ⟨rfl, T0⟩ T0 ?_
  refine sw (core_move (L _ rfl)) ⟨rfl, T0⟩ T0 ?_
  refine seq_nil ⟨[(1, _), (5, _), (18, _), (19, _), (20, _)], [(17, _)], ⟨rfl, rfl, rfl, rfl, rfl, T0⟩, ⟨rfl, T0⟩, ?_⟩
  refine ex_block ?_
  refine exl (α := (Nat × List Int)) (fun x => [(20, vi (x.1:Int))]) (fun x => [(17, ⟨53, 1, .pure (encW x.2)⟩)]) (fun x => MulAt ws vs x) (fun x => ws.length - x.1) (((0 : Nat), List.replicate (ws.length + vs.length) (0 : Int))) (sl := [(1, _), (5, _), (18, _), (19, _)]) (hb := []) ?_ ⟨(by first | exact rfl | exact oi (by omega) rfl), rfl, rfl, rfl, rfl, T0⟩ ⟨obl rfl (by rw [encW_rep]), T0⟩ ?_
  · exact MulAt.zero ws vs
  intro x hx
  obtain ⟨i, r⟩ := x
  have hlen := hx.len
  have hle := hx.le
  simp only at hlen hle
  dsimp only
  refine exr ?_
  refine sw (core_lss (L _ rfl)) ⟨rfl, rfl, T0⟩ T0 ?_
  refine seq_nil ⟨[(1, _), (5, _), (18, _), (19, _), (20, _), (21, _)], [(17, _)], ⟨rfl, rfl, rfl, rfl, rfl, rfl, T0⟩, ⟨rfl, T0⟩, ?_⟩
  refine ex_seq ?_
  refine ex_if rfl (fun he => ?_) (fun he => ?_)
  · have he := dt he
    have hw := h.getD i
    refine ex_skip (show Exec _ _ _ _ _ from ?_)
    refine ex_seq ?_
    refine ex_block ?_
    refine exr ?_
    refine sw (core_move (L _ rfl)) ⟨rfl, T0⟩ T0 ?_
    refine sw (ixJ Tryd.underlying22 Tryd.sizeOf53 (j := i) (by first | exact rfl | omega) (by omega) (by simp) (L _ rfl)) ⟨rfl, rfl, T0⟩ T0 ?_
    refine sw (core_loadI1 Tryd.isAgg53 (by first | exact getW (by omega) | rfl) (L _ rfl)) ⟨rfl, T0⟩ T0 ?_
    refine sw (core_assign (L _ rfl)) ⟨rfl, T0⟩ T0 ?_
    refine sw (core_assign (L _ rfl)) ⟨rfl, T0⟩ T0 ?_
    refine seq_nil ⟨[(1, _), (5, _), (6, _), (7, _), (18, _), (19, _), (20, _)], [(17, _)], ⟨rfl, rfl, rfl, rfl, rfl, rfl, rfl, T0⟩, ⟨rfl, T0⟩, ?_⟩
    refine exr ?_
    refine sw (core_assign (L _ rfl)) ⟨rfl, T0⟩ T0 ?_
    refine seq_nil ⟨[(1, _), (5, _), (6, _), (7, _), (8, _), (18, _), (19, _), (20, _)], [(17, _)], ⟨rfl, rfl, rfl, rfl, rfl, rfl, rfl, rfl, T0⟩, ⟨rfl, T0⟩, ?_⟩
    refine ex_seq ?_
    refine exr ?_
    refine sw (core_move (L _ rfl)) ⟨rfl, T0⟩ T0 ?_
    refine sw (core_len Tryd.underlying22 (L _ rfl)) ⟨rfl, T0⟩ T0 ?_
    refine sw (core_move (L _ rfl)) ⟨rfl, T0⟩ T0 ?_
    refine seq_nil ⟨[(1, _), (5, _), (6, _), (7, _), (8, _), (18, _), (19, _), (20, _), (25, _), (26, _), (27, _)], [(17, _)], ⟨rfl, rfl, rfl, rfl, rfl, rfl, rfl, rfl, rfl, rfl, rfl, T0⟩, ⟨rfl, T0⟩, ?_⟩
    refine ex_block ?_
    refine exl (α := (Nat × List Int × Int)) (fun y => [(27, vi (y.1:Int)), (8, vw y.2.2)]) (fun y => [(17, ⟨53, 1, .pure (encW y.2.1)⟩)]) (fun y => MulIn ws vs i y) (fun y => vs.length - y.1) (((0 : Nat), r, (0 : Int))) (sl := [(1, _), (5, _), (6, _), (7, _), (18, _), (19, _), (20, _), (25, _), (26, _)]) (hb := []) ?_ ⟨(by first | exact rfl | exact oi (by omega) rfl), (by first | exact rfl | exact oi (by omega) rfl), rfl, rfl, rfl, rfl, rfl, rfl, rfl, rfl, rfl, T0⟩ ⟨rfl, T0⟩ ?_
    · exact MulIn.zero h h2 hx (by omega)
    intro y hy
    obtain ⟨j, s, c⟩ := y
    have hlen2 := hy.len
    have hle2 := hy.le
    have hc0 := hy.c0
    have hc1 := hy.c1
    simp only at hlen2 hle2 hc0 hc1
    dsimp only
    refine exr ?_
    refine sw (core_lss (L _ rfl)) ⟨rfl, rfl, T0⟩ T0 ?_
    refine seq_nil ⟨[(1, _), (5, _), (6, _), (7, _), (8, _), (18, _), (19, _), (20, _), (25, _), (26, _), (27, _), (28, _)], [(17, _)], ⟨rfl, rfl, rfl, rfl, rfl, rfl, rfl, rfl, rfl, rfl, rfl, rfl, T0⟩, ⟨rfl, T0⟩, ?_⟩
    refine ex_seq ?_
    refine ex_if rfl (fun hf => ?_) (fun hf => ?_)
    · have hf := dt hf
      have hv := h2.getD j
      have hb := mul_bd hw hv
      have hs := hy.wd.getD (i + j)
      simp only at hs
      obtain ⟨key, k1, k2⟩ := hy.next h h2 (by omega) (by omega) rfl
      refine ex_skip (show Exec _ _ _ _ _ from ?_)
      refine ex_seq ?_
      refine ex_block ?_
      refine exr ?_
      refine sw (core_move (L _ rfl)) ⟨rfl, T0⟩ T0 ?_
      refine sw (ixJ Tryd.underlying22 Tryd.sizeOf53 (j := j) (by first | exact rfl | omega) (by omega) (by simp) (L _ rfl)) ⟨rfl, rfl, T0⟩ T0 ?_
      refine sw (core_loadI1 Tryd.isAgg53 (by first | exact getW (by omega) | rfl) (L _ rfl)) ⟨rfl, T0⟩ T0 ?_
      refine sw (core_assign (L _ rfl)) ⟨rfl, T0⟩ T0 ?_
      refine sw (core_assign (L _ rfl)) ⟨rfl, T0⟩ T0 ?_
      refine seq_nil ⟨[(1, _), (5, _), (6, _), (7, _), (8, _), (9, _), (10, _), (18, _), (19, _), (20, _), (25, _), (26, _), (27, _)], [(17, _)], ⟨rfl, rfl, rfl, rfl, rfl, rfl, rfl, rfl, rfl, rfl, rfl, rfl, rfl, T0⟩, ⟨rfl, T0⟩, ?_⟩
      refine exr ?_
      refine sw (core_move (L _ rfl)) ⟨rfl, T0⟩ T0 ?_
      refine sw (core_conv Tryd.underlying53 Tryd.underlying52 (L _ rfl) (fu64 (by omega) (by omega))) ⟨rfl, T0⟩ T0 ?_
      refine sw (core_move (L _ rfl)) ⟨rfl, T0⟩ T0 ?_
      refine sw (core_conv Tryd.underlying53 Tryd.underlying52 (L _ rfl) (fu64 (by omega) (by omega))) ⟨rfl, T0⟩ T0 ?_
      refine sw (core_mul (L _ rfl) (fu64 (by omega) (by omega))) ⟨rfl, rfl, T0⟩ T0 ?_
      refine sw (core_move (L _ rfl)) ⟨rfl, T0⟩ T0 ?_
      refine sw (core_move (L _ rfl)) ⟨rfl, T0⟩ T0 ?_
      refine sw (core_move (L _ rfl)) ⟨rfl, T0⟩ T0 ?_
      refine sw (core_add (L _ rfl) (w64 (by omega) (by omega))) ⟨rfl, rfl, T0⟩ T0 ?_
      refine sw (ixR0 Tryd.underlying22 Tryd.sizeOf53 (by exact (by simp; omega)) (j := i + j) (by first | exact rfl | omega) (by omega) (L _ rfl)) ⟨rfl, rfl, T0⟩ ⟨rfl, T0⟩ ?_
      refine sw (core_load1 Tryd.isAgg53 (by exact (by simp; omega)) (getC (by first | exact getW (by omega) | rfl)) (L _ rfl)) ⟨rfl, T0⟩ ⟨rfl, T0⟩ ?_
      refine sw (core_conv Tryd.underlying53 Tryd.underlying52 (L _ rfl) (fu64 (by omega) (by omega))) ⟨rfl, T0⟩ T0 ?_
      refine sw (core_add (L _ rfl) (fu64 (by omega) (by omega))) ⟨rfl, rfl, T0⟩ T0 ?_
      refine sw (core_move (L _ rfl)) ⟨rfl, T0⟩ T0 ?_
      refine sw (core_add (L _ rfl) (fu64 (by omega) (by omega))) ⟨rfl, rfl, T0⟩ T0 ?_
      refine sw (core_assign (L _ rfl)) ⟨rfl, T0⟩ T0 ?_
      refine seq_nil ⟨[(1, _), (5, _), (6, _), (7, _), (9, _), (11, _), (18, _), (19, _), (20, _), (25, _), (26, _), (27, _)], [(17, _)], ⟨rfl, rfl, rfl, rfl, rfl, rfl, rfl, rfl, rfl, rfl, rfl, rfl, T0⟩, ⟨rfl, T0⟩, ?_⟩
      refine exr ?_
      refine sw (core_move (L _ rfl)) ⟨rfl, T0⟩ T0 ?_
      refine sw (core_move (L _ rfl)) ⟨rfl, T0⟩ T0 ?_
      refine sw (core_move (L _ rfl)) ⟨rfl, T0⟩ T0 ?_
      refine sw (core_add (L _ rfl) (w64 (by omega) (by omega))) ⟨rfl, rfl, T0⟩ T0 ?_
      refine sw (core_move (L _ rfl)) ⟨rfl, T0⟩ T0 ?_
      refine sw (core_conv Tryd.underlying52 Tryd.underlying53 (L _ rfl) wu32) ⟨rfl, T0⟩ T0 ?_
      refine sw (ixR0 Tryd.underlying22 Tryd.sizeOf53 (by exact (by simp; omega)) (j := i + j) (by first | exact rfl | omega) (by omega) (L _ rfl)) ⟨rfl, rfl, T0⟩ ⟨rfl, T0⟩ ?_
      refine sb (core_store1 Tryd.sizeOf53 (by exact (by simp; omega)) (.atom rfl) (by omega)) ⟨rfl, rfl, T0⟩ ⟨rfl, T0⟩ ?_
      refine seq_nil ⟨[(1, _), (5, _), (6, _), (7, _), (11, _), (18, _), (19, _), (20, _), (25, _), (26, _), (27, _)], [(17, _)], ⟨rfl, rfl, rfl, rfl, rfl, rfl, rfl, rfl, rfl, rfl, rfl, T0⟩, ⟨rfl, T0⟩, ?_⟩
      refine exr0 ?_
      refine sw (core_move (L _ rfl)) ⟨rfl, T0⟩ T0 ?_
      refine sw (core_shr (L _ rfl) (by decide) (shrE (c := 4294967296) (by rfl) (by decide))) ⟨rfl, rfl, T0⟩ T0 ?_
      refine sw (core_assign (L _ rfl)) ⟨rfl, T0⟩ T0 ?_
      refine seq_nil ?_
      refine exr0 ?_
      refine sw (core_add (L _ rfl) (w64 (by omega) (by omega))) ⟨rfl, rfl, T0⟩ T0 ?_
      refine sw (core_move (L _ rfl)) ⟨rfl, T0⟩ T0 ?_
      refine seq_nil ?_
      exact ⟨(j + 1, s.set (i + j) ((ws.getD i 0 * vs.getD j 0 + s.getD (i + j) 0 + c) % 4294967296), (ws.getD i 0 * vs.getD j 0 + s.getD (i + j) 0 + c) / 4294967296), key, (by simp only; omega), le_of ⟨(by first | exact rfl | exact oi (by omega) rfl), (by first | exact rfl | exact oi (by omega) rfl), rfl, rfl, rfl, rfl, rfl, rfl, rfl, rfl, rfl, T0⟩ ⟨obl rfl (by rw [encW_set]), T0⟩⟩
    · have hf := df hf
      have hj : j = vs.length := by omega
      subst hj
      refine ex_exit (show Exec _ _ _ _ _ from ?_)
      refine exr0 ?_
      refine sw (core_move (L _ rfl)) ⟨rfl, T0⟩ T0 ?_
      refine sw (core_move (L _ rfl)) ⟨rfl, T0⟩ T0 ?_
      refine sw (core_move (L _ rfl)) ⟨rfl, T0⟩ T0 ?_
      refine sw (core_len Tryd.underlying22 (L _ rfl)) ⟨rfl, T0⟩ T0 ?_
      refine sw (core_add (L _ rfl) (w64 (by omega) (by omega))) ⟨rfl, rfl, T0⟩ T0 ?_
      refine sw (core_move (L _ rfl)) ⟨rfl, T0⟩ T0 ?_
      refine sw (core_conv Tryd.underlying52 Tryd.underlying53 (L _ rfl) (fu32 (by omega) (by omega))) ⟨rfl, T0⟩ T0 ?_
      refine sw (ixR0 Tryd.underlying22 Tryd.sizeOf53 (by exact (by simp; omega)) (j := i + vs.length) (by first | exact rfl | omega) (by omega) (L _ rfl)) ⟨rfl, rfl, T0⟩ ⟨rfl, T0⟩ ?_
      refine sb (core_store1 Tryd.sizeOf53 (by exact (by simp; omega)) (.atom rfl) (by omega)) ⟨rfl, rfl, T0⟩ ⟨rfl, T0⟩ ?_
      refine seq_nil ?_
      refine exr0 ?_
      refine sw (core_add (L _ rfl) (w64 (by omega) (by omega))) ⟨rfl, rfl, T0⟩ T0 ?_
      refine sw (core_move (L _ rfl)) ⟨rfl, T0⟩ T0 ?_
      refine seq_nil ?_
      exact ⟨(i + 1, s.set (i + vs.length) c), hy.done (by omega), (by simp only; omega), le_of ⟨(by first | exact rfl | exact oi (by omega) rfl), rfl, rfl, rfl, rfl, T0⟩ ⟨obl rfl (by rw [encW_set]), T0⟩⟩
  · have he := df he
    have hi : i = ws.length := by omega
    subst hi
    have e : r = digN (ws.length + vs.length) (val ws * val vs) := by
      have := hx.eq
      simp only [List.take_length] at this
      rw [← this, ← hlen, digN_val hx.wd]
    refine ex_exit (show Exec _ _ _ _ _ from ?_)
    refine exr ?_
    refine sw (core_move (L _ rfl)) ⟨rfl, T0⟩ T0 ?_
    refine sw (core_assign (L _ rfl)) ⟨rfl, T0⟩ T0 ?_
    refine seq_nil ⟨[(4, _)], [(17, _)], ⟨rfl, T0⟩, ⟨rfl, T0⟩, ?_⟩
    refine ex_cv [17] (sl := [(4, _)]) (hb := []) (own_none hX0) ⟨⟨_, rfl, (.ref rfl rfl (by exact (by simp; omega)) (by first | rfl | omega))⟩, T0⟩ T0 ?_
    refine ex_ret ?_
    refine ⟨.inr rfl, ResVs.cast (.cons (.tmp rfl) .nil) ?_⟩
    rw [e]; simp [digN_length]

set_option maxRecDepth 100000 in
set_option maxHeartbeats 4000000 in
theorem mul_says (m n : Bool) (ws vs : List Int) (hl : ws.length < 400000000) (hl2 : vs.length < 400000000) (h : Wd ws) (h2 : Wd vs) : Says E 39 [pI m ws, pI n vs] (pZ (if canon m ws = true ∧ canon n vs = true then sg m (val ws) * sg n (val vs) else 0)) := by
  refine says_of (xs := [pZ (if canon m ws = true ∧ canon n vs = true then sg m (val ws) * sg n (val vs) else 0)]) Tryd.func39 rfl Tryd.ntmps39 Tryd.results39 (by simp) fun F hG hX0 hnt hdf P0 => ?_
  have L := ltn hnt
  have hX : ∀ b, F.X b → E.ng ≤ b := fun b h => absurd h (hX0 b)
  have hN := ng_le hG
  have hv := val_nonneg h
  have hv2 := val_nonneg h2
  have hvv : 0 ≤ val ws * val vs := Int.mul_nonneg hv hv2
  refine exr ?_
  refine swb (core_box (k := 2) (n := 2) (.pagg (.cons (.cons .nil))) rfl rfl (P0 _ rfl) (L _ rfl)) ⟨rfl, T0⟩ T0 ⟨rfl, rfl⟩ ?_
  refine swb (core_box (k := 3) (n := 2) (.pagg (.cons (.cons .nil))) rfl rfl (P0 _ rfl) (L _ rfl)) ⟨rfl, T0⟩ T0 ⟨rfl, rfl⟩ ?_
  refine swb (core_alloc (k := 4) (n := 2) Tryd.zeroValue24 (.cons rfl (.cons rfl .nil)) rfl (P0 _ rfl) (L _ rfl)) trivial trivial ⟨rfl, rfl⟩ ?_
  refine seq_nil ⟨[(2, _), (3, _), (4, _)], [(2, _), (3, _), (4, _)], ⟨rfl, rfl, rfl, T0⟩, ⟨rfl, rfl, rfl, T0⟩, ?_⟩
  refine ex_seq ?_
  refine exr ?_
  refine sw (core_loadP Tryd.isAgg24 Tryd.sizeOf24 (by rfl) (by exact (.cons (.cons .nil))) rfl (L _ rfl)) ⟨rfl, T0⟩ ⟨rfl, T0⟩ ?_
  refine sw (core_loadP Tryd.isAgg24 Tryd.sizeOf24 (by rfl) (by exact (.cons (.cons .nil))) rfl (L _ rfl)) ⟨rfl, T0⟩ ⟨rfl, T0⟩ ?_
  refine sw (core_bsI (vs := [_, _]) Tryd.underlying78 Tryd.typeInfo24 rfl rfl (by decide) (by decide) rfl (zs_made (.cons rfl (.cons rfl .nil)) rfl) rfl (.cons rfl (.pagg (.cons (.cons .nil))) rfl (.put (.put .here)) (.cons rfl (.pagg (.cons (.cons .nil))) rfl (.skip (.skip (.put (.put .here)))) .nil)) (.cons (.cons (.cons (.cons .nil)))) (L _ rfl)) ⟨rfl, rfl, T0⟩ T0 ?_
  refine sw (core_call (E := E) hG hX Tryd.call59 rfl hN (all_says [(m, ws), (n, vs)] (by simp) (by simp; omega)) (L _ rfl)) ⟨rfl, T0⟩ T0 ?_
  refine sw (core_not (L _ rfl)) ⟨rfl, T0⟩ T0 ?_
  refine seq_nil ⟨[(2, _), (3, _), (4, _), (9, _)], [(2, _), (3, _), (4, _)], ⟨rfl, rfl, rfl, rfl, T0⟩, ⟨rfl, rfl, rfl, T0⟩, ?_⟩
  refine ex_if rfl (fun hc => ?_) (fun hc => ?_)
  · have hc : ¬ (canon m ws = true ∧ canon n vs = true) := by rintro ⟨h1, h2⟩; simp [h1, h2] at hc
    refine exr ?_
    refine sw (core_pc (core_buildP (vs := []) Tryd.underlying24 Tryd.zeroValue24 (.cons rfl (.cons rfl .nil)) ((Places.cons Tryd.sizeOf4 (Places.cons Tryd.sizeOf22 Places.nil))).to rfl .nil (.cons (.cons .nil)) (L _ rfl)) (.agg (.cons .same (.cons .nil .nil)))) T0 T0 ?_
    refine sb (core_storeM Tryd.sizeOf24 (by rfl) (.pagg (.cons (.cons .nil))) rfl (.put (.put .here))) ⟨rfl, rfl, T0⟩ ⟨rfl, T0⟩ ?_
    refine seq_nil ⟨[(4, _)], [(4, _)], ⟨rfl, T0⟩, ⟨rfl, T0⟩, ?_⟩
    refine ex_ret ?_
    refine ⟨.inr rfl, ResVs.cast (.cons (.agg rfl rfl rfl Tryd.isAgg24 Tryd.sizeOf24 (.cons (.cons .nil))) .nil) ?_⟩
    rw [if_neg hc, pZ_zero]; rfl
  · have hc : canon m ws = true ∧ canon n vs = true := by simpa using hc
    have es : sg (m != n) (val ws * val vs) = sg m (val ws) * sg n (val vs) := by cases m <;> cases n <;> simp [sg, Int.mul_neg, Int.neg_mul]
    refine ex_skip (show Exec _ _ _ _ _ from ?_)
    refine ex_seq ?_
    refine exm (sl := [(20, vb (decide (ws.length = 1 ∧ vs.length = 1)))]) (sl0 := [(2, _), (3, _), (4, _)]) (hb := []) (hb0 := [(2, _), (3, _), (4, _)]) ⟨rfl, rfl, rfl, T0⟩ ⟨rfl, rfl, rfl, T0⟩ ?_ ?_
    · by_cases hd : ws.length = 1
      · refine sw (core_fieldAddr Tryd.underlying24 rfl Tryd.sizeOf22 (by decide) (by exact rfl) (L _ rfl)) ⟨rfl, T0⟩ ⟨rfl, T0⟩ ?_
        refine sw (core_load1 Tryd.isAgg22 (by rfl) (by rfl) (L _ rfl)) ⟨rfl, T0⟩ ⟨rfl, T0⟩ ?_
        refine sw (core_len Tryd.underlying22 (L _ rfl)) ⟨rfl, T0⟩ T0 ?_
        refine sw (core_eql (L _ rfl)) ⟨rfl, rfl, T0⟩ T0 ?_
        refine sw (core_move (L _ rfl)) ⟨rfl, T0⟩ T0 ?_
        refine swg (g := 15) rfl (decide_eq_true (by omega)) (core_fieldAddr Tryd.underlying24 rfl Tryd.sizeOf22 (by decide) (by exact rfl) (L _ rfl)) rfl ⟨rfl, T0⟩ ⟨rfl, T0⟩ ?_
        refine swg (g := 15) rfl (decide_eq_true (by omega)) (core_load1 Tryd.isAgg22 (by rfl) (by rfl) (L _ rfl)) rfl ⟨rfl, T0⟩ ⟨rfl, T0⟩ ?_
        refine swg (g := 15) rfl (decide_eq_true (by omega)) (core_len Tryd.underlying22 (L _ rfl)) rfl ⟨rfl, T0⟩ T0 ?_
        refine swg (g := 15) rfl (decide_eq_true (by omega)) (core_eql (L _ rfl)) rfl ⟨rfl, rfl, T0⟩ T0 ?_
        refine sw (core_pick_t (decide_eq_true (by omega)) (L _ rfl)) ⟨rfl, rfl, T0⟩ T0 ?_
        exact seq_nil ⟨⟨ob rfl (dec_eq (by omega)), rfl, rfl, rfl, T0⟩, ⟨rfl, rfl, rfl, T0⟩⟩
      · refine sw (core_fieldAddr Tryd.underlying24 rfl Tryd.sizeOf22 (by decide) (by exact rfl) (L _ rfl)) ⟨rfl, T0⟩ ⟨rfl, T0⟩ ?_
        refine sw (core_load1 Tryd.isAgg22 (by rfl) (by rfl) (L _ rfl)) ⟨rfl, T0⟩ ⟨rfl, T0⟩ ?_
        refine sw (core_len Tryd.underlying22 (L _ rfl)) ⟨rfl, T0⟩ T0 ?_
        refine sw (core_eql (L _ rfl)) ⟨rfl, rfl, T0⟩ T0 ?_
        refine sw (core_move (L _ rfl)) ⟨rfl, T0⟩ T0 ?_
        refine swn (g := 15) rfl (decide_eq_false (by omega)) (L _ rfl) rfl ?_
        refine swn (g := 15) rfl (decide_eq_false (by omega)) (L _ rfl) rfl ?_
        refine swn (g := 15) rfl (decide_eq_false (by omega)) (L _ rfl) rfl ?_
        refine swn (g := 15) rfl (decide_eq_false (by omega)) (L _ rfl) rfl ?_
        refine sw (core_pick_f (decide_eq_false (by omega)) (L _ rfl)) ⟨rfl, rfl, T0⟩ T0 ?_
        exact seq_nil ⟨⟨ob rfl (by simp [hd]), rfl, rfl, rfl, T0⟩, ⟨rfl, rfl, rfl, T0⟩⟩
    refine ex_if rfl (fun hd => ?_) (fun hd => ?_)
    · have hd := dt hd
      have hw := h.getD 0
      have hw2 := h2.getD 0
      have hb := mul_bd hw hw2
      refine exd (by rfl) ?_
      refine sw (core_fieldAddr Tryd.underlying24 rfl Tryd.sizeOf4 (by decide) (by exact rfl) (L _ rfl)) ⟨rfl, T0⟩ ⟨rfl, T0⟩ ?_
      refine sw (core_load1 Tryd.isAgg4 (by rfl) (by rfl) (L _ rfl)) ⟨rfl, T0⟩ ⟨rfl, T0⟩ ?_
      refine sw (core_fieldAddr Tryd.underlying24 rfl Tryd.sizeOf4 (by decide) (by exact rfl) (L _ rfl)) ⟨rfl, T0⟩ ⟨rfl, T0⟩ ?_
      refine sw (core_load1 Tryd.isAgg4 (by rfl) (by rfl) (L _ rfl)) ⟨rfl, T0⟩ ⟨rfl, T0⟩ ?_
      refine sw (core_bne Tryd.underlying4 (L _ rfl)) ⟨rfl, rfl, T0⟩ T0 ?_
      refine sw (core_fieldAddr Tryd.underlying24 rfl Tryd.sizeOf22 (by decide) (by exact rfl) (L _ rfl)) ⟨rfl, T0⟩ ⟨rfl, T0⟩ ?_
      refine sw (core_load1 Tryd.isAgg22 (by rfl) (by rfl) (L _ rfl)) ⟨rfl, T0⟩ ⟨rfl, T0⟩ ?_
      refine sw (ixJ Tryd.underlying22 Tryd.sizeOf53 (j := 0) rfl (by omega) (by simp) (L _ rfl)) ⟨rfl, rfl, T0⟩ T0 ?_
      refine sw (core_loadI1 Tryd.isAgg53 (by first | exact getW (by omega) | rfl) (L _ rfl)) ⟨rfl, T0⟩ T0 ?_
      refine sw (core_conv Tryd.underlying53 Tryd.underlying52 (L _ rfl) (fu64 (by omega) (by omega))) ⟨rfl, T0⟩ T0 ?_
      refine sw (core_fieldAddr Tryd.underlying24 rfl Tryd.sizeOf22 (by decide) (by exact rfl) (L _ rfl)) ⟨rfl, T0⟩ ⟨rfl, T0⟩ ?_
      refine sw (core_load1 Tryd.isAgg22 (by rfl) (by rfl) (L _ rfl)) ⟨rfl, T0⟩ ⟨rfl, T0⟩ ?_
      refine sw (ixJ Tryd.underlying22 Tryd.sizeOf53 (j := 0) rfl (by omega) (by simp) (L _ rfl)) ⟨rfl, rfl, T0⟩ T0 ?_
      refine sw (core_loadI1 Tryd.isAgg53 (by first | exact getW (by omega) | rfl) (L _ rfl)) ⟨rfl, T0⟩ T0 ?_
      refine sw (core_conv Tryd.underlying53 Tryd.underlying52 (L _ rfl) (fu64 (by omega) (by omega))) ⟨rfl, T0⟩ T0 ?_
      refine sw (core_mul (L _ rfl) (fu64 (by omega) (by omega))) ⟨rfl, rfl, T0⟩ T0 ?_
      refine sw (core_call (E := E) hG hX Tryd.call55 rfl hN (natural_says (m != n) (ws.getD 0 0 * vs.getD 0 0) hb.1 (by omega)) (L _ rfl)) ⟨rfl, rfl, T0⟩ T0 ?_
      refine sb (core_storeM Tryd.sizeOf24 (by rfl) (.pagg (.cons (.cons .nil))) rfl (.put (.put .here))) ⟨rfl, rfl, T0⟩ ⟨rfl, T0⟩ ?_
      refine seq_nil ⟨aoks [⟨[2], [2], [21], []⟩, ⟨[21], [2], [22], []⟩, ⟨[3], [3], [23], []⟩, ⟨[23], [3], [24], []⟩, ⟨[22, 24], [], [25], []⟩, ⟨[2], [2], [26], []⟩, ⟨[26], [2], [27], []⟩, ⟨[27], [], [28], []⟩, ⟨[28], [], [29], []⟩, ⟨[29], [], [30], []⟩, ⟨[3], [3], [31], []⟩, ⟨[31], [3], [32], []⟩, ⟨[32], [], [33], []⟩, ⟨[33], [], [34], []⟩, ⟨[34], [], [35], []⟩, ⟨[30, 35], [], [36], []⟩, ⟨[25, 36], [], [37], []⟩, ⟨[4, 37], [4], [], [4]⟩] (by rfl) (by rfl) (by decide), [(4, _)], [(4, _)], ⟨rfl, T0⟩, ⟨rfl, T0⟩, ?_⟩
      refine ex_ret ?_
      refine ⟨.inr rfl, ResVs.cast (.cons (.agg rfl rfl rfl Tryd.isAgg24 Tryd.sizeOf24 (.cons (.cons .nil))) .nil) ?_⟩
      rw [if_pos hc, val_one hd.1, val_one hd.2, es]
    · have hd := df hd
      refine ex_skip (show Exec _ _ _ _ _ from ?_)
      refine exd (by rfl) ?_
      refine sw (core_fieldAddr Tryd.underlying24 rfl Tryd.sizeOf4 (by decide) (by exact rfl) (L _ rfl)) ⟨rfl, T0⟩ ⟨rfl, T0⟩ ?_
      refine sw (core_load1 Tryd.isAgg4 (by rfl) (by rfl) (L _ rfl)) ⟨rfl, T0⟩ ⟨rfl, T0⟩ ?_
      refine sw (core_fieldAddr Tryd.underlying24 rfl Tryd.sizeOf4 (by decide) (by exact rfl) (L _ rfl)) ⟨rfl, T0⟩ ⟨rfl, T0⟩ ?_
      refine sw (core_load1 Tryd.isAgg4 (by rfl) (by rfl) (L _ rfl)) ⟨rfl, T0⟩ ⟨rfl, T0⟩ ?_
      refine sw (core_bne Tryd.underlying4 (L _ rfl)) ⟨rfl, rfl, T0⟩ T0 ?_
      refine sw (core_fieldAddr Tryd.underlying24 rfl Tryd.sizeOf22 (by decide) (by exact rfl) (L _ rfl)) ⟨rfl, T0⟩ ⟨rfl, T0⟩ ?_
      refine sw (core_load1 Tryd.isAgg22 (by rfl) (by rfl) (L _ rfl)) ⟨rfl, T0⟩ ⟨rfl, T0⟩ ?_
      refine sw (core_fieldAddr Tryd.underlying24 rfl Tryd.sizeOf22 (by decide) (by exact rfl) (L _ rfl)) ⟨rfl, T0⟩ ⟨rfl, T0⟩ ?_
      refine sw (core_load1 Tryd.isAgg22 (by rfl) (by rfl) (L _ rfl)) ⟨rfl, T0⟩ ⟨rfl, T0⟩ ?_
      refine sw (core_call (E := E) hG hX Tryd.call71 rfl hN (times_says ws vs hl hl2 h h2) (L _ rfl)) ⟨rfl, rfl, T0⟩ T0 ?_
      refine sw (core_call (E := E) hG hX Tryd.call62 rfl hN (made_says (m != n) (digN (ws.length + vs.length) (val ws * val vs)) (by rw [digN_length]; omega) (digN_wd _ _)) (L _ rfl)) ⟨rfl, rfl, T0⟩ T0 ?_
      refine sb (core_storeM Tryd.sizeOf24 (by rfl) (.pagg (.cons (.cons .nil))) rfl (.put (.put .here))) ⟨rfl, rfl, T0⟩ ⟨rfl, T0⟩ ?_
      refine seq_nil ⟨aoks [⟨[2], [2], [38], []⟩, ⟨[38], [2], [39], []⟩, ⟨[3], [3], [40], []⟩, ⟨[40], [3], [41], []⟩, ⟨[39, 41], [], [42], []⟩, ⟨[2], [2], [43], []⟩, ⟨[43], [2], [44], []⟩, ⟨[3], [3], [45], []⟩, ⟨[45], [3], [46], []⟩, ⟨[44, 46], [], [47], []⟩, ⟨[42, 47], [], [48], []⟩, ⟨[4, 48], [4], [], [4]⟩] (by rfl) (by rfl) (by decide), [(4, _)], [(4, _)], ⟨rfl, T0⟩, ⟨rfl, T0⟩, ?_⟩
      refine ex_ret ?_
      refine ⟨.inr rfl, ResVs.cast (.cons (.agg rfl rfl rfl Tryd.isAgg24 Tryd.sizeOf24 (.cons (.cons .nil))) .nil) ?_⟩
      rw [if_pos hc, val_digN hvv (by have := take_mul_lt h h2 (i := ws.length) (Nat.le_refl _); rwa [List.take_length] at this), es]

end Go.Proofs.YtebkelnibecmjaaDoor.N
