/- Part Row of the proof: lemmas for the walks of the given functions. No statement of its own. -/
import Derived.Test.YtebkelnibecmjaaDoorWalkC
import Derived.Test.YtebkelnibecmjaaDoorLogicB
import Derived.Test.YtebkelnibecmjaaDoorRows
import Derived.Test.YtebkelnibecmjaaDoorTie
set_option linter.unusedVariables false
set_option linter.unusedSimpArgs false
set_option linter.deprecated false
namespace Go.Proofs.YtebkelnibecmjaaDoor.N
open Go Go.Proofs.YtebkelnibecmjaaDoor.SH Go.Proofs.YtebkelnibecmjaaDoor.NumA Go.Proofs.YtebkelnibecmjaaDoor Go.RowKit Go.ChangeShapes Go.WideShapes Go.ChangeAt Go.Joins
theorem own : ownKnob Tryd.prog.godebug = none := by kernel_rfl
theorem laidOut : laidOutB Tryd.prog = true := by kernel_rfl
theorem cells24 : Tryd.prog.cellsOf 24 = 2 := by kernel_rfl
theorem cells53 : Tryd.prog.cellsOf 53 = 1 := by kernel_rfl
theorem row_of_ints {w : World} {a : Addr} {k : IntKind} {zs : List Int} {n : Nat} {t : TypeId} (hcell : ∀ i, i < zs.length → w.cell? (a.add i) = some (.int k (zs.getD i 0))) (hn : n ≤ zs.length) :
    RelS (fun _ => True) (hp w) ((zs.take n).map fun z => .a (.int k z)) (some a) := by
  by_cases h0 : n = 0
  · subst h0; trivial
  · obtain ⟨b, off, rfl, hc⟩ := ints_at hcell (by omega)
    refine RelS.of trivial (RelAt.of fun i y hy => ?_)
    rw [List.getElem?_map, List.getElem?_take] at hy
    split at hy
    · rename_i hi
      have hi' : i < zs.length := by omega
      rw [List.getElem?_eq_getElem hi'] at hy
      simp only [Option.map_some, Option.some.injEq] at hy
      subst hy
      refine ⟨.int k zs[i], ?_, rfl, by simp [Rel]⟩
      rw [← cell_eq, hc i hi', List.getD_eq_getElem?_getD, List.getElem?_eq_getElem hi']
      rfl
    · cases hy
set_option maxRecDepth 100000 in
/-- An integer that comes in. -/
theorem int_arg {H : Type} {enc : TypeId × Value → H} {W : World} {r : Reach} {b0 : Nat} {v : Value} {d : DataW H} {p : List MemPlace} (hv : Value.okWide Tryd.prog W r b0 24 v) (h : DataW.Trod enc Tryd.prog W 0 (fun _ => true) true 24 v d p) :
    ∃ neg ws, Wd ws ∧ Rel (fun _ => True) (hp W) (pI neg ws) v := by
  obtain ⟨c0, c1, y0, y1, m, rfl, rfl, rfl, hy0, hy1⟩ := open_agg2 Tryd.underlying24 (by kernel_rfl) cells24 hv h
  obtain ⟨b, hb, -⟩ := DataW.trod_bool Tryd.underlying4 hy0
  obtain rfl : c0 = .bool b := by simpa using hb
  rcases open_ints Tryd.underlying22 Tryd.underlying53 cells53 hy1 with ⟨hcs, hx⟩ | ⟨a, len, cap, zs, hcs, _, hl, hm, hz, hx, hcell, hwz⟩
  · obtain rfl : c1 = .slice none 0 0 := by simpa using hcs
    refine ⟨b, [], Wd.nil, ?_⟩
    refine ⟨[.bool b, .slice none 0 0], rfl, ⟨_, _, rfl, by simp [Rel], _, _, rfl, ⟨none, 0, rfl, Nat.le_refl _, trivial⟩, rfl⟩, ?_⟩
    intro c hc
    simp only [List.mem_cons, List.not_mem_nil, or_false] at hc
    rcases hc with rfl | rfl <;> rfl
  · obtain rfl : c1 = .slice (some a) len cap := by simpa using hcs
    simp only [if_true] at hz
    have hlen : (zs.take len).length = len := by rw [List.length_take]; omega
    refine ⟨b, zs.take len, fun w hw => ?_, ?_⟩
    · have := hwz w (List.mem_of_mem_take hw)
      simp only [Lit.wf, Bool.and_eq_true, decide_eq_true_eq] at this
      exact ⟨this.1, Int.lt_of_le_of_lt this.2 (by decide)⟩
    · refine ⟨[.bool b, .slice (some a) len cap], rfl, ⟨_, _, rfl, by simp [Rel], _, _, rfl, ⟨some a, cap, by rw [hlen], by rw [hlen]; exact hl, row_of_ints (t := 0) hcell (by omega)⟩, rfl⟩, ?_⟩
      intro c hc
      simp only [List.mem_cons, List.not_mem_nil, or_false] at hc
      rcases hc with rfl | rfl <;> rfl
theorem int_bd {n : Int} (h : (Lit.int .i64 n).wf = true) : -9223372036854775808 ≤ n ∧ n < 9223372036854775808 := by
  simp only [Lit.wf, Bool.and_eq_true, decide_eq_true_eq] at h
  exact ⟨h.1, Int.lt_of_le_of_lt h.2 (by decide)⟩
theorem byte_bd {n : Int} (h : (Lit.int .u8 n).wf = true) : 0 ≤ n ∧ n < 256 := by
  simp only [Lit.wf, Bool.and_eq_true, decide_eq_true_eq] at h
  exact ⟨h.1, Int.lt_of_le_of_lt h.2 (by decide)⟩
/-- What the row lists. -/
abbrev laid : List (String × DataW Unit) := [("math/bits.deBruijn32tab", Rows.laid_math_bits_deBruijn32tab), ("math/bits.deBruijn64tab", Rows.laid_math_bits_deBruijn64tab), ("internal/strconv.uint64pow10", Rows.laid_internal_strconv_uint64pow10)]
theorem laid_met (os : Os) (args : Array Value) : laidMetH Tryd.prog laid ((World.laidAll Tryd.prog os laid).forCall (fun _ _ => 0) ⟨#[], args, []⟩).memory := by
  rw [MakeChecks.laidMetH_plain _ _ _ (by kernel_rfl)]; exact laidMet_laidAll _ (by kernel_rfl) (by kernel_rfl)
theorem globT : (Tryd.prog.globals[0]?).map (·.type) = some 101 := by kernel_rfl
theorem tab_of_laid {W : World} (h : laidMetH Tryd.prog laid W) : Tab W := by
  rw [MakeChecks.laidMetH_plain _ _ _ (by kernel_rfl)] at h
  exact Lib.tabIs_of_head tabG globT Tryd.underlying101 Tryd.underlying52 (by kernel_rfl) (by kernel_rfl) h.tail.tail
end Go.Proofs.YtebkelnibecmjaaDoor.N
