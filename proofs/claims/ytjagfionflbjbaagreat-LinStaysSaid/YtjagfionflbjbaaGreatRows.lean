/-
  No cell of these rows narrows 'for every input' (looked for: loops, veiled, ifaces, maps, wideKeys, modest, calm, conditions, laid).
  DERIVED. THE GIVEN ROWS OF THIS SEAT. 8 by the template 'for every input the law returns true; each argument reads behind the call as it read before'; 0 by the template 'total and deterministic' (their statements: YtjagfionflbjbaaGreatTotals.lean).
  GIVEN WITH THE SEED: the statements are not yours to turn. If you find one false, say at which input.
  Laid BY PROGRAM, IN A SANDBOX (cutbox-rows.mjs): the forced cells as the released guide's own fill.sh prints them over the translation e7565a1438adaa89… (all of the seat's roots in one cut). By AI agents, Wed Nov 11 2026. No macro, syntax, notation, axiom, sorry.
-/
import Derived.Test.YtjagfionflbjbaaGreatChecked
import GoSem.Claim
import GoSem.ClaimJoined
import GoSem.ClaimMapViews
import Derived.JoinedTies
import Derived.KernelRfl
namespace Go.Proofs.YtjagfionflbjbaaGreat
/- THE CELL 'sum', in the pinned program and in every row, IS THE sha256 OF THE DUMP (.gsa) THAT YtjagfionflbjbaaGreatProg.lean LOADS. Nothing in Lean hashes anything: it is a label: what it is worth is what the hold of that sum in a sandbox is worth. -/
noncomputable def Tryz.pinned : Pinned := { name := "ytjagfionflbjbaagreat", sum := "e7565a1438adaa89be2e0d274a99cb11c53fbbc8d46f5359676f2d16807078aa", checked := Tryz.checked }
namespace Rows
def none {H : Type} : Left H := { results := [], args := [] }

/-- 'quadratrixlaw05.LinEchelons': WHATEVER THE INPUT: true; the input reads as it did. -/
def linEchelonsSpec : ChangeSpec := { name := "linEchelons", fn := fun _ => fun
  | [d] => { results := [.lit (.bool true)], args := [d] }
  | _ => none }
def linEchelonsRow : OpenClaim := { program := "ytjagfionflbjbaagreat", sum := "e7565a1438adaa89be2e0d274a99cb11c53fbbc8d46f5359676f2d16807078aa", func := "quadratrix/quadratrixlaw05.LinEchelons", spec := "linEchelons", inPlace := ["math/bits.Sub64"], unfollowed := true, recurses := true, apart := false }
def LinEchelonsSaid : Prop := linEchelonsRow.holds Tryz.pinned (OpenSpec.ofChange linEchelonsSpec)

/-- ITS FALSE NEIGHBOUR: 'it returns false'. Refute it at one input. -/
def linEchelonsWrong : ChangeSpec := { name := "linEchelons", fn := fun _ => fun
  | [d] => { results := [.lit (.bool false)], args := [d] }
  | _ => none }
def LinEchelonsWrongFalsely : Prop := linEchelonsRow.holds Tryz.pinned (OpenSpec.ofChange linEchelonsWrong)

/-- 'quadratrixlaw05.LinSolves': WHATEVER THE INPUT: true; the input reads as it did. -/
def linSolvesSpec : ChangeSpec := { name := "linSolves", fn := fun _ => fun
  | [d1, d2, d3] => { results := [.lit (.bool true)], args := [d1, d2, d3] }
  | _ => none }
def linSolvesRow : OpenClaim := { program := "ytjagfionflbjbaagreat", sum := "e7565a1438adaa89be2e0d274a99cb11c53fbbc8d46f5359676f2d16807078aa", func := "quadratrix/quadratrixlaw05.LinSolves", spec := "linSolves", inPlace := ["math/bits.Sub64"], unfollowed := true, recurses := true, apart := false }
def LinSolvesSaid : Prop := linSolvesRow.holds Tryz.pinned (OpenSpec.ofChange linSolvesSpec)

/-- ITS FALSE NEIGHBOUR: 'it returns false'. Refute it at one input. -/
def linSolvesWrong : ChangeSpec := { name := "linSolves", fn := fun _ => fun
  | [d1, d2, d3] => { results := [.lit (.bool false)], args := [d1, d2, d3] }
  | _ => none }
def LinSolvesWrongFalsely : Prop := linSolvesRow.holds Tryz.pinned (OpenSpec.ofChange linSolvesWrong)

/-- 'quadratrixlaw05.LinCombines': WHATEVER THE INPUT: true; the input reads as it did. -/
def linCombinesSpec : ChangeSpec := { name := "linCombines", fn := fun _ => fun
  | [d1, d2] => { results := [.lit (.bool true)], args := [d1, d2] }
  | _ => none }
def linCombinesRow : OpenClaim := { program := "ytjagfionflbjbaagreat", sum := "e7565a1438adaa89be2e0d274a99cb11c53fbbc8d46f5359676f2d16807078aa", func := "quadratrix/quadratrixlaw05.LinCombines", spec := "linCombines", inPlace := ["math/bits.Sub64"], unfollowed := true, recurses := true, apart := false }
def LinCombinesSaid : Prop := linCombinesRow.holds Tryz.pinned (OpenSpec.ofChange linCombinesSpec)

/-- ITS FALSE NEIGHBOUR: 'it returns false'. Refute it at one input. -/
def linCombinesWrong : ChangeSpec := { name := "linCombines", fn := fun _ => fun
  | [d1, d2] => { results := [.lit (.bool false)], args := [d1, d2] }
  | _ => none }
def LinCombinesWrongFalsely : Prop := linCombinesRow.holds Tryz.pinned (OpenSpec.ofChange linCombinesWrong)

/-- 'quadratrixlaw05.LinDets': WHATEVER THE INPUT: true; the input reads as it did. -/
def linDetsSpec : ChangeSpec := { name := "linDets", fn := fun _ => fun
  | [d] => { results := [.lit (.bool true)], args := [d] }
  | _ => none }
def linDetsRow : OpenClaim := { program := "ytjagfionflbjbaagreat", sum := "e7565a1438adaa89be2e0d274a99cb11c53fbbc8d46f5359676f2d16807078aa", func := "quadratrix/quadratrixlaw05.LinDets", spec := "linDets", inPlace := ["math/bits.Sub64"], unfollowed := true, recurses := true, apart := false }
def LinDetsSaid : Prop := linDetsRow.holds Tryz.pinned (OpenSpec.ofChange linDetsSpec)

/-- ITS FALSE NEIGHBOUR: 'it returns false'. Refute it at one input. -/
def linDetsWrong : ChangeSpec := { name := "linDets", fn := fun _ => fun
  | [d] => { results := [.lit (.bool false)], args := [d] }
  | _ => none }
def LinDetsWrongFalsely : Prop := linDetsRow.holds Tryz.pinned (OpenSpec.ofChange linDetsWrong)

/-- 'quadratrixlaw05.LinProducts': WHATEVER THE INPUT: true; the input reads as it did. -/
def linProductsSpec : ChangeSpec := { name := "linProducts", fn := fun _ => fun
  | [d1, d2] => { results := [.lit (.bool true)], args := [d1, d2] }
  | _ => none }
def linProductsRow : OpenClaim := { program := "ytjagfionflbjbaagreat", sum := "e7565a1438adaa89be2e0d274a99cb11c53fbbc8d46f5359676f2d16807078aa", func := "quadratrix/quadratrixlaw05.LinProducts", spec := "linProducts", inPlace := ["math/bits.Sub64"], unfollowed := true, recurses := true, apart := false }
def LinProductsSaid : Prop := linProductsRow.holds Tryz.pinned (OpenSpec.ofChange linProductsSpec)

/-- ITS FALSE NEIGHBOUR: 'it returns false'. Refute it at one input. -/
def linProductsWrong : ChangeSpec := { name := "linProducts", fn := fun _ => fun
  | [d1, d2] => { results := [.lit (.bool false)], args := [d1, d2] }
  | _ => none }
def LinProductsWrongFalsely : Prop := linProductsRow.holds Tryz.pinned (OpenSpec.ofChange linProductsWrong)

/-- 'quadratrixlaw05.LinMakes': WHATEVER THE INPUT: true; the input reads as it did. -/
def linMakesSpec : ChangeSpec := { name := "linMakes", fn := fun _ => fun
  | [d1, d2] => { results := [.lit (.bool true)], args := [d1, d2] }
  | _ => none }
def linMakesRow : OpenClaim := { program := "ytjagfionflbjbaagreat", sum := "e7565a1438adaa89be2e0d274a99cb11c53fbbc8d46f5359676f2d16807078aa", func := "quadratrix/quadratrixlaw05.LinMakes", spec := "linMakes", inPlace := ["math/bits.Sub64"], unfollowed := true, recurses := true, apart := false }
def LinMakesSaid : Prop := linMakesRow.holds Tryz.pinned (OpenSpec.ofChange linMakesSpec)

/-- ITS FALSE NEIGHBOUR: 'it returns false'. Refute it at one input. -/
def linMakesWrong : ChangeSpec := { name := "linMakes", fn := fun _ => fun
  | [d1, d2] => { results := [.lit (.bool false)], args := [d1, d2] }
  | _ => none }
def LinMakesWrongFalsely : Prop := linMakesRow.holds Tryz.pinned (OpenSpec.ofChange linMakesWrong)

/-- 'quadratrixlaw05.LinInverses': WHATEVER THE INPUT: true; the input reads as it did. -/
def linInversesSpec : ChangeSpec := { name := "linInverses", fn := fun _ => fun
  | [d] => { results := [.lit (.bool true)], args := [d] }
  | _ => none }
def linInversesRow : OpenClaim := { program := "ytjagfionflbjbaagreat", sum := "e7565a1438adaa89be2e0d274a99cb11c53fbbc8d46f5359676f2d16807078aa", func := "quadratrix/quadratrixlaw05.LinInverses", spec := "linInverses", inPlace := ["math/bits.Sub64"], unfollowed := true, recurses := true, apart := false }
def LinInversesSaid : Prop := linInversesRow.holds Tryz.pinned (OpenSpec.ofChange linInversesSpec)

/-- ITS FALSE NEIGHBOUR: 'it returns false'. Refute it at one input. -/
def linInversesWrong : ChangeSpec := { name := "linInverses", fn := fun _ => fun
  | [d] => { results := [.lit (.bool false)], args := [d] }
  | _ => none }
def LinInversesWrongFalsely : Prop := linInversesRow.holds Tryz.pinned (OpenSpec.ofChange linInversesWrong)

/-- 'quadratrixlaw05.LinStays': WHATEVER THE INPUT: true; the input reads as it did. -/
def linStaysSpec : ChangeSpec := { name := "linStays", fn := fun _ => fun
  | [d1, d2, d3, d4] => { results := [.lit (.bool true)], args := [d1, d2, d3, d4] }
  | _ => none }
def linStaysRow : OpenClaim := { program := "ytjagfionflbjbaagreat", sum := "e7565a1438adaa89be2e0d274a99cb11c53fbbc8d46f5359676f2d16807078aa", func := "quadratrix/quadratrixlaw05.LinStays", spec := "linStays", inPlace := ["math/bits.Sub64"], unfollowed := true, recurses := true, apart := false }
def LinStaysSaid : Prop := linStaysRow.holds Tryz.pinned (OpenSpec.ofChange linStaysSpec)

/-- ITS FALSE NEIGHBOUR: 'it returns false'. Refute it at one input. -/
def linStaysWrong : ChangeSpec := { name := "linStays", fn := fun _ => fun
  | [d1, d2, d3, d4] => { results := [.lit (.bool false)], args := [d1, d2, d3, d4] }
  | _ => none }
def LinStaysWrongFalsely : Prop := linStaysRow.holds Tryz.pinned (OpenSpec.ofChange linStaysWrong)

/- THE SECOND FORM. 'bulk': how many values and letters a reading holds, each counted each time it is reached (what is shared counts as often as it is met; a slice's spare places count too). A statement '..UptoSaid' is the law's where the arguments, and the package variables that the reading takes, are together of bulk at most 1048576: NARROWER than '..Said'. Prove '..Said' where nothing that the law and all that it calls make is longer than what came in: it says more and counts as full. Else prove '..UptoSaid'. A law counts once. -/
mutual
def uptoBulk {H : Type} : DataW H → Nat
  | .lit (.string bytes) => bytes.length + 1
  | .lit _ => 1
  | .nil => 1
  | .ptr d => uptoBulk d + 1
  | .slice elems spare => uptoBulkAll elems + uptoBulkAll spare + 1
  | .agg parts => uptoBulkAll parts + 1
  | .iface _ d => uptoBulk d + 1
  | .map entries => uptoBulkEntries entries + 1
  | .held _ => 1
def uptoBulkAll {H : Type} : List (DataW H) → Nat
  | [] => 0
  | d :: r => uptoBulk d + uptoBulkAll r
def uptoBulkEntries {H : Type} : List (Lit × DataW H) → Nat
  | [] => 0
  | x :: r => uptoBulkEntry x + uptoBulkEntries r
def uptoBulkEntry {H : Type} : Lit × DataW H → Nat
  | (.string bytes, d) => bytes.length + uptoBulk d + 1
  | (_, d) => uptoBulk d + 1
 end
def uptoSmall : (H : Type) → List (DataW H) → Bool := fun _ ds => decide (uptoBulkAll ds ≤ 1048576)
def OpenSpec.upto (s : _root_.Go.ChangeSpec) : _root_.Go.OpenSpec := { _root_.Go.OpenSpec.ofChange s with cond := some uptoSmall }

/-- 'quadratrixlaw05.LinEchelons', WHERE WHAT IT READS IS OF BULK AT MOST 1048576: true; the input reads as it did. -/
def linEchelonsUptoRow : OpenClaim := { program := "ytjagfionflbjbaagreat", sum := "e7565a1438adaa89be2e0d274a99cb11c53fbbc8d46f5359676f2d16807078aa", func := "quadratrix/quadratrixlaw05.LinEchelons", spec := "linEchelons", inPlace := ["math/bits.Sub64"], unfollowed := true, recurses := true, apart := false, narrowed := true }
def LinEchelonsUptoSaid : Prop := linEchelonsUptoRow.holds Tryz.pinned (OpenSpec.upto linEchelonsSpec)

/-- 'quadratrixlaw05.LinSolves', WHERE WHAT IT READS IS OF BULK AT MOST 1048576: true; the input reads as it did. -/
def linSolvesUptoRow : OpenClaim := { program := "ytjagfionflbjbaagreat", sum := "e7565a1438adaa89be2e0d274a99cb11c53fbbc8d46f5359676f2d16807078aa", func := "quadratrix/quadratrixlaw05.LinSolves", spec := "linSolves", inPlace := ["math/bits.Sub64"], unfollowed := true, recurses := true, apart := false, narrowed := true }
def LinSolvesUptoSaid : Prop := linSolvesUptoRow.holds Tryz.pinned (OpenSpec.upto linSolvesSpec)

/-- 'quadratrixlaw05.LinCombines', WHERE WHAT IT READS IS OF BULK AT MOST 1048576: true; the input reads as it did. -/
def linCombinesUptoRow : OpenClaim := { program := "ytjagfionflbjbaagreat", sum := "e7565a1438adaa89be2e0d274a99cb11c53fbbc8d46f5359676f2d16807078aa", func := "quadratrix/quadratrixlaw05.LinCombines", spec := "linCombines", inPlace := ["math/bits.Sub64"], unfollowed := true, recurses := true, apart := false, narrowed := true }
def LinCombinesUptoSaid : Prop := linCombinesUptoRow.holds Tryz.pinned (OpenSpec.upto linCombinesSpec)

/-- 'quadratrixlaw05.LinDets', WHERE WHAT IT READS IS OF BULK AT MOST 1048576: true; the input reads as it did. -/
def linDetsUptoRow : OpenClaim := { program := "ytjagfionflbjbaagreat", sum := "e7565a1438adaa89be2e0d274a99cb11c53fbbc8d46f5359676f2d16807078aa", func := "quadratrix/quadratrixlaw05.LinDets", spec := "linDets", inPlace := ["math/bits.Sub64"], unfollowed := true, recurses := true, apart := false, narrowed := true }
def LinDetsUptoSaid : Prop := linDetsUptoRow.holds Tryz.pinned (OpenSpec.upto linDetsSpec)

/-- 'quadratrixlaw05.LinProducts', WHERE WHAT IT READS IS OF BULK AT MOST 1048576: true; the input reads as it did. -/
def linProductsUptoRow : OpenClaim := { program := "ytjagfionflbjbaagreat", sum := "e7565a1438adaa89be2e0d274a99cb11c53fbbc8d46f5359676f2d16807078aa", func := "quadratrix/quadratrixlaw05.LinProducts", spec := "linProducts", inPlace := ["math/bits.Sub64"], unfollowed := true, recurses := true, apart := false, narrowed := true }
def LinProductsUptoSaid : Prop := linProductsUptoRow.holds Tryz.pinned (OpenSpec.upto linProductsSpec)

/-- 'quadratrixlaw05.LinMakes', WHERE WHAT IT READS IS OF BULK AT MOST 1048576: true; the input reads as it did. -/
def linMakesUptoRow : OpenClaim := { program := "ytjagfionflbjbaagreat", sum := "e7565a1438adaa89be2e0d274a99cb11c53fbbc8d46f5359676f2d16807078aa", func := "quadratrix/quadratrixlaw05.LinMakes", spec := "linMakes", inPlace := ["math/bits.Sub64"], unfollowed := true, recurses := true, apart := false, narrowed := true }
def LinMakesUptoSaid : Prop := linMakesUptoRow.holds Tryz.pinned (OpenSpec.upto linMakesSpec)

/-- 'quadratrixlaw05.LinInverses', WHERE WHAT IT READS IS OF BULK AT MOST 1048576: true; the input reads as it did. -/
def linInversesUptoRow : OpenClaim := { program := "ytjagfionflbjbaagreat", sum := "e7565a1438adaa89be2e0d274a99cb11c53fbbc8d46f5359676f2d16807078aa", func := "quadratrix/quadratrixlaw05.LinInverses", spec := "linInverses", inPlace := ["math/bits.Sub64"], unfollowed := true, recurses := true, apart := false, narrowed := true }
def LinInversesUptoSaid : Prop := linInversesUptoRow.holds Tryz.pinned (OpenSpec.upto linInversesSpec)

/-- 'quadratrixlaw05.LinStays', WHERE WHAT IT READS IS OF BULK AT MOST 1048576: true; the input reads as it did. -/
def linStaysUptoRow : OpenClaim := { program := "ytjagfionflbjbaagreat", sum := "e7565a1438adaa89be2e0d274a99cb11c53fbbc8d46f5359676f2d16807078aa", func := "quadratrix/quadratrixlaw05.LinStays", spec := "linStays", inPlace := ["math/bits.Sub64"], unfollowed := true, recurses := true, apart := false, narrowed := true }
def LinStaysUptoSaid : Prop := linStaysUptoRow.holds Tryz.pinned (OpenSpec.upto linStaysSpec)

end Rows
end Go.Proofs.YtjagfionflbjbaaGreat
