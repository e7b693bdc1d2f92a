/-
  No cell of these rows narrows 'for every input' (looked for: loops, veiled, ifaces, maps, wideKeys, modest, calm, conditions, laid).
  DERIVED. THE GIVEN ROWS OF THIS SEAT. 4 by the template 'for every input the law returns true; each argument reads behind the call as it read before'; 0 by the template 'total and deterministic' (their statements: YtphleapmgkcpoaaTotals.lean).
  GIVEN WITH THE SEED: the statements are not yours to turn. If you find one false, say at which input.
  Laid BY PROGRAM, IN A SANDBOX (cutbox-rows.mjs): the forced cells as the released guide's own fill.sh prints them over the translation b8735da7dd6acf09… (all of the seat's roots in one cut). By AI agents, Wed Nov 11 2026. No macro, syntax, notation, axiom, sorry.
-/
import Derived.Test.YtphleapmgkcpoaaChecked
import GoSem.Claim
import GoSem.ClaimJoined
import GoSem.ClaimMapViews
import Derived.JoinedTies
import Derived.KernelRfl
namespace Go.Proofs.Ytphleapmgkcpoaa
/- THE CELL 'sum', in the pinned program and in every row, IS THE sha256 OF THE DUMP (.gsa) THAT YtphleapmgkcpoaaProg.lean LOADS. Nothing in Lean hashes anything: it is a label: what it is worth is what the hold of that sum in a sandbox is worth. -/
noncomputable def Try.pinned : Pinned := { name := "ytphleapmgkcpoaa", sum := "b8735da7dd6acf093e7731923c511212bbf690528883f4854a3fdf1883c9e671", checked := Try.checked }
namespace Rows
def none {H : Type} : Left H := { results := [], args := [] }

/-- 'tilefarmlaw2.RectAreas': WHATEVER THE INPUT: true; the input reads as it did. -/
def rectAreasSpec : ChangeSpec := { name := "rectAreas", fn := fun _ => fun
  | [d] => { results := [.lit (.bool true)], args := [d] }
  | _ => none }
def rectAreasRow : OpenClaim := { program := "ytphleapmgkcpoaa", sum := "b8735da7dd6acf093e7731923c511212bbf690528883f4854a3fdf1883c9e671", func := "tilefarm/tilefarmlaw2.RectAreas", spec := "rectAreas", apart := false }
def RectAreasSaid : Prop := rectAreasRow.holds Try.pinned (OpenSpec.ofChange rectAreasSpec)

/-- ITS FALSE NEIGHBOUR: 'it returns false'. Refute it at one input. -/
def rectAreasWrong : ChangeSpec := { name := "rectAreas", fn := fun _ => fun
  | [d] => { results := [.lit (.bool false)], args := [d] }
  | _ => none }
def RectAreasWrongFalsely : Prop := rectAreasRow.holds Try.pinned (OpenSpec.ofChange rectAreasWrong)

/-- 'tilefarmlaw2.RectPoints': WHATEVER THE INPUT: true; the input reads as it did. -/
def rectPointsSpec : ChangeSpec := { name := "rectPoints", fn := fun _ => fun
  | [d1, d2, d3] => { results := [.lit (.bool true)], args := [d1, d2, d3] }
  | _ => none }
def rectPointsRow : OpenClaim := { program := "ytphleapmgkcpoaa", sum := "b8735da7dd6acf093e7731923c511212bbf690528883f4854a3fdf1883c9e671", func := "tilefarm/tilefarmlaw2.RectPoints", spec := "rectPoints", apart := false }
def RectPointsSaid : Prop := rectPointsRow.holds Try.pinned (OpenSpec.ofChange rectPointsSpec)

/-- ITS FALSE NEIGHBOUR: 'it returns false'. Refute it at one input. -/
def rectPointsWrong : ChangeSpec := { name := "rectPoints", fn := fun _ => fun
  | [d1, d2, d3] => { results := [.lit (.bool false)], args := [d1, d2, d3] }
  | _ => none }
def RectPointsWrongFalsely : Prop := rectPointsRow.holds Try.pinned (OpenSpec.ofChange rectPointsWrong)

/-- 'tilefarmlaw2.RectOutset': WHATEVER THE INPUT: true; the input reads as it did. -/
def rectOutsetSpec : ChangeSpec := { name := "rectOutset", fn := fun _ => fun
  | [d] => { results := [.lit (.bool true)], args := [d] }
  | _ => none }
def rectOutsetRow : OpenClaim := { program := "ytphleapmgkcpoaa", sum := "b8735da7dd6acf093e7731923c511212bbf690528883f4854a3fdf1883c9e671", func := "tilefarm/tilefarmlaw2.RectOutset", spec := "rectOutset", apart := false }
def RectOutsetSaid : Prop := rectOutsetRow.holds Try.pinned (OpenSpec.ofChange rectOutsetSpec)

/-- ITS FALSE NEIGHBOUR: 'it returns false'. Refute it at one input. -/
def rectOutsetWrong : ChangeSpec := { name := "rectOutset", fn := fun _ => fun
  | [d] => { results := [.lit (.bool false)], args := [d] }
  | _ => none }
def RectOutsetWrongFalsely : Prop := rectOutsetRow.holds Try.pinned (OpenSpec.ofChange rectOutsetWrong)

/-- 'tilefarmlaw2.RectComputes': WHATEVER THE INPUT: true; the input reads as it did. -/
def rectComputesSpec : ChangeSpec := { name := "rectComputes", fn := fun _ => fun
  | [d1, d2, d3, d4, d5, d6] => { results := [.lit (.bool true)], args := [d1, d2, d3, d4, d5, d6] }
  | _ => none }
def rectComputesRow : OpenClaim := { program := "ytphleapmgkcpoaa", sum := "b8735da7dd6acf093e7731923c511212bbf690528883f4854a3fdf1883c9e671", func := "tilefarm/tilefarmlaw2.RectComputes", spec := "rectComputes", apart := false }
def RectComputesSaid : Prop := rectComputesRow.holds Try.pinned (OpenSpec.ofChange rectComputesSpec)

/-- ITS FALSE NEIGHBOUR: 'it returns false'. Refute it at one input. -/
def rectComputesWrong : ChangeSpec := { name := "rectComputes", fn := fun _ => fun
  | [d1, d2, d3, d4, d5, d6] => { results := [.lit (.bool false)], args := [d1, d2, d3, d4, d5, d6] }
  | _ => none }
def RectComputesWrongFalsely : Prop := rectComputesRow.holds Try.pinned (OpenSpec.ofChange rectComputesWrong)

/- THE SECOND FORM. 'bulk': how many values and letters a reading holds, each counted each time it is reached (what is shared counts as often as it is met; a slice's spare places count too). A statement '..UptoSaid' is the law's where the arguments, and the package variables that the reading takes, are together of bulk at most 1048576: NARROWER than '..Said'. Prove '..Said' where nothing that the law and all that it calls make is longer than what came in: it says more and counts as full. Else prove '..UptoSaid'. A law counts once. -/
mutual
def uptoBulk {H : Type} : DataW H → Nat
  | .lit (.string bytes) => bytes.length + 1
  | .lit _ => 1
  | .nil => 1
  | .ptr d => uptoBulk d + 1
  | .slice elems spare => uptoBulkAll elems + uptoBulkAll spare + 1
  | .agg parts => uptoBulkAll parts + 1
  | .iface _ d => uptoBulk d + 1
  | .map entries => uptoBulkEntries entries + 1
  | .held _ => 1
def uptoBulkAll {H : Type} : List (DataW H) → Nat
  | [] => 0
  | d :: r => uptoBulk d + uptoBulkAll r
def uptoBulkEntries {H : Type} : List (Lit × DataW H) → Nat
  | [] => 0
  | x :: r => uptoBulkEntry x + uptoBulkEntries r
def uptoBulkEntry {H : Type} : Lit × DataW H → Nat
  | (.string bytes, d) => bytes.length + uptoBulk d + 1
  | (_, d) => uptoBulk d + 1
 end
def uptoSmall : (H : Type) → List (DataW H) → Bool := fun _ ds => decide (uptoBulkAll ds ≤ 1048576)
def OpenSpec.upto (s : _root_.Go.ChangeSpec) : _root_.Go.OpenSpec := { _root_.Go.OpenSpec.ofChange s with cond := some uptoSmall }

/-- 'tilefarmlaw2.RectAreas', WHERE WHAT IT READS IS OF BULK AT MOST 1048576: true; the input reads as it did. -/
def rectAreasUptoRow : OpenClaim := { program := "ytphleapmgkcpoaa", sum := "b8735da7dd6acf093e7731923c511212bbf690528883f4854a3fdf1883c9e671", func := "tilefarm/tilefarmlaw2.RectAreas", spec := "rectAreas", apart := false, narrowed := true }
def RectAreasUptoSaid : Prop := rectAreasUptoRow.holds Try.pinned (OpenSpec.upto rectAreasSpec)

/-- 'tilefarmlaw2.RectPoints', WHERE WHAT IT READS IS OF BULK AT MOST 1048576: true; the input reads as it did. -/
def rectPointsUptoRow : OpenClaim := { program := "ytphleapmgkcpoaa", sum := "b8735da7dd6acf093e7731923c511212bbf690528883f4854a3fdf1883c9e671", func := "tilefarm/tilefarmlaw2.RectPoints", spec := "rectPoints", apart := false, narrowed := true }
def RectPointsUptoSaid : Prop := rectPointsUptoRow.holds Try.pinned (OpenSpec.upto rectPointsSpec)

/-- 'tilefarmlaw2.RectOutset', WHERE WHAT IT READS IS OF BULK AT MOST 1048576: true; the input reads as it did. -/
def rectOutsetUptoRow : OpenClaim := { program := "ytphleapmgkcpoaa", sum := "b8735da7dd6acf093e7731923c511212bbf690528883f4854a3fdf1883c9e671", func := "tilefarm/tilefarmlaw2.RectOutset", spec := "rectOutset", apart := false, narrowed := true }
def RectOutsetUptoSaid : Prop := rectOutsetUptoRow.holds Try.pinned (OpenSpec.upto rectOutsetSpec)

/-- 'tilefarmlaw2.RectComputes', WHERE WHAT IT READS IS OF BULK AT MOST 1048576: true; the input reads as it did. -/
def rectComputesUptoRow : OpenClaim := { program := "ytphleapmgkcpoaa", sum := "b8735da7dd6acf093e7731923c511212bbf690528883f4854a3fdf1883c9e671", func := "tilefarm/tilefarmlaw2.RectComputes", spec := "rectComputes", apart := false, narrowed := true }
def RectComputesUptoSaid : Prop := rectComputesUptoRow.holds Try.pinned (OpenSpec.upto rectComputesSpec)

end Rows
end Go.Proofs.Ytphleapmgkcpoaa
