/-
  No cell of these rows narrows 'for every input' (looked for: loops, veiled, ifaces, maps, wideKeys, modest, calm, conditions, laid).
  DERIVED. THE GIVEN ROWS OF THIS SEAT. 5 by the template 'for every input the law returns true; each argument reads behind the call as it read before'; 0 by the template 'total and deterministic' (their statements: YtjhnkghhagbghaaTotals.lean).
  GIVEN WITH THE SEED: the statements are not yours to turn. If you find one false, say at which input.
  Laid BY PROGRAM, IN A SANDBOX (cutbox-rows.mjs): the forced cells as the released guide's own fill.sh prints them over the translation 1129697fe150161d… (all of the seat's roots in one cut). By AI agents, Wed Nov 11 2026. No macro, syntax, notation, axiom, sorry.
-/
import Derived.Test.YtjhnkghhagbghaaChecked
import GoSem.Claim
import GoSem.ClaimJoined
import GoSem.ClaimMapViews
import Derived.JoinedTies
import Derived.KernelRfl
namespace Go.Proofs.Ytjhnkghhagbghaa
/- THE CELL 'sum', in the pinned program and in every row, IS THE sha256 OF THE DUMP (.gsa) THAT YtjhnkghhagbghaaProg.lean LOADS. Nothing in Lean hashes anything: it is a label: what it is worth is what the hold of that sum in a sandbox is worth. -/
noncomputable def Try.pinned : Pinned := { name := "ytjhnkghhagbghaa", sum := "1129697fe150161d453afb4013fdf399e36ef8388fe3160d82c1ac6e1ad727ce", checked := Try.checked }
namespace Rows
def none {H : Type} : Left H := { results := [], args := [] }

/-- 'tilefarmlaw1.ExtentMul': WHATEVER THE INPUT: true; the input reads as it did. -/
def extentMulSpec : ChangeSpec := { name := "extentMul", fn := fun _ => fun
  | [d1, d2, d3] => { results := [.lit (.bool true)], args := [d1, d2, d3] }
  | _ => none }
def extentMulRow : OpenClaim := { program := "ytjhnkghhagbghaa", sum := "1129697fe150161d453afb4013fdf399e36ef8388fe3160d82c1ac6e1ad727ce", func := "tilefarm/tilefarmlaw1.ExtentMul", spec := "extentMul", apart := false }
def ExtentMulSaid : Prop := extentMulRow.holds Try.pinned (OpenSpec.ofChange extentMulSpec)

/-- ITS FALSE NEIGHBOUR: 'it returns false'. Refute it at one input. -/
def extentMulWrong : ChangeSpec := { name := "extentMul", fn := fun _ => fun
  | [d1, d2, d3] => { results := [.lit (.bool false)], args := [d1, d2, d3] }
  | _ => none }
def ExtentMulWrongFalsely : Prop := extentMulRow.holds Try.pinned (OpenSpec.ofChange extentMulWrong)

/-- 'tilefarmlaw1.ExtentSum': WHATEVER THE INPUT: true; the input reads as it did. -/
def extentSumSpec : ChangeSpec := { name := "extentSum", fn := fun _ => fun
  | [d1, d2] => { results := [.lit (.bool true)], args := [d1, d2] }
  | _ => none }
def extentSumRow : OpenClaim := { program := "ytjhnkghhagbghaa", sum := "1129697fe150161d453afb4013fdf399e36ef8388fe3160d82c1ac6e1ad727ce", func := "tilefarm/tilefarmlaw1.ExtentSum", spec := "extentSum", apart := false }
def ExtentSumSaid : Prop := extentSumRow.holds Try.pinned (OpenSpec.ofChange extentSumSpec)

/-- ITS FALSE NEIGHBOUR: 'it returns false'. Refute it at one input. -/
def extentSumWrong : ChangeSpec := { name := "extentSum", fn := fun _ => fun
  | [d1, d2] => { results := [.lit (.bool false)], args := [d1, d2] }
  | _ => none }
def ExtentSumWrongFalsely : Prop := extentSumRow.holds Try.pinned (OpenSpec.ofChange extentSumWrong)

/-- 'tilefarmlaw1.ExtentRound': WHATEVER THE INPUT: true; the input reads as it did. -/
def extentRoundSpec : ChangeSpec := { name := "extentRound", fn := fun _ => fun
  | [d1, d2, d3] => { results := [.lit (.bool true)], args := [d1, d2, d3] }
  | _ => none }
def extentRoundRow : OpenClaim := { program := "ytjhnkghhagbghaa", sum := "1129697fe150161d453afb4013fdf399e36ef8388fe3160d82c1ac6e1ad727ce", func := "tilefarm/tilefarmlaw1.ExtentRound", spec := "extentRound", apart := false }
def ExtentRoundSaid : Prop := extentRoundRow.holds Try.pinned (OpenSpec.ofChange extentRoundSpec)

/-- ITS FALSE NEIGHBOUR: 'it returns false'. Refute it at one input. -/
def extentRoundWrong : ChangeSpec := { name := "extentRound", fn := fun _ => fun
  | [d1, d2, d3] => { results := [.lit (.bool false)], args := [d1, d2, d3] }
  | _ => none }
def ExtentRoundWrongFalsely : Prop := extentRoundRow.holds Try.pinned (OpenSpec.ofChange extentRoundWrong)

/-- 'tilefarmlaw1.ExtentExact': WHATEVER THE INPUT: true; the input reads as it did. -/
def extentExactSpec : ChangeSpec := { name := "extentExact", fn := fun _ => fun
  | [d1, d2, d3, d4] => { results := [.lit (.bool true)], args := [d1, d2, d3, d4] }
  | _ => none }
def extentExactRow : OpenClaim := { program := "ytjhnkghhagbghaa", sum := "1129697fe150161d453afb4013fdf399e36ef8388fe3160d82c1ac6e1ad727ce", func := "tilefarm/tilefarmlaw1.ExtentExact", spec := "extentExact", apart := false }
def ExtentExactSaid : Prop := extentExactRow.holds Try.pinned (OpenSpec.ofChange extentExactSpec)

/-- ITS FALSE NEIGHBOUR: 'it returns false'. Refute it at one input. -/
def extentExactWrong : ChangeSpec := { name := "extentExact", fn := fun _ => fun
  | [d1, d2, d3, d4] => { results := [.lit (.bool false)], args := [d1, d2, d3, d4] }
  | _ => none }
def ExtentExactWrongFalsely : Prop := extentExactRow.holds Try.pinned (OpenSpec.ofChange extentExactWrong)

/-- 'tilefarmlaw1.ExtentAligned': WHATEVER THE INPUT: true; the input reads as it did. -/
def extentAlignedSpec : ChangeSpec := { name := "extentAligned", fn := fun _ => fun
  | [d1, d2] => { results := [.lit (.bool true)], args := [d1, d2] }
  | _ => none }
def extentAlignedRow : OpenClaim := { program := "ytjhnkghhagbghaa", sum := "1129697fe150161d453afb4013fdf399e36ef8388fe3160d82c1ac6e1ad727ce", func := "tilefarm/tilefarmlaw1.ExtentAligned", spec := "extentAligned", apart := false }
def ExtentAlignedSaid : Prop := extentAlignedRow.holds Try.pinned (OpenSpec.ofChange extentAlignedSpec)

/-- ITS FALSE NEIGHBOUR: 'it returns false'. Refute it at one input. -/
def extentAlignedWrong : ChangeSpec := { name := "extentAligned", fn := fun _ => fun
  | [d1, d2] => { results := [.lit (.bool false)], args := [d1, d2] }
  | _ => none }
def ExtentAlignedWrongFalsely : Prop := extentAlignedRow.holds Try.pinned (OpenSpec.ofChange extentAlignedWrong)

/- THE SECOND FORM. 'bulk': how many values and letters a reading holds, each counted each time it is reached (what is shared counts as often as it is met; a slice's spare places count too). A statement '..UptoSaid' is the law's where the arguments, and the package variables that the reading takes, are together of bulk at most 1048576: NARROWER than '..Said'. Prove '..Said' where nothing that the law and all that it calls make is longer than what came in: it says more and counts as full. Else prove '..UptoSaid'. A law counts once. -/
mutual
def uptoBulk {H : Type} : DataW H → Nat
  | .lit (.string bytes) => bytes.length + 1
  | .lit _ => 1
  | .nil => 1
  | .ptr d => uptoBulk d + 1
  | .slice elems spare => uptoBulkAll elems + uptoBulkAll spare + 1
  | .agg parts => uptoBulkAll parts + 1
  | .iface _ d => uptoBulk d + 1
  | .map entries => uptoBulkEntries entries + 1
  | .held _ => 1
def uptoBulkAll {H : Type} : List (DataW H) → Nat
  | [] => 0
  | d :: r => uptoBulk d + uptoBulkAll r
def uptoBulkEntries {H : Type} : List (Lit × DataW H) → Nat
  | [] => 0
  | x :: r => uptoBulkEntry x + uptoBulkEntries r
def uptoBulkEntry {H : Type} : Lit × DataW H → Nat
  | (.string bytes, d) => bytes.length + uptoBulk d + 1
  | (_, d) => uptoBulk d + 1
 end
def uptoSmall : (H : Type) → List (DataW H) → Bool := fun _ ds => decide (uptoBulkAll ds ≤ 1048576)
def OpenSpec.upto (s : _root_.Go.ChangeSpec) : _root_.Go.OpenSpec := { _root_.Go.OpenSpec.ofChange s with cond := some uptoSmall }

/-- 'tilefarmlaw1.ExtentMul', WHERE WHAT IT READS IS OF BULK AT MOST 1048576: true; the input reads as it did. -/
def extentMulUptoRow : OpenClaim := { program := "ytjhnkghhagbghaa", sum := "1129697fe150161d453afb4013fdf399e36ef8388fe3160d82c1ac6e1ad727ce", func := "tilefarm/tilefarmlaw1.ExtentMul", spec := "extentMul", apart := false, narrowed := true }
def ExtentMulUptoSaid : Prop := extentMulUptoRow.holds Try.pinned (OpenSpec.upto extentMulSpec)

/-- 'tilefarmlaw1.ExtentSum', WHERE WHAT IT READS IS OF BULK AT MOST 1048576: true; the input reads as it did. -/
def extentSumUptoRow : OpenClaim := { program := "ytjhnkghhagbghaa", sum := "1129697fe150161d453afb4013fdf399e36ef8388fe3160d82c1ac6e1ad727ce", func := "tilefarm/tilefarmlaw1.ExtentSum", spec := "extentSum", apart := false, narrowed := true }
def ExtentSumUptoSaid : Prop := extentSumUptoRow.holds Try.pinned (OpenSpec.upto extentSumSpec)

/-- 'tilefarmlaw1.ExtentRound', WHERE WHAT IT READS IS OF BULK AT MOST 1048576: true; the input reads as it did. -/
def extentRoundUptoRow : OpenClaim := { program := "ytjhnkghhagbghaa", sum := "1129697fe150161d453afb4013fdf399e36ef8388fe3160d82c1ac6e1ad727ce", func := "tilefarm/tilefarmlaw1.ExtentRound", spec := "extentRound", apart := false, narrowed := true }
def ExtentRoundUptoSaid : Prop := extentRoundUptoRow.holds Try.pinned (OpenSpec.upto extentRoundSpec)

/-- 'tilefarmlaw1.ExtentExact', WHERE WHAT IT READS IS OF BULK AT MOST 1048576: true; the input reads as it did. -/
def extentExactUptoRow : OpenClaim := { program := "ytjhnkghhagbghaa", sum := "1129697fe150161d453afb4013fdf399e36ef8388fe3160d82c1ac6e1ad727ce", func := "tilefarm/tilefarmlaw1.ExtentExact", spec := "extentExact", apart := false, narrowed := true }
def ExtentExactUptoSaid : Prop := extentExactUptoRow.holds Try.pinned (OpenSpec.upto extentExactSpec)

/-- 'tilefarmlaw1.ExtentAligned', WHERE WHAT IT READS IS OF BULK AT MOST 1048576: true; the input reads as it did. -/
def extentAlignedUptoRow : OpenClaim := { program := "ytjhnkghhagbghaa", sum := "1129697fe150161d453afb4013fdf399e36ef8388fe3160d82c1ac6e1ad727ce", func := "tilefarm/tilefarmlaw1.ExtentAligned", spec := "extentAligned", apart := false, narrowed := true }
def ExtentAlignedUptoSaid : Prop := extentAlignedUptoRow.holds Try.pinned (OpenSpec.upto extentAlignedSpec)

end Rows
end Go.Proofs.Ytjhnkghhagbghaa
