/-
  No cell of these rows narrows 'for every input' (looked for: loops, veiled, ifaces, maps, wideKeys, modest, calm, conditions, laid).
  DERIVED. THE GIVEN ROWS OF THIS SEAT. 3 by the template 'for every input the law returns true; each argument reads behind the call as it read before'; 0 by the template 'total and deterministic' (their statements: YtkjipnafgojcgaaTotals.lean).
  GIVEN WITH THE SEED: the statements are not yours to turn. If you find one false, say at which input.
  Laid BY PROGRAM, IN A SANDBOX (cutbox-rows.mjs): the forced cells as the released guide's own fill.sh prints them over the translation 55ea7be4ab24d176… (all of the seat's roots in one cut). By AI agents, Wed Nov 11 2026. No macro, syntax, notation, axiom, sorry.
-/
import Derived.Test.YtkjipnafgojcgaaChecked
import GoSem.Claim
import GoSem.ClaimJoined
import GoSem.ClaimMapViews
import Derived.JoinedTies
import Derived.KernelRfl
namespace Go.Proofs.Ytkjipnafgojcgaa
/- THE CELL 'sum', in the pinned program and in every row, IS THE sha256 OF THE DUMP (.gsa) THAT YtkjipnafgojcgaaProg.lean LOADS. Nothing in Lean hashes anything: it is a label: what it is worth is what the hold of that sum in a sandbox is worth. -/
noncomputable def Try.pinned : Pinned := { name := "ytkjipnafgojcgaa", sum := "55ea7be4ab24d17678c7357fb5bbe04a20949deef61a131d03f9f42edb1feeae", checked := Try.checked }
namespace Rows
def none {H : Type} : Left H := { results := [], args := [] }

/-- 'tilefarmlaw22.ArenaNested': WHATEVER THE INPUT: true; the input reads as it did. -/
def arenaNestedSpec : ChangeSpec := { name := "arenaNested", fn := fun _ => fun
  | [d1, d2] => { results := [.lit (.bool true)], args := [d1, d2] }
  | _ => none }
def arenaNestedRow : OpenClaim := { program := "ytkjipnafgojcgaa", sum := "55ea7be4ab24d17678c7357fb5bbe04a20949deef61a131d03f9f42edb1feeae", func := "tilefarm/tilefarmlaw22.ArenaNested", spec := "arenaNested", apart := false }
def ArenaNestedSaid : Prop := arenaNestedRow.holds Try.pinned (OpenSpec.ofChange arenaNestedSpec)

/-- ITS FALSE NEIGHBOUR: 'it returns false'. Refute it at one input. -/
def arenaNestedWrong : ChangeSpec := { name := "arenaNested", fn := fun _ => fun
  | [d1, d2] => { results := [.lit (.bool false)], args := [d1, d2] }
  | _ => none }
def ArenaNestedWrongFalsely : Prop := arenaNestedRow.holds Try.pinned (OpenSpec.ofChange arenaNestedWrong)

/-- 'tilefarmlaw22.ArenaFollows': WHATEVER THE INPUT: true; the input reads as it did. -/
def arenaFollowsSpec : ChangeSpec := { name := "arenaFollows", fn := fun _ => fun
  | [d1, d2, d3] => { results := [.lit (.bool true)], args := [d1, d2, d3] }
  | _ => none }
def arenaFollowsRow : OpenClaim := { program := "ytkjipnafgojcgaa", sum := "55ea7be4ab24d17678c7357fb5bbe04a20949deef61a131d03f9f42edb1feeae", func := "tilefarm/tilefarmlaw22.ArenaFollows", spec := "arenaFollows", apart := false }
def ArenaFollowsSaid : Prop := arenaFollowsRow.holds Try.pinned (OpenSpec.ofChange arenaFollowsSpec)

/-- ITS FALSE NEIGHBOUR: 'it returns false'. Refute it at one input. -/
def arenaFollowsWrong : ChangeSpec := { name := "arenaFollows", fn := fun _ => fun
  | [d1, d2, d3] => { results := [.lit (.bool false)], args := [d1, d2, d3] }
  | _ => none }
def ArenaFollowsWrongFalsely : Prop := arenaFollowsRow.holds Try.pinned (OpenSpec.ofChange arenaFollowsWrong)

/-- 'tilefarmlaw22.ArenaLimits': WHATEVER THE INPUT: true; the input reads as it did. -/
def arenaLimitsSpec : ChangeSpec := { name := "arenaLimits", fn := fun _ => fun
  | [d] => { results := [.lit (.bool true)], args := [d] }
  | _ => none }
def arenaLimitsRow : OpenClaim := { program := "ytkjipnafgojcgaa", sum := "55ea7be4ab24d17678c7357fb5bbe04a20949deef61a131d03f9f42edb1feeae", func := "tilefarm/tilefarmlaw22.ArenaLimits", spec := "arenaLimits", apart := false }
def ArenaLimitsSaid : Prop := arenaLimitsRow.holds Try.pinned (OpenSpec.ofChange arenaLimitsSpec)

/-- ITS FALSE NEIGHBOUR: 'it returns false'. Refute it at one input. -/
def arenaLimitsWrong : ChangeSpec := { name := "arenaLimits", fn := fun _ => fun
  | [d] => { results := [.lit (.bool false)], args := [d] }
  | _ => none }
def ArenaLimitsWrongFalsely : Prop := arenaLimitsRow.holds Try.pinned (OpenSpec.ofChange arenaLimitsWrong)

/- THE SECOND FORM. 'bulk': how many values and letters a reading holds, each counted each time it is reached (what is shared counts as often as it is met; a slice's spare places count too). A statement '..UptoSaid' is the law's where the arguments, and the package variables that the reading takes, are together of bulk at most 1048576: NARROWER than '..Said'. Prove '..Said' where nothing that the law and all that it calls make is longer than what came in: it says more and counts as full. Else prove '..UptoSaid'. A law counts once. -/
mutual
def uptoBulk {H : Type} : DataW H → Nat
  | .lit (.string bytes) => bytes.length + 1
  | .lit _ => 1
  | .nil => 1
  | .ptr d => uptoBulk d + 1
  | .slice elems spare => uptoBulkAll elems + uptoBulkAll spare + 1
  | .agg parts => uptoBulkAll parts + 1
  | .iface _ d => uptoBulk d + 1
  | .map entries => uptoBulkEntries entries + 1
  | .held _ => 1
def uptoBulkAll {H : Type} : List (DataW H) → Nat
  | [] => 0
  | d :: r => uptoBulk d + uptoBulkAll r
def uptoBulkEntries {H : Type} : List (Lit × DataW H) → Nat
  | [] => 0
  | x :: r => uptoBulkEntry x + uptoBulkEntries r
def uptoBulkEntry {H : Type} : Lit × DataW H → Nat
  | (.string bytes, d) => bytes.length + uptoBulk d + 1
  | (_, d) => uptoBulk d + 1
 end
def uptoSmall : (H : Type) → List (DataW H) → Bool := fun _ ds => decide (uptoBulkAll ds ≤ 1048576)
def OpenSpec.upto (s : _root_.Go.ChangeSpec) : _root_.Go.OpenSpec := { _root_.Go.OpenSpec.ofChange s with cond := some uptoSmall }

/-- 'tilefarmlaw22.ArenaNested', WHERE WHAT IT READS IS OF BULK AT MOST 1048576: true; the input reads as it did. -/
def arenaNestedUptoRow : OpenClaim := { program := "ytkjipnafgojcgaa", sum := "55ea7be4ab24d17678c7357fb5bbe04a20949deef61a131d03f9f42edb1feeae", func := "tilefarm/tilefarmlaw22.ArenaNested", spec := "arenaNested", apart := false, narrowed := true }
def ArenaNestedUptoSaid : Prop := arenaNestedUptoRow.holds Try.pinned (OpenSpec.upto arenaNestedSpec)

/-- 'tilefarmlaw22.ArenaFollows', WHERE WHAT IT READS IS OF BULK AT MOST 1048576: true; the input reads as it did. -/
def arenaFollowsUptoRow : OpenClaim := { program := "ytkjipnafgojcgaa", sum := "55ea7be4ab24d17678c7357fb5bbe04a20949deef61a131d03f9f42edb1feeae", func := "tilefarm/tilefarmlaw22.ArenaFollows", spec := "arenaFollows", apart := false, narrowed := true }
def ArenaFollowsUptoSaid : Prop := arenaFollowsUptoRow.holds Try.pinned (OpenSpec.upto arenaFollowsSpec)

/-- 'tilefarmlaw22.ArenaLimits', WHERE WHAT IT READS IS OF BULK AT MOST 1048576: true; the input reads as it did. -/
def arenaLimitsUptoRow : OpenClaim := { program := "ytkjipnafgojcgaa", sum := "55ea7be4ab24d17678c7357fb5bbe04a20949deef61a131d03f9f42edb1feeae", func := "tilefarm/tilefarmlaw22.ArenaLimits", spec := "arenaLimits", apart := false, narrowed := true }
def ArenaLimitsUptoSaid : Prop := arenaLimitsUptoRow.holds Try.pinned (OpenSpec.upto arenaLimitsSpec)

end Rows
end Go.Proofs.Ytkjipnafgojcgaa
