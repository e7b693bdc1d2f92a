/-
  No cell of these rows narrows 'for every input' (looked for: loops, veiled, ifaces, maps, wideKeys, modest, calm, conditions, laid).
  DERIVED. THE GIVEN ROWS OF THIS SEAT. 3 by the template 'for every input the law returns true; each argument reads behind the call as it read before'; 0 by the template 'total and deterministic' (their statements: YtmamcbemfccieaaTotals.lean).
  GIVEN WITH THE SEED: the statements are not yours to turn. If you find one false, say at which input.
  Laid BY PROGRAM, IN A SANDBOX (cutbox-rows.mjs): the forced cells as the released guide's own fill.sh prints them over the translation f8e43dc514ac4129… (all of the seat's roots in one cut). By AI agents, Wed Nov 11 2026. No macro, syntax, notation, axiom, sorry.
-/
import Derived.Test.YtmamcbemfccieaaChecked
import GoSem.Claim
import GoSem.ClaimJoined
import GoSem.ClaimMapViews
import Derived.JoinedTies
import Derived.KernelRfl
namespace Go.Proofs.Ytmamcbemfccieaa
/- THE CELL 'sum', in the pinned program and in every row, IS THE sha256 OF THE DUMP (.gsa) THAT YtmamcbemfccieaaProg.lean LOADS. Nothing in Lean hashes anything: it is a label: what it is worth is what the hold of that sum in a sandbox is worth. -/
noncomputable def Try.pinned : Pinned := { name := "ytmamcbemfccieaa", sum := "f8e43dc514ac41291332b59ce094c8f1c5695ed7a77f708678eb7d8fcd11d82a", checked := Try.checked }
namespace Rows
def none {H : Type} : Left H := { results := [], args := [] }

/-- 'tilefarmlaw23.DequeEnds': WHATEVER THE INPUT: true; the input reads as it did. -/
def dequeEndsSpec : ChangeSpec := { name := "dequeEnds", fn := fun _ => fun
  | [d1, d2] => { results := [.lit (.bool true)], args := [d1, d2] }
  | _ => none }
def dequeEndsRow : OpenClaim := { program := "ytmamcbemfccieaa", sum := "f8e43dc514ac41291332b59ce094c8f1c5695ed7a77f708678eb7d8fcd11d82a", func := "tilefarm/tilefarmlaw23.DequeEnds", spec := "dequeEnds", apart := false }
def DequeEndsSaid : Prop := dequeEndsRow.holds Try.pinned (OpenSpec.ofChange dequeEndsSpec)

/-- ITS FALSE NEIGHBOUR: 'it returns false'. Refute it at one input. -/
def dequeEndsWrong : ChangeSpec := { name := "dequeEnds", fn := fun _ => fun
  | [d1, d2] => { results := [.lit (.bool false)], args := [d1, d2] }
  | _ => none }
def DequeEndsWrongFalsely : Prop := dequeEndsRow.holds Try.pinned (OpenSpec.ofChange dequeEndsWrong)

/-- 'tilefarmlaw23.DequeFollows': WHATEVER THE INPUT: true; the input reads as it did. -/
def dequeFollowsSpec : ChangeSpec := { name := "dequeFollows", fn := fun _ => fun
  | [d1, d2] => { results := [.lit (.bool true)], args := [d1, d2] }
  | _ => none }
def dequeFollowsRow : OpenClaim := { program := "ytmamcbemfccieaa", sum := "f8e43dc514ac41291332b59ce094c8f1c5695ed7a77f708678eb7d8fcd11d82a", func := "tilefarm/tilefarmlaw23.DequeFollows", spec := "dequeFollows", apart := false }
def DequeFollowsSaid : Prop := dequeFollowsRow.holds Try.pinned (OpenSpec.ofChange dequeFollowsSpec)

/-- ITS FALSE NEIGHBOUR: 'it returns false'. Refute it at one input. -/
def dequeFollowsWrong : ChangeSpec := { name := "dequeFollows", fn := fun _ => fun
  | [d1, d2] => { results := [.lit (.bool false)], args := [d1, d2] }
  | _ => none }
def DequeFollowsWrongFalsely : Prop := dequeFollowsRow.holds Try.pinned (OpenSpec.ofChange dequeFollowsWrong)

/-- 'tilefarmlaw23.DequeShares': WHATEVER THE INPUT: true; the input reads as it did. -/
def dequeSharesSpec : ChangeSpec := { name := "dequeShares", fn := fun _ => fun
  | [d1, d2] => { results := [.lit (.bool true)], args := [d1, d2] }
  | _ => none }
def dequeSharesRow : OpenClaim := { program := "ytmamcbemfccieaa", sum := "f8e43dc514ac41291332b59ce094c8f1c5695ed7a77f708678eb7d8fcd11d82a", func := "tilefarm/tilefarmlaw23.DequeShares", spec := "dequeShares", apart := false }
def DequeSharesSaid : Prop := dequeSharesRow.holds Try.pinned (OpenSpec.ofChange dequeSharesSpec)

/-- ITS FALSE NEIGHBOUR: 'it returns false'. Refute it at one input. -/
def dequeSharesWrong : ChangeSpec := { name := "dequeShares", fn := fun _ => fun
  | [d1, d2] => { results := [.lit (.bool false)], args := [d1, d2] }
  | _ => none }
def DequeSharesWrongFalsely : Prop := dequeSharesRow.holds Try.pinned (OpenSpec.ofChange dequeSharesWrong)

/- THE SECOND FORM. 'bulk': how many values and letters a reading holds, each counted each time it is reached (what is shared counts as often as it is met; a slice's spare places count too). A statement '..UptoSaid' is the law's where the arguments, and the package variables that the reading takes, are together of bulk at most 1048576: NARROWER than '..Said'. Prove '..Said' where nothing that the law and all that it calls make is longer than what came in: it says more and counts as full. Else prove '..UptoSaid'. A law counts once. -/
mutual
def uptoBulk {H : Type} : DataW H → Nat
  | .lit (.string bytes) => bytes.length + 1
  | .lit _ => 1
  | .nil => 1
  | .ptr d => uptoBulk d + 1
  | .slice elems spare => uptoBulkAll elems + uptoBulkAll spare + 1
  | .agg parts => uptoBulkAll parts + 1
  | .iface _ d => uptoBulk d + 1
  | .map entries => uptoBulkEntries entries + 1
  | .held _ => 1
def uptoBulkAll {H : Type} : List (DataW H) → Nat
  | [] => 0
  | d :: r => uptoBulk d + uptoBulkAll r
def uptoBulkEntries {H : Type} : List (Lit × DataW H) → Nat
  | [] => 0
  | x :: r => uptoBulkEntry x + uptoBulkEntries r
def uptoBulkEntry {H : Type} : Lit × DataW H → Nat
  | (.string bytes, d) => bytes.length + uptoBulk d + 1
  | (_, d) => uptoBulk d + 1
 end
def uptoSmall : (H : Type) → List (DataW H) → Bool := fun _ ds => decide (uptoBulkAll ds ≤ 1048576)
def OpenSpec.upto (s : _root_.Go.ChangeSpec) : _root_.Go.OpenSpec := { _root_.Go.OpenSpec.ofChange s with cond := some uptoSmall }

/-- 'tilefarmlaw23.DequeEnds', WHERE WHAT IT READS IS OF BULK AT MOST 1048576: true; the input reads as it did. -/
def dequeEndsUptoRow : OpenClaim := { program := "ytmamcbemfccieaa", sum := "f8e43dc514ac41291332b59ce094c8f1c5695ed7a77f708678eb7d8fcd11d82a", func := "tilefarm/tilefarmlaw23.DequeEnds", spec := "dequeEnds", apart := false, narrowed := true }
def DequeEndsUptoSaid : Prop := dequeEndsUptoRow.holds Try.pinned (OpenSpec.upto dequeEndsSpec)

/-- 'tilefarmlaw23.DequeFollows', WHERE WHAT IT READS IS OF BULK AT MOST 1048576: true; the input reads as it did. -/
def dequeFollowsUptoRow : OpenClaim := { program := "ytmamcbemfccieaa", sum := "f8e43dc514ac41291332b59ce094c8f1c5695ed7a77f708678eb7d8fcd11d82a", func := "tilefarm/tilefarmlaw23.DequeFollows", spec := "dequeFollows", apart := false, narrowed := true }
def DequeFollowsUptoSaid : Prop := dequeFollowsUptoRow.holds Try.pinned (OpenSpec.upto dequeFollowsSpec)

/-- 'tilefarmlaw23.DequeShares', WHERE WHAT IT READS IS OF BULK AT MOST 1048576: true; the input reads as it did. -/
def dequeSharesUptoRow : OpenClaim := { program := "ytmamcbemfccieaa", sum := "f8e43dc514ac41291332b59ce094c8f1c5695ed7a77f708678eb7d8fcd11d82a", func := "tilefarm/tilefarmlaw23.DequeShares", spec := "dequeShares", apart := false, narrowed := true }
def DequeSharesUptoSaid : Prop := dequeSharesUptoRow.holds Try.pinned (OpenSpec.upto dequeSharesSpec)

end Rows
end Go.Proofs.Ytmamcbemfccieaa
