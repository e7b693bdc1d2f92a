/-
  Part 15 of the proof that TopTiles returns true at every call and leaves what it was given as it was; no condition beyond the row's own.
-/
import Derived.Test.YtlchkibailfldaaGreatM07
set_option linter.unusedVariables false
set_option linter.unusedSimpArgs false
set_option linter.unusedSectionVars false
namespace Go.Proofs.YtlchkibailfldaaGreat.Ex
open Go Go.RowKit
section
set_option maxRecDepth 100000
noncomputable def gM:=ahu
theorem eC:bG Tryz.prog gM:=Vq
end
end Go.Proofs.YtlchkibailfldaaGreat.Ex
