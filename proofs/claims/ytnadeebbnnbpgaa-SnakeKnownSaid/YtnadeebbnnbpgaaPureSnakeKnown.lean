/- The closed law SnakeKnown holds, with no condition. -/
import Derived.Test.YtnadeebbnnbpgaaPSnakeKnownx1
import Derived.Test.YtnadeebbnnbpgaaWSized
namespace Go.Proofs.Ytnadeebbnnbpgaa.Pure
open Go.RowKit Go.Proofs.Ytnadeebbnnbpgaa.PSnakeKnown Go.Proofs.YtnadeebbnnbpgaaW.PrintWords Go.Proofs.YtnadeebbnnbpgaaW.PrintLast Go.Proofs.YtnadeebbnnbpgaaW.PrintMore
set_option linter.unusedVariables false
set_option linter.unusedSimpArgs false

theorem law_SnakeKnown : tattinglaw17_SnakeKnown.Pure := by
  unfold tattinglaw17_SnakeKnown.Pure
  exact ⟨200, by decide +kernel⟩

theorem SnakeKnown : tattinglaw17_SnakeKnown.Pure := law_SnakeKnown

end Go.Proofs.Ytnadeebbnnbpgaa.Pure
namespace Go.Proofs.Ytnadeebbnnbpgaa.PrintWords
/-- The row's word under the name by which the row calls it. -/
abbrev sized_ints := @Go.Proofs.YtnadeebbnnbpgaaW.PrintWords.sized_ints
end Go.Proofs.Ytnadeebbnnbpgaa.PrintWords
