/- The closed law LeastKnown holds, with no condition. -/
import Derived.Test.YtmkelmacllkbeaaPLeastKnownx6
import Derived.Test.YtmkelmacllkbeaaWSized
namespace Go.Proofs.Ytmkelmacllkbeaa.Pure
open Go.RowKit Go.Proofs.Ytmkelmacllkbeaa.PLeastKnown Go.Proofs.YtmkelmacllkbeaaW.PrintWords Go.Proofs.YtmkelmacllkbeaaW.PrintLast Go.Proofs.YtmkelmacllkbeaaW.PrintMore
set_option linter.unusedVariables false
set_option linter.unusedSimpArgs false

theorem law_LeastKnown : tattinglaw9_LeastKnown.Pure := by
  unfold tattinglaw9_LeastKnown.Pure
  exact ⟨400, by decide +kernel⟩

theorem LeastKnown : tattinglaw9_LeastKnown.Pure := law_LeastKnown

end Go.Proofs.Ytmkelmacllkbeaa.Pure
namespace Go.Proofs.Ytmkelmacllkbeaa.PrintWords
/-- The row's word under the name by which the row calls it. -/
abbrev sized_ints := @Go.Proofs.YtmkelmacllkbeaaW.PrintWords.sized_ints
end Go.Proofs.Ytmkelmacllkbeaa.PrintWords
