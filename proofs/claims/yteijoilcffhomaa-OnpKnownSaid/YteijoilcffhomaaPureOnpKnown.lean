/- What chapter 18 says of the same, of nothing alike, of numbers that may not be. -/
import Derived.Test.YteijoilcffhomaaPOnpKnownx4
import Derived.Test.YteijoilcffhomaaWSized
namespace Go.Proofs.Yteijoilcffhomaa.Pure
open Go.RowKit Go.Proofs.Yteijoilcffhomaa.POnpKnown Go.Proofs.YteijoilcffhomaaW.PrintWords Go.Proofs.YteijoilcffhomaaW.PrintLast Go.Proofs.YteijoilcffhomaaW.PrintMore
set_option linter.unusedVariables false
set_option linter.unusedSimpArgs false

theorem law_OnpKnown : tattinglaw18_OnpKnown.Pure := by
  unfold tattinglaw18_OnpKnown.Pure
  exact ⟨40, by decide +kernel⟩

theorem OnpKnown : tattinglaw18_OnpKnown.Pure := law_OnpKnown

end Go.Proofs.Yteijoilcffhomaa.Pure
namespace Go.Proofs.Yteijoilcffhomaa.PrintWords
/-- The row's word under the name by which the row calls it. -/
abbrev sized_ints := @Go.Proofs.YteijoilcffhomaaW.PrintWords.sized_ints
end Go.Proofs.Yteijoilcffhomaa.PrintWords
