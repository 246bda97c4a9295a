/- The closed law GridKnown holds, with no condition. -/
import Derived.Test.YtknfcipjbhhldaaPGridKnownx6
import Derived.Test.YtknfcipjbhhldaaWSized
namespace Go.Proofs.Ytknfcipjbhhldaa.Pure
open Go.RowKit Go.Proofs.Ytknfcipjbhhldaa.PGridKnown Go.Proofs.YtknfcipjbhhldaaW.PrintWords Go.Proofs.YtknfcipjbhhldaaW.PrintLast Go.Proofs.YtknfcipjbhhldaaW.PrintMore
set_option linter.unusedVariables false
set_option linter.unusedSimpArgs false

theorem law_GridKnown : tattinglaw8_GridKnown.Pure := by
  unfold tattinglaw8_GridKnown.Pure
  exact ⟨400, by decide +kernel⟩

theorem GridKnown : tattinglaw8_GridKnown.Pure := law_GridKnown

end Go.Proofs.Ytknfcipjbhhldaa.Pure
namespace Go.Proofs.Ytknfcipjbhhldaa.PrintWords
/-- The row's word under the name by which the row calls it. -/
abbrev sized_ints := @Go.Proofs.YtknfcipjbhhldaaW.PrintWords.sized_ints
end Go.Proofs.Ytknfcipjbhhldaa.PrintWords
