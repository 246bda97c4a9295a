/- The closed law PairsKnown holds, with no condition. -/
import Derived.Test.YtpodjfnmncpnmaaPPairsKnownx5
import Derived.Test.YtpodjfnmncpnmaaWSized
namespace Go.Proofs.Ytpodjfnmncpnmaa.Pure
open Go.RowKit Go.Proofs.Ytpodjfnmncpnmaa.PPairsKnown Go.Proofs.YtpodjfnmncpnmaaW.PrintWords Go.Proofs.YtpodjfnmncpnmaaW.PrintLast Go.Proofs.YtpodjfnmncpnmaaW.PrintMore
set_option linter.unusedVariables false
set_option linter.unusedSimpArgs false

theorem law_PairsKnown : tattinglaw7_PairsKnown.Pure := ⟨400, by decide +kernel⟩

theorem PairsKnown : tattinglaw7_PairsKnown.Pure := law_PairsKnown

end Go.Proofs.Ytpodjfnmncpnmaa.Pure
namespace Go.Proofs.Ytpodjfnmncpnmaa.PrintWords
/-- The row's word under the name by which the row calls it. -/
abbrev sized_ints := @Go.Proofs.YtpodjfnmncpnmaaW.PrintWords.sized_ints
end Go.Proofs.Ytpodjfnmncpnmaa.PrintWords
