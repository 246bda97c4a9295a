/- What the chapter on bands says of bounds below nothing, of nothing, of what is tried: over lists alone. -/
import Derived.Test.YtcjngbpmdmfbdaaPBandKnownx5
import Derived.Test.YtcjngbpmdmfbdaaWSized
namespace Go.Proofs.Ytcjngbpmdmfbdaa.Pure
open Go.RowKit Go.Proofs.Ytcjngbpmdmfbdaa.PBandKnown Go.Proofs.YtcjngbpmdmfbdaaW.PrintWords Go.Proofs.YtcjngbpmdmfbdaaW.PrintLast Go.Proofs.YtcjngbpmdmfbdaaW.PrintMore
set_option linter.unusedVariables false
set_option linter.unusedSimpArgs false

theorem law_BandKnown : tattinglaw19_BandKnown.Pure := by
  unfold tattinglaw19_BandKnown.Pure
  exact ⟨400, by decide +kernel⟩

theorem BandKnown : tattinglaw19_BandKnown.Pure := law_BandKnown

end Go.Proofs.Ytcjngbpmdmfbdaa.Pure
namespace Go.Proofs.Ytcjngbpmdmfbdaa.PrintWords
/-- The row's word under the name by which the row calls it. -/
abbrev sized_ints := @Go.Proofs.YtcjngbpmdmfbdaaW.PrintWords.sized_ints
end Go.Proofs.Ytcjngbpmdmfbdaa.PrintWords
