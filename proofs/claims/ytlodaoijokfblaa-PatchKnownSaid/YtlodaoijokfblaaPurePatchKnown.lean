/- What chapter 25 says of what does not fit, of what is beyond, of places that grow too great. -/
import Derived.Test.YtlodaoijokfblaaPPatchKnownx5
import Derived.Test.YtlodaoijokfblaaWSized
namespace Go.Proofs.Ytlodaoijokfblaa.Pure
open Go.RowKit Go.Proofs.Ytlodaoijokfblaa.PPatchKnown Go.Proofs.YtlodaoijokfblaaW.PrintWords Go.Proofs.YtlodaoijokfblaaW.PrintLast Go.Proofs.YtlodaoijokfblaaW.PrintMore
set_option linter.unusedVariables false
set_option linter.unusedSimpArgs false

theorem law_PatchKnown : tattinglaw25_PatchKnown.Pure := ⟨400, by decide +kernel⟩

theorem PatchKnown : tattinglaw25_PatchKnown.Pure := law_PatchKnown

end Go.Proofs.Ytlodaoijokfblaa.Pure
namespace Go.Proofs.Ytlodaoijokfblaa.PrintWords
/-- The row's word under the name by which the row calls it. -/
abbrev sized_ints := @Go.Proofs.YtlodaoijokfblaaW.PrintWords.sized_ints
end Go.Proofs.Ytlodaoijokfblaa.PrintWords
