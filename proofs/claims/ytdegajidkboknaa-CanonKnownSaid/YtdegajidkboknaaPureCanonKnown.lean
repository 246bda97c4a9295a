/- The closed law CanonKnown holds, with no condition. -/
import Derived.Test.YtdegajidkboknaaPCanonKnownx8
import Derived.Test.YtdegajidkboknaaWSized
namespace Go.Proofs.Ytdegajidkboknaa.Pure
open Go.RowKit Go.Proofs.Ytdegajidkboknaa.PCanonKnown Go.Proofs.YtdegajidkboknaaW.PrintWords Go.Proofs.YtdegajidkboknaaW.PrintLast Go.Proofs.YtdegajidkboknaaW.PrintMore
set_option linter.unusedVariables false
set_option linter.unusedSimpArgs false

theorem law_CanonKnown : tattinglaw23_CanonKnown.Pure := by
  unfold tattinglaw23_CanonKnown.Pure
  exact ⟨400, by decide +kernel⟩

theorem CanonKnown : tattinglaw23_CanonKnown.Pure := law_CanonKnown

end Go.Proofs.Ytdegajidkboknaa.Pure
namespace Go.Proofs.Ytdegajidkboknaa.PrintWords
/-- The row's word under the name by which the row calls it. -/
abbrev sized_ints := @Go.Proofs.YtdegajidkboknaaW.PrintWords.sized_ints
end Go.Proofs.Ytdegajidkboknaa.PrintWords
