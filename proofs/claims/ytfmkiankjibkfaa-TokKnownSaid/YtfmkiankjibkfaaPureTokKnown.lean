/- The closed law TokKnown holds, with no condition. -/
import Derived.Test.YtfmkiankjibkfaaPTokKnownx2
import Derived.Test.YtfmkiankjibkfaaWSized
namespace Go.Proofs.Ytfmkiankjibkfaa.Pure
open Go.RowKit Go.Proofs.Ytfmkiankjibkfaa.PTokKnown Go.Proofs.YtfmkiankjibkfaaW.PrintWords Go.Proofs.YtfmkiankjibkfaaW.PrintLast Go.Proofs.YtfmkiankjibkfaaW.PrintMore
set_option linter.unusedVariables false
set_option linter.unusedSimpArgs false

/-! Words for the pure side: whole numbers that do not wrap, reads of lists. -/
theorem wr {x : Int} (h : -9223372036854775808 ≤ x) (h' : x < 9223372036854775808) : wrap64 x = x := by unfold wrap64; omega
theorem rd_nat (xs : List Int) (n : Nat) : rd xs (n : Int) = xs.getD n 0 := rfl
theorem rd_at {xs : List Int} {i : Int} {n : Nat} (h : i = (n : Int)) : rd xs i = xs.getD n 0 := by subst h; rfl
theorem drop_getD {xs : List Int} {i : Nat} (h : i < xs.length) : xs.drop i = xs.getD i 0 :: xs.drop (i + 1) := by
  rw [List.drop_eq_getElem_cons h]; simp [List.getD_eq_getElem?_getD, h]
theorem take_getD {xs : List Int} {i : Nat} (h : i < xs.length) : xs.take (i + 1) = xs.take i ++ [xs.getD i 0] := by
  rw [List.take_succ_eq_append_getElem h]; simp [List.getD_eq_getElem?_getD, h]

theorem toList_mk (l : List UInt8) : (⟨l.toArray⟩ : ByteArray).toList = l := by rw [Lib.toList_data]
theorem awake_400 : tattinglaw1_awake.f 400 = some true := by
  unfold tattinglaw1_awake.f
  simp only [Lib.strOfNums_toList]
  decide +kernel
theorem law_TokKnown : tattinglaw1_TokKnown.Pure := by
  refine ⟨400, ?_⟩
  unfold tattinglaw1_TokKnown.f
  simp only [Lib.strOfNums_toList]
  decide +kernel

theorem TokKnown : tattinglaw1_TokKnown.Pure := law_TokKnown

end Go.Proofs.Ytfmkiankjibkfaa.Pure
namespace Go.Proofs.Ytfmkiankjibkfaa.PrintWords
/-- The row's word under the name by which the row calls it. -/
abbrev sized_ints := @Go.Proofs.YtfmkiankjibkfaaW.PrintWords.sized_ints
end Go.Proofs.Ytfmkiankjibkfaa.PrintWords
