/-
  No cell of these rows narrows 'for every input' (looked for: loops, veiled, ifaces, maps, wideKeys, modest, calm, conditions, laid).
  DERIVED. THE GIVEN ROWS OF THIS SEAT. 7 by the template 'for every input the law returns true; each argument reads behind the call as it read before'; 0 by the template 'total and deterministic' (their statements: YtpodjfnmncpnmaaTotals.lean).
  GIVEN WITH THE SEED: the statements are not yours to turn. If you find one false, say at which input.
  Laid BY PROGRAM, IN A SANDBOX (cutbox-rows.mjs): the forced cells as the released guide's own fill.sh prints them over the translation ec5d9876b3f4332e… (all of the seat's roots in one cut). By AI agents, Wed Nov 11 2026. No macro, syntax, notation, axiom, sorry.
-/
import Derived.Test.YtpodjfnmncpnmaaChecked
import GoSem.Claim
import GoSem.ClaimJoined
import GoSem.ClaimMapViews
import Derived.JoinedTies
import Derived.KernelRfl
namespace Go.Proofs.Ytpodjfnmncpnmaa
/- THE CELL 'sum', in the pinned program and in every row, IS THE sha256 OF THE DUMP (.gsa) THAT YtpodjfnmncpnmaaProg.lean LOADS. Nothing in Lean hashes anything: it is a label: what it is worth is what the hold of that sum in a sandbox is worth. -/
noncomputable def Try.pinned : Pinned := { name := "ytpodjfnmncpnmaa", sum := "ec5d9876b3f4332e8c875dfcf2618a7c3f00b074c5519354722cf2b1b475ce90", checked := Try.checked }
namespace Rows
def none {H : Type} : Left H := { results := [], args := [] }

/-- 'tattinglaw7.PairsKnown': WHATEVER THE INPUT: true; the input reads as it did. -/
def pairsKnownSpec : ChangeSpec := { name := "pairsKnown", fn := fun _ => fun
  | [] => { results := [.lit (.bool true)], args := [] }
  | _ => none }
def pairsKnownRow : OpenClaim := { program := "ytpodjfnmncpnmaa", sum := "ec5d9876b3f4332e8c875dfcf2618a7c3f00b074c5519354722cf2b1b475ce90", func := "tatting/tattinglaw7.PairsKnown", spec := "pairsKnown", apart := false }
def PairsKnownSaid : Prop := pairsKnownRow.holds Try.pinned (OpenSpec.ofChange pairsKnownSpec)

/-- ITS FALSE NEIGHBOUR: 'it returns false'. Refute it at one input. -/
def pairsKnownWrong : ChangeSpec := { name := "pairsKnown", fn := fun _ => fun
  | [] => { results := [.lit (.bool false)], args := [] }
  | _ => none }
def PairsKnownWrongFalsely : Prop := pairsKnownRow.holds Try.pinned (OpenSpec.ofChange pairsKnownWrong)

/-- 'tattinglaw7.PairsGood': WHATEVER THE INPUT: true; the input reads as it did. -/
def pairsGoodSpec : ChangeSpec := { name := "pairsGood", fn := fun _ => fun
  | [d1, d2, d3] => { results := [.lit (.bool true)], args := [d1, d2, d3] }
  | _ => none }
def pairsGoodRow : OpenClaim := { program := "ytpodjfnmncpnmaa", sum := "ec5d9876b3f4332e8c875dfcf2618a7c3f00b074c5519354722cf2b1b475ce90", func := "tatting/tattinglaw7.PairsGood", spec := "pairsGood", apart := false }
def PairsGoodSaid : Prop := pairsGoodRow.holds Try.pinned (OpenSpec.ofChange pairsGoodSpec)

/-- ITS FALSE NEIGHBOUR: 'it returns false'. Refute it at one input. -/
def pairsGoodWrong : ChangeSpec := { name := "pairsGood", fn := fun _ => fun
  | [d1, d2, d3] => { results := [.lit (.bool false)], args := [d1, d2, d3] }
  | _ => none }
def PairsGoodWrongFalsely : Prop := pairsGoodRow.holds Try.pinned (OpenSpec.ofChange pairsGoodWrong)

/-- 'tattinglaw7.PairsLess': WHATEVER THE INPUT: true; the input reads as it did. -/
def pairsLessSpec : ChangeSpec := { name := "pairsLess", fn := fun _ => fun
  | [d1, d2] => { results := [.lit (.bool true)], args := [d1, d2] }
  | _ => none }
def pairsLessRow : OpenClaim := { program := "ytpodjfnmncpnmaa", sum := "ec5d9876b3f4332e8c875dfcf2618a7c3f00b074c5519354722cf2b1b475ce90", func := "tatting/tattinglaw7.PairsLess", spec := "pairsLess", apart := false }
def PairsLessSaid : Prop := pairsLessRow.holds Try.pinned (OpenSpec.ofChange pairsLessSpec)

/-- ITS FALSE NEIGHBOUR: 'it returns false'. Refute it at one input. -/
def pairsLessWrong : ChangeSpec := { name := "pairsLess", fn := fun _ => fun
  | [d1, d2] => { results := [.lit (.bool false)], args := [d1, d2] }
  | _ => none }
def PairsLessWrongFalsely : Prop := pairsLessRow.holds Try.pinned (OpenSpec.ofChange pairsLessWrong)

/-- 'tattinglaw7.PairsOrder': WHATEVER THE INPUT: true; the input reads as it did. -/
def pairsOrderSpec : ChangeSpec := { name := "pairsOrder", fn := fun _ => fun
  | [d1, d2, d3] => { results := [.lit (.bool true)], args := [d1, d2, d3] }
  | _ => none }
def pairsOrderRow : OpenClaim := { program := "ytpodjfnmncpnmaa", sum := "ec5d9876b3f4332e8c875dfcf2618a7c3f00b074c5519354722cf2b1b475ce90", func := "tatting/tattinglaw7.PairsOrder", spec := "pairsOrder", apart := false }
def PairsOrderSaid : Prop := pairsOrderRow.holds Try.pinned (OpenSpec.ofChange pairsOrderSpec)

/-- ITS FALSE NEIGHBOUR: 'it returns false'. Refute it at one input. -/
def pairsOrderWrong : ChangeSpec := { name := "pairsOrder", fn := fun _ => fun
  | [d1, d2, d3] => { results := [.lit (.bool false)], args := [d1, d2, d3] }
  | _ => none }
def PairsOrderWrongFalsely : Prop := pairsOrderRow.holds Try.pinned (OpenSpec.ofChange pairsOrderWrong)

/-- 'tattinglaw7.PairsTurns': WHATEVER THE INPUT: true; the input reads as it did. -/
def pairsTurnsSpec : ChangeSpec := { name := "pairsTurns", fn := fun _ => fun
  | [d1, d2, d3, d4] => { results := [.lit (.bool true)], args := [d1, d2, d3, d4] }
  | _ => none }
def pairsTurnsRow : OpenClaim := { program := "ytpodjfnmncpnmaa", sum := "ec5d9876b3f4332e8c875dfcf2618a7c3f00b074c5519354722cf2b1b475ce90", func := "tatting/tattinglaw7.PairsTurns", spec := "pairsTurns", apart := false }
def PairsTurnsSaid : Prop := pairsTurnsRow.holds Try.pinned (OpenSpec.ofChange pairsTurnsSpec)

/-- ITS FALSE NEIGHBOUR: 'it returns false'. Refute it at one input. -/
def pairsTurnsWrong : ChangeSpec := { name := "pairsTurns", fn := fun _ => fun
  | [d1, d2, d3, d4] => { results := [.lit (.bool false)], args := [d1, d2, d3, d4] }
  | _ => none }
def PairsTurnsWrongFalsely : Prop := pairsTurnsRow.holds Try.pinned (OpenSpec.ofChange pairsTurnsWrong)

/-- 'tattinglaw7.PairsValues': WHATEVER THE INPUT: true; the input reads as it did. -/
def pairsValuesSpec : ChangeSpec := { name := "pairsValues", fn := fun _ => fun
  | [d1, d2, d3] => { results := [.lit (.bool true)], args := [d1, d2, d3] }
  | _ => none }
def pairsValuesRow : OpenClaim := { program := "ytpodjfnmncpnmaa", sum := "ec5d9876b3f4332e8c875dfcf2618a7c3f00b074c5519354722cf2b1b475ce90", func := "tatting/tattinglaw7.PairsValues", spec := "pairsValues", apart := false }
def PairsValuesSaid : Prop := pairsValuesRow.holds Try.pinned (OpenSpec.ofChange pairsValuesSpec)

/-- ITS FALSE NEIGHBOUR: 'it returns false'. Refute it at one input. -/
def pairsValuesWrong : ChangeSpec := { name := "pairsValues", fn := fun _ => fun
  | [d1, d2, d3] => { results := [.lit (.bool false)], args := [d1, d2, d3] }
  | _ => none }
def PairsValuesWrongFalsely : Prop := pairsValuesRow.holds Try.pinned (OpenSpec.ofChange pairsValuesWrong)

/-- 'tattinglaw7.PairsMoves': WHATEVER THE INPUT: true; the input reads as it did. -/
def pairsMovesSpec : ChangeSpec := { name := "pairsMoves", fn := fun _ => fun
  | [d1, d2, d3] => { results := [.lit (.bool true)], args := [d1, d2, d3] }
  | _ => none }
def pairsMovesRow : OpenClaim := { program := "ytpodjfnmncpnmaa", sum := "ec5d9876b3f4332e8c875dfcf2618a7c3f00b074c5519354722cf2b1b475ce90", func := "tatting/tattinglaw7.PairsMoves", spec := "pairsMoves", apart := false }
def PairsMovesSaid : Prop := pairsMovesRow.holds Try.pinned (OpenSpec.ofChange pairsMovesSpec)

/-- ITS FALSE NEIGHBOUR: 'it returns false'. Refute it at one input. -/
def pairsMovesWrong : ChangeSpec := { name := "pairsMoves", fn := fun _ => fun
  | [d1, d2, d3] => { results := [.lit (.bool false)], args := [d1, d2, d3] }
  | _ => none }
def PairsMovesWrongFalsely : Prop := pairsMovesRow.holds Try.pinned (OpenSpec.ofChange pairsMovesWrong)

/- THE SECOND FORM. 'bulk': how many values and letters a reading holds, each counted each time it is reached (what is shared counts as often as it is met; a slice's spare places count too). A statement '..UptoSaid' is the law's where the arguments, and the package variables that the reading takes, are together of bulk at most 1048576: NARROWER than '..Said'. Prove '..Said' where nothing that the law and all that it calls make is longer than what came in: it says more and counts as full. Else prove '..UptoSaid'. A law counts once. -/
mutual
def uptoBulk {H : Type} : DataW H → Nat
  | .lit (.string bytes) => bytes.length + 1
  | .lit _ => 1
  | .nil => 1
  | .ptr d => uptoBulk d + 1
  | .slice elems spare => uptoBulkAll elems + uptoBulkAll spare + 1
  | .agg parts => uptoBulkAll parts + 1
  | .iface _ d => uptoBulk d + 1
  | .map entries => uptoBulkEntries entries + 1
  | .held _ => 1
def uptoBulkAll {H : Type} : List (DataW H) → Nat
  | [] => 0
  | d :: r => uptoBulk d + uptoBulkAll r
def uptoBulkEntries {H : Type} : List (Lit × DataW H) → Nat
  | [] => 0
  | x :: r => uptoBulkEntry x + uptoBulkEntries r
def uptoBulkEntry {H : Type} : Lit × DataW H → Nat
  | (.string bytes, d) => bytes.length + uptoBulk d + 1
  | (_, d) => uptoBulk d + 1
 end
def uptoSmall : (H : Type) → List (DataW H) → Bool := fun _ ds => decide (uptoBulkAll ds ≤ 1048576)
def OpenSpec.upto (s : _root_.Go.ChangeSpec) : _root_.Go.OpenSpec := { _root_.Go.OpenSpec.ofChange s with cond := some uptoSmall }

/-- 'tattinglaw7.PairsKnown', WHERE WHAT IT READS IS OF BULK AT MOST 1048576: true; the input reads as it did. -/
def pairsKnownUptoRow : OpenClaim := { program := "ytpodjfnmncpnmaa", sum := "ec5d9876b3f4332e8c875dfcf2618a7c3f00b074c5519354722cf2b1b475ce90", func := "tatting/tattinglaw7.PairsKnown", spec := "pairsKnown", apart := false, narrowed := true }
def PairsKnownUptoSaid : Prop := pairsKnownUptoRow.holds Try.pinned (OpenSpec.upto pairsKnownSpec)

/-- 'tattinglaw7.PairsGood', WHERE WHAT IT READS IS OF BULK AT MOST 1048576: true; the input reads as it did. -/
def pairsGoodUptoRow : OpenClaim := { program := "ytpodjfnmncpnmaa", sum := "ec5d9876b3f4332e8c875dfcf2618a7c3f00b074c5519354722cf2b1b475ce90", func := "tatting/tattinglaw7.PairsGood", spec := "pairsGood", apart := false, narrowed := true }
def PairsGoodUptoSaid : Prop := pairsGoodUptoRow.holds Try.pinned (OpenSpec.upto pairsGoodSpec)

/-- 'tattinglaw7.PairsLess', WHERE WHAT IT READS IS OF BULK AT MOST 1048576: true; the input reads as it did. -/
def pairsLessUptoRow : OpenClaim := { program := "ytpodjfnmncpnmaa", sum := "ec5d9876b3f4332e8c875dfcf2618a7c3f00b074c5519354722cf2b1b475ce90", func := "tatting/tattinglaw7.PairsLess", spec := "pairsLess", apart := false, narrowed := true }
def PairsLessUptoSaid : Prop := pairsLessUptoRow.holds Try.pinned (OpenSpec.upto pairsLessSpec)

/-- 'tattinglaw7.PairsOrder', WHERE WHAT IT READS IS OF BULK AT MOST 1048576: true; the input reads as it did. -/
def pairsOrderUptoRow : OpenClaim := { program := "ytpodjfnmncpnmaa", sum := "ec5d9876b3f4332e8c875dfcf2618a7c3f00b074c5519354722cf2b1b475ce90", func := "tatting/tattinglaw7.PairsOrder", spec := "pairsOrder", apart := false, narrowed := true }
def PairsOrderUptoSaid : Prop := pairsOrderUptoRow.holds Try.pinned (OpenSpec.upto pairsOrderSpec)

/-- 'tattinglaw7.PairsTurns', WHERE WHAT IT READS IS OF BULK AT MOST 1048576: true; the input reads as it did. -/
def pairsTurnsUptoRow : OpenClaim := { program := "ytpodjfnmncpnmaa", sum := "ec5d9876b3f4332e8c875dfcf2618a7c3f00b074c5519354722cf2b1b475ce90", func := "tatting/tattinglaw7.PairsTurns", spec := "pairsTurns", apart := false, narrowed := true }
def PairsTurnsUptoSaid : Prop := pairsTurnsUptoRow.holds Try.pinned (OpenSpec.upto pairsTurnsSpec)

/-- 'tattinglaw7.PairsValues', WHERE WHAT IT READS IS OF BULK AT MOST 1048576: true; the input reads as it did. -/
def pairsValuesUptoRow : OpenClaim := { program := "ytpodjfnmncpnmaa", sum := "ec5d9876b3f4332e8c875dfcf2618a7c3f00b074c5519354722cf2b1b475ce90", func := "tatting/tattinglaw7.PairsValues", spec := "pairsValues", apart := false, narrowed := true }
def PairsValuesUptoSaid : Prop := pairsValuesUptoRow.holds Try.pinned (OpenSpec.upto pairsValuesSpec)

/-- 'tattinglaw7.PairsMoves', WHERE WHAT IT READS IS OF BULK AT MOST 1048576: true; the input reads as it did. -/
def pairsMovesUptoRow : OpenClaim := { program := "ytpodjfnmncpnmaa", sum := "ec5d9876b3f4332e8c875dfcf2618a7c3f00b074c5519354722cf2b1b475ce90", func := "tatting/tattinglaw7.PairsMoves", spec := "pairsMoves", apart := false, narrowed := true }
def PairsMovesUptoSaid : Prop := pairsMovesUptoRow.holds Try.pinned (OpenSpec.upto pairsMovesSpec)

end Rows
end Go.Proofs.Ytpodjfnmncpnmaa
