/-
  No cell of these rows narrows 'for every input' (looked for: loops, veiled, ifaces, maps, wideKeys, modest, calm, conditions, laid).
  DERIVED. THE GIVEN ROWS OF THIS SEAT. 5 by the template 'for every input the law returns true; each argument reads behind the call as it read before'; 0 by the template 'total and deterministic' (their statements: YtnadeebbnnbpgaaTotals.lean).
  GIVEN WITH THE SEED: the statements are not yours to turn. If you find one false, say at which input.
  Laid BY PROGRAM, IN A SANDBOX (cutbox-rows.mjs): the forced cells as the released guide's own fill.sh prints them over the translation 2527f8955629652e… (all of the seat's roots in one cut). By AI agents, Wed Nov 11 2026. No macro, syntax, notation, axiom, sorry.
-/
import Derived.Test.YtnadeebbnnbpgaaChecked
import GoSem.Claim
import GoSem.ClaimJoined
import GoSem.ClaimMapViews
import Derived.JoinedTies
import Derived.KernelRfl
namespace Go.Proofs.Ytnadeebbnnbpgaa
/- THE CELL 'sum', in the pinned program and in every row, IS THE sha256 OF THE DUMP (.gsa) THAT YtnadeebbnnbpgaaProg.lean LOADS. Nothing in Lean hashes anything: it is a label: what it is worth is what the hold of that sum in a sandbox is worth. -/
noncomputable def Try.pinned : Pinned := { name := "ytnadeebbnnbpgaa", sum := "2527f8955629652e706d127a0fa1022f9b88b21e52eb7001620386187014249c", checked := Try.checked }
namespace Rows
def none {H : Type} : Left H := { results := [], args := [] }

/-- 'tattinglaw17.SnakeKnown': WHATEVER THE INPUT: true; the input reads as it did. -/
def snakeKnownSpec : ChangeSpec := { name := "snakeKnown", fn := fun _ => fun
  | [] => { results := [.lit (.bool true)], args := [] }
  | _ => none }
def snakeKnownRow : OpenClaim := { program := "ytnadeebbnnbpgaa", sum := "2527f8955629652e706d127a0fa1022f9b88b21e52eb7001620386187014249c", func := "tatting/tattinglaw17.SnakeKnown", spec := "snakeKnown", apart := false }
def SnakeKnownSaid : Prop := snakeKnownRow.holds Try.pinned (OpenSpec.ofChange snakeKnownSpec)

/-- ITS FALSE NEIGHBOUR: 'it returns false'. Refute it at one input. -/
def snakeKnownWrong : ChangeSpec := { name := "snakeKnown", fn := fun _ => fun
  | [] => { results := [.lit (.bool false)], args := [] }
  | _ => none }
def SnakeKnownWrongFalsely : Prop := snakeKnownRow.holds Try.pinned (OpenSpec.ofChange snakeKnownWrong)

/-- 'tattinglaw17.SnakeSays': WHATEVER THE INPUT: true; the input reads as it did. -/
def snakeSaysSpec : ChangeSpec := { name := "snakeSays", fn := fun _ => fun
  | [d1, d2, d3, d4, d5] => { results := [.lit (.bool true)], args := [d1, d2, d3, d4, d5] }
  | _ => none }
def snakeSaysRow : OpenClaim := { program := "ytnadeebbnnbpgaa", sum := "2527f8955629652e706d127a0fa1022f9b88b21e52eb7001620386187014249c", func := "tatting/tattinglaw17.SnakeSays", spec := "snakeSays", apart := false }
def SnakeSaysSaid : Prop := snakeSaysRow.holds Try.pinned (OpenSpec.ofChange snakeSaysSpec)

/-- ITS FALSE NEIGHBOUR: 'it returns false'. Refute it at one input. -/
def snakeSaysWrong : ChangeSpec := { name := "snakeSays", fn := fun _ => fun
  | [d1, d2, d3, d4, d5] => { results := [.lit (.bool false)], args := [d1, d2, d3, d4, d5] }
  | _ => none }
def SnakeSaysWrongFalsely : Prop := snakeSaysRow.holds Try.pinned (OpenSpec.ofChange snakeSaysWrong)

/-- 'tattinglaw17.SnakeEnds': WHATEVER THE INPUT: true; the input reads as it did. -/
def snakeEndsSpec : ChangeSpec := { name := "snakeEnds", fn := fun _ => fun
  | [d1, d2, d3, d4] => { results := [.lit (.bool true)], args := [d1, d2, d3, d4] }
  | _ => none }
def snakeEndsRow : OpenClaim := { program := "ytnadeebbnnbpgaa", sum := "2527f8955629652e706d127a0fa1022f9b88b21e52eb7001620386187014249c", func := "tatting/tattinglaw17.SnakeEnds", spec := "snakeEnds", apart := false }
def SnakeEndsSaid : Prop := snakeEndsRow.holds Try.pinned (OpenSpec.ofChange snakeEndsSpec)

/-- ITS FALSE NEIGHBOUR: 'it returns false'. Refute it at one input. -/
def snakeEndsWrong : ChangeSpec := { name := "snakeEnds", fn := fun _ => fun
  | [d1, d2, d3, d4] => { results := [.lit (.bool false)], args := [d1, d2, d3, d4] }
  | _ => none }
def SnakeEndsWrongFalsely : Prop := snakeEndsRow.holds Try.pinned (OpenSpec.ofChange snakeEndsWrong)

/-- 'tattinglaw17.SnakeTurns': WHATEVER THE INPUT: true; the input reads as it did. -/
def snakeTurnsSpec : ChangeSpec := { name := "snakeTurns", fn := fun _ => fun
  | [d1, d2, d3, d4] => { results := [.lit (.bool true)], args := [d1, d2, d3, d4] }
  | _ => none }
def snakeTurnsRow : OpenClaim := { program := "ytnadeebbnnbpgaa", sum := "2527f8955629652e706d127a0fa1022f9b88b21e52eb7001620386187014249c", func := "tatting/tattinglaw17.SnakeTurns", spec := "snakeTurns", apart := false }
def SnakeTurnsSaid : Prop := snakeTurnsRow.holds Try.pinned (OpenSpec.ofChange snakeTurnsSpec)

/-- ITS FALSE NEIGHBOUR: 'it returns false'. Refute it at one input. -/
def snakeTurnsWrong : ChangeSpec := { name := "snakeTurns", fn := fun _ => fun
  | [d1, d2, d3, d4] => { results := [.lit (.bool false)], args := [d1, d2, d3, d4] }
  | _ => none }
def SnakeTurnsWrongFalsely : Prop := snakeTurnsRow.holds Try.pinned (OpenSpec.ofChange snakeTurnsWrong)

/-- 'tattinglaw17.SnakeSteps': WHATEVER THE INPUT: true; the input reads as it did. -/
def snakeStepsSpec : ChangeSpec := { name := "snakeSteps", fn := fun _ => fun
  | [d1, d2, d3, d4] => { results := [.lit (.bool true)], args := [d1, d2, d3, d4] }
  | _ => none }
def snakeStepsRow : OpenClaim := { program := "ytnadeebbnnbpgaa", sum := "2527f8955629652e706d127a0fa1022f9b88b21e52eb7001620386187014249c", func := "tatting/tattinglaw17.SnakeSteps", spec := "snakeSteps", apart := false }
def SnakeStepsSaid : Prop := snakeStepsRow.holds Try.pinned (OpenSpec.ofChange snakeStepsSpec)

/-- ITS FALSE NEIGHBOUR: 'it returns false'. Refute it at one input. -/
def snakeStepsWrong : ChangeSpec := { name := "snakeSteps", fn := fun _ => fun
  | [d1, d2, d3, d4] => { results := [.lit (.bool false)], args := [d1, d2, d3, d4] }
  | _ => none }
def SnakeStepsWrongFalsely : Prop := snakeStepsRow.holds Try.pinned (OpenSpec.ofChange snakeStepsWrong)

/- THE SECOND FORM. 'bulk': how many values and letters a reading holds, each counted each time it is reached (what is shared counts as often as it is met; a slice's spare places count too). A statement '..UptoSaid' is the law's where the arguments, and the package variables that the reading takes, are together of bulk at most 1048576: NARROWER than '..Said'. Prove '..Said' where nothing that the law and all that it calls make is longer than what came in: it says more and counts as full. Else prove '..UptoSaid'. A law counts once. -/
mutual
def uptoBulk {H : Type} : DataW H → Nat
  | .lit (.string bytes) => bytes.length + 1
  | .lit _ => 1
  | .nil => 1
  | .ptr d => uptoBulk d + 1
  | .slice elems spare => uptoBulkAll elems + uptoBulkAll spare + 1
  | .agg parts => uptoBulkAll parts + 1
  | .iface _ d => uptoBulk d + 1
  | .map entries => uptoBulkEntries entries + 1
  | .held _ => 1
def uptoBulkAll {H : Type} : List (DataW H) → Nat
  | [] => 0
  | d :: r => uptoBulk d + uptoBulkAll r
def uptoBulkEntries {H : Type} : List (Lit × DataW H) → Nat
  | [] => 0
  | x :: r => uptoBulkEntry x + uptoBulkEntries r
def uptoBulkEntry {H : Type} : Lit × DataW H → Nat
  | (.string bytes, d) => bytes.length + uptoBulk d + 1
  | (_, d) => uptoBulk d + 1
 end
def uptoSmall : (H : Type) → List (DataW H) → Bool := fun _ ds => decide (uptoBulkAll ds ≤ 1048576)
def OpenSpec.upto (s : _root_.Go.ChangeSpec) : _root_.Go.OpenSpec := { _root_.Go.OpenSpec.ofChange s with cond := some uptoSmall }

/-- 'tattinglaw17.SnakeKnown', WHERE WHAT IT READS IS OF BULK AT MOST 1048576: true; the input reads as it did. -/
def snakeKnownUptoRow : OpenClaim := { program := "ytnadeebbnnbpgaa", sum := "2527f8955629652e706d127a0fa1022f9b88b21e52eb7001620386187014249c", func := "tatting/tattinglaw17.SnakeKnown", spec := "snakeKnown", apart := false, narrowed := true }
def SnakeKnownUptoSaid : Prop := snakeKnownUptoRow.holds Try.pinned (OpenSpec.upto snakeKnownSpec)

/-- 'tattinglaw17.SnakeSays', WHERE WHAT IT READS IS OF BULK AT MOST 1048576: true; the input reads as it did. -/
def snakeSaysUptoRow : OpenClaim := { program := "ytnadeebbnnbpgaa", sum := "2527f8955629652e706d127a0fa1022f9b88b21e52eb7001620386187014249c", func := "tatting/tattinglaw17.SnakeSays", spec := "snakeSays", apart := false, narrowed := true }
def SnakeSaysUptoSaid : Prop := snakeSaysUptoRow.holds Try.pinned (OpenSpec.upto snakeSaysSpec)

/-- 'tattinglaw17.SnakeEnds', WHERE WHAT IT READS IS OF BULK AT MOST 1048576: true; the input reads as it did. -/
def snakeEndsUptoRow : OpenClaim := { program := "ytnadeebbnnbpgaa", sum := "2527f8955629652e706d127a0fa1022f9b88b21e52eb7001620386187014249c", func := "tatting/tattinglaw17.SnakeEnds", spec := "snakeEnds", apart := false, narrowed := true }
def SnakeEndsUptoSaid : Prop := snakeEndsUptoRow.holds Try.pinned (OpenSpec.upto snakeEndsSpec)

/-- 'tattinglaw17.SnakeTurns', WHERE WHAT IT READS IS OF BULK AT MOST 1048576: true; the input reads as it did. -/
def snakeTurnsUptoRow : OpenClaim := { program := "ytnadeebbnnbpgaa", sum := "2527f8955629652e706d127a0fa1022f9b88b21e52eb7001620386187014249c", func := "tatting/tattinglaw17.SnakeTurns", spec := "snakeTurns", apart := false, narrowed := true }
def SnakeTurnsUptoSaid : Prop := snakeTurnsUptoRow.holds Try.pinned (OpenSpec.upto snakeTurnsSpec)

/-- 'tattinglaw17.SnakeSteps', WHERE WHAT IT READS IS OF BULK AT MOST 1048576: true; the input reads as it did. -/
def snakeStepsUptoRow : OpenClaim := { program := "ytnadeebbnnbpgaa", sum := "2527f8955629652e706d127a0fa1022f9b88b21e52eb7001620386187014249c", func := "tatting/tattinglaw17.SnakeSteps", spec := "snakeSteps", apart := false, narrowed := true }
def SnakeStepsUptoSaid : Prop := snakeStepsUptoRow.holds Try.pinned (OpenSpec.upto snakeStepsSpec)

end Rows
end Go.Proofs.Ytnadeebbnnbpgaa
