/-
  No cell of these rows narrows 'for every input' (looked for: loops, veiled, ifaces, maps, wideKeys, modest, calm, conditions, laid).
  DERIVED. THE GIVEN ROWS OF THIS SEAT. 8 by the template 'for every input the law returns true; each argument reads behind the call as it read before'; 0 by the template 'total and deterministic' (their statements: YtknfcipjbhhldaaTotals.lean).
  GIVEN WITH THE SEED: the statements are not yours to turn. If you find one false, say at which input.
  Laid BY PROGRAM, IN A SANDBOX (cutbox-rows.mjs): the forced cells as the released guide's own fill.sh prints them over the translation 3a84e70ba823f5d2… (all of the seat's roots in one cut). By AI agents, Wed Nov 11 2026. No macro, syntax, notation, axiom, sorry.
-/
import Derived.Test.YtknfcipjbhhldaaChecked
import GoSem.Claim
import GoSem.ClaimJoined
import GoSem.ClaimMapViews
import Derived.JoinedTies
import Derived.KernelRfl
namespace Go.Proofs.Ytknfcipjbhhldaa
/- THE CELL 'sum', in the pinned program and in every row, IS THE sha256 OF THE DUMP (.gsa) THAT YtknfcipjbhhldaaProg.lean LOADS. Nothing in Lean hashes anything: it is a label: what it is worth is what the hold of that sum in a sandbox is worth. -/
noncomputable def Try.pinned : Pinned := { name := "ytknfcipjbhhldaa", sum := "3a84e70ba823f5d228d6861a7c720916dfc3b782aa0fb543ed4079873fae49c3", checked := Try.checked }
namespace Rows
def none {H : Type} : Left H := { results := [], args := [] }

/-- 'tattinglaw8.GridKnown': WHATEVER THE INPUT: true; the input reads as it did. -/
def gridKnownSpec : ChangeSpec := { name := "gridKnown", fn := fun _ => fun
  | [] => { results := [.lit (.bool true)], args := [] }
  | _ => none }
def gridKnownRow : OpenClaim := { program := "ytknfcipjbhhldaa", sum := "3a84e70ba823f5d228d6861a7c720916dfc3b782aa0fb543ed4079873fae49c3", func := "tatting/tattinglaw8.GridKnown", spec := "gridKnown", apart := false }
def GridKnownSaid : Prop := gridKnownRow.holds Try.pinned (OpenSpec.ofChange gridKnownSpec)

/-- ITS FALSE NEIGHBOUR: 'it returns false'. Refute it at one input. -/
def gridKnownWrong : ChangeSpec := { name := "gridKnown", fn := fun _ => fun
  | [] => { results := [.lit (.bool false)], args := [] }
  | _ => none }
def GridKnownWrongFalsely : Prop := gridKnownRow.holds Try.pinned (OpenSpec.ofChange gridKnownWrong)

/-- 'tattinglaw8.GridBehind': WHATEVER THE INPUT: true; the input reads as it did. -/
def gridBehindSpec : ChangeSpec := { name := "gridBehind", fn := fun _ => fun
  | [d1, d2] => { results := [.lit (.bool true)], args := [d1, d2] }
  | _ => none }
def gridBehindRow : OpenClaim := { program := "ytknfcipjbhhldaa", sum := "3a84e70ba823f5d228d6861a7c720916dfc3b782aa0fb543ed4079873fae49c3", func := "tatting/tattinglaw8.GridBehind", spec := "gridBehind", apart := false }
def GridBehindSaid : Prop := gridBehindRow.holds Try.pinned (OpenSpec.ofChange gridBehindSpec)

/-- ITS FALSE NEIGHBOUR: 'it returns false'. Refute it at one input. -/
def gridBehindWrong : ChangeSpec := { name := "gridBehind", fn := fun _ => fun
  | [d1, d2] => { results := [.lit (.bool false)], args := [d1, d2] }
  | _ => none }
def GridBehindWrongFalsely : Prop := gridBehindRow.holds Try.pinned (OpenSpec.ofChange gridBehindWrong)

/-- 'tattinglaw8.GridAhead': WHATEVER THE INPUT: true; the input reads as it did. -/
def gridAheadSpec : ChangeSpec := { name := "gridAhead", fn := fun _ => fun
  | [d1, d2] => { results := [.lit (.bool true)], args := [d1, d2] }
  | _ => none }
def gridAheadRow : OpenClaim := { program := "ytknfcipjbhhldaa", sum := "3a84e70ba823f5d228d6861a7c720916dfc3b782aa0fb543ed4079873fae49c3", func := "tatting/tattinglaw8.GridAhead", spec := "gridAhead", apart := false }
def GridAheadSaid : Prop := gridAheadRow.holds Try.pinned (OpenSpec.ofChange gridAheadSpec)

/-- ITS FALSE NEIGHBOUR: 'it returns false'. Refute it at one input. -/
def gridAheadWrong : ChangeSpec := { name := "gridAhead", fn := fun _ => fun
  | [d1, d2] => { results := [.lit (.bool false)], args := [d1, d2] }
  | _ => none }
def GridAheadWrongFalsely : Prop := gridAheadRow.holds Try.pinned (OpenSpec.ofChange gridAheadWrong)

/-- 'tattinglaw8.GridRun': WHATEVER THE INPUT: true; the input reads as it did. -/
def gridRunSpec : ChangeSpec := { name := "gridRun", fn := fun _ => fun
  | [d1, d2] => { results := [.lit (.bool true)], args := [d1, d2] }
  | _ => none }
def gridRunRow : OpenClaim := { program := "ytknfcipjbhhldaa", sum := "3a84e70ba823f5d228d6861a7c720916dfc3b782aa0fb543ed4079873fae49c3", func := "tatting/tattinglaw8.GridRun", spec := "gridRun", apart := false }
def GridRunSaid : Prop := gridRunRow.holds Try.pinned (OpenSpec.ofChange gridRunSpec)

/-- ITS FALSE NEIGHBOUR: 'it returns false'. Refute it at one input. -/
def gridRunWrong : ChangeSpec := { name := "gridRun", fn := fun _ => fun
  | [d1, d2] => { results := [.lit (.bool false)], args := [d1, d2] }
  | _ => none }
def GridRunWrongFalsely : Prop := gridRunRow.holds Try.pinned (OpenSpec.ofChange gridRunWrong)

/-- 'tattinglaw8.GridTop': WHATEVER THE INPUT: true; the input reads as it did. -/
def gridTopSpec : ChangeSpec := { name := "gridTop", fn := fun _ => fun
  | [d1, d2, d3] => { results := [.lit (.bool true)], args := [d1, d2, d3] }
  | _ => none }
def gridTopRow : OpenClaim := { program := "ytknfcipjbhhldaa", sum := "3a84e70ba823f5d228d6861a7c720916dfc3b782aa0fb543ed4079873fae49c3", func := "tatting/tattinglaw8.GridTop", spec := "gridTop", apart := false }
def GridTopSaid : Prop := gridTopRow.holds Try.pinned (OpenSpec.ofChange gridTopSpec)

/-- ITS FALSE NEIGHBOUR: 'it returns false'. Refute it at one input. -/
def gridTopWrong : ChangeSpec := { name := "gridTop", fn := fun _ => fun
  | [d1, d2, d3] => { results := [.lit (.bool false)], args := [d1, d2, d3] }
  | _ => none }
def GridTopWrongFalsely : Prop := gridTopRow.holds Try.pinned (OpenSpec.ofChange gridTopWrong)

/-- 'tattinglaw8.GridTurns': WHATEVER THE INPUT: true; the input reads as it did. -/
def gridTurnsSpec : ChangeSpec := { name := "gridTurns", fn := fun _ => fun
  | [d1, d2] => { results := [.lit (.bool true)], args := [d1, d2] }
  | _ => none }
def gridTurnsRow : OpenClaim := { program := "ytknfcipjbhhldaa", sum := "3a84e70ba823f5d228d6861a7c720916dfc3b782aa0fb543ed4079873fae49c3", func := "tatting/tattinglaw8.GridTurns", spec := "gridTurns", apart := false }
def GridTurnsSaid : Prop := gridTurnsRow.holds Try.pinned (OpenSpec.ofChange gridTurnsSpec)

/-- ITS FALSE NEIGHBOUR: 'it returns false'. Refute it at one input. -/
def gridTurnsWrong : ChangeSpec := { name := "gridTurns", fn := fun _ => fun
  | [d1, d2] => { results := [.lit (.bool false)], args := [d1, d2] }
  | _ => none }
def GridTurnsWrongFalsely : Prop := gridTurnsRow.holds Try.pinned (OpenSpec.ofChange gridTurnsWrong)

/-- 'tattinglaw8.GridGrows': WHATEVER THE INPUT: true; the input reads as it did. -/
def gridGrowsSpec : ChangeSpec := { name := "gridGrows", fn := fun _ => fun
  | [d1, d2, d3, d4] => { results := [.lit (.bool true)], args := [d1, d2, d3, d4] }
  | _ => none }
def gridGrowsRow : OpenClaim := { program := "ytknfcipjbhhldaa", sum := "3a84e70ba823f5d228d6861a7c720916dfc3b782aa0fb543ed4079873fae49c3", func := "tatting/tattinglaw8.GridGrows", spec := "gridGrows", apart := false }
def GridGrowsSaid : Prop := gridGrowsRow.holds Try.pinned (OpenSpec.ofChange gridGrowsSpec)

/-- ITS FALSE NEIGHBOUR: 'it returns false'. Refute it at one input. -/
def gridGrowsWrong : ChangeSpec := { name := "gridGrows", fn := fun _ => fun
  | [d1, d2, d3, d4] => { results := [.lit (.bool false)], args := [d1, d2, d3, d4] }
  | _ => none }
def GridGrowsWrongFalsely : Prop := gridGrowsRow.holds Try.pinned (OpenSpec.ofChange gridGrowsWrong)

/-- 'tattinglaw8.GridDist': WHATEVER THE INPUT: true; the input reads as it did. -/
def gridDistSpec : ChangeSpec := { name := "gridDist", fn := fun _ => fun
  | [d1, d2, d3] => { results := [.lit (.bool true)], args := [d1, d2, d3] }
  | _ => none }
def gridDistRow : OpenClaim := { program := "ytknfcipjbhhldaa", sum := "3a84e70ba823f5d228d6861a7c720916dfc3b782aa0fb543ed4079873fae49c3", func := "tatting/tattinglaw8.GridDist", spec := "gridDist", apart := false }
def GridDistSaid : Prop := gridDistRow.holds Try.pinned (OpenSpec.ofChange gridDistSpec)

/-- ITS FALSE NEIGHBOUR: 'it returns false'. Refute it at one input. -/
def gridDistWrong : ChangeSpec := { name := "gridDist", fn := fun _ => fun
  | [d1, d2, d3] => { results := [.lit (.bool false)], args := [d1, d2, d3] }
  | _ => none }
def GridDistWrongFalsely : Prop := gridDistRow.holds Try.pinned (OpenSpec.ofChange gridDistWrong)

/- THE SECOND FORM. 'bulk': how many values and letters a reading holds, each counted each time it is reached (what is shared counts as often as it is met; a slice's spare places count too). A statement '..UptoSaid' is the law's where the arguments, and the package variables that the reading takes, are together of bulk at most 1048576: NARROWER than '..Said'. Prove '..Said' where nothing that the law and all that it calls make is longer than what came in: it says more and counts as full. Else prove '..UptoSaid'. A law counts once. -/
mutual
def uptoBulk {H : Type} : DataW H → Nat
  | .lit (.string bytes) => bytes.length + 1
  | .lit _ => 1
  | .nil => 1
  | .ptr d => uptoBulk d + 1
  | .slice elems spare => uptoBulkAll elems + uptoBulkAll spare + 1
  | .agg parts => uptoBulkAll parts + 1
  | .iface _ d => uptoBulk d + 1
  | .map entries => uptoBulkEntries entries + 1
  | .held _ => 1
def uptoBulkAll {H : Type} : List (DataW H) → Nat
  | [] => 0
  | d :: r => uptoBulk d + uptoBulkAll r
def uptoBulkEntries {H : Type} : List (Lit × DataW H) → Nat
  | [] => 0
  | x :: r => uptoBulkEntry x + uptoBulkEntries r
def uptoBulkEntry {H : Type} : Lit × DataW H → Nat
  | (.string bytes, d) => bytes.length + uptoBulk d + 1
  | (_, d) => uptoBulk d + 1
 end
def uptoSmall : (H : Type) → List (DataW H) → Bool := fun _ ds => decide (uptoBulkAll ds ≤ 1048576)
def OpenSpec.upto (s : _root_.Go.ChangeSpec) : _root_.Go.OpenSpec := { _root_.Go.OpenSpec.ofChange s with cond := some uptoSmall }

/-- 'tattinglaw8.GridKnown', WHERE WHAT IT READS IS OF BULK AT MOST 1048576: true; the input reads as it did. -/
def gridKnownUptoRow : OpenClaim := { program := "ytknfcipjbhhldaa", sum := "3a84e70ba823f5d228d6861a7c720916dfc3b782aa0fb543ed4079873fae49c3", func := "tatting/tattinglaw8.GridKnown", spec := "gridKnown", apart := false, narrowed := true }
def GridKnownUptoSaid : Prop := gridKnownUptoRow.holds Try.pinned (OpenSpec.upto gridKnownSpec)

/-- 'tattinglaw8.GridBehind', WHERE WHAT IT READS IS OF BULK AT MOST 1048576: true; the input reads as it did. -/
def gridBehindUptoRow : OpenClaim := { program := "ytknfcipjbhhldaa", sum := "3a84e70ba823f5d228d6861a7c720916dfc3b782aa0fb543ed4079873fae49c3", func := "tatting/tattinglaw8.GridBehind", spec := "gridBehind", apart := false, narrowed := true }
def GridBehindUptoSaid : Prop := gridBehindUptoRow.holds Try.pinned (OpenSpec.upto gridBehindSpec)

/-- 'tattinglaw8.GridAhead', WHERE WHAT IT READS IS OF BULK AT MOST 1048576: true; the input reads as it did. -/
def gridAheadUptoRow : OpenClaim := { program := "ytknfcipjbhhldaa", sum := "3a84e70ba823f5d228d6861a7c720916dfc3b782aa0fb543ed4079873fae49c3", func := "tatting/tattinglaw8.GridAhead", spec := "gridAhead", apart := false, narrowed := true }
def GridAheadUptoSaid : Prop := gridAheadUptoRow.holds Try.pinned (OpenSpec.upto gridAheadSpec)

/-- 'tattinglaw8.GridRun', WHERE WHAT IT READS IS OF BULK AT MOST 1048576: true; the input reads as it did. -/
def gridRunUptoRow : OpenClaim := { program := "ytknfcipjbhhldaa", sum := "3a84e70ba823f5d228d6861a7c720916dfc3b782aa0fb543ed4079873fae49c3", func := "tatting/tattinglaw8.GridRun", spec := "gridRun", apart := false, narrowed := true }
def GridRunUptoSaid : Prop := gridRunUptoRow.holds Try.pinned (OpenSpec.upto gridRunSpec)

/-- 'tattinglaw8.GridTop', WHERE WHAT IT READS IS OF BULK AT MOST 1048576: true; the input reads as it did. -/
def gridTopUptoRow : OpenClaim := { program := "ytknfcipjbhhldaa", sum := "3a84e70ba823f5d228d6861a7c720916dfc3b782aa0fb543ed4079873fae49c3", func := "tatting/tattinglaw8.GridTop", spec := "gridTop", apart := false, narrowed := true }
def GridTopUptoSaid : Prop := gridTopUptoRow.holds Try.pinned (OpenSpec.upto gridTopSpec)

/-- 'tattinglaw8.GridTurns', WHERE WHAT IT READS IS OF BULK AT MOST 1048576: true; the input reads as it did. -/
def gridTurnsUptoRow : OpenClaim := { program := "ytknfcipjbhhldaa", sum := "3a84e70ba823f5d228d6861a7c720916dfc3b782aa0fb543ed4079873fae49c3", func := "tatting/tattinglaw8.GridTurns", spec := "gridTurns", apart := false, narrowed := true }
def GridTurnsUptoSaid : Prop := gridTurnsUptoRow.holds Try.pinned (OpenSpec.upto gridTurnsSpec)

/-- 'tattinglaw8.GridGrows', WHERE WHAT IT READS IS OF BULK AT MOST 1048576: true; the input reads as it did. -/
def gridGrowsUptoRow : OpenClaim := { program := "ytknfcipjbhhldaa", sum := "3a84e70ba823f5d228d6861a7c720916dfc3b782aa0fb543ed4079873fae49c3", func := "tatting/tattinglaw8.GridGrows", spec := "gridGrows", apart := false, narrowed := true }
def GridGrowsUptoSaid : Prop := gridGrowsUptoRow.holds Try.pinned (OpenSpec.upto gridGrowsSpec)

/-- 'tattinglaw8.GridDist', WHERE WHAT IT READS IS OF BULK AT MOST 1048576: true; the input reads as it did. -/
def gridDistUptoRow : OpenClaim := { program := "ytknfcipjbhhldaa", sum := "3a84e70ba823f5d228d6861a7c720916dfc3b782aa0fb543ed4079873fae49c3", func := "tatting/tattinglaw8.GridDist", spec := "gridDist", apart := false, narrowed := true }
def GridDistUptoSaid : Prop := gridDistUptoRow.holds Try.pinned (OpenSpec.upto gridDistSpec)

end Rows
end Go.Proofs.Ytknfcipjbhhldaa
