/-
  No cell of these rows narrows 'for every input' (looked for: loops, veiled, ifaces, maps, wideKeys, modest, calm, conditions, laid).
  DERIVED. THE GIVEN ROWS OF THIS SEAT. 6 by the template 'for every input the law returns true; each argument reads behind the call as it read before'; 0 by the template 'total and deterministic' (their statements: YtcjngbpmdmfbdaaTotals.lean).
  GIVEN WITH THE SEED: the statements are not yours to turn. If you find one false, say at which input.
  Laid BY PROGRAM, IN A SANDBOX (cutbox-rows.mjs): the forced cells as the released guide's own fill.sh prints them over the translation 5240e96ddf487ff8… (all of the seat's roots in one cut). By AI agents, Wed Nov 11 2026. No macro, syntax, notation, axiom, sorry.
-/
import Derived.Test.YtcjngbpmdmfbdaaChecked
import GoSem.Claim
import GoSem.ClaimJoined
import GoSem.ClaimMapViews
import Derived.JoinedTies
import Derived.KernelRfl
namespace Go.Proofs.Ytcjngbpmdmfbdaa
/- THE CELL 'sum', in the pinned program and in every row, IS THE sha256 OF THE DUMP (.gsa) THAT YtcjngbpmdmfbdaaProg.lean LOADS. Nothing in Lean hashes anything: it is a label: what it is worth is what the hold of that sum in a sandbox is worth. -/
noncomputable def Try.pinned : Pinned := { name := "ytcjngbpmdmfbdaa", sum := "5240e96ddf487ff8c5983207a308cc15c16f814e8f8d7d206402cdcdb5402597", checked := Try.checked }
namespace Rows
def none {H : Type} : Left H := { results := [], args := [] }

/-- 'tattinglaw19.BandCells': WHATEVER THE INPUT: true; the input reads as it did. -/
def bandCellsSpec : ChangeSpec := { name := "bandCells", fn := fun _ => fun
  | [d1, d2, d3] => { results := [.lit (.bool true)], args := [d1, d2, d3] }
  | _ => none }
def bandCellsRow : OpenClaim := { program := "ytcjngbpmdmfbdaa", sum := "5240e96ddf487ff8c5983207a308cc15c16f814e8f8d7d206402cdcdb5402597", func := "tatting/tattinglaw19.BandCells", spec := "bandCells", apart := false }
def BandCellsSaid : Prop := bandCellsRow.holds Try.pinned (OpenSpec.ofChange bandCellsSpec)

/-- ITS FALSE NEIGHBOUR: 'it returns false'. Refute it at one input. -/
def bandCellsWrong : ChangeSpec := { name := "bandCells", fn := fun _ => fun
  | [d1, d2, d3] => { results := [.lit (.bool false)], args := [d1, d2, d3] }
  | _ => none }
def BandCellsWrongFalsely : Prop := bandCellsRow.holds Try.pinned (OpenSpec.ofChange bandCellsWrong)

/-- 'tattinglaw19.BandWithin': WHATEVER THE INPUT: true; the input reads as it did. -/
def bandWithinSpec : ChangeSpec := { name := "bandWithin", fn := fun _ => fun
  | [d1, d2, d3] => { results := [.lit (.bool true)], args := [d1, d2, d3] }
  | _ => none }
def bandWithinRow : OpenClaim := { program := "ytcjngbpmdmfbdaa", sum := "5240e96ddf487ff8c5983207a308cc15c16f814e8f8d7d206402cdcdb5402597", func := "tatting/tattinglaw19.BandWithin", spec := "bandWithin", apart := false }
def BandWithinSaid : Prop := bandWithinRow.holds Try.pinned (OpenSpec.ofChange bandWithinSpec)

/-- ITS FALSE NEIGHBOUR: 'it returns false'. Refute it at one input. -/
def bandWithinWrong : ChangeSpec := { name := "bandWithin", fn := fun _ => fun
  | [d1, d2, d3] => { results := [.lit (.bool false)], args := [d1, d2, d3] }
  | _ => none }
def BandWithinWrongFalsely : Prop := bandWithinRow.holds Try.pinned (OpenSpec.ofChange bandWithinWrong)

/-- 'tattinglaw19.BandEdge': WHATEVER THE INPUT: true; the input reads as it did. -/
def bandEdgeSpec : ChangeSpec := { name := "bandEdge", fn := fun _ => fun
  | [d1, d2] => { results := [.lit (.bool true)], args := [d1, d2] }
  | _ => none }
def bandEdgeRow : OpenClaim := { program := "ytcjngbpmdmfbdaa", sum := "5240e96ddf487ff8c5983207a308cc15c16f814e8f8d7d206402cdcdb5402597", func := "tatting/tattinglaw19.BandEdge", spec := "bandEdge", apart := false }
def BandEdgeSaid : Prop := bandEdgeRow.holds Try.pinned (OpenSpec.ofChange bandEdgeSpec)

/-- ITS FALSE NEIGHBOUR: 'it returns false'. Refute it at one input. -/
def bandEdgeWrong : ChangeSpec := { name := "bandEdge", fn := fun _ => fun
  | [d1, d2] => { results := [.lit (.bool false)], args := [d1, d2] }
  | _ => none }
def BandEdgeWrongFalsely : Prop := bandEdgeRow.holds Try.pinned (OpenSpec.ofChange bandEdgeWrong)

/-- 'tattinglaw19.BandFew': WHATEVER THE INPUT: true; the input reads as it did. -/
def bandFewSpec : ChangeSpec := { name := "bandFew", fn := fun _ => fun
  | [d1, d2, d3] => { results := [.lit (.bool true)], args := [d1, d2, d3] }
  | _ => none }
def bandFewRow : OpenClaim := { program := "ytcjngbpmdmfbdaa", sum := "5240e96ddf487ff8c5983207a308cc15c16f814e8f8d7d206402cdcdb5402597", func := "tatting/tattinglaw19.BandFew", spec := "bandFew", apart := false }
def BandFewSaid : Prop := bandFewRow.holds Try.pinned (OpenSpec.ofChange bandFewSpec)

/-- ITS FALSE NEIGHBOUR: 'it returns false'. Refute it at one input. -/
def bandFewWrong : ChangeSpec := { name := "bandFew", fn := fun _ => fun
  | [d1, d2, d3] => { results := [.lit (.bool false)], args := [d1, d2, d3] }
  | _ => none }
def BandFewWrongFalsely : Prop := bandFewRow.holds Try.pinned (OpenSpec.ofChange bandFewWrong)

/-- 'tattinglaw19.BandKnown': WHATEVER THE INPUT: true; the input reads as it did. -/
def bandKnownSpec : ChangeSpec := { name := "bandKnown", fn := fun _ => fun
  | [] => { results := [.lit (.bool true)], args := [] }
  | _ => none }
def bandKnownRow : OpenClaim := { program := "ytcjngbpmdmfbdaa", sum := "5240e96ddf487ff8c5983207a308cc15c16f814e8f8d7d206402cdcdb5402597", func := "tatting/tattinglaw19.BandKnown", spec := "bandKnown", apart := false }
def BandKnownSaid : Prop := bandKnownRow.holds Try.pinned (OpenSpec.ofChange bandKnownSpec)

/-- ITS FALSE NEIGHBOUR: 'it returns false'. Refute it at one input. -/
def bandKnownWrong : ChangeSpec := { name := "bandKnown", fn := fun _ => fun
  | [] => { results := [.lit (.bool false)], args := [] }
  | _ => none }
def BandKnownWrongFalsely : Prop := bandKnownRow.holds Try.pinned (OpenSpec.ofChange bandKnownWrong)

/-- 'tattinglaw19.BandRuns': WHATEVER THE INPUT: true; the input reads as it did. -/
def bandRunsSpec : ChangeSpec := { name := "bandRuns", fn := fun _ => fun
  | [d1, d2] => { results := [.lit (.bool true)], args := [d1, d2] }
  | _ => none }
def bandRunsRow : OpenClaim := { program := "ytcjngbpmdmfbdaa", sum := "5240e96ddf487ff8c5983207a308cc15c16f814e8f8d7d206402cdcdb5402597", func := "tatting/tattinglaw19.BandRuns", spec := "bandRuns", apart := false }
def BandRunsSaid : Prop := bandRunsRow.holds Try.pinned (OpenSpec.ofChange bandRunsSpec)

/-- ITS FALSE NEIGHBOUR: 'it returns false'. Refute it at one input. -/
def bandRunsWrong : ChangeSpec := { name := "bandRuns", fn := fun _ => fun
  | [d1, d2] => { results := [.lit (.bool false)], args := [d1, d2] }
  | _ => none }
def BandRunsWrongFalsely : Prop := bandRunsRow.holds Try.pinned (OpenSpec.ofChange bandRunsWrong)

/- THE SECOND FORM. 'bulk': how many values and letters a reading holds, each counted each time it is reached (what is shared counts as often as it is met; a slice's spare places count too). A statement '..UptoSaid' is the law's where the arguments, and the package variables that the reading takes, are together of bulk at most 1048576: NARROWER than '..Said'. Prove '..Said' where nothing that the law and all that it calls make is longer than what came in: it says more and counts as full. Else prove '..UptoSaid'. A law counts once. -/
mutual
def uptoBulk {H : Type} : DataW H → Nat
  | .lit (.string bytes) => bytes.length + 1
  | .lit _ => 1
  | .nil => 1
  | .ptr d => uptoBulk d + 1
  | .slice elems spare => uptoBulkAll elems + uptoBulkAll spare + 1
  | .agg parts => uptoBulkAll parts + 1
  | .iface _ d => uptoBulk d + 1
  | .map entries => uptoBulkEntries entries + 1
  | .held _ => 1
def uptoBulkAll {H : Type} : List (DataW H) → Nat
  | [] => 0
  | d :: r => uptoBulk d + uptoBulkAll r
def uptoBulkEntries {H : Type} : List (Lit × DataW H) → Nat
  | [] => 0
  | x :: r => uptoBulkEntry x + uptoBulkEntries r
def uptoBulkEntry {H : Type} : Lit × DataW H → Nat
  | (.string bytes, d) => bytes.length + uptoBulk d + 1
  | (_, d) => uptoBulk d + 1
 end
def uptoSmall : (H : Type) → List (DataW H) → Bool := fun _ ds => decide (uptoBulkAll ds ≤ 1048576)
def OpenSpec.upto (s : _root_.Go.ChangeSpec) : _root_.Go.OpenSpec := { _root_.Go.OpenSpec.ofChange s with cond := some uptoSmall }

/-- 'tattinglaw19.BandCells', WHERE WHAT IT READS IS OF BULK AT MOST 1048576: true; the input reads as it did. -/
def bandCellsUptoRow : OpenClaim := { program := "ytcjngbpmdmfbdaa", sum := "5240e96ddf487ff8c5983207a308cc15c16f814e8f8d7d206402cdcdb5402597", func := "tatting/tattinglaw19.BandCells", spec := "bandCells", apart := false, narrowed := true }
def BandCellsUptoSaid : Prop := bandCellsUptoRow.holds Try.pinned (OpenSpec.upto bandCellsSpec)

/-- 'tattinglaw19.BandWithin', WHERE WHAT IT READS IS OF BULK AT MOST 1048576: true; the input reads as it did. -/
def bandWithinUptoRow : OpenClaim := { program := "ytcjngbpmdmfbdaa", sum := "5240e96ddf487ff8c5983207a308cc15c16f814e8f8d7d206402cdcdb5402597", func := "tatting/tattinglaw19.BandWithin", spec := "bandWithin", apart := false, narrowed := true }
def BandWithinUptoSaid : Prop := bandWithinUptoRow.holds Try.pinned (OpenSpec.upto bandWithinSpec)

/-- 'tattinglaw19.BandEdge', WHERE WHAT IT READS IS OF BULK AT MOST 1048576: true; the input reads as it did. -/
def bandEdgeUptoRow : OpenClaim := { program := "ytcjngbpmdmfbdaa", sum := "5240e96ddf487ff8c5983207a308cc15c16f814e8f8d7d206402cdcdb5402597", func := "tatting/tattinglaw19.BandEdge", spec := "bandEdge", apart := false, narrowed := true }
def BandEdgeUptoSaid : Prop := bandEdgeUptoRow.holds Try.pinned (OpenSpec.upto bandEdgeSpec)

/-- 'tattinglaw19.BandFew', WHERE WHAT IT READS IS OF BULK AT MOST 1048576: true; the input reads as it did. -/
def bandFewUptoRow : OpenClaim := { program := "ytcjngbpmdmfbdaa", sum := "5240e96ddf487ff8c5983207a308cc15c16f814e8f8d7d206402cdcdb5402597", func := "tatting/tattinglaw19.BandFew", spec := "bandFew", apart := false, narrowed := true }
def BandFewUptoSaid : Prop := bandFewUptoRow.holds Try.pinned (OpenSpec.upto bandFewSpec)

/-- 'tattinglaw19.BandKnown', WHERE WHAT IT READS IS OF BULK AT MOST 1048576: true; the input reads as it did. -/
def bandKnownUptoRow : OpenClaim := { program := "ytcjngbpmdmfbdaa", sum := "5240e96ddf487ff8c5983207a308cc15c16f814e8f8d7d206402cdcdb5402597", func := "tatting/tattinglaw19.BandKnown", spec := "bandKnown", apart := false, narrowed := true }
def BandKnownUptoSaid : Prop := bandKnownUptoRow.holds Try.pinned (OpenSpec.upto bandKnownSpec)

/-- 'tattinglaw19.BandRuns', WHERE WHAT IT READS IS OF BULK AT MOST 1048576: true; the input reads as it did. -/
def bandRunsUptoRow : OpenClaim := { program := "ytcjngbpmdmfbdaa", sum := "5240e96ddf487ff8c5983207a308cc15c16f814e8f8d7d206402cdcdb5402597", func := "tatting/tattinglaw19.BandRuns", spec := "bandRuns", apart := false, narrowed := true }
def BandRunsUptoSaid : Prop := bandRunsUptoRow.holds Try.pinned (OpenSpec.upto bandRunsSpec)

end Rows
end Go.Proofs.Ytcjngbpmdmfbdaa
