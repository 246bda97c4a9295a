/-
  No cell of these rows narrows 'for every input' (looked for: loops, veiled, ifaces, maps, wideKeys, modest, calm, conditions, laid).
  DERIVED. THE GIVEN ROWS OF THIS SEAT. 6 by the template 'for every input the law returns true; each argument reads behind the call as it read before'; 0 by the template 'total and deterministic' (their statements: YtmkelmacllkbeaaTotals.lean).
  GIVEN WITH THE SEED: the statements are not yours to turn. If you find one false, say at which input.
  Laid BY PROGRAM, IN A SANDBOX (cutbox-rows.mjs): the forced cells as the released guide's own fill.sh prints them over the translation e891014b3c4f5b95… (all of the seat's roots in one cut). By AI agents, Wed Nov 11 2026. No macro, syntax, notation, axiom, sorry.
-/
import Derived.Test.YtmkelmacllkbeaaChecked
import GoSem.Claim
import GoSem.ClaimJoined
import GoSem.ClaimMapViews
import Derived.JoinedTies
import Derived.KernelRfl
namespace Go.Proofs.Ytmkelmacllkbeaa
/- THE CELL 'sum', in the pinned program and in every row, IS THE sha256 OF THE DUMP (.gsa) THAT YtmkelmacllkbeaaProg.lean LOADS. Nothing in Lean hashes anything: it is a label: what it is worth is what the hold of that sum in a sandbox is worth. -/
noncomputable def Try.pinned : Pinned := { name := "ytmkelmacllkbeaa", sum := "e891014b3c4f5b95d4aff8e046cdb38dee595f61ad67c37079fe7bd4b9a4428e", checked := Try.checked }
namespace Rows
def none {H : Type} : Left H := { results := [], args := [] }

/-- 'tattinglaw9.LeastKnown': WHATEVER THE INPUT: true; the input reads as it did. -/
def leastKnownSpec : ChangeSpec := { name := "leastKnown", fn := fun _ => fun
  | [] => { results := [.lit (.bool true)], args := [] }
  | _ => none }
def leastKnownRow : OpenClaim := { program := "ytmkelmacllkbeaa", sum := "e891014b3c4f5b95d4aff8e046cdb38dee595f61ad67c37079fe7bd4b9a4428e", func := "tatting/tattinglaw9.LeastKnown", spec := "leastKnown", apart := false }
def LeastKnownSaid : Prop := leastKnownRow.holds Try.pinned (OpenSpec.ofChange leastKnownSpec)

/-- ITS FALSE NEIGHBOUR: 'it returns false'. Refute it at one input. -/
def leastKnownWrong : ChangeSpec := { name := "leastKnown", fn := fun _ => fun
  | [] => { results := [.lit (.bool false)], args := [] }
  | _ => none }
def LeastKnownWrongFalsely : Prop := leastKnownRow.holds Try.pinned (OpenSpec.ofChange leastKnownWrong)

/-- 'tattinglaw9.LeastSays': WHATEVER THE INPUT: true; the input reads as it did. -/
def leastSaysSpec : ChangeSpec := { name := "leastSays", fn := fun _ => fun
  | [d1, d2] => { results := [.lit (.bool true)], args := [d1, d2] }
  | _ => none }
def leastSaysRow : OpenClaim := { program := "ytmkelmacllkbeaa", sum := "e891014b3c4f5b95d4aff8e046cdb38dee595f61ad67c37079fe7bd4b9a4428e", func := "tatting/tattinglaw9.LeastSays", spec := "leastSays", apart := false }
def LeastSaysSaid : Prop := leastSaysRow.holds Try.pinned (OpenSpec.ofChange leastSaysSpec)

/-- ITS FALSE NEIGHBOUR: 'it returns false'. Refute it at one input. -/
def leastSaysWrong : ChangeSpec := { name := "leastSays", fn := fun _ => fun
  | [d1, d2] => { results := [.lit (.bool false)], args := [d1, d2] }
  | _ => none }
def LeastSaysWrongFalsely : Prop := leastSaysRow.holds Try.pinned (OpenSpec.ofChange leastSaysWrong)

/-- 'tattinglaw9.LeastAll': WHATEVER THE INPUT: true; the input reads as it did. -/
def leastAllSpec : ChangeSpec := { name := "leastAll", fn := fun _ => fun
  | [d1, d2, d3] => { results := [.lit (.bool true)], args := [d1, d2, d3] }
  | _ => none }
def leastAllRow : OpenClaim := { program := "ytmkelmacllkbeaa", sum := "e891014b3c4f5b95d4aff8e046cdb38dee595f61ad67c37079fe7bd4b9a4428e", func := "tatting/tattinglaw9.LeastAll", spec := "leastAll", apart := false }
def LeastAllSaid : Prop := leastAllRow.holds Try.pinned (OpenSpec.ofChange leastAllSpec)

/-- ITS FALSE NEIGHBOUR: 'it returns false'. Refute it at one input. -/
def leastAllWrong : ChangeSpec := { name := "leastAll", fn := fun _ => fun
  | [d1, d2, d3] => { results := [.lit (.bool false)], args := [d1, d2, d3] }
  | _ => none }
def LeastAllWrongFalsely : Prop := leastAllRow.holds Try.pinned (OpenSpec.ofChange leastAllWrong)

/-- 'tattinglaw9.LeastIs': WHATEVER THE INPUT: true; the input reads as it did. -/
def leastIsSpec : ChangeSpec := { name := "leastIs", fn := fun _ => fun
  | [d1, d2, d3] => { results := [.lit (.bool true)], args := [d1, d2, d3] }
  | _ => none }
def leastIsRow : OpenClaim := { program := "ytmkelmacllkbeaa", sum := "e891014b3c4f5b95d4aff8e046cdb38dee595f61ad67c37079fe7bd4b9a4428e", func := "tatting/tattinglaw9.LeastIs", spec := "leastIs", apart := false }
def LeastIsSaid : Prop := leastIsRow.holds Try.pinned (OpenSpec.ofChange leastIsSpec)

/-- ITS FALSE NEIGHBOUR: 'it returns false'. Refute it at one input. -/
def leastIsWrong : ChangeSpec := { name := "leastIs", fn := fun _ => fun
  | [d1, d2, d3] => { results := [.lit (.bool false)], args := [d1, d2, d3] }
  | _ => none }
def LeastIsWrongFalsely : Prop := leastIsRow.holds Try.pinned (OpenSpec.ofChange leastIsWrong)

/-- 'tattinglaw9.LeastRest': WHATEVER THE INPUT: true; the input reads as it did. -/
def leastRestSpec : ChangeSpec := { name := "leastRest", fn := fun _ => fun
  | [d1, d2, d3] => { results := [.lit (.bool true)], args := [d1, d2, d3] }
  | _ => none }
def leastRestRow : OpenClaim := { program := "ytmkelmacllkbeaa", sum := "e891014b3c4f5b95d4aff8e046cdb38dee595f61ad67c37079fe7bd4b9a4428e", func := "tatting/tattinglaw9.LeastRest", spec := "leastRest", apart := false }
def LeastRestSaid : Prop := leastRestRow.holds Try.pinned (OpenSpec.ofChange leastRestSpec)

/-- ITS FALSE NEIGHBOUR: 'it returns false'. Refute it at one input. -/
def leastRestWrong : ChangeSpec := { name := "leastRest", fn := fun _ => fun
  | [d1, d2, d3] => { results := [.lit (.bool false)], args := [d1, d2, d3] }
  | _ => none }
def LeastRestWrongFalsely : Prop := leastRestRow.holds Try.pinned (OpenSpec.ofChange leastRestWrong)

/-- 'tattinglaw9.LeastFront': WHATEVER THE INPUT: true; the input reads as it did. -/
def leastFrontSpec : ChangeSpec := { name := "leastFront", fn := fun _ => fun
  | [d1, d2, d3] => { results := [.lit (.bool true)], args := [d1, d2, d3] }
  | _ => none }
def leastFrontRow : OpenClaim := { program := "ytmkelmacllkbeaa", sum := "e891014b3c4f5b95d4aff8e046cdb38dee595f61ad67c37079fe7bd4b9a4428e", func := "tatting/tattinglaw9.LeastFront", spec := "leastFront", apart := false }
def LeastFrontSaid : Prop := leastFrontRow.holds Try.pinned (OpenSpec.ofChange leastFrontSpec)

/-- ITS FALSE NEIGHBOUR: 'it returns false'. Refute it at one input. -/
def leastFrontWrong : ChangeSpec := { name := "leastFront", fn := fun _ => fun
  | [d1, d2, d3] => { results := [.lit (.bool false)], args := [d1, d2, d3] }
  | _ => none }
def LeastFrontWrongFalsely : Prop := leastFrontRow.holds Try.pinned (OpenSpec.ofChange leastFrontWrong)

/- THE SECOND FORM. 'bulk': how many values and letters a reading holds, each counted each time it is reached (what is shared counts as often as it is met; a slice's spare places count too). A statement '..UptoSaid' is the law's where the arguments, and the package variables that the reading takes, are together of bulk at most 1048576: NARROWER than '..Said'. Prove '..Said' where nothing that the law and all that it calls make is longer than what came in: it says more and counts as full. Else prove '..UptoSaid'. A law counts once. -/
mutual
def uptoBulk {H : Type} : DataW H → Nat
  | .lit (.string bytes) => bytes.length + 1
  | .lit _ => 1
  | .nil => 1
  | .ptr d => uptoBulk d + 1
  | .slice elems spare => uptoBulkAll elems + uptoBulkAll spare + 1
  | .agg parts => uptoBulkAll parts + 1
  | .iface _ d => uptoBulk d + 1
  | .map entries => uptoBulkEntries entries + 1
  | .held _ => 1
def uptoBulkAll {H : Type} : List (DataW H) → Nat
  | [] => 0
  | d :: r => uptoBulk d + uptoBulkAll r
def uptoBulkEntries {H : Type} : List (Lit × DataW H) → Nat
  | [] => 0
  | x :: r => uptoBulkEntry x + uptoBulkEntries r
def uptoBulkEntry {H : Type} : Lit × DataW H → Nat
  | (.string bytes, d) => bytes.length + uptoBulk d + 1
  | (_, d) => uptoBulk d + 1
 end
def uptoSmall : (H : Type) → List (DataW H) → Bool := fun _ ds => decide (uptoBulkAll ds ≤ 1048576)
def OpenSpec.upto (s : _root_.Go.ChangeSpec) : _root_.Go.OpenSpec := { _root_.Go.OpenSpec.ofChange s with cond := some uptoSmall }

/-- 'tattinglaw9.LeastKnown', WHERE WHAT IT READS IS OF BULK AT MOST 1048576: true; the input reads as it did. -/
def leastKnownUptoRow : OpenClaim := { program := "ytmkelmacllkbeaa", sum := "e891014b3c4f5b95d4aff8e046cdb38dee595f61ad67c37079fe7bd4b9a4428e", func := "tatting/tattinglaw9.LeastKnown", spec := "leastKnown", apart := false, narrowed := true }
def LeastKnownUptoSaid : Prop := leastKnownUptoRow.holds Try.pinned (OpenSpec.upto leastKnownSpec)

/-- 'tattinglaw9.LeastSays', WHERE WHAT IT READS IS OF BULK AT MOST 1048576: true; the input reads as it did. -/
def leastSaysUptoRow : OpenClaim := { program := "ytmkelmacllkbeaa", sum := "e891014b3c4f5b95d4aff8e046cdb38dee595f61ad67c37079fe7bd4b9a4428e", func := "tatting/tattinglaw9.LeastSays", spec := "leastSays", apart := false, narrowed := true }
def LeastSaysUptoSaid : Prop := leastSaysUptoRow.holds Try.pinned (OpenSpec.upto leastSaysSpec)

/-- 'tattinglaw9.LeastAll', WHERE WHAT IT READS IS OF BULK AT MOST 1048576: true; the input reads as it did. -/
def leastAllUptoRow : OpenClaim := { program := "ytmkelmacllkbeaa", sum := "e891014b3c4f5b95d4aff8e046cdb38dee595f61ad67c37079fe7bd4b9a4428e", func := "tatting/tattinglaw9.LeastAll", spec := "leastAll", apart := false, narrowed := true }
def LeastAllUptoSaid : Prop := leastAllUptoRow.holds Try.pinned (OpenSpec.upto leastAllSpec)

/-- 'tattinglaw9.LeastIs', WHERE WHAT IT READS IS OF BULK AT MOST 1048576: true; the input reads as it did. -/
def leastIsUptoRow : OpenClaim := { program := "ytmkelmacllkbeaa", sum := "e891014b3c4f5b95d4aff8e046cdb38dee595f61ad67c37079fe7bd4b9a4428e", func := "tatting/tattinglaw9.LeastIs", spec := "leastIs", apart := false, narrowed := true }
def LeastIsUptoSaid : Prop := leastIsUptoRow.holds Try.pinned (OpenSpec.upto leastIsSpec)

/-- 'tattinglaw9.LeastRest', WHERE WHAT IT READS IS OF BULK AT MOST 1048576: true; the input reads as it did. -/
def leastRestUptoRow : OpenClaim := { program := "ytmkelmacllkbeaa", sum := "e891014b3c4f5b95d4aff8e046cdb38dee595f61ad67c37079fe7bd4b9a4428e", func := "tatting/tattinglaw9.LeastRest", spec := "leastRest", apart := false, narrowed := true }
def LeastRestUptoSaid : Prop := leastRestUptoRow.holds Try.pinned (OpenSpec.upto leastRestSpec)

/-- 'tattinglaw9.LeastFront', WHERE WHAT IT READS IS OF BULK AT MOST 1048576: true; the input reads as it did. -/
def leastFrontUptoRow : OpenClaim := { program := "ytmkelmacllkbeaa", sum := "e891014b3c4f5b95d4aff8e046cdb38dee595f61ad67c37079fe7bd4b9a4428e", func := "tatting/tattinglaw9.LeastFront", spec := "leastFront", apart := false, narrowed := true }
def LeastFrontUptoSaid : Prop := leastFrontUptoRow.holds Try.pinned (OpenSpec.upto leastFrontSpec)

end Rows
end Go.Proofs.Ytmkelmacllkbeaa
