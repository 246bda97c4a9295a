/-
  No cell of these rows narrows 'for every input' (looked for: loops, veiled, ifaces, maps, wideKeys, modest, calm, conditions, laid).
  DERIVED. THE GIVEN ROWS OF THIS SEAT. 5 by the template 'for every input the law returns true; each argument reads behind the call as it read before'; 0 by the template 'total and deterministic' (their statements: YtdegajidkboknaaTotals.lean).
  GIVEN WITH THE SEED: the statements are not yours to turn. If you find one false, say at which input.
  Laid BY PROGRAM, IN A SANDBOX (cutbox-rows.mjs): the forced cells as the released guide's own fill.sh prints them over the translation 109cadc85c67021e… (all of the seat's roots in one cut). By AI agents, Wed Nov 11 2026. No macro, syntax, notation, axiom, sorry.
-/
import Derived.Test.YtdegajidkboknaaChecked
import GoSem.Claim
import GoSem.ClaimJoined
import GoSem.ClaimMapViews
import Derived.JoinedTies
import Derived.KernelRfl
namespace Go.Proofs.Ytdegajidkboknaa
/- THE CELL 'sum', in the pinned program and in every row, IS THE sha256 OF THE DUMP (.gsa) THAT YtdegajidkboknaaProg.lean LOADS. Nothing in Lean hashes anything: it is a label: what it is worth is what the hold of that sum in a sandbox is worth. -/
noncomputable def Try.pinned : Pinned := { name := "ytdegajidkboknaa", sum := "109cadc85c67021ee3e4aae64e39d4b57bc9e38703d0e1d5c73b8d81ba036ac7", checked := Try.checked }
namespace Rows
def none {H : Type} : Left H := { results := [], args := [] }

/-- 'tattinglaw23.CanonKnown': WHATEVER THE INPUT: true; the input reads as it did. -/
def canonKnownSpec : ChangeSpec := { name := "canonKnown", fn := fun _ => fun
  | [] => { results := [.lit (.bool true)], args := [] }
  | _ => none }
def canonKnownRow : OpenClaim := { program := "ytdegajidkboknaa", sum := "109cadc85c67021ee3e4aae64e39d4b57bc9e38703d0e1d5c73b8d81ba036ac7", func := "tatting/tattinglaw23.CanonKnown", spec := "canonKnown", apart := false }
def CanonKnownSaid : Prop := canonKnownRow.holds Try.pinned (OpenSpec.ofChange canonKnownSpec)

/-- ITS FALSE NEIGHBOUR: 'it returns false'. Refute it at one input. -/
def canonKnownWrong : ChangeSpec := { name := "canonKnown", fn := fun _ => fun
  | [] => { results := [.lit (.bool false)], args := [] }
  | _ => none }
def CanonKnownWrongFalsely : Prop := canonKnownRow.holds Try.pinned (OpenSpec.ofChange canonKnownWrong)

/-- 'tattinglaw23.CanonOf': WHATEVER THE INPUT: true; the input reads as it did. -/
def canonOfSpec : ChangeSpec := { name := "canonOf", fn := fun _ => fun
  | [d1, d2, d3] => { results := [.lit (.bool true)], args := [d1, d2, d3] }
  | _ => none }
def canonOfRow : OpenClaim := { program := "ytdegajidkboknaa", sum := "109cadc85c67021ee3e4aae64e39d4b57bc9e38703d0e1d5c73b8d81ba036ac7", func := "tatting/tattinglaw23.CanonOf", spec := "canonOf", apart := false }
def CanonOfSaid : Prop := canonOfRow.holds Try.pinned (OpenSpec.ofChange canonOfSpec)

/-- ITS FALSE NEIGHBOUR: 'it returns false'. Refute it at one input. -/
def canonOfWrong : ChangeSpec := { name := "canonOf", fn := fun _ => fun
  | [d1, d2, d3] => { results := [.lit (.bool false)], args := [d1, d2, d3] }
  | _ => none }
def CanonOfWrongFalsely : Prop := canonOfRow.holds Try.pinned (OpenSpec.ofChange canonOfWrong)

/-- 'tattinglaw23.CanonSides': WHATEVER THE INPUT: true; the input reads as it did. -/
def canonSidesSpec : ChangeSpec := { name := "canonSides", fn := fun _ => fun
  | [d1, d2, d3] => { results := [.lit (.bool true)], args := [d1, d2, d3] }
  | _ => none }
def canonSidesRow : OpenClaim := { program := "ytdegajidkboknaa", sum := "109cadc85c67021ee3e4aae64e39d4b57bc9e38703d0e1d5c73b8d81ba036ac7", func := "tatting/tattinglaw23.CanonSides", spec := "canonSides", apart := false }
def CanonSidesSaid : Prop := canonSidesRow.holds Try.pinned (OpenSpec.ofChange canonSidesSpec)

/-- ITS FALSE NEIGHBOUR: 'it returns false'. Refute it at one input. -/
def canonSidesWrong : ChangeSpec := { name := "canonSides", fn := fun _ => fun
  | [d1, d2, d3] => { results := [.lit (.bool false)], args := [d1, d2, d3] }
  | _ => none }
def CanonSidesWrongFalsely : Prop := canonSidesRow.holds Try.pinned (OpenSpec.ofChange canonSidesWrong)

/-- 'tattinglaw23.CanonAny': WHATEVER THE INPUT: true; the input reads as it did. -/
def canonAnySpec : ChangeSpec := { name := "canonAny", fn := fun _ => fun
  | [d1, d2] => { results := [.lit (.bool true)], args := [d1, d2] }
  | _ => none }
def canonAnyRow : OpenClaim := { program := "ytdegajidkboknaa", sum := "109cadc85c67021ee3e4aae64e39d4b57bc9e38703d0e1d5c73b8d81ba036ac7", func := "tatting/tattinglaw23.CanonAny", spec := "canonAny", recurses := true, apart := false }
def CanonAnySaid : Prop := canonAnyRow.holds Try.pinned (OpenSpec.ofChange canonAnySpec)

/-- ITS FALSE NEIGHBOUR: 'it returns false'. Refute it at one input. -/
def canonAnyWrong : ChangeSpec := { name := "canonAny", fn := fun _ => fun
  | [d1, d2] => { results := [.lit (.bool false)], args := [d1, d2] }
  | _ => none }
def CanonAnyWrongFalsely : Prop := canonAnyRow.holds Try.pinned (OpenSpec.ofChange canonAnyWrong)

/-- 'tattinglaw23.CanonStays': WHATEVER THE INPUT: true; the input reads as it did. -/
def canonStaysSpec : ChangeSpec := { name := "canonStays", fn := fun _ => fun
  | [d1, d2, d3] => { results := [.lit (.bool true)], args := [d1, d2, d3] }
  | _ => none }
def canonStaysRow : OpenClaim := { program := "ytdegajidkboknaa", sum := "109cadc85c67021ee3e4aae64e39d4b57bc9e38703d0e1d5c73b8d81ba036ac7", func := "tatting/tattinglaw23.CanonStays", spec := "canonStays", apart := false }
def CanonStaysSaid : Prop := canonStaysRow.holds Try.pinned (OpenSpec.ofChange canonStaysSpec)

/-- ITS FALSE NEIGHBOUR: 'it returns false'. Refute it at one input. -/
def canonStaysWrong : ChangeSpec := { name := "canonStays", fn := fun _ => fun
  | [d1, d2, d3] => { results := [.lit (.bool false)], args := [d1, d2, d3] }
  | _ => none }
def CanonStaysWrongFalsely : Prop := canonStaysRow.holds Try.pinned (OpenSpec.ofChange canonStaysWrong)

/- THE SECOND FORM. 'bulk': how many values and letters a reading holds, each counted each time it is reached (what is shared counts as often as it is met; a slice's spare places count too). A statement '..UptoSaid' is the law's where the arguments, and the package variables that the reading takes, are together of bulk at most 1048576: NARROWER than '..Said'. Prove '..Said' where nothing that the law and all that it calls make is longer than what came in: it says more and counts as full. Else prove '..UptoSaid'. A law counts once. -/
mutual
def uptoBulk {H : Type} : DataW H → Nat
  | .lit (.string bytes) => bytes.length + 1
  | .lit _ => 1
  | .nil => 1
  | .ptr d => uptoBulk d + 1
  | .slice elems spare => uptoBulkAll elems + uptoBulkAll spare + 1
  | .agg parts => uptoBulkAll parts + 1
  | .iface _ d => uptoBulk d + 1
  | .map entries => uptoBulkEntries entries + 1
  | .held _ => 1
def uptoBulkAll {H : Type} : List (DataW H) → Nat
  | [] => 0
  | d :: r => uptoBulk d + uptoBulkAll r
def uptoBulkEntries {H : Type} : List (Lit × DataW H) → Nat
  | [] => 0
  | x :: r => uptoBulkEntry x + uptoBulkEntries r
def uptoBulkEntry {H : Type} : Lit × DataW H → Nat
  | (.string bytes, d) => bytes.length + uptoBulk d + 1
  | (_, d) => uptoBulk d + 1
 end
def uptoSmall : (H : Type) → List (DataW H) → Bool := fun _ ds => decide (uptoBulkAll ds ≤ 1048576)
def OpenSpec.upto (s : _root_.Go.ChangeSpec) : _root_.Go.OpenSpec := { _root_.Go.OpenSpec.ofChange s with cond := some uptoSmall }

/-- 'tattinglaw23.CanonKnown', WHERE WHAT IT READS IS OF BULK AT MOST 1048576: true; the input reads as it did. -/
def canonKnownUptoRow : OpenClaim := { program := "ytdegajidkboknaa", sum := "109cadc85c67021ee3e4aae64e39d4b57bc9e38703d0e1d5c73b8d81ba036ac7", func := "tatting/tattinglaw23.CanonKnown", spec := "canonKnown", apart := false, narrowed := true }
def CanonKnownUptoSaid : Prop := canonKnownUptoRow.holds Try.pinned (OpenSpec.upto canonKnownSpec)

/-- 'tattinglaw23.CanonOf', WHERE WHAT IT READS IS OF BULK AT MOST 1048576: true; the input reads as it did. -/
def canonOfUptoRow : OpenClaim := { program := "ytdegajidkboknaa", sum := "109cadc85c67021ee3e4aae64e39d4b57bc9e38703d0e1d5c73b8d81ba036ac7", func := "tatting/tattinglaw23.CanonOf", spec := "canonOf", apart := false, narrowed := true }
def CanonOfUptoSaid : Prop := canonOfUptoRow.holds Try.pinned (OpenSpec.upto canonOfSpec)

/-- 'tattinglaw23.CanonSides', WHERE WHAT IT READS IS OF BULK AT MOST 1048576: true; the input reads as it did. -/
def canonSidesUptoRow : OpenClaim := { program := "ytdegajidkboknaa", sum := "109cadc85c67021ee3e4aae64e39d4b57bc9e38703d0e1d5c73b8d81ba036ac7", func := "tatting/tattinglaw23.CanonSides", spec := "canonSides", apart := false, narrowed := true }
def CanonSidesUptoSaid : Prop := canonSidesUptoRow.holds Try.pinned (OpenSpec.upto canonSidesSpec)

/-- 'tattinglaw23.CanonAny', WHERE WHAT IT READS IS OF BULK AT MOST 1048576: true; the input reads as it did. -/
def canonAnyUptoRow : OpenClaim := { program := "ytdegajidkboknaa", sum := "109cadc85c67021ee3e4aae64e39d4b57bc9e38703d0e1d5c73b8d81ba036ac7", func := "tatting/tattinglaw23.CanonAny", spec := "canonAny", recurses := true, apart := false, narrowed := true }
def CanonAnyUptoSaid : Prop := canonAnyUptoRow.holds Try.pinned (OpenSpec.upto canonAnySpec)

/-- 'tattinglaw23.CanonStays', WHERE WHAT IT READS IS OF BULK AT MOST 1048576: true; the input reads as it did. -/
def canonStaysUptoRow : OpenClaim := { program := "ytdegajidkboknaa", sum := "109cadc85c67021ee3e4aae64e39d4b57bc9e38703d0e1d5c73b8d81ba036ac7", func := "tatting/tattinglaw23.CanonStays", spec := "canonStays", apart := false, narrowed := true }
def CanonStaysUptoSaid : Prop := canonStaysUptoRow.holds Try.pinned (OpenSpec.upto canonStaysSpec)

end Rows
end Go.Proofs.Ytdegajidkboknaa
