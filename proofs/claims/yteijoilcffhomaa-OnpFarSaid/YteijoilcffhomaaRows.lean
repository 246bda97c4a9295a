/-
  No cell of these rows narrows 'for every input' (looked for: loops, veiled, ifaces, maps, wideKeys, modest, calm, conditions, laid).
  DERIVED. THE GIVEN ROWS OF THIS SEAT. 6 by the template 'for every input the law returns true; each argument reads behind the call as it read before'; 0 by the template 'total and deterministic' (their statements: YteijoilcffhomaaTotals.lean).
  GIVEN WITH THE SEED: the statements are not yours to turn. If you find one false, say at which input.
  Laid BY PROGRAM, IN A SANDBOX (cutbox-rows.mjs): the forced cells as the released guide's own fill.sh prints them over the translation 380a302c40d6c9fa… (all of the seat's roots in one cut). By AI agents, Wed Nov 11 2026. No macro, syntax, notation, axiom, sorry.
-/
import Derived.Test.YteijoilcffhomaaChecked
import GoSem.Claim
import GoSem.ClaimJoined
import GoSem.ClaimMapViews
import Derived.JoinedTies
import Derived.KernelRfl
namespace Go.Proofs.Yteijoilcffhomaa
/- THE CELL 'sum', in the pinned program and in every row, IS THE sha256 OF THE DUMP (.gsa) THAT YteijoilcffhomaaProg.lean LOADS. Nothing in Lean hashes anything: it is a label: what it is worth is what the hold of that sum in a sandbox is worth. -/
noncomputable def Try.pinned : Pinned := { name := "yteijoilcffhomaa", sum := "380a302c40d6c9fad38326379c24bfa299ad9b6f07b3528faa7ef233668f3570", checked := Try.checked }
namespace Rows
def none {H : Type} : Left H := { results := [], args := [] }

/-- 'tattinglaw18.OnpKnown': WHATEVER THE INPUT: true; the input reads as it did. -/
def onpKnownSpec : ChangeSpec := { name := "onpKnown", fn := fun _ => fun
  | [] => { results := [.lit (.bool true)], args := [] }
  | _ => none }
def onpKnownRow : OpenClaim := { program := "yteijoilcffhomaa", sum := "380a302c40d6c9fad38326379c24bfa299ad9b6f07b3528faa7ef233668f3570", func := "tatting/tattinglaw18.OnpKnown", spec := "onpKnown", unfollowed := true, recurses := true, apart := false }
def OnpKnownSaid : Prop := onpKnownRow.holds Try.pinned (OpenSpec.ofChange onpKnownSpec)

/-- ITS FALSE NEIGHBOUR: 'it returns false'. Refute it at one input. -/
def onpKnownWrong : ChangeSpec := { name := "onpKnown", fn := fun _ => fun
  | [] => { results := [.lit (.bool false)], args := [] }
  | _ => none }
def OnpKnownWrongFalsely : Prop := onpKnownRow.holds Try.pinned (OpenSpec.ofChange onpKnownWrong)

/-- 'tattinglaw18.OnpDist': WHATEVER THE INPUT: true; the input reads as it did. -/
def onpDistSpec : ChangeSpec := { name := "onpDist", fn := fun _ => fun
  | [d1, d2] => { results := [.lit (.bool true)], args := [d1, d2] }
  | _ => none }
def onpDistRow : OpenClaim := { program := "yteijoilcffhomaa", sum := "380a302c40d6c9fad38326379c24bfa299ad9b6f07b3528faa7ef233668f3570", func := "tatting/tattinglaw18.OnpDist", spec := "onpDist", unfollowed := true, recurses := true, apart := false }
def OnpDistSaid : Prop := onpDistRow.holds Try.pinned (OpenSpec.ofChange onpDistSpec)

/-- ITS FALSE NEIGHBOUR: 'it returns false'. Refute it at one input. -/
def onpDistWrong : ChangeSpec := { name := "onpDist", fn := fun _ => fun
  | [d1, d2] => { results := [.lit (.bool false)], args := [d1, d2] }
  | _ => none }
def OnpDistWrongFalsely : Prop := onpDistRow.holds Try.pinned (OpenSpec.ofChange onpDistWrong)

/-- 'tattinglaw18.OnpRuns': WHATEVER THE INPUT: true; the input reads as it did. -/
def onpRunsSpec : ChangeSpec := { name := "onpRuns", fn := fun _ => fun
  | [d1, d2] => { results := [.lit (.bool true)], args := [d1, d2] }
  | _ => none }
def onpRunsRow : OpenClaim := { program := "yteijoilcffhomaa", sum := "380a302c40d6c9fad38326379c24bfa299ad9b6f07b3528faa7ef233668f3570", func := "tatting/tattinglaw18.OnpRuns", spec := "onpRuns", unfollowed := true, recurses := true, apart := false }
def OnpRunsSaid : Prop := onpRunsRow.holds Try.pinned (OpenSpec.ofChange onpRunsSpec)

/-- ITS FALSE NEIGHBOUR: 'it returns false'. Refute it at one input. -/
def onpRunsWrong : ChangeSpec := { name := "onpRuns", fn := fun _ => fun
  | [d1, d2] => { results := [.lit (.bool false)], args := [d1, d2] }
  | _ => none }
def OnpRunsWrongFalsely : Prop := onpRunsRow.holds Try.pinned (OpenSpec.ofChange onpRunsWrong)

/-- 'tattinglaw18.OnpFar': WHATEVER THE INPUT: true; the input reads as it did. -/
def onpFarSpec : ChangeSpec := { name := "onpFar", fn := fun _ => fun
  | [d1, d2, d3] => { results := [.lit (.bool true)], args := [d1, d2, d3] }
  | _ => none }
def onpFarRow : OpenClaim := { program := "yteijoilcffhomaa", sum := "380a302c40d6c9fad38326379c24bfa299ad9b6f07b3528faa7ef233668f3570", func := "tatting/tattinglaw18.OnpFar", spec := "onpFar", unfollowed := true, recurses := true, apart := false }
def OnpFarSaid : Prop := onpFarRow.holds Try.pinned (OpenSpec.ofChange onpFarSpec)

/-- ITS FALSE NEIGHBOUR: 'it returns false'. Refute it at one input. -/
def onpFarWrong : ChangeSpec := { name := "onpFar", fn := fun _ => fun
  | [d1, d2, d3] => { results := [.lit (.bool false)], args := [d1, d2, d3] }
  | _ => none }
def OnpFarWrongFalsely : Prop := onpFarRow.holds Try.pinned (OpenSpec.ofChange onpFarWrong)

/-- 'tattinglaw18.OnpGoes': WHATEVER THE INPUT: true; the input reads as it did. -/
def onpGoesSpec : ChangeSpec := { name := "onpGoes", fn := fun _ => fun
  | [d1, d2] => { results := [.lit (.bool true)], args := [d1, d2] }
  | _ => none }
def onpGoesRow : OpenClaim := { program := "yteijoilcffhomaa", sum := "380a302c40d6c9fad38326379c24bfa299ad9b6f07b3528faa7ef233668f3570", func := "tatting/tattinglaw18.OnpGoes", spec := "onpGoes", unfollowed := true, recurses := true, apart := false }
def OnpGoesSaid : Prop := onpGoesRow.holds Try.pinned (OpenSpec.ofChange onpGoesSpec)

/-- ITS FALSE NEIGHBOUR: 'it returns false'. Refute it at one input. -/
def onpGoesWrong : ChangeSpec := { name := "onpGoes", fn := fun _ => fun
  | [d1, d2] => { results := [.lit (.bool false)], args := [d1, d2] }
  | _ => none }
def OnpGoesWrongFalsely : Prop := onpGoesRow.holds Try.pinned (OpenSpec.ofChange onpGoesWrong)

/-- 'tattinglaw18.OnpMost': WHATEVER THE INPUT: true; the input reads as it did. -/
def onpMostSpec : ChangeSpec := { name := "onpMost", fn := fun _ => fun
  | [d1, d2, d3] => { results := [.lit (.bool true)], args := [d1, d2, d3] }
  | _ => none }
def onpMostRow : OpenClaim := { program := "yteijoilcffhomaa", sum := "380a302c40d6c9fad38326379c24bfa299ad9b6f07b3528faa7ef233668f3570", func := "tatting/tattinglaw18.OnpMost", spec := "onpMost", unfollowed := true, recurses := true, apart := false }
def OnpMostSaid : Prop := onpMostRow.holds Try.pinned (OpenSpec.ofChange onpMostSpec)

/-- ITS FALSE NEIGHBOUR: 'it returns false'. Refute it at one input. -/
def onpMostWrong : ChangeSpec := { name := "onpMost", fn := fun _ => fun
  | [d1, d2, d3] => { results := [.lit (.bool false)], args := [d1, d2, d3] }
  | _ => none }
def OnpMostWrongFalsely : Prop := onpMostRow.holds Try.pinned (OpenSpec.ofChange onpMostWrong)

/- THE SECOND FORM. 'bulk': how many values and letters a reading holds, each counted each time it is reached (what is shared counts as often as it is met; a slice's spare places count too). A statement '..UptoSaid' is the law's where the arguments, and the package variables that the reading takes, are together of bulk at most 1048576: NARROWER than '..Said'. Prove '..Said' where nothing that the law and all that it calls make is longer than what came in: it says more and counts as full. Else prove '..UptoSaid'. A law counts once. -/
mutual
def uptoBulk {H : Type} : DataW H → Nat
  | .lit (.string bytes) => bytes.length + 1
  | .lit _ => 1
  | .nil => 1
  | .ptr d => uptoBulk d + 1
  | .slice elems spare => uptoBulkAll elems + uptoBulkAll spare + 1
  | .agg parts => uptoBulkAll parts + 1
  | .iface _ d => uptoBulk d + 1
  | .map entries => uptoBulkEntries entries + 1
  | .held _ => 1
def uptoBulkAll {H : Type} : List (DataW H) → Nat
  | [] => 0
  | d :: r => uptoBulk d + uptoBulkAll r
def uptoBulkEntries {H : Type} : List (Lit × DataW H) → Nat
  | [] => 0
  | x :: r => uptoBulkEntry x + uptoBulkEntries r
def uptoBulkEntry {H : Type} : Lit × DataW H → Nat
  | (.string bytes, d) => bytes.length + uptoBulk d + 1
  | (_, d) => uptoBulk d + 1
 end
def uptoSmall : (H : Type) → List (DataW H) → Bool := fun _ ds => decide (uptoBulkAll ds ≤ 1048576)
def OpenSpec.upto (s : _root_.Go.ChangeSpec) : _root_.Go.OpenSpec := { _root_.Go.OpenSpec.ofChange s with cond := some uptoSmall }

/-- 'tattinglaw18.OnpKnown', WHERE WHAT IT READS IS OF BULK AT MOST 1048576: true; the input reads as it did. -/
def onpKnownUptoRow : OpenClaim := { program := "yteijoilcffhomaa", sum := "380a302c40d6c9fad38326379c24bfa299ad9b6f07b3528faa7ef233668f3570", func := "tatting/tattinglaw18.OnpKnown", spec := "onpKnown", unfollowed := true, recurses := true, apart := false, narrowed := true }
def OnpKnownUptoSaid : Prop := onpKnownUptoRow.holds Try.pinned (OpenSpec.upto onpKnownSpec)

/-- 'tattinglaw18.OnpDist', WHERE WHAT IT READS IS OF BULK AT MOST 1048576: true; the input reads as it did. -/
def onpDistUptoRow : OpenClaim := { program := "yteijoilcffhomaa", sum := "380a302c40d6c9fad38326379c24bfa299ad9b6f07b3528faa7ef233668f3570", func := "tatting/tattinglaw18.OnpDist", spec := "onpDist", unfollowed := true, recurses := true, apart := false, narrowed := true }
def OnpDistUptoSaid : Prop := onpDistUptoRow.holds Try.pinned (OpenSpec.upto onpDistSpec)

/-- 'tattinglaw18.OnpRuns', WHERE WHAT IT READS IS OF BULK AT MOST 1048576: true; the input reads as it did. -/
def onpRunsUptoRow : OpenClaim := { program := "yteijoilcffhomaa", sum := "380a302c40d6c9fad38326379c24bfa299ad9b6f07b3528faa7ef233668f3570", func := "tatting/tattinglaw18.OnpRuns", spec := "onpRuns", unfollowed := true, recurses := true, apart := false, narrowed := true }
def OnpRunsUptoSaid : Prop := onpRunsUptoRow.holds Try.pinned (OpenSpec.upto onpRunsSpec)

/-- 'tattinglaw18.OnpFar', WHERE WHAT IT READS IS OF BULK AT MOST 1048576: true; the input reads as it did. -/
def onpFarUptoRow : OpenClaim := { program := "yteijoilcffhomaa", sum := "380a302c40d6c9fad38326379c24bfa299ad9b6f07b3528faa7ef233668f3570", func := "tatting/tattinglaw18.OnpFar", spec := "onpFar", unfollowed := true, recurses := true, apart := false, narrowed := true }
def OnpFarUptoSaid : Prop := onpFarUptoRow.holds Try.pinned (OpenSpec.upto onpFarSpec)

/-- 'tattinglaw18.OnpGoes', WHERE WHAT IT READS IS OF BULK AT MOST 1048576: true; the input reads as it did. -/
def onpGoesUptoRow : OpenClaim := { program := "yteijoilcffhomaa", sum := "380a302c40d6c9fad38326379c24bfa299ad9b6f07b3528faa7ef233668f3570", func := "tatting/tattinglaw18.OnpGoes", spec := "onpGoes", unfollowed := true, recurses := true, apart := false, narrowed := true }
def OnpGoesUptoSaid : Prop := onpGoesUptoRow.holds Try.pinned (OpenSpec.upto onpGoesSpec)

/-- 'tattinglaw18.OnpMost', WHERE WHAT IT READS IS OF BULK AT MOST 1048576: true; the input reads as it did. -/
def onpMostUptoRow : OpenClaim := { program := "yteijoilcffhomaa", sum := "380a302c40d6c9fad38326379c24bfa299ad9b6f07b3528faa7ef233668f3570", func := "tatting/tattinglaw18.OnpMost", spec := "onpMost", unfollowed := true, recurses := true, apart := false, narrowed := true }
def OnpMostUptoSaid : Prop := onpMostUptoRow.holds Try.pinned (OpenSpec.upto onpMostSpec)

end Rows
end Go.Proofs.Yteijoilcffhomaa
