/-
  No cell of these rows narrows 'for every input' (looked for: loops, veiled, ifaces, maps, wideKeys, modest, calm, conditions, laid).
  DERIVED. THE GIVEN ROWS OF THIS SEAT. 6 by the template 'for every input the law returns true; each argument reads behind the call as it read before'; 0 by the template 'total and deterministic' (their statements: YtlodaoijokfblaaTotals.lean).
  GIVEN WITH THE SEED: the statements are not yours to turn. If you find one false, say at which input.
  Laid BY PROGRAM, IN A SANDBOX (cutbox-rows.mjs): the forced cells as the released guide's own fill.sh prints them over the translation f25f82d91076c0a2… (all of the seat's roots in one cut). By AI agents, Wed Nov 11 2026. No macro, syntax, notation, axiom, sorry.
-/
import Derived.Test.YtlodaoijokfblaaChecked
import GoSem.Claim
import GoSem.ClaimJoined
import GoSem.ClaimMapViews
import Derived.JoinedTies
import Derived.KernelRfl
namespace Go.Proofs.Ytlodaoijokfblaa
/- THE CELL 'sum', in the pinned program and in every row, IS THE sha256 OF THE DUMP (.gsa) THAT YtlodaoijokfblaaProg.lean LOADS. Nothing in Lean hashes anything: it is a label: what it is worth is what the hold of that sum in a sandbox is worth. -/
noncomputable def Try.pinned : Pinned := { name := "ytlodaoijokfblaa", sum := "f25f82d91076c0a2564ade3052a754ff4b752ff92323c45523680cf6951e816d", checked := Try.checked }
namespace Rows
def none {H : Type} : Left H := { results := [], args := [] }

/-- 'tattinglaw25.PatchKnown': WHATEVER THE INPUT: true; the input reads as it did. -/
def patchKnownSpec : ChangeSpec := { name := "patchKnown", fn := fun _ => fun
  | [] => { results := [.lit (.bool true)], args := [] }
  | _ => none }
def patchKnownRow : OpenClaim := { program := "ytlodaoijokfblaa", sum := "f25f82d91076c0a2564ade3052a754ff4b752ff92323c45523680cf6951e816d", func := "tatting/tattinglaw25.PatchKnown", spec := "patchKnown", unfollowed := true, recurses := true, apart := false }
def PatchKnownSaid : Prop := patchKnownRow.holds Try.pinned (OpenSpec.ofChange patchKnownSpec)

/-- ITS FALSE NEIGHBOUR: 'it returns false'. Refute it at one input. -/
def patchKnownWrong : ChangeSpec := { name := "patchKnown", fn := fun _ => fun
  | [] => { results := [.lit (.bool false)], args := [] }
  | _ => none }
def PatchKnownWrongFalsely : Prop := patchKnownRow.holds Try.pinned (OpenSpec.ofChange patchKnownWrong)

/-- 'tattinglaw25.PatchApplies': WHATEVER THE INPUT: true; the input reads as it did. -/
def patchAppliesSpec : ChangeSpec := { name := "patchApplies", fn := fun _ => fun
  | [d1, d2] => { results := [.lit (.bool true)], args := [d1, d2] }
  | _ => none }
def patchAppliesRow : OpenClaim := { program := "ytlodaoijokfblaa", sum := "f25f82d91076c0a2564ade3052a754ff4b752ff92323c45523680cf6951e816d", func := "tatting/tattinglaw25.PatchApplies", spec := "patchApplies", unfollowed := true, recurses := true, apart := false }
def PatchAppliesSaid : Prop := patchAppliesRow.holds Try.pinned (OpenSpec.ofChange patchAppliesSpec)

/-- ITS FALSE NEIGHBOUR: 'it returns false'. Refute it at one input. -/
def patchAppliesWrong : ChangeSpec := { name := "patchApplies", fn := fun _ => fun
  | [d1, d2] => { results := [.lit (.bool false)], args := [d1, d2] }
  | _ => none }
def PatchAppliesWrongFalsely : Prop := patchAppliesRow.holds Try.pinned (OpenSpec.ofChange patchAppliesWrong)

/-- 'tattinglaw25.PatchInverts': WHATEVER THE INPUT: true; the input reads as it did. -/
def patchInvertsSpec : ChangeSpec := { name := "patchInverts", fn := fun _ => fun
  | [d] => { results := [.lit (.bool true)], args := [d] }
  | _ => none }
def patchInvertsRow : OpenClaim := { program := "ytlodaoijokfblaa", sum := "f25f82d91076c0a2564ade3052a754ff4b752ff92323c45523680cf6951e816d", func := "tatting/tattinglaw25.PatchInverts", spec := "patchInverts", unfollowed := true, recurses := true, apart := false }
def PatchInvertsSaid : Prop := patchInvertsRow.holds Try.pinned (OpenSpec.ofChange patchInvertsSpec)

/-- ITS FALSE NEIGHBOUR: 'it returns false'. Refute it at one input. -/
def patchInvertsWrong : ChangeSpec := { name := "patchInverts", fn := fun _ => fun
  | [d] => { results := [.lit (.bool false)], args := [d] }
  | _ => none }
def PatchInvertsWrongFalsely : Prop := patchInvertsRow.holds Try.pinned (OpenSpec.ofChange patchInvertsWrong)

/-- 'tattinglaw25.PatchBack': WHATEVER THE INPUT: true; the input reads as it did. -/
def patchBackSpec : ChangeSpec := { name := "patchBack", fn := fun _ => fun
  | [d1, d2] => { results := [.lit (.bool true)], args := [d1, d2] }
  | _ => none }
def patchBackRow : OpenClaim := { program := "ytlodaoijokfblaa", sum := "f25f82d91076c0a2564ade3052a754ff4b752ff92323c45523680cf6951e816d", func := "tatting/tattinglaw25.PatchBack", spec := "patchBack", unfollowed := true, recurses := true, apart := false }
def PatchBackSaid : Prop := patchBackRow.holds Try.pinned (OpenSpec.ofChange patchBackSpec)

/-- ITS FALSE NEIGHBOUR: 'it returns false'. Refute it at one input. -/
def patchBackWrong : ChangeSpec := { name := "patchBack", fn := fun _ => fun
  | [d1, d2] => { results := [.lit (.bool false)], args := [d1, d2] }
  | _ => none }
def PatchBackWrongFalsely : Prop := patchBackRow.holds Try.pinned (OpenSpec.ofChange patchBackWrong)

/-- 'tattinglaw25.PatchMade': WHATEVER THE INPUT: true; the input reads as it did. -/
def patchMadeSpec : ChangeSpec := { name := "patchMade", fn := fun _ => fun
  | [d1, d2] => { results := [.lit (.bool true)], args := [d1, d2] }
  | _ => none }
def patchMadeRow : OpenClaim := { program := "ytlodaoijokfblaa", sum := "f25f82d91076c0a2564ade3052a754ff4b752ff92323c45523680cf6951e816d", func := "tatting/tattinglaw25.PatchMade", spec := "patchMade", unfollowed := true, recurses := true, apart := false }
def PatchMadeSaid : Prop := patchMadeRow.holds Try.pinned (OpenSpec.ofChange patchMadeSpec)

/-- ITS FALSE NEIGHBOUR: 'it returns false'. Refute it at one input. -/
def patchMadeWrong : ChangeSpec := { name := "patchMade", fn := fun _ => fun
  | [d1, d2] => { results := [.lit (.bool false)], args := [d1, d2] }
  | _ => none }
def PatchMadeWrongFalsely : Prop := patchMadeRow.holds Try.pinned (OpenSpec.ofChange patchMadeWrong)

/-- 'tattinglaw25.PatchFewest': WHATEVER THE INPUT: true; the input reads as it did. -/
def patchFewestSpec : ChangeSpec := { name := "patchFewest", fn := fun _ => fun
  | [d1, d2] => { results := [.lit (.bool true)], args := [d1, d2] }
  | _ => none }
def patchFewestRow : OpenClaim := { program := "ytlodaoijokfblaa", sum := "f25f82d91076c0a2564ade3052a754ff4b752ff92323c45523680cf6951e816d", func := "tatting/tattinglaw25.PatchFewest", spec := "patchFewest", unfollowed := true, recurses := true, apart := false }
def PatchFewestSaid : Prop := patchFewestRow.holds Try.pinned (OpenSpec.ofChange patchFewestSpec)

/-- ITS FALSE NEIGHBOUR: 'it returns false'. Refute it at one input. -/
def patchFewestWrong : ChangeSpec := { name := "patchFewest", fn := fun _ => fun
  | [d1, d2] => { results := [.lit (.bool false)], args := [d1, d2] }
  | _ => none }
def PatchFewestWrongFalsely : Prop := patchFewestRow.holds Try.pinned (OpenSpec.ofChange patchFewestWrong)

/- THE SECOND FORM. 'bulk': how many values and letters a reading holds, each counted each time it is reached (what is shared counts as often as it is met; a slice's spare places count too). A statement '..UptoSaid' is the law's where the arguments, and the package variables that the reading takes, are together of bulk at most 1048576: NARROWER than '..Said'. Prove '..Said' where nothing that the law and all that it calls make is longer than what came in: it says more and counts as full. Else prove '..UptoSaid'. A law counts once. -/
mutual
def uptoBulk {H : Type} : DataW H → Nat
  | .lit (.string bytes) => bytes.length + 1
  | .lit _ => 1
  | .nil => 1
  | .ptr d => uptoBulk d + 1
  | .slice elems spare => uptoBulkAll elems + uptoBulkAll spare + 1
  | .agg parts => uptoBulkAll parts + 1
  | .iface _ d => uptoBulk d + 1
  | .map entries => uptoBulkEntries entries + 1
  | .held _ => 1
def uptoBulkAll {H : Type} : List (DataW H) → Nat
  | [] => 0
  | d :: r => uptoBulk d + uptoBulkAll r
def uptoBulkEntries {H : Type} : List (Lit × DataW H) → Nat
  | [] => 0
  | x :: r => uptoBulkEntry x + uptoBulkEntries r
def uptoBulkEntry {H : Type} : Lit × DataW H → Nat
  | (.string bytes, d) => bytes.length + uptoBulk d + 1
  | (_, d) => uptoBulk d + 1
 end
def uptoSmall : (H : Type) → List (DataW H) → Bool := fun _ ds => decide (uptoBulkAll ds ≤ 1048576)
def OpenSpec.upto (s : _root_.Go.ChangeSpec) : _root_.Go.OpenSpec := { _root_.Go.OpenSpec.ofChange s with cond := some uptoSmall }

/-- 'tattinglaw25.PatchKnown', WHERE WHAT IT READS IS OF BULK AT MOST 1048576: true; the input reads as it did. -/
def patchKnownUptoRow : OpenClaim := { program := "ytlodaoijokfblaa", sum := "f25f82d91076c0a2564ade3052a754ff4b752ff92323c45523680cf6951e816d", func := "tatting/tattinglaw25.PatchKnown", spec := "patchKnown", unfollowed := true, recurses := true, apart := false, narrowed := true }
def PatchKnownUptoSaid : Prop := patchKnownUptoRow.holds Try.pinned (OpenSpec.upto patchKnownSpec)

/-- 'tattinglaw25.PatchApplies', WHERE WHAT IT READS IS OF BULK AT MOST 1048576: true; the input reads as it did. -/
def patchAppliesUptoRow : OpenClaim := { program := "ytlodaoijokfblaa", sum := "f25f82d91076c0a2564ade3052a754ff4b752ff92323c45523680cf6951e816d", func := "tatting/tattinglaw25.PatchApplies", spec := "patchApplies", unfollowed := true, recurses := true, apart := false, narrowed := true }
def PatchAppliesUptoSaid : Prop := patchAppliesUptoRow.holds Try.pinned (OpenSpec.upto patchAppliesSpec)

/-- 'tattinglaw25.PatchInverts', WHERE WHAT IT READS IS OF BULK AT MOST 1048576: true; the input reads as it did. -/
def patchInvertsUptoRow : OpenClaim := { program := "ytlodaoijokfblaa", sum := "f25f82d91076c0a2564ade3052a754ff4b752ff92323c45523680cf6951e816d", func := "tatting/tattinglaw25.PatchInverts", spec := "patchInverts", unfollowed := true, recurses := true, apart := false, narrowed := true }
def PatchInvertsUptoSaid : Prop := patchInvertsUptoRow.holds Try.pinned (OpenSpec.upto patchInvertsSpec)

/-- 'tattinglaw25.PatchBack', WHERE WHAT IT READS IS OF BULK AT MOST 1048576: true; the input reads as it did. -/
def patchBackUptoRow : OpenClaim := { program := "ytlodaoijokfblaa", sum := "f25f82d91076c0a2564ade3052a754ff4b752ff92323c45523680cf6951e816d", func := "tatting/tattinglaw25.PatchBack", spec := "patchBack", unfollowed := true, recurses := true, apart := false, narrowed := true }
def PatchBackUptoSaid : Prop := patchBackUptoRow.holds Try.pinned (OpenSpec.upto patchBackSpec)

/-- 'tattinglaw25.PatchMade', WHERE WHAT IT READS IS OF BULK AT MOST 1048576: true; the input reads as it did. -/
def patchMadeUptoRow : OpenClaim := { program := "ytlodaoijokfblaa", sum := "f25f82d91076c0a2564ade3052a754ff4b752ff92323c45523680cf6951e816d", func := "tatting/tattinglaw25.PatchMade", spec := "patchMade", unfollowed := true, recurses := true, apart := false, narrowed := true }
def PatchMadeUptoSaid : Prop := patchMadeUptoRow.holds Try.pinned (OpenSpec.upto patchMadeSpec)

/-- 'tattinglaw25.PatchFewest', WHERE WHAT IT READS IS OF BULK AT MOST 1048576: true; the input reads as it did. -/
def patchFewestUptoRow : OpenClaim := { program := "ytlodaoijokfblaa", sum := "f25f82d91076c0a2564ade3052a754ff4b752ff92323c45523680cf6951e816d", func := "tatting/tattinglaw25.PatchFewest", spec := "patchFewest", unfollowed := true, recurses := true, apart := false, narrowed := true }
def PatchFewestUptoSaid : Prop := patchFewestUptoRow.holds Try.pinned (OpenSpec.upto patchFewestSpec)

end Rows
end Go.Proofs.Ytlodaoijokfblaa
