/-
  No cell of these rows narrows 'for every input' (looked for: loops, veiled, ifaces, maps, wideKeys, modest, calm, conditions, laid).
  DERIVED. THE GIVEN ROWS OF THIS SEAT. 6 by the template 'for every input the law returns true; each argument reads behind the call as it read before'; 0 by the template 'total and deterministic' (their statements: YtfmkiankjibkfaaTotals.lean).
  GIVEN WITH THE SEED: the statements are not yours to turn. If you find one false, say at which input.
  Laid BY PROGRAM, IN A SANDBOX (cutbox-rows.mjs): the forced cells as the released guide's own fill.sh prints them over the translation 64ee676abaa9fdb1… (all of the seat's roots in one cut). By AI agents, Wed Nov 11 2026. No macro, syntax, notation, axiom, sorry.
-/
import Derived.Test.YtfmkiankjibkfaaChecked
import GoSem.Claim
import GoSem.ClaimJoined
import GoSem.ClaimMapViews
import Derived.JoinedTies
import Derived.KernelRfl
namespace Go.Proofs.Ytfmkiankjibkfaa
/- THE CELL 'sum', in the pinned program and in every row, IS THE sha256 OF THE DUMP (.gsa) THAT YtfmkiankjibkfaaProg.lean LOADS. Nothing in Lean hashes anything: it is a label: what it is worth is what the hold of that sum in a sandbox is worth. -/
noncomputable def Try.pinned : Pinned := { name := "ytfmkiankjibkfaa", sum := "64ee676abaa9fdb18a947d65ddf8b52159ace9ab89d95eafd1a64faf596cff08", checked := Try.checked }
namespace Rows
def none {H : Type} : Left H := { results := [], args := [] }

/-- 'tattinglaw1.TokBack': WHATEVER THE INPUT: true; the input reads as it did. -/
def tokBackSpec : ChangeSpec := { name := "tokBack", fn := fun _ => fun
  | [d1, d2] => { results := [.lit (.bool true)], args := [d1, d2] }
  | _ => none }
def tokBackRow : OpenClaim := { program := "ytfmkiankjibkfaa", sum := "64ee676abaa9fdb18a947d65ddf8b52159ace9ab89d95eafd1a64faf596cff08", func := "tatting/tattinglaw1.TokBack", spec := "tokBack", inPlace := ["internal/bytealg.IndexByte"], apart := false }
def TokBackSaid : Prop := tokBackRow.holds Try.pinned (OpenSpec.ofChange tokBackSpec)

/-- ITS FALSE NEIGHBOUR: 'it returns false'. Refute it at one input. -/
def tokBackWrong : ChangeSpec := { name := "tokBack", fn := fun _ => fun
  | [d1, d2] => { results := [.lit (.bool false)], args := [d1, d2] }
  | _ => none }
def TokBackWrongFalsely : Prop := tokBackRow.holds Try.pinned (OpenSpec.ofChange tokBackWrong)

/-- 'tattinglaw1.TokParts': WHATEVER THE INPUT: true; the input reads as it did. -/
def tokPartsSpec : ChangeSpec := { name := "tokParts", fn := fun _ => fun
  | [d1, d2, d3] => { results := [.lit (.bool true)], args := [d1, d2, d3] }
  | _ => none }
def tokPartsRow : OpenClaim := { program := "ytfmkiankjibkfaa", sum := "64ee676abaa9fdb18a947d65ddf8b52159ace9ab89d95eafd1a64faf596cff08", func := "tatting/tattinglaw1.TokParts", spec := "tokParts", inPlace := ["internal/bytealg.IndexByte"], apart := false }
def TokPartsSaid : Prop := tokPartsRow.holds Try.pinned (OpenSpec.ofChange tokPartsSpec)

/-- ITS FALSE NEIGHBOUR: 'it returns false'. Refute it at one input. -/
def tokPartsWrong : ChangeSpec := { name := "tokParts", fn := fun _ => fun
  | [d1, d2, d3] => { results := [.lit (.bool false)], args := [d1, d2, d3] }
  | _ => none }
def TokPartsWrongFalsely : Prop := tokPartsRow.holds Try.pinned (OpenSpec.ofChange tokPartsWrong)

/-- 'tattinglaw1.TokEnds': WHATEVER THE INPUT: true; the input reads as it did. -/
def tokEndsSpec : ChangeSpec := { name := "tokEnds", fn := fun _ => fun
  | [d] => { results := [.lit (.bool true)], args := [d] }
  | _ => none }
def tokEndsRow : OpenClaim := { program := "ytfmkiankjibkfaa", sum := "64ee676abaa9fdb18a947d65ddf8b52159ace9ab89d95eafd1a64faf596cff08", func := "tatting/tattinglaw1.TokEnds", spec := "tokEnds", inPlace := ["internal/bytealg.IndexByte"], apart := false }
def TokEndsSaid : Prop := tokEndsRow.holds Try.pinned (OpenSpec.ofChange tokEndsSpec)

/-- ITS FALSE NEIGHBOUR: 'it returns false'. Refute it at one input. -/
def tokEndsWrong : ChangeSpec := { name := "tokEnds", fn := fun _ => fun
  | [d] => { results := [.lit (.bool false)], args := [d] }
  | _ => none }
def TokEndsWrongFalsely : Prop := tokEndsRow.holds Try.pinned (OpenSpec.ofChange tokEndsWrong)

/-- 'tattinglaw1.TokNames': WHATEVER THE INPUT: true; the input reads as it did. -/
def tokNamesSpec : ChangeSpec := { name := "tokNames", fn := fun _ => fun
  | [d1, d2, d3] => { results := [.lit (.bool true)], args := [d1, d2, d3] }
  | _ => none }
def tokNamesRow : OpenClaim := { program := "ytfmkiankjibkfaa", sum := "64ee676abaa9fdb18a947d65ddf8b52159ace9ab89d95eafd1a64faf596cff08", func := "tatting/tattinglaw1.TokNames", spec := "tokNames", inPlace := ["internal/bytealg.IndexByte"], apart := false }
def TokNamesSaid : Prop := tokNamesRow.holds Try.pinned (OpenSpec.ofChange tokNamesSpec)

/-- ITS FALSE NEIGHBOUR: 'it returns false'. Refute it at one input. -/
def tokNamesWrong : ChangeSpec := { name := "tokNames", fn := fun _ => fun
  | [d1, d2, d3] => { results := [.lit (.bool false)], args := [d1, d2, d3] }
  | _ => none }
def TokNamesWrongFalsely : Prop := tokNamesRow.holds Try.pinned (OpenSpec.ofChange tokNamesWrong)

/-- 'tattinglaw1.TokCuts': WHATEVER THE INPUT: true; the input reads as it did. -/
def tokCutsSpec : ChangeSpec := { name := "tokCuts", fn := fun _ => fun
  | [d1, d2] => { results := [.lit (.bool true)], args := [d1, d2] }
  | _ => none }
def tokCutsRow : OpenClaim := { program := "ytfmkiankjibkfaa", sum := "64ee676abaa9fdb18a947d65ddf8b52159ace9ab89d95eafd1a64faf596cff08", func := "tatting/tattinglaw1.TokCuts", spec := "tokCuts", inPlace := ["internal/bytealg.IndexByte", "internal/bytealg.Count", "internal/bytealg.Index"], named := ["internal/bytealg.MaxLen"], apart := false }
def TokCutsSaid : Prop := tokCutsRow.holds Try.pinned (OpenSpec.ofChange tokCutsSpec)

/-- ITS FALSE NEIGHBOUR: 'it returns false'. Refute it at one input. -/
def tokCutsWrong : ChangeSpec := { name := "tokCuts", fn := fun _ => fun
  | [d1, d2] => { results := [.lit (.bool false)], args := [d1, d2] }
  | _ => none }
def TokCutsWrongFalsely : Prop := tokCutsRow.holds Try.pinned (OpenSpec.ofChange tokCutsWrong)

/-- 'tattinglaw1.TokKnown': WHATEVER THE INPUT: true; the input reads as it did. -/
def tokKnownSpec : ChangeSpec := { name := "tokKnown", fn := fun _ => fun
  | [] => { results := [.lit (.bool true)], args := [] }
  | _ => none }
def tokKnownRow : OpenClaim := { program := "ytfmkiankjibkfaa", sum := "64ee676abaa9fdb18a947d65ddf8b52159ace9ab89d95eafd1a64faf596cff08", func := "tatting/tattinglaw1.TokKnown", spec := "tokKnown", inPlace := ["internal/bytealg.IndexByte", "internal/bytealg.Count", "internal/bytealg.Index"], named := ["internal/bytealg.MaxLen"], apart := false }
def TokKnownSaid : Prop := tokKnownRow.holds Try.pinned (OpenSpec.ofChange tokKnownSpec)

/-- ITS FALSE NEIGHBOUR: 'it returns false'. Refute it at one input. -/
def tokKnownWrong : ChangeSpec := { name := "tokKnown", fn := fun _ => fun
  | [] => { results := [.lit (.bool false)], args := [] }
  | _ => none }
def TokKnownWrongFalsely : Prop := tokKnownRow.holds Try.pinned (OpenSpec.ofChange tokKnownWrong)

/- THE SECOND FORM. 'bulk': how many values and letters a reading holds, each counted each time it is reached (what is shared counts as often as it is met; a slice's spare places count too). A statement '..UptoSaid' is the law's where the arguments, and the package variables that the reading takes, are together of bulk at most 1048576: NARROWER than '..Said'. Prove '..Said' where nothing that the law and all that it calls make is longer than what came in: it says more and counts as full. Else prove '..UptoSaid'. A law counts once. -/
mutual
def uptoBulk {H : Type} : DataW H → Nat
  | .lit (.string bytes) => bytes.length + 1
  | .lit _ => 1
  | .nil => 1
  | .ptr d => uptoBulk d + 1
  | .slice elems spare => uptoBulkAll elems + uptoBulkAll spare + 1
  | .agg parts => uptoBulkAll parts + 1
  | .iface _ d => uptoBulk d + 1
  | .map entries => uptoBulkEntries entries + 1
  | .held _ => 1
def uptoBulkAll {H : Type} : List (DataW H) → Nat
  | [] => 0
  | d :: r => uptoBulk d + uptoBulkAll r
def uptoBulkEntries {H : Type} : List (Lit × DataW H) → Nat
  | [] => 0
  | x :: r => uptoBulkEntry x + uptoBulkEntries r
def uptoBulkEntry {H : Type} : Lit × DataW H → Nat
  | (.string bytes, d) => bytes.length + uptoBulk d + 1
  | (_, d) => uptoBulk d + 1
 end
def uptoSmall : (H : Type) → List (DataW H) → Bool := fun _ ds => decide (uptoBulkAll ds ≤ 1048576)
def OpenSpec.upto (s : _root_.Go.ChangeSpec) : _root_.Go.OpenSpec := { _root_.Go.OpenSpec.ofChange s with cond := some uptoSmall }

/-- 'tattinglaw1.TokBack', WHERE WHAT IT READS IS OF BULK AT MOST 1048576: true; the input reads as it did. -/
def tokBackUptoRow : OpenClaim := { program := "ytfmkiankjibkfaa", sum := "64ee676abaa9fdb18a947d65ddf8b52159ace9ab89d95eafd1a64faf596cff08", func := "tatting/tattinglaw1.TokBack", spec := "tokBack", inPlace := ["internal/bytealg.IndexByte"], apart := false, narrowed := true }
def TokBackUptoSaid : Prop := tokBackUptoRow.holds Try.pinned (OpenSpec.upto tokBackSpec)

/-- 'tattinglaw1.TokParts', WHERE WHAT IT READS IS OF BULK AT MOST 1048576: true; the input reads as it did. -/
def tokPartsUptoRow : OpenClaim := { program := "ytfmkiankjibkfaa", sum := "64ee676abaa9fdb18a947d65ddf8b52159ace9ab89d95eafd1a64faf596cff08", func := "tatting/tattinglaw1.TokParts", spec := "tokParts", inPlace := ["internal/bytealg.IndexByte"], apart := false, narrowed := true }
def TokPartsUptoSaid : Prop := tokPartsUptoRow.holds Try.pinned (OpenSpec.upto tokPartsSpec)

/-- 'tattinglaw1.TokEnds', WHERE WHAT IT READS IS OF BULK AT MOST 1048576: true; the input reads as it did. -/
def tokEndsUptoRow : OpenClaim := { program := "ytfmkiankjibkfaa", sum := "64ee676abaa9fdb18a947d65ddf8b52159ace9ab89d95eafd1a64faf596cff08", func := "tatting/tattinglaw1.TokEnds", spec := "tokEnds", inPlace := ["internal/bytealg.IndexByte"], apart := false, narrowed := true }
def TokEndsUptoSaid : Prop := tokEndsUptoRow.holds Try.pinned (OpenSpec.upto tokEndsSpec)

/-- 'tattinglaw1.TokNames', WHERE WHAT IT READS IS OF BULK AT MOST 1048576: true; the input reads as it did. -/
def tokNamesUptoRow : OpenClaim := { program := "ytfmkiankjibkfaa", sum := "64ee676abaa9fdb18a947d65ddf8b52159ace9ab89d95eafd1a64faf596cff08", func := "tatting/tattinglaw1.TokNames", spec := "tokNames", inPlace := ["internal/bytealg.IndexByte"], apart := false, narrowed := true }
def TokNamesUptoSaid : Prop := tokNamesUptoRow.holds Try.pinned (OpenSpec.upto tokNamesSpec)

/-- 'tattinglaw1.TokCuts', WHERE WHAT IT READS IS OF BULK AT MOST 1048576: true; the input reads as it did. -/
def tokCutsUptoRow : OpenClaim := { program := "ytfmkiankjibkfaa", sum := "64ee676abaa9fdb18a947d65ddf8b52159ace9ab89d95eafd1a64faf596cff08", func := "tatting/tattinglaw1.TokCuts", spec := "tokCuts", inPlace := ["internal/bytealg.IndexByte", "internal/bytealg.Count", "internal/bytealg.Index"], named := ["internal/bytealg.MaxLen"], apart := false, narrowed := true }
def TokCutsUptoSaid : Prop := tokCutsUptoRow.holds Try.pinned (OpenSpec.upto tokCutsSpec)

/-- 'tattinglaw1.TokKnown', WHERE WHAT IT READS IS OF BULK AT MOST 1048576: true; the input reads as it did. -/
def tokKnownUptoRow : OpenClaim := { program := "ytfmkiankjibkfaa", sum := "64ee676abaa9fdb18a947d65ddf8b52159ace9ab89d95eafd1a64faf596cff08", func := "tatting/tattinglaw1.TokKnown", spec := "tokKnown", inPlace := ["internal/bytealg.IndexByte", "internal/bytealg.Count", "internal/bytealg.Index"], named := ["internal/bytealg.MaxLen"], apart := false, narrowed := true }
def TokKnownUptoSaid : Prop := tokKnownUptoRow.holds Try.pinned (OpenSpec.upto tokKnownSpec)

end Rows
end Go.Proofs.Ytfmkiankjibkfaa
