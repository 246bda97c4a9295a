/-
  No cell of these rows narrows 'for every input' (looked for: loops, veiled, ifaces, maps, wideKeys, modest, calm, conditions, laid).
  DERIVED. THE GIVEN ROWS OF THIS SEAT. 3 by the template 'for every input the law returns true; each argument reads behind the call as it read before'; 0 by the template 'total and deterministic' (their statements: YtnpjdegdojkffaaTotals.lean).
  GIVEN WITH THE SEED: the statements are not yours to turn. If you find one false, say at which input.
  Laid BY PROGRAM, IN A SANDBOX (cutbox-rows.mjs): the forced cells as the released guide's own fill.sh prints them over the translation 41187d69ba30f8b8… (all of the seat's roots in one cut). By AI agents, Wed Nov 11 2026. No macro, syntax, notation, axiom, sorry.
-/
import Derived.Test.YtnpjdegdojkffaaChecked
import GoSem.Claim
import GoSem.ClaimJoined
import GoSem.ClaimMapViews
import Derived.JoinedTies
import Derived.KernelRfl
namespace Go.Proofs.Ytnpjdegdojkffaa
/- THE CELL 'sum', in the pinned program and in every row, IS THE sha256 OF THE DUMP (.gsa) THAT YtnpjdegdojkffaaProg.lean LOADS. Nothing in Lean hashes anything: it is a label: what it is worth is what the hold of that sum in a sandbox is worth. -/
noncomputable def Try.pinned : Pinned := { name := "ytnpjdegdojkffaa", sum := "41187d69ba30f8b81252c1b6a28ece3cc0d9c4127a674dcc7a3a6bd63c97e431", checked := Try.checked }
namespace Rows
def none {H : Type} : Left H := { results := [], args := [] }

/-- 'tattinglaw28.MeterOrder': WHATEVER THE INPUT: true; the input reads as it did. -/
def meterOrderSpec : ChangeSpec := { name := "meterOrder", fn := fun _ => fun
  | [d1, d2] => { results := [.lit (.bool true)], args := [d1, d2] }
  | _ => none }
def meterOrderRow : OpenClaim := { program := "ytnpjdegdojkffaa", sum := "41187d69ba30f8b81252c1b6a28ece3cc0d9c4127a674dcc7a3a6bd63c97e431", func := "tatting/tattinglaw28.MeterOrder", spec := "meterOrder", inPlace := ["sync/atomic.AddInt64", "sync/atomic.LoadInt64"], apart := false }
def MeterOrderSaid : Prop := meterOrderRow.holds Try.pinned (OpenSpec.ofChange meterOrderSpec)

/-- ITS FALSE NEIGHBOUR: 'it returns false'. Refute it at one input. -/
def meterOrderWrong : ChangeSpec := { name := "meterOrder", fn := fun _ => fun
  | [d1, d2] => { results := [.lit (.bool false)], args := [d1, d2] }
  | _ => none }
def MeterOrderWrongFalsely : Prop := meterOrderRow.holds Try.pinned (OpenSpec.ofChange meterOrderWrong)

/-- 'tattinglaw28.MeterKnown': WHATEVER THE INPUT: true; the input reads as it did. -/
def meterKnownSpec : ChangeSpec := { name := "meterKnown", fn := fun _ => fun
  | [] => { results := [.lit (.bool true)], args := [] }
  | _ => none }
def meterKnownRow : OpenClaim := { program := "ytnpjdegdojkffaa", sum := "41187d69ba30f8b81252c1b6a28ece3cc0d9c4127a674dcc7a3a6bd63c97e431", func := "tatting/tattinglaw28.MeterKnown", spec := "meterKnown", inPlace := ["sync/atomic.AddInt64", "sync/atomic.LoadInt64", "sync/atomic.StoreInt64"], apart := false }
def MeterKnownSaid : Prop := meterKnownRow.holds Try.pinned (OpenSpec.ofChange meterKnownSpec)

/-- ITS FALSE NEIGHBOUR: 'it returns false'. Refute it at one input. -/
def meterKnownWrong : ChangeSpec := { name := "meterKnown", fn := fun _ => fun
  | [] => { results := [.lit (.bool false)], args := [] }
  | _ => none }
def MeterKnownWrongFalsely : Prop := meterKnownRow.holds Try.pinned (OpenSpec.ofChange meterKnownWrong)

/-- 'tattinglaw28.MeterPlays': WHATEVER THE INPUT: true; the input reads as it did. -/
def meterPlaysSpec : ChangeSpec := { name := "meterPlays", fn := fun _ => fun
  | [d] => { results := [.lit (.bool true)], args := [d] }
  | _ => none }
def meterPlaysRow : OpenClaim := { program := "ytnpjdegdojkffaa", sum := "41187d69ba30f8b81252c1b6a28ece3cc0d9c4127a674dcc7a3a6bd63c97e431", func := "tatting/tattinglaw28.MeterPlays", spec := "meterPlays", inPlace := ["sync/atomic.AddInt64", "sync/atomic.LoadInt64", "sync/atomic.StoreInt64"], apart := false }
def MeterPlaysSaid : Prop := meterPlaysRow.holds Try.pinned (OpenSpec.ofChange meterPlaysSpec)

/-- ITS FALSE NEIGHBOUR: 'it returns false'. Refute it at one input. -/
def meterPlaysWrong : ChangeSpec := { name := "meterPlays", fn := fun _ => fun
  | [d] => { results := [.lit (.bool false)], args := [d] }
  | _ => none }
def MeterPlaysWrongFalsely : Prop := meterPlaysRow.holds Try.pinned (OpenSpec.ofChange meterPlaysWrong)

/- THE SECOND FORM. 'bulk': how many values and letters a reading holds, each counted each time it is reached (what is shared counts as often as it is met; a slice's spare places count too). A statement '..UptoSaid' is the law's where the arguments, and the package variables that the reading takes, are together of bulk at most 1048576: NARROWER than '..Said'. Prove '..Said' where nothing that the law and all that it calls make is longer than what came in: it says more and counts as full. Else prove '..UptoSaid'. A law counts once. -/
mutual
def uptoBulk {H : Type} : DataW H → Nat
  | .lit (.string bytes) => bytes.length + 1
  | .lit _ => 1
  | .nil => 1
  | .ptr d => uptoBulk d + 1
  | .slice elems spare => uptoBulkAll elems + uptoBulkAll spare + 1
  | .agg parts => uptoBulkAll parts + 1
  | .iface _ d => uptoBulk d + 1
  | .map entries => uptoBulkEntries entries + 1
  | .held _ => 1
def uptoBulkAll {H : Type} : List (DataW H) → Nat
  | [] => 0
  | d :: r => uptoBulk d + uptoBulkAll r
def uptoBulkEntries {H : Type} : List (Lit × DataW H) → Nat
  | [] => 0
  | x :: r => uptoBulkEntry x + uptoBulkEntries r
def uptoBulkEntry {H : Type} : Lit × DataW H → Nat
  | (.string bytes, d) => bytes.length + uptoBulk d + 1
  | (_, d) => uptoBulk d + 1
 end
def uptoSmall : (H : Type) → List (DataW H) → Bool := fun _ ds => decide (uptoBulkAll ds ≤ 1048576)
def OpenSpec.upto (s : _root_.Go.ChangeSpec) : _root_.Go.OpenSpec := { _root_.Go.OpenSpec.ofChange s with cond := some uptoSmall }

/-- 'tattinglaw28.MeterOrder', WHERE WHAT IT READS IS OF BULK AT MOST 1048576: true; the input reads as it did. -/
def meterOrderUptoRow : OpenClaim := { program := "ytnpjdegdojkffaa", sum := "41187d69ba30f8b81252c1b6a28ece3cc0d9c4127a674dcc7a3a6bd63c97e431", func := "tatting/tattinglaw28.MeterOrder", spec := "meterOrder", inPlace := ["sync/atomic.AddInt64", "sync/atomic.LoadInt64"], apart := false, narrowed := true }
def MeterOrderUptoSaid : Prop := meterOrderUptoRow.holds Try.pinned (OpenSpec.upto meterOrderSpec)

/-- 'tattinglaw28.MeterKnown', WHERE WHAT IT READS IS OF BULK AT MOST 1048576: true; the input reads as it did. -/
def meterKnownUptoRow : OpenClaim := { program := "ytnpjdegdojkffaa", sum := "41187d69ba30f8b81252c1b6a28ece3cc0d9c4127a674dcc7a3a6bd63c97e431", func := "tatting/tattinglaw28.MeterKnown", spec := "meterKnown", inPlace := ["sync/atomic.AddInt64", "sync/atomic.LoadInt64", "sync/atomic.StoreInt64"], apart := false, narrowed := true }
def MeterKnownUptoSaid : Prop := meterKnownUptoRow.holds Try.pinned (OpenSpec.upto meterKnownSpec)

/-- 'tattinglaw28.MeterPlays', WHERE WHAT IT READS IS OF BULK AT MOST 1048576: true; the input reads as it did. -/
def meterPlaysUptoRow : OpenClaim := { program := "ytnpjdegdojkffaa", sum := "41187d69ba30f8b81252c1b6a28ece3cc0d9c4127a674dcc7a3a6bd63c97e431", func := "tatting/tattinglaw28.MeterPlays", spec := "meterPlays", inPlace := ["sync/atomic.AddInt64", "sync/atomic.LoadInt64", "sync/atomic.StoreInt64"], apart := false, narrowed := true }
def MeterPlaysUptoSaid : Prop := meterPlaysUptoRow.holds Try.pinned (OpenSpec.upto meterPlaysSpec)

end Rows
end Go.Proofs.Ytnpjdegdojkffaa
