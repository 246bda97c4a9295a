/- What the given program's functions come to, each a Lean function and the walk that shows it: no condition beside those that each theorem names. -/
import Derived.Test.YtdegajidkboknaaRows
import Derived.Test.YtdegajidkboknaaPCanonOfx10
import Derived.Test.YtdegajidkboknaaPureCanonOf
import Derived.WalkKit
import Derived.ProofKit
import Derived.OpenShut
import Derived.ShutString
import Derived.ChangeOld
import Derived.Below
import Derived.SizedLaws
import Derived.Test.YtdegajidkboknaaWSized
import Derived.Deep.SlicePairs
import Derived.Deep.Grids
namespace Go.Proofs.Ytdegajidkboknaa.canonOf
open Go.ChangeShapes Go.WideShapes Go.ChangeAt Go.RowKit
open Go.ChangeMaps (open_string shut_string)
set_option linter.unusedVariables false
theorem own : ownKnob Try.prog.godebug = none := by kernel_rfl
theorem laidOut : laidOutB Try.prog = true := by kernel_rfl
def IsRow (k : IntKind) (w : World) (a : Option Addr) (len cap : Nat) (zs : List Int) : Prop :=
 (a = none ∧ len = 0 ∧ cap = 0 ∧ zs = []) ∨
 ∃ x, a = some x ∧ len ≤ cap ∧ cap ≤ maxLen ∧ zs.length = cap ∧ (∀ i, i < zs.length → w.cell? (x.add i) = some (.int k (zs.getD i 0))) ∧ ∀ n ∈ zs, (Lit.int k n).wf = true
theorem openPairRow {H : Type} {enc : TypeId × Value → H} {P : Program} {w : World} {base : Nat} {spare : Nat → Bool} {held : Bool} {t e : TypeId} {f0 f1 : Field} {a : Option Addr} {len cap : Nat} {d : DataW H} {p : List MemPlace}
  (ht : P.underlying t = some (.slice e)) (he : P.underlying e = some (.struct #[f0, f1])) (ce : P.cellsOf e = 2) (o0 : f0.offset = 0) (o1 : f1.offset = 1) (c0 : P.cellsOf f0.type = 1) (c1 : P.cellsOf f1.type = 1)
  (i0 : P.underlying f0.type = some (.int .i64)) (i1 : P.underlying f1.type = some (.int .i64)) (h : DataW.Trod enc P w base spare held t (.slice a len cap) d p) :
  ∃ xs : List Go.Proofs.Ytdegajidkboknaa.PCanonOf.S28, len = xs.length ∧ (Go.Proofs.YtdegajidkboknaaW.PrintWords.Kd.C Go.Proofs.Ytdegajidkboknaa.PCanonOf.k28 w a xs.length xs ∧ xs.length ≤ cap ∧ xs.length ≤ maxLen ∧ (∀ x ∈ xs, (Lit.int .i64 x.f0).wf = true ∧ (Lit.int .i64 x.f1).wf = true)) := by
 obtain ⟨fuel, hf⟩ := h
 rcases Go.Deep.open_slice_pairs ht he ce o0 o1 c0 c1 hf with ⟨hcs, _⟩ | ⟨x, l, c, m, n, V0, V1, D0, D1, P0, P1, hcs, _, hl, hm, hmm, _, hi⟩
 ·simp [Value.cells] at hcs
  obtain ⟨rfl, rfl, rfl⟩ := hcs
  exact ⟨[], rfl, ⟨rfl, by simp, fun h => absurd h (by simp)⟩, Nat.le_refl _, Nat.zero_le _, fun x hx => by cases hx⟩
 ·simp [Value.cells] at hcs
  obtain ⟨rfl, rfl, rfl⟩ := hcs
  have hlm : len ≤ m := by rw [hmm]; split <;> omega
  have hmx : (maxLen : Nat) ≤ 9223372036854775807 := by simp [maxLen]
  letI : Inhabited Go.Proofs.Ytdegajidkboknaa.PCanonOf.S28 := ⟨⟨0, 0⟩⟩
  obtain ⟨B, hB⟩ := Go.Deep.choose_lt (α := Go.Proofs.Ytdegajidkboknaa.PCanonOf.S28) (n := len) (p := fun i b => V0 i = .int .i64 b.f0 ∧ V1 i = .int .i64 b.f1 ∧ (Lit.int .i64 b.f0).wf = true ∧ (Lit.int .i64 b.f1).wf = true) (fun i hi' => by
   obtain ⟨_, _, t0, t1⟩ := hi i (by omega)
   obtain ⟨z0, e0, _, h0⟩ := DataW.trod_int i0 t0
   obtain ⟨z1, e1, _, h1⟩ := DataW.trod_int i1 t1
   exact ⟨⟨z0, z1⟩, by simpa using e0, by simpa using e1, h0, h1⟩)
  have hlen : ((List.range len).map B).length = len := by simp
  refine ⟨(List.range len).map B, hlen.symm, ⟨rfl, by omega, fun _ => ⟨x, rfl, fun j q hj => ⟨[.int .i64 q.f0, .int .i64 q.f1], rfl, Go.Proofs.Ytdegajidkboknaa.PCanonOf.k28_mk w q, fun i u hu => ?_⟩⟩⟩, by omega, by omega, fun q hq => ?_⟩
  ·obtain ⟨hj1, hj2⟩ := List.getElem?_eq_some_iff.1 hj
   have hj3 : j < len := by omega
   have hq : B j = q := by simpa using hj2
   obtain ⟨h0, h1, _, _⟩ := hi j (by omega)
   obtain ⟨b0, b1, _, _⟩ := hB j hj3
   rw [hq] at b0 b1
   match i, hu with
   | 0, hu =>
    have hu' : .int .i64 q.f0 = u := by simpa using hu
    rw [← hu', ← b0]
    exact h0
   | 1, hu =>
    have hu' : .int .i64 q.f1 = u := by simpa using hu
    rw [← hu', ← b1]
    exact h1
  ·obtain ⟨j, hj, rfl⟩ := List.mem_map.1 hq
   have := List.mem_range.1 hj
   exact (hB j this).2.2
set_option maxRecDepth 100000 in
theorem lifted (os : Os) (started : os.Started) (H : Type) (enc : TypeId × Value → H) :
  ReturnsInHanded {} Try.checked os 4 .any (Rows.canonOfSpec.pre6 enc Try.prog Try.f4 Rows.canonOfRow.domain false) (Rows.canonOfSpec.post enc Try.prog Try.f4 false true false false) := by
 refine returnsInHanded_of_change_sized (C := Try.checked) own started (by kernel_rfl) Try.func4
  (ChangeSpec.witness6 (enc := enc) (C := Try.checked) false ⟨#[], #[.slice none 0 0, .slice none 0 0, .slice none 0 0], []⟩ 8 (by kernel_rfl) (by kernel_rfl) (by kernel_rfl) (by kernel_rfl)) ?_
 intro W base args ds gs before hval0 hW hcnd hsz0 _
 have hsz : (DataW.weightsEach Try.prog (Try.f4.params.toList ++ Rows.canonOfSpec.plain.varTypes Try.prog) (ds ++ gs)).all (· ≤ reachBytes) = true := hsz0
 have hval : ∀ (j : Nat) t v, Try.f4.params[j]? = some t → args[j]? = some v → Value.okWide Try.prog W .any base t v := hval0
 have hW' := hW
 obtain ⟨p, q, hA0, hV, rfl, hfz, hnd⟩ := hW
 have hA : DataW.TrodAll enc Try.prog W 0 (fun _ => true) true Try.f4.params.toList args.toList ds p := hA0
 rw [Try.params4] at hA hval hsz
 obtain ⟨v0, vs0, d0, ds0, p0, q0, hargs, rfl, rfl, h0, r0⟩ := trodAll_cons hA
 obtain ⟨v1, vs1, d1, ds1, p1, q1, rfl, rfl, rfl, h1, r1⟩ := trodAll_cons r0
 obtain ⟨v2, vs2, d2, ds2, p2, q2, rfl, rfl, rfl, h2, r2⟩ := trodAll_cons r1
 obtain ⟨rfl, rfl, rfl⟩ := trodAll_nil r2
 obtain rfl : args = #[v0, v1, v2] := by cases args; simp_all
 obtain ⟨rfl, rfl⟩ := trodVars_none hV
 obtain ⟨a0, len0, cap0, rfl⟩ := okWide_slice Try.underlying26 (hval 0 26 v0 rfl rfl)
 have k0 := h0
 have lt0 : ∀ x ∈ p0, x.block < W.heap.size := by obtain ⟨m, hm⟩ := k0; exact DataW.trod_lt m _ _ _ hm
 obtain ⟨z0, w0⟩ : ∃ zs, IsRow .i64 W a0 len0 cap0 zs := by
  obtain ⟨fuel, hf⟩ := h0
  rcases open_ints Try.underlying26 Try.underlying3 (by kernel_rfl) hf with ⟨hcs, _⟩ | ⟨x, l, c, zs, hcs, _, hl, hm, hz, _, hcell, hwz⟩
  ·simp [Value.cells] at hcs
   obtain ⟨rfl, rfl, rfl⟩ := hcs
   exact ⟨[], .inl ⟨rfl, rfl, rfl, rfl⟩⟩
  ·simp [Value.cells] at hcs
   obtain ⟨rfl, rfl, rfl⟩ := hcs
   exact ⟨zs, .inr ⟨_, rfl, hl, hm, by simpa using hz, hcell, hwz⟩⟩
 have y0 : len0 * 8 ≤ 140737488351232 := Go.Proofs.YtdegajidkboknaaW.PrintWords.sized_ints hsz (j := 0) (t := 26) rfl rfl Try.underlying26 Try.underlying3 (by kernel_rfl) (by kernel_rfl) h0
 obtain ⟨a1, len1, cap1, rfl⟩ := okWide_slice Try.underlying26 (hval 1 26 v1 rfl rfl)
 have k1 := h1
 have lt1 : ∀ x ∈ p1, x.block < W.heap.size := by obtain ⟨m, hm⟩ := k1; exact DataW.trod_lt m _ _ _ hm
 obtain ⟨z1, w1⟩ : ∃ zs, IsRow .i64 W a1 len1 cap1 zs := by
  obtain ⟨fuel, hf⟩ := h1
  rcases open_ints Try.underlying26 Try.underlying3 (by kernel_rfl) hf with ⟨hcs, _⟩ | ⟨x, l, c, zs, hcs, _, hl, hm, hz, _, hcell, hwz⟩
  ·simp [Value.cells] at hcs
   obtain ⟨rfl, rfl, rfl⟩ := hcs
   exact ⟨[], .inl ⟨rfl, rfl, rfl, rfl⟩⟩
  ·simp [Value.cells] at hcs
   obtain ⟨rfl, rfl, rfl⟩ := hcs
   exact ⟨zs, .inr ⟨_, rfl, hl, hm, by simpa using hz, hcell, hwz⟩⟩
 have y1 : len1 * 8 ≤ 140737488351232 := Go.Proofs.YtdegajidkboknaaW.PrintWords.sized_ints hsz (j := 1) (t := 26) rfl rfl Try.underlying26 Try.underlying3 (by kernel_rfl) (by kernel_rfl) h1
 obtain ⟨a2, len2, cap2, rfl⟩ := okWide_slice Try.underlying22 (hval 2 22 v2 rfl rfl)
 have k2 := h2
 have lt2 : ∀ x ∈ p2, x.block < W.heap.size := by obtain ⟨m, hm⟩ := k2; exact DataW.trod_lt m _ _ _ hm
 obtain ⟨l2, rfl, w2⟩ := openPairRow Try.underlying22 Try.underlying28 (by kernel_rfl) rfl rfl (by kernel_rfl) (by kernel_rfl) Try.underlying3 Try.underlying3 h2
 clear hA0 hval0 hsz0 hsz
 refine (PCanonOf.tattinglaw23_CanonOf.walk Pure.CanonOf a0 len0 cap0 z0 a1 len1 cap1 z1 a2 cap2 l2 W w0 y0 w1 y1 w2).mono fun e W' ⟨he, bel⟩ => ?_
 subst he
 exact ⟨_, rfl, _, _, _, [], _, [], hW', trodAll_mk1 (shut_bool Try.underlying4 _), (trodAll_cons_mk (Below.trod laidOut (by kernel_rfl) (of_decide_eq_true (by kernel_rfl)) k0 bel lt0) (trodAll_cons_mk (Below.trod laidOut (by kernel_rfl) (of_decide_eq_true (by kernel_rfl)) k1 bel lt1) (trodAll_cons_mk (Below.trod laidOut (by kernel_rfl) (of_decide_eq_true (by kernel_rfl)) k2 bel lt2) trodAll_mk0))), rfl, bel.frame _, fun h => by cases h⟩
theorem over : Rows.canonOfRow.holds Try.pinned (OpenSpec.ofChange Rows.canonOfSpec) :=
 OpenClaim.holds_of_wide 4 Try.f4 rfl rfl rfl rfl rfl rfl rfl ⟨rfl, rfl, rfl, rfl, rfl⟩ rfl rfl rfl rfl rfl (by kernel_rfl) Try.func4 (by kernel_rfl)
  (of_decide_eq_true (by kernel_rfl)) (by unfold Func.isWrapper; first | (rw [if_pos (by decide +kernel)]; kernel_rfl) | (rw [if_neg (by decide +kernel)]; exact ⟨rfl, rfl⟩))
  (fun os started H enc _ => lifted os started H enc)
theorem proved : Rows.CanonOfSaid := over
#print axioms proved
end Go.Proofs.Ytdegajidkboknaa.canonOf
namespace Go.Proofs.Ytdegajidkboknaa
/-- The row, under a short name, for the claim. -/
theorem canonOf_holds : Rows.CanonOfSaid := canonOf.proved
end Go.Proofs.Ytdegajidkboknaa
