/- A script that carries one text to another has no fewer tokens than both are from each other. -/
import Derived.Test.YtlodaoijokfblaaRows
import Derived.Test.YtlodaoijokfblaaPPatchFewestx6
import Derived.Test.YtlodaoijokfblaaPurePatchFewest
import Derived.WalkKit
import Derived.ProofKit
import Derived.OpenShut
import Derived.ShutString
import Derived.ChangeOld
import Derived.ChangeSame
import Derived.Below
import Derived.SizedLaws
import Derived.Deep.Matrix
import Derived.Deep.Slices
import Derived.Deep.Fields
namespace Go.Proofs.Ytlodaoijokfblaa.patchFewest
open Go.ChangeShapes Go.WideShapes Go.ChangeAt Go.RowKit Go.Deep
open Go.ChangeMaps (open_string shut_string)
open Go.Proofs.YtlodaoijokfblaaW.PrintWords Go.Proofs.Ytlodaoijokfblaa.PPatchFewest
set_option linter.unusedVariables false
theorem laidOut : laidOutB Try.prog = true := by kernel_rfl
theorem own : ownKnob Try.prog.godebug = none := by kernel_rfl
theorem open_tok {H : Type} {enc : TypeId × Value → H} {P : Program} {w : World} {base : Nat} {held : Bool} {t e q : TypeId} {n : Nat} {cs : List Value} {y : DataW H × List MemPlace}
    (ht : P.underlying t = some (.slice e)) (he : P.underlying e = some (.slice q)) (hq : P.underlying q = some (.int .u8)) (ce : P.cellsOf e = 1) (cq : P.cellsOf q = 1)
    (h : DataW.trod enc P w base (fun _ => true) held n t cs = some y) :
    ∃ (a : Option Addr) (l : List (List Int)) (c : Nat), cs = [.slice a l.length c] ∧ Kd.C (Kd.slice q (Kd.int .u8)) w a l.length l ∧ l.length ≤ c := by
  have hmx : (maxLen : Nat) ≤ 9223372036854775807 := by simp [maxLen]
  rcases open_int_rows ht he hq ce cq h with ⟨hcs, hx⟩ | ⟨x, len, c, A, L, C, Z, hcs, hb, hl, hm, hx, hr⟩
  · exact ⟨none, [], 0, hcs, ⟨rfl, by simp, fun h => absurd h (by simp)⟩, Nat.le_refl _⟩
  · have hlen : ((List.range len).map fun r => (Z r).take (L r)).length = len := by simp
    refine ⟨some x, (List.range len).map fun r => (Z r).take (L r), c, by rw [hlen]; exact hcs, ⟨rfl, by omega, fun _ => ⟨x, rfl, fun j xs hj => ?_⟩⟩, by omega⟩
    obtain ⟨hj1, hj2⟩ := List.getElem?_eq_some_iff.1 hj
    have hj3 : j < len := by omega
    have hxs : (Z j).take (L j) = xs := by simpa using hj2
    obtain ⟨h1, h2, h3, h4, _, h6, h7⟩ := hr j (by omega)
    have hxl : xs.length = L j := by rw [← hxs, List.length_take]; omega
    refine ⟨[.slice (A j) xs.length (C j)], rfl, ⟨A j, C j, rfl, by omega, ?_⟩, fun i u hu => ?_⟩
    · refine Kd.C_of_reads (d := (0 : Int)) (h1 := fun _ => rfl) ⟨rfl, by omega, fun hp => ?_⟩
      cases hA : A j with
      | none => have := h6 hA; omega
      | some a' =>
        obtain ⟨_, h8⟩ := h7 a' hA
        refine ⟨a', rfl, fun i hi => ?_⟩
        rw [h8 i (by omega), ← hxs]
        simp [List.getD_eq_getElem?_getD, show i < L j by omega]
    · have hi : i = 0 := by have := (List.getElem?_eq_some_iff.1 hu).1; simp at this; exact this
      subst hi
      have hu' : .slice (A j) xs.length (C j) = u := by simpa using hu
      have e : j * (Kd.slice q (Kd.int .u8)).sz + 0 = j := by show j * 1 + 0 = j; omega
      rw [e, h1, ← hu', hxl]
theorem open_tokens {H : Type} {enc : TypeId × Value → H} {w : World} {base : Nat} {held : Bool} {a : Option Addr} {len cap : Nat} {d : DataW H} {p : List MemPlace}
    (h : DataW.Trod enc Try.prog w base (fun _ => true) held 23 (.slice a len cap) d p) :
    ∃ l : List (List Int), len = l.length ∧ Kd.C (Kd.slice 5 (Kd.int .u8)) w a l.length l ∧ l.length ≤ cap := by
  obtain ⟨fuel, hf⟩ := h
  obtain ⟨a2, l, c2, hcs, hC, hc⟩ := open_tok Try.underlying23 Try.underlying22 Try.underlying5 (by kernel_rfl) (by kernel_rfl) hf
  simp [Value.cells] at hcs
  obtain ⟨rfl, rfl, rfl⟩ := hcs
  exact ⟨l, rfl, hC, hc⟩
-- HUNKS
section
variable {H : Type} {enc : TypeId × Value → H} {P : Program} {w : World} {base : Nat} {spare : Nat → Bool} {held : Bool}
theorem open_slice_fields {t e : TypeId} {fs : Array Field} {fuel : Nat} {cs : List Value} {x : DataW H × List MemPlace} (ht : P.underlying t = some (.slice e)) (he : P.underlying e = some (.struct fs))
    (hone : oneCellFields P fs = true) (hC : P.cellsOf e = fs.size) (h : DataW.trod enc P w base spare held fuel t cs = some x) :
    (cs = [.slice none 0 0] ∧ x = (.nil, [])) ∨
    ∃ (a : Addr) (len cap m : Nat), cs = [.slice (some a) len cap] ∧ len ≤ cap ∧ cap ≤ maxLen ∧ m = (if spare a.block then cap else len) ∧
      ∀ i, i < m → ∃ n : Nat, ∀ (j : Nat) (f : Field), fs[j]? = some f → ∃ (v : Value) (y : DataW H × List MemPlace), w.cell? (a.add (i * fs.size + j)) = some v ∧ DataW.trod enc P w base spare held n f.type [v] = some y := by
  rcases open_slice ht h with h0 | ⟨a, len, cap, m, n, D, Pl, hcs, hb, hl, hm, hmm, hx, hi⟩
  · exact .inl h0
  · refine .inr ⟨a, len, cap, m, hcs, hl, hm, hmm, fun i him => ?_⟩
    obtain ⟨cs', hc, ht'⟩ := hi i him
    rw [hC] at hc
    obtain ⟨ys, n', hn', hy, hlen, hyl, hf⟩ := DataW.trod_struct he ht'
    obtain ⟨_, hcl, hat⟩ := World.cells?_some hc
    refine ⟨n', fun j f hj => ?_⟩
    obtain ⟨ho, hk⟩ := hone_of hone j f hj
    have hjl : j < fs.size := (Array.getElem?_eq_some_iff.1 hj).1
    have hcell := hat j hjl
    have hv : cs'[j]? = some (cs'[j]'(by omega)) := List.getElem?_eq_getElem (by omega)
    have h1 := hf j f hj
    rw [ho, hk] at h1
    have hone' : (cs'.drop j).take 1 = [cs'[j]'(by omega)] := by
      rw [List.drop_eq_getElem_cons (by omega)]
      rfl
    rw [hone'] at h1
    have hys : ys[j]? = some (ys[j]'(by omega)) := List.getElem?_eq_getElem (by omega)
    refine ⟨_, _, ?_, h1.trans hys⟩
    rw [← Go.Deep.add_add, hcell, hv]
end
theorem open_hunks {H : Type} {enc : TypeId × Value → H} {w : World} {base : Nat} {held : Bool} {a : Option Addr} {len cap : Nat} {d : DataW H} {p : List MemPlace}
    (h : DataW.Trod enc Try.prog w base (fun _ => true) held 29 (.slice a len cap) d p) : ∃ l : List S28, len = l.length ∧ Kd.C k28 w a l.length l ∧ l.length ≤ cap := by
  obtain ⟨fuel, hf⟩ := h
  have hmx : (maxLen : Nat) ≤ 9223372036854775807 := by simp [maxLen]
  rcases open_slice_fields Try.underlying29 Try.underlying28 (by kernel_rfl) (by kernel_rfl) hf with ⟨hcs, _⟩ | ⟨x, l, c, m, hcs, hl, hm, hmm, hi⟩
  · simp [Value.cells] at hcs
    obtain ⟨rfl, rfl, rfl⟩ := hcs
    exact ⟨[], rfl, ⟨rfl, by simp, fun h => absurd h (by simp)⟩, Nat.le_refl _⟩
  · simp [Value.cells] at hcs
    obtain ⟨rfl, rfl, rfl⟩ := hcs
    have hlm : len ≤ m := by rw [hmm]; split <;> omega
    letI : Inhabited S28 := ⟨z28⟩
    obtain ⟨B, hB⟩ := choose_lt (α := S28) (n := len) (p := fun i b => ∃ cs', k28.K w b cs' ∧ ∀ j u, cs'[j]? = some u → w.cell? (x.add (i * 3 + j)) = some u) (fun i hi' => by
      obtain ⟨n, hfd⟩ := hi i (by omega)
      obtain ⟨v0, y0, c0, t0⟩ := hfd 0 _ rfl
      obtain ⟨v1, y1, c1, t1⟩ := hfd 1 _ rfl
      obtain ⟨v2, y2, c2, t2⟩ := hfd 2 _ rfl
      obtain ⟨z0, e0, _, _⟩ := DataW.trod_int Try.underlying3 t0
      obtain ⟨A1, l1, g1, e1, C1, q1⟩ := open_tok Try.underlying23 Try.underlying22 Try.underlying5 (by kernel_rfl) (by kernel_rfl) t1
      obtain ⟨A2, l2, g2, e2, C2, q2⟩ := open_tok Try.underlying23 Try.underlying22 Try.underlying5 (by kernel_rfl) (by kernel_rfl) t2
      have e0 : v0 = .int .i64 z0 := by simpa using e0
      have e1 : v1 = .slice A1 l1.length g1 := by simpa using e1
      have e2 : v2 = .slice A2 l2.length g2 := by simpa using e2
      subst e0
      subst e1
      subst e2
      refine ⟨⟨z0, l1, l2⟩, _, k28_mk w ⟨z0, l1, l2⟩ q1 C1 q2 C2, fun j u hu => ?_⟩
      rcases j with _ | _ | _ | j
      · obtain rfl := Option.some.inj hu; exact c0
      · obtain rfl := Option.some.inj hu; exact c1
      · obtain rfl := Option.some.inj hu; exact c2
      · simp at hu)
    have hlen : ((List.range len).map B).length = len := by simp
    refine ⟨(List.range len).map B, hlen.symm, ⟨rfl, by omega, fun _ => ⟨x, rfl, fun j b hj => ?_⟩⟩, by omega⟩
    obtain ⟨hj1, hj2⟩ := List.getElem?_eq_some_iff.1 hj
    have hj3 : j < len := by omega
    have hbj : B j = b := by simpa using hj2
    obtain ⟨cs', hk, hc⟩ := hB j hj3
    rw [hbj] at hk
    have hcl : cs'.length = 3 := by obtain ⟨A1, c1, A2, c2, rfl, _⟩ := k28_open hk; rfl
    exact ⟨cs', hcl, hk, hc⟩

set_option maxRecDepth 100000 in
theorem lifted (os : Os) (started : os.Started) (H : Type) (enc : TypeId × Value → H) :
  ReturnsInHanded {} Try.checked os 8 .any (Rows.patchFewestSpec.pre6 enc Try.prog Try.f8 Rows.patchFewestRow.domain false) (Rows.patchFewestSpec.post enc Try.prog Try.f8 false true false false) := by
  refine returnsInHanded_of_change_sized (C := Try.checked) own started (by kernel_rfl) Try.func8
    (ChangeSpec.witness6 (enc := enc) (C := Try.checked) false ⟨#[], #[.slice none 0 0, .slice none 0 0], []⟩ 8 (by kernel_rfl) (by kernel_rfl) (by kernel_rfl) (by kernel_rfl)) ?_
  intro W base args ds gs before hval0 hW hcnd hsz0 _
  have hval : ∀ (j : Nat) t v, Try.f8.params[j]? = some t → args[j]? = some v → Value.okWide Try.prog W .any base t v := hval0
  have hW' := hW
  obtain ⟨p, q, hA0, hV, rfl, hfz, hnd⟩ := hW
  have hA : DataW.TrodAll enc Try.prog W 0 (fun _ => true) true Try.f8.params.toList args.toList ds p := hA0
  rw [Try.params8] at hA hval
  obtain ⟨v0, vs0, d0, ds0, p0, q0, hargs, rfl, rfl, h0, r0⟩ := trodAll_cons hA
  obtain ⟨v1, vs1, d1, ds1, p1, q1, rfl, rfl, rfl, h1, r1⟩ := trodAll_cons r0
  obtain ⟨rfl, rfl, rfl⟩ := trodAll_nil r1
  obtain rfl : args = #[v0, v1] := by cases args; simp_all
  obtain ⟨rfl, rfl⟩ := trodVars_none hV
  obtain ⟨a0, len0, cap0, rfl⟩ := okWide_slice Try.underlying29 (hval 0 29 v0 rfl rfl)
  have k0 := h0
  have lt0 : ∀ x ∈ p0, x.block < W.heap.size := by obtain ⟨m, hm⟩ := k0; exact DataW.trod_lt m _ _ _ hm
  obtain ⟨l0, rfl, hC0, hc0⟩ := open_hunks h0
  obtain ⟨a1, len1, cap1, rfl⟩ := okWide_slice Try.underlying23 (hval 1 23 v1 rfl rfl)
  have k1 := h1
  have lt1 : ∀ x ∈ p1, x.block < W.heap.size := by obtain ⟨m, hm⟩ := k1; exact DataW.trod_lt m _ _ _ hm
  obtain ⟨l1, rfl, hC1, hc1⟩ := open_tokens h1
  clear hA0 hval0 hsz0
  obtain ⟨k, hpure⟩ := Pure.law_PatchFewest l0 l1
  refine (PPatchFewest.tattinglaw25_PatchFewest.calls k a0 cap0 l0 a1 cap1 l1 true W hC0 hc0 hC1 hc1 hpure rfl).mono fun e W' ⟨he, bel⟩ => ?_
  subst he
  exact ⟨_, rfl, _, _, _, [], _, [], hW', trodAll_mk1 (shut_bool Try.underlying4 _), (trodAll_cons_mk (Below.trod laidOut (by kernel_rfl) (of_decide_eq_true (by kernel_rfl)) k0 bel lt0) (trodAll_cons_mk (Below.trod laidOut (by kernel_rfl) (of_decide_eq_true (by kernel_rfl)) k1 bel lt1) trodAll_mk0)), rfl, bel.frame _, fun h => by cases h⟩
theorem over : Rows.patchFewestRow.holds Try.pinned (OpenSpec.ofChange Rows.patchFewestSpec) :=
 OpenClaim.holds_of_wide 8 Try.f8 rfl rfl rfl rfl rfl rfl rfl ⟨rfl, rfl, rfl, rfl, rfl⟩ rfl rfl rfl rfl rfl (by kernel_rfl) Try.func8 (by kernel_rfl)
  (of_decide_eq_true (by kernel_rfl)) (by unfold Func.isWrapper; first | (rw [if_pos (by decide +kernel)]; kernel_rfl) | (rw [if_neg (by decide +kernel)]; exact ⟨rfl, rfl⟩))
  (fun os started H enc _ => lifted os started H enc)
theorem proved : Rows.PatchFewestSaid := over
#print axioms proved
end Go.Proofs.Ytlodaoijokfblaa.patchFewest
namespace Go.Proofs.Ytlodaoijokfblaa
/-- The row, under a short name, for the claim. -/
theorem patchFewest_holds : Rows.PatchFewestSaid := patchFewest.proved
end Go.Proofs.Ytlodaoijokfblaa
