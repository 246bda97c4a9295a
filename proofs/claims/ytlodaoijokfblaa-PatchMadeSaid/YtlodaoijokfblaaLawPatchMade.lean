/- The script that is made of the least list carries the one text to the other, and back. -/
import Derived.Test.YtlodaoijokfblaaRows
import Derived.Test.YtlodaoijokfblaaPPatchMadex8
import Derived.Test.YtlodaoijokfblaaPurePatchMade
import Derived.WalkKit
import Derived.ProofKit
import Derived.OpenShut
import Derived.ShutString
import Derived.ChangeOld
import Derived.ChangeSame
import Derived.Below
import Derived.SizedLaws
import Derived.Deep.Matrix
import Derived.Deep.Slices
import Derived.Deep.Fields
namespace Go.Proofs.Ytlodaoijokfblaa.patchMade
open Go.ChangeShapes Go.WideShapes Go.ChangeAt Go.RowKit Go.Deep
open Go.ChangeMaps (open_string shut_string)
open Go.Proofs.YtlodaoijokfblaaW.PrintWords Go.Proofs.Ytlodaoijokfblaa.PPatchMade
set_option linter.unusedVariables false
theorem laidOut : laidOutB Try.prog = true := by kernel_rfl
theorem own : ownKnob Try.prog.godebug = none := by kernel_rfl
theorem open_tok {H : Type} {enc : TypeId × Value → H} {P : Program} {w : World} {base : Nat} {held : Bool} {t e q : TypeId} {n : Nat} {cs : List Value} {y : DataW H × List MemPlace}
    (ht : P.underlying t = some (.slice e)) (he : P.underlying e = some (.slice q)) (hq : P.underlying q = some (.int .u8)) (ce : P.cellsOf e = 1) (cq : P.cellsOf q = 1)
    (h : DataW.trod enc P w base (fun _ => true) held n t cs = some y) :
    ∃ (a : Option Addr) (l : List (List Int)) (c : Nat), cs = [.slice a l.length c] ∧ Kd.C (Kd.slice q (Kd.int .u8)) w a l.length l ∧ l.length ≤ c := by
  have hmx : (maxLen : Nat) ≤ 9223372036854775807 := by simp [maxLen]
  rcases open_int_rows ht he hq ce cq h with ⟨hcs, hx⟩ | ⟨x, len, c, A, L, C, Z, hcs, hb, hl, hm, hx, hr⟩
  · exact ⟨none, [], 0, hcs, ⟨rfl, by simp, fun h => absurd h (by simp)⟩, Nat.le_refl _⟩
  · have hlen : ((List.range len).map fun r => (Z r).take (L r)).length = len := by simp
    refine ⟨some x, (List.range len).map fun r => (Z r).take (L r), c, by rw [hlen]; exact hcs, ⟨rfl, by omega, fun _ => ⟨x, rfl, fun j xs hj => ?_⟩⟩, by omega⟩
    obtain ⟨hj1, hj2⟩ := List.getElem?_eq_some_iff.1 hj
    have hj3 : j < len := by omega
    have hxs : (Z j).take (L j) = xs := by simpa using hj2
    obtain ⟨h1, h2, h3, h4, _, h6, h7⟩ := hr j (by omega)
    have hxl : xs.length = L j := by rw [← hxs, List.length_take]; omega
    refine ⟨[.slice (A j) xs.length (C j)], rfl, ⟨A j, C j, rfl, by omega, ?_⟩, fun i u hu => ?_⟩
    · refine Kd.C_of_reads (d := (0 : Int)) (h1 := fun _ => rfl) ⟨rfl, by omega, fun hp => ?_⟩
      cases hA : A j with
      | none => have := h6 hA; omega
      | some a' =>
        obtain ⟨_, h8⟩ := h7 a' hA
        refine ⟨a', rfl, fun i hi => ?_⟩
        rw [h8 i (by omega), ← hxs]
        simp [List.getD_eq_getElem?_getD, show i < L j by omega]
    · have hi : i = 0 := by have := (List.getElem?_eq_some_iff.1 hu).1; simp at this; exact this
      subst hi
      have hu' : .slice (A j) xs.length (C j) = u := by simpa using hu
      have e : j * (Kd.slice q (Kd.int .u8)).sz + 0 = j := by show j * 1 + 0 = j; omega
      rw [e, h1, ← hu', hxl]
theorem open_tokens {H : Type} {enc : TypeId × Value → H} {w : World} {base : Nat} {held : Bool} {a : Option Addr} {len cap : Nat} {d : DataW H} {p : List MemPlace}
    (h : DataW.Trod enc Try.prog w base (fun _ => true) held 23 (.slice a len cap) d p) :
    ∃ l : List (List Int), len = l.length ∧ Kd.C (Kd.slice 5 (Kd.int .u8)) w a l.length l ∧ l.length ≤ cap := by
  obtain ⟨fuel, hf⟩ := h
  obtain ⟨a2, l, c2, hcs, hC, hc⟩ := open_tok Try.underlying23 Try.underlying22 Try.underlying5 (by kernel_rfl) (by kernel_rfl) hf
  simp [Value.cells] at hcs
  obtain ⟨rfl, rfl, rfl⟩ := hcs
  exact ⟨l, rfl, hC, hc⟩

set_option maxRecDepth 100000 in
theorem lifted (os : Os) (started : os.Started) (H : Type) (enc : TypeId × Value → H) :
  ReturnsInHanded {} Try.checked os 7 .any (Rows.patchMadeSpec.pre6 enc Try.prog Try.f7 Rows.patchMadeRow.domain false) (Rows.patchMadeSpec.post enc Try.prog Try.f7 false true false false) := by
  refine returnsInHanded_of_change_sized (C := Try.checked) own started (by kernel_rfl) Try.func7
    (ChangeSpec.witness6 (enc := enc) (C := Try.checked) false ⟨#[], #[.slice none 0 0, .slice none 0 0], []⟩ 8 (by kernel_rfl) (by kernel_rfl) (by kernel_rfl) (by kernel_rfl)) ?_
  intro W base args ds gs before hval0 hW hcnd hsz0 _
  have hval : ∀ (j : Nat) t v, Try.f7.params[j]? = some t → args[j]? = some v → Value.okWide Try.prog W .any base t v := hval0
  have hW' := hW
  obtain ⟨p, q, hA0, hV, rfl, hfz, hnd⟩ := hW
  have hA : DataW.TrodAll enc Try.prog W 0 (fun _ => true) true Try.f7.params.toList args.toList ds p := hA0
  rw [Try.params7] at hA hval
  obtain ⟨v0, vs0, d0, ds0, p0, q0, hargs, rfl, rfl, h0, r0⟩ := trodAll_cons hA
  obtain ⟨v1, vs1, d1, ds1, p1, q1, rfl, rfl, rfl, h1, r1⟩ := trodAll_cons r0
  obtain ⟨rfl, rfl, rfl⟩ := trodAll_nil r1
  obtain rfl : args = #[v0, v1] := by cases args; simp_all
  obtain ⟨rfl, rfl⟩ := trodVars_none hV
  obtain ⟨a0, len0, cap0, rfl⟩ := okWide_slice Try.underlying23 (hval 0 23 v0 rfl rfl)
  have k0 := h0
  have lt0 : ∀ x ∈ p0, x.block < W.heap.size := by obtain ⟨m, hm⟩ := k0; exact DataW.trod_lt m _ _ _ hm
  obtain ⟨l0, rfl, hC0, hc0⟩ := open_tokens h0
  obtain ⟨a1, len1, cap1, rfl⟩ := okWide_slice Try.underlying23 (hval 1 23 v1 rfl rfl)
  have k1 := h1
  have lt1 : ∀ x ∈ p1, x.block < W.heap.size := by obtain ⟨m, hm⟩ := k1; exact DataW.trod_lt m _ _ _ hm
  obtain ⟨l1, rfl, hC1, hc1⟩ := open_tokens h1
  clear hA0 hval0 hsz0
  obtain ⟨k, hpure⟩ := Pure.law_PatchMade l0 l1
  refine (PPatchMade.tattinglaw25_PatchMade.calls k a0 cap0 l0 a1 cap1 l1 true W hC0 hc0 hC1 hc1 hpure rfl).mono fun e W' ⟨he, bel⟩ => ?_
  subst he
  exact ⟨_, rfl, _, _, _, [], _, [], hW', trodAll_mk1 (shut_bool Try.underlying4 _), (trodAll_cons_mk (Below.trod laidOut (by kernel_rfl) (of_decide_eq_true (by kernel_rfl)) k0 bel lt0) (trodAll_cons_mk (Below.trod laidOut (by kernel_rfl) (of_decide_eq_true (by kernel_rfl)) k1 bel lt1) trodAll_mk0)), rfl, bel.frame _, fun h => by cases h⟩
theorem over : Rows.patchMadeRow.holds Try.pinned (OpenSpec.ofChange Rows.patchMadeSpec) :=
 OpenClaim.holds_of_wide 7 Try.f7 rfl rfl rfl rfl rfl rfl rfl ⟨rfl, rfl, rfl, rfl, rfl⟩ rfl rfl rfl rfl rfl (by kernel_rfl) Try.func7 (by kernel_rfl)
  (of_decide_eq_true (by kernel_rfl)) (by unfold Func.isWrapper; first | (rw [if_pos (by decide +kernel)]; kernel_rfl) | (rw [if_neg (by decide +kernel)]; exact ⟨rfl, rfl⟩))
  (fun os started H enc _ => lifted os started H enc)
theorem proved : Rows.PatchMadeSaid := over
#print axioms proved
end Go.Proofs.Ytlodaoijokfblaa.patchMade
namespace Go.Proofs.Ytlodaoijokfblaa
/-- The row, under a short name, for the claim. -/
theorem patchMade_holds : Rows.PatchMadeSaid := patchMade.proved
end Go.Proofs.Ytlodaoijokfblaa
