/- The statement TokEnds holds where all that comes in holds at most 1048576 values and letters: the statement's second form. -/
import Derived.Test.YtfmkiankjibkfaaRows
import Derived.Test.YtfmkiankjibkfaaPTokEndsx2
import Derived.Test.YtfmkiankjibkfaaPureTokEnds
import Derived.WalkKit
import Derived.ProofKit
import Derived.OpenShut
import Derived.ShutString
import Derived.ChangeOld
import Derived.Below
import Derived.JoinedCond
import Derived.Deep.Matrix
namespace Go.Proofs.Ytfmkiankjibkfaa.tokEnds
open Go.ChangeShapes Go.WideShapes Go.ChangeAt Go.RowKit Go.Deep
open Go.ChangeMaps (open_string shut_string)
open Go.Proofs.YtfmkiankjibkfaaW.PrintWords
set_option linter.unusedVariables false
theorem own : ownKnob Try.prog.godebug = none := by kernel_rfl
theorem laidOut : laidOutB Try.prog = true := by kernel_rfl

/-! What the bound gives. -/
theorem bulk_append {H : Type} (l r : List (DataW H)) : Rows.uptoBulkAll (l ++ r) = Rows.uptoBulkAll l + Rows.uptoBulkAll r := by
  induction l with
  | nil => simp [Rows.uptoBulkAll]
  | cons x l ih => simp only [List.cons_append, Rows.uptoBulkAll, ih]; omega
theorem bulk_lits {H : Type} (k : IntKind) (zs : List Int) : zs.length ≤ Rows.uptoBulkAll (lits (H := H) k zs) := by
  induction zs with
  | nil => simp
  | cons x r ih => simp only [lits, List.map_cons, Rows.uptoBulkAll, Rows.uptoBulk, List.length_cons] at ih ⊢; omega
theorem bulk_row {H : Type} (k : IntKind) (A : Option Addr) (L : Nat) (zs : List Int) (hL : A = none → L = 0) (hz : L ≤ zs.length) : L + 1 ≤ Rows.uptoBulk (intRow (H := H) k A L zs) := by
  cases A with
  | none => rw [hL rfl]; simp [intRow, Rows.uptoBulk]
  | some a =>
    have h := bulk_lits (H := H) k (zs.take L)
    rw [List.length_take, Nat.min_eq_left hz] at h
    simp only [intRow, Rows.uptoBulk]
    omega
theorem bulk_rows {H : Type} (k : IntKind) (A : Nat → Option Addr) (L : Nat → Nat) (Z : Nat → List Int) (n : Nat) (h : ∀ r, r < n → (A r = none → L r = 0) ∧ L r ≤ (Z r).length) :
    ((List.range n).map fun r => (Z r).take (L r)).flatten.length + n ≤ Rows.uptoBulkAll ((List.range n).map fun r => intRow (H := H) k (A r) (L r) (Z r)) := by
  induction n with
  | zero => simp
  | succ n ih =>
    have h1 := ih (fun r hr => h r (by omega))
    obtain ⟨h2, h3⟩ := h n (by omega)
    have h4 := bulk_row (H := H) k (A n) (L n) (Z n) h2 h3
    rw [List.range_succ, List.map_append, List.map_append, bulk_append, List.flatten_append, List.length_append]
    simp only [List.map_cons, List.map_nil, Rows.uptoBulkAll, List.flatten_cons, List.flatten_nil, List.append_nil, List.length_take]
    omega
theorem open_tokens {H : Type} {enc : TypeId × Value → H} {P : Program} {w : World} {base : Nat} {held : Bool} {t e q : TypeId} {a : Option Addr} {len cap : Nat} {d : DataW H} {p : List MemPlace}
    (ht : P.underlying t = some (.slice e)) (he : P.underlying e = some (.slice q)) (hq : P.underlying q = some (.int .u8)) (ce : P.cellsOf e = 1) (cq : P.cellsOf q = 1)
    (h : DataW.Trod enc P w base (fun _ => true) held t (.slice a len cap) d p) :
    ∃ l : List (List Int), len = l.length ∧ Kd.C (Kd.slice q (Kd.int .u8)) w a l.length l ∧ l.length ≤ cap ∧ l.flatten.length + l.length ≤ Rows.uptoBulk d := by
  obtain ⟨fuel, hf⟩ := h
  have hmx : (maxLen : Nat) ≤ 9223372036854775807 := by simp [maxLen]
  rcases open_int_rows ht he hq ce cq hf with ⟨hcs, hx⟩ | ⟨x, n, c, A, L, C, Z, hcs, hb, hl, hm, hx, hr⟩
  · simp [Value.cells] at hcs
    obtain ⟨rfl, rfl, rfl⟩ := hcs
    exact ⟨[], rfl, ⟨rfl, by simp, fun h => absurd h (by simp)⟩, Nat.le_refl _, by simp⟩
  · simp [Value.cells] at hcs
    obtain ⟨rfl, rfl, rfl⟩ := hcs
    simp only [Prod.mk.injEq] at hx
    obtain ⟨rfl, rfl⟩ := hx
    have hlen : ((List.range len).map fun r => (Z r).take (L r)).length = len := by simp
    refine ⟨(List.range len).map fun r => (Z r).take (L r), hlen.symm, ⟨rfl, by omega, fun _ => ⟨x, rfl, fun j xs hj => ?_⟩⟩, by omega, ?_⟩
    · obtain ⟨hj1, hj2⟩ := List.getElem?_eq_some_iff.1 hj
      have hj3 : j < len := by omega
      have hxs : (Z j).take (L j) = xs := by simpa using hj2
      obtain ⟨h1, h2, h3, h4, _, h6, h7⟩ := hr j (by omega)
      have hxl : xs.length = L j := by rw [← hxs, List.length_take]; omega
      refine ⟨[.slice (A j) xs.length (C j)], rfl, ⟨A j, C j, rfl, by omega, ?_⟩, fun i u hu => ?_⟩
      · refine Kd.C_of_reads (d := (0 : Int)) (h1 := fun _ => rfl) ⟨rfl, by omega, fun hp => ?_⟩
        cases hA : A j with
        | none => have := h6 hA; omega
        | some a' =>
          obtain ⟨_, h8⟩ := h7 a' hA
          refine ⟨a', rfl, fun i hi => ?_⟩
          rw [h8 i (by omega), ← hxs]
          simp [List.getD_eq_getElem?_getD, show i < L j by omega]
      · have hi : i = 0 := by have := (List.getElem?_eq_some_iff.1 hu).1; simp at this; exact this
        subst hi
        have hu' : .slice (A j) xs.length (C j) = u := by simpa using hu
        have e : j * (Kd.slice q (Kd.int .u8)).sz + 0 = j := by show j * 1 + 0 = j; omega
        rw [e, h1, ← hu', hxl]
    · have hbr := bulk_rows (H := H) .u8 A L Z len (fun r hr' => by
        obtain ⟨_, h2, _, h4, _, h6, _⟩ := hr r (by omega)
        exact ⟨fun e => by have := h6 e; omega, by omega⟩)
      rw [hlen]
      simp only [Rows.uptoBulk]
      omega
set_option maxRecDepth 100000 in
theorem lifted (os : Os) (started : os.Started) (H : Type) (enc : TypeId × Value → H) (F : Stop.Interp) :
    ReturnsInHanded {} Try.checked os 5 .any ((Rows.OpenSpec.upto Rows.tokEndsSpec).pre6 enc Try.prog Try.f5 Rows.tokEndsUptoRow.domain false) (((Rows.OpenSpec.upto Rows.tokEndsSpec).at F).post enc Try.prog Try.f5 false true false false) := by
  refine returnsInHanded_of_cond (C := Try.checked) (s := Rows.OpenSpec.upto Rows.tokEndsSpec) (k := Rows.uptoSmall) rfl own started (by kernel_rfl) Try.func5
    (OpenSpec.witness (enc := enc) (C := Try.checked) (s := Rows.OpenSpec.upto Rows.tokEndsSpec) (k := Rows.uptoSmall) rfl false ⟨#[], #[.slice none 0 0], []⟩ 8 (by kernel_rfl) (by kernel_rfl) (by kernel_rfl)
      (x := ([.nil], [], [])) (by kernel_rfl) rfl (by kernel_rfl)) ?_
  intro W base args ds gs before hval0 hW _ hk _
  have hval : ∀ (j : Nat) t v, Try.f5.params[j]? = some t → args[j]? = some v → Value.okWide Try.prog W .any base t v := hval0
  have hW' := hW
  obtain ⟨p, q, hA0, hV, rfl, hfz, hnd⟩ := hW
  have hA : DataW.TrodAll enc Try.prog W 0 (fun _ => true) true Try.f5.params.toList args.toList ds p := hA0
  rw [Try.params5] at hA hval
  obtain ⟨v0, vs0, d0, ds0, p0, q0, hargs, rfl, rfl, h0, r0⟩ := trodAll_cons hA
  obtain ⟨rfl, rfl, rfl⟩ := trodAll_nil r0
  obtain rfl : args = #[v0] := by cases args; simp_all
  obtain ⟨rfl, rfl⟩ := trodVars_none hV
  obtain ⟨a0, len0, cap0, rfl⟩ := okWide_slice Try.underlying24 (hval 0 24 v0 rfl rfl)
  have k0 := h0
  have lt0 : ∀ x ∈ p0, x.block < W.heap.size := by obtain ⟨m, hm⟩ := k0; exact DataW.trod_lt m _ _ _ hm
  obtain ⟨l, rfl, hC, hc, hs⟩ := open_tokens Try.underlying24 Try.underlying22 Try.underlying5 (by kernel_rfl) (by kernel_rfl) h0
  have hk2 := of_decide_eq_true hk
  simp only [List.append_nil, Rows.uptoBulkAll] at hk2
  obtain ⟨k, hpure⟩ := Pure.law_TokEnds l (by omega) (by omega)
  clear hA0 hval0
  refine (PTokEnds.tattinglaw1_TokEnds.calls k a0 cap0 l true W hC hc hpure rfl).mono fun e W' ⟨he, bel⟩ => ?_
  subst he
  exact ⟨_, rfl, _, _, _, [], _, [], hW', trodAll_mk1 (shut_bool Try.underlying4 _), (trodAll_cons_mk (Below.trod laidOut (by kernel_rfl) (of_decide_eq_true (by kernel_rfl)) k0 bel lt0) trodAll_mk0), rfl, bel.frame _, fun h => by cases h⟩
theorem over : Rows.tokEndsUptoRow.holds Try.pinned (Rows.OpenSpec.upto Rows.tokEndsSpec) :=
  OpenClaim.holds_of_cond 5 Try.f5 rfl rfl rfl rfl rfl rfl rfl ⟨rfl, rfl, rfl, rfl, rfl⟩ rfl rfl rfl rfl rfl (by kernel_rfl) Try.func5 (by kernel_rfl)
    (of_decide_eq_true (by kernel_rfl)) (by unfold Func.isWrapper; first | (rw [if_pos (by decide +kernel)]; kernel_rfl) | (rw [if_neg (by decide +kernel)]; exact ⟨rfl, rfl⟩))
    (fun os started H enc _ F => lifted os started H enc F)
theorem proved : Rows.TokEndsUptoSaid := over
#print axioms proved
end Go.Proofs.Ytfmkiankjibkfaa.tokEnds
namespace Go.Proofs.Ytfmkiankjibkfaa
/-- The row, under a short name, for the claim. -/
theorem tokEnds_holds : Rows.TokEndsUptoSaid := tokEnds.proved
end Go.Proofs.Ytfmkiankjibkfaa
