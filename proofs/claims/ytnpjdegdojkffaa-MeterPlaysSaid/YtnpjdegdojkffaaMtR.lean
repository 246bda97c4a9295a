/- Runs that come in: a slice of them opened to its cells; and both statements' walks at any length. -/
import Derived.Test.YtnpjdegdojkffaaMtE
import Derived.Deep.Slices
import Derived.Deep.Fields
import Derived.ChangeSame
namespace Go.Proofs.Ytnpjdegdojkffaa
open Go.RowKit Go.ChangeShapes Go.WideShapes Go.Deep
section
variable {H : Type} {enc : TypeId × Value → H} {P : Program} {w : World} {base : Nat} {spare : Nat → Bool} {held : Bool}
theorem open_slice_fields {t e : TypeId} {fs : Array Field} {fuel : Nat} {cs : List Value} {x : DataW H × List MemPlace} (ht : P.underlying t = some (.slice e)) (he : P.underlying e = some (.struct fs))
    (hone : oneCellFields P fs = true) (hC : P.cellsOf e = fs.size) (h : DataW.trod enc P w base spare held fuel t cs = some x) :
    (cs = [.slice none 0 0] ∧ x = (.nil, [])) ∨
    ∃ (a : Addr) (len cap m : Nat) (D : Nat → DataW H) (Pl : Nat → List MemPlace), cs = [.slice (some a) len cap] ∧ base ≤ a.block ∧ len ≤ cap ∧ cap ≤ maxLen ∧ m = (if spare a.block then cap else len) ∧
      x = (.slice ((List.range len).map D) ((List.range (m - len)).map fun j => D (len + j)), MemPlace.row a (m * fs.size) ++ (List.range m).flatMap Pl) ∧
      ∀ i, i < m → ∃ (ys : List (DataW H × List MemPlace)) (n : Nat), D i = .agg (ys.map (·.1)) ∧ Pl i = ys.flatMap (·.2) ∧ ys.length = fs.size ∧
        ∀ (j : Nat) (f : Field), fs[j]? = some f → ∃ (v : Value) (y : DataW H × List MemPlace), w.cell? (a.add (i * fs.size + j)) = some v ∧ ys[j]? = some y ∧ DataW.trod enc P w base spare held n f.type [v] = some y := by
  rcases open_slice ht h with h0 | ⟨a, len, cap, m, n, D, Pl, hcs, hb, hl, hm, hmm, hx, hi⟩
  · exact .inl h0
  · refine .inr ⟨a, len, cap, m, D, Pl, hcs, hb, hl, hm, hmm, by rw [hC] at hx; exact hx, fun i him => ?_⟩
    obtain ⟨cs', hc, ht'⟩ := hi i him
    rw [hC] at hc
    obtain ⟨ys, n', hn', hy, hlen, hyl, hf⟩ := DataW.trod_struct he ht'
    obtain ⟨_, hcl, hat⟩ := World.cells?_some hc
    simp only [Prod.mk.injEq] at hy
    refine ⟨ys, n', hy.1, hy.2, hyl, fun j f hj => ?_⟩
    obtain ⟨ho, hk⟩ := hone_of hone j f hj
    have hjl : j < fs.size := (Array.getElem?_eq_some_iff.1 hj).1
    have hcell := hat j hjl
    have hv : cs'[j]? = some (cs'[j]'(by omega)) := List.getElem?_eq_getElem (by omega)
    have h1 := hf j f hj
    rw [ho, hk] at h1
    have hone' : (cs'.drop j).take 1 = [cs'[j]'(by omega)] := by
      rw [List.drop_eq_getElem_cons (by omega)]
      rfl
    rw [hone'] at h1
    have hys : ys[j]? = some (ys[j]'(by omega)) := List.getElem?_eq_getElem (by omega)
    refine ⟨_, _, ?_, hys, h1.trans hys⟩
    rw [← Go.Deep.add_add, hcell, hv]
end
theorem open_runs {H : Type} {enc : TypeId × Value → H} {w : World} {base : Nat} {held : Bool} {a : Option Addr} {len cap : Nat} {d : DataW H} {p : List MemPlace}
    (h : DataW.Trod enc Try.prog w base (fun _ => true) held 22 (.slice a len cap) d p) : ∃ l : List Run, len = l.length ∧ Rs w a l := by
  obtain ⟨fuel, hf⟩ := h
  have hmx : (maxLen : Nat) ≤ 9223372036854775807 := by simp [maxLen]
  rcases open_slice_fields Try.underlying22 Try.underlying29 (by kernel_rfl) (by kernel_rfl) hf with ⟨hcs, _⟩ | ⟨x, l, c, m, D, Pl, hcs, _, hl, hm, hmm, _, hi⟩
  · simp [Value.cells] at hcs
    obtain ⟨rfl, rfl, rfl⟩ := hcs
    exact ⟨[], rfl, by simp, fun i hi => absurd hi (by simp)⟩
  · simp [Value.cells] at hcs
    obtain ⟨rfl, rfl, rfl⟩ := hcs
    have hlm : len ≤ m := by rw [hmm]; split <;> omega
    letI : Inhabited Run := ⟨⟨0, 0, false⟩⟩
    obtain ⟨B, hB⟩ := choose_lt (α := Run) (n := len) (p := fun i b => w.cell? (x.add (i * 3 + 0)) = some (.int .i64 b.e) ∧ w.cell? (x.add (i * 3 + 1)) = some (.int .i64 b.s) ∧ w.cell? (x.add (i * 3 + 2)) = some (.bool b.n)) (fun i hi' => by
      obtain ⟨ys, n, _, _, _, hfd⟩ := hi i (by omega)
      obtain ⟨v0, y0, c0, _, t0⟩ := hfd 0 _ rfl
      obtain ⟨v1, y1, c1, _, t1⟩ := hfd 1 _ rfl
      obtain ⟨v2, y2, c2, _, t2⟩ := hfd 2 _ rfl
      obtain ⟨z0, e0, _, _⟩ := DataW.trod_int Try.underlying3 t0
      obtain ⟨z1, e1, _, _⟩ := DataW.trod_int Try.underlying2 t1
      obtain ⟨z2, e2, _⟩ := DataW.trod_bool Try.underlying4 t2
      have e0 : v0 = .int .i64 z0 := by simpa using e0
      have e1 : v1 = .int .i64 z1 := by simpa using e1
      have e2 : v2 = .bool z2 := by simpa using e2
      subst e0
      subst e1
      subst e2
      exact ⟨⟨z0, z1, z2⟩, c0, c1, c2⟩)
    have hlen : ((List.range len).map B).length = len := by simp
    refine ⟨(List.range len).map B, hlen.symm, by rw [hlen]; omega, fun i hi' => ?_⟩
    rw [hlen] at hi'
    obtain ⟨h0, h1, h2⟩ := hB i hi'
    have hg : ((List.range len).map B).getD i ⟨0, 0, false⟩ = B i := by simp [List.getD_eq_getElem?_getD, hi']
    have hlt := World.block_lt_of_cell? w _ h0
    rw [add_block] at hlt
    rw [hg]
    have hs : ∀ j, 0 < j → x.add (i * 3 + j) = ⟨(x.add (i * 3)).block, (x.add (i * 3)).off + j, none⟩ := by
      intro j hj
      unfold Addr.add
      rw [if_neg (by omega)]
      split <;> simp_all [Nat.add_assoc]
    rw [hs 1 (by omega)] at h1
    rw [hs 2 (by omega)] at h2
    exact ⟨x, rfl, hlt, h0, h1, h2⟩
theorem order_any (w0 : World) (a : Option Addr) (c : Nat) (l : List Run) (x : Int) (hr : Rs w0 a l) (h0 : 0 ≤ x) (h1 : x ≤ 255) :
    Calls Try.prog 3 #[.slice a l.length c, .int .u8 x] w0 fun r w' => r = .returned (.bool true) ∧ Below w0.heap.size w0 w' := by
  by_cases hl : l.length ≤ 60
  · exact order_walk w0 a c l x hr h0 h1 hl
  · have hb := Below.refl w0.heap.size w0
    have hm := hr.max
    have hd : decide (60 < (l.length : Int)) = true := decide_eq_true (by omega)
    clear hr
    go_enter Try.func3, Try.ntmps3
    go_wp2_with (first
      | (go_at_call 6; refine (new_o w0 _ hb).mono ?_; rintro r w1 ⟨b, rfl, hm, hb1, hle⟩; clear hb; have hbm := hm.below)
      | (go_at_call 6; refine (new_o w0 _ hbm).mono ?_; rintro r w2 ⟨b2, rfl, hn, hb2, hle2⟩; clear hm hbm)
      | (go_at_call 7; refine (awake_any _).mono ?_; rintro r w2 ⟨rfl, hb3⟩; have hnA := hn.next hb3; clear hn))
    go_ret
    exact ⟨rfl, hnA.below⟩
theorem plays_any (w0 : World) (a : Option Addr) (c : Nat) (l : List Run) (hr : Rs w0 a l) :
    Calls Try.prog 5 #[.slice a l.length c] w0 fun r w' => r = .returned (.bool true) ∧ Below w0.heap.size w0 w' := by
  by_cases hl : l.length ≤ 60
  · exact plays_walk w0 a c l hr hl
  · have hb := Below.refl w0.heap.size w0
    have hm := hr.max
    have hd : decide (60 < (l.length : Int)) = true := decide_eq_true (by omega)
    clear hr
    go_enter Try.func5, Try.ntmps5
    go_wp2_with (first
      | (go_at_call 6; refine (new_o w0 _ hb).mono ?_; rintro r w1 ⟨b, rfl, hm, hb1, hle⟩; clear hb)
      | (go_at_call 7; refine (awake_any _).mono ?_; rintro r w2 ⟨rfl, hb3⟩; have hmA := hm.next hb3; clear hm))
    go_ret
    exact ⟨rfl, hmA.below⟩
end Go.Proofs.Ytnpjdegdojkffaa
