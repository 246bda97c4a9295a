/- The counters again, beside a world from which the call began: the closed statement's walk. -/
import Derived.Test.YtnpjdegdojkffaaMtA
namespace Go.Proofs.Ytnpjdegdojkffaa
open Go.RowKit

/-- A meter of the call's own: w0 is the world in which the call began. -/
structure Mo (w0 w : World) (b : Nat) (cs : List Int) : Prop where
  mt : Mt w b cs
  below : Below w0.heap.size w0 w
  base : w0.heap.size ≤ b
theorem Mo.next {w0 w w1 : World} {b : Nat} {cs : List Int} (h : Mo w0 w b cs) (hb : Below w.heap.size w w1) : Mo w0 w1 b cs :=
  ⟨⟨h.mt.len, (hb.block b h.mt.lt).trans h.mt.blk⟩, h.below.trans (hb.mono h.below.size), h.base⟩
theorem new_o (w0 w : World) (h : Below w0.heap.size w0 w) : Calls Try.prog 6 #[] w fun r w' => ∃ b, r = .returned (.pointer (some ⟨b, 0, none⟩)) ∧ Mo w0 w' b zeros ∧ Below w.heap.size w w' ∧ w.heap.size ≤ b := by
  refine (new_any w).mono ?_
  rintro r w' ⟨rfl, h1, h2, h3⟩
  exact ⟨_, rfl, ⟨h1, h.trans (h2.mono h.size), h.size⟩, h2, Nat.le_refl _⟩
theorem add_o (w0 : World) (b : Nat) (cs cs' : List Int) (e s r' : Int) (w : World) (h : Mo w0 w b cs) (h1 : added cs e s = cs') (h2 : okOf e s = r') :
    Calls Try.prog 8 #[.pointer (some ⟨b, 0, none⟩), .int .i64 e, .int .i64 s] w fun r w' => r = .returned (.int .i64 r') ∧ Mo w0 w' b cs' ∧ w.grownBy w' (some b) := by
  subst h1
  subst h2
  refine (add_any b cs e s w h.mt).mono ?_
  rintro r w' ⟨rfl, h3, h4⟩
  exact ⟨rfl, ⟨h3, h.below.grown h4 h.below.size (by intro k hk; cases hk; exact h.base), h.base⟩, h4⟩
theorem reset_o (w0 : World) (b : Nat) (cs : List Int) (w : World) (h : Mo w0 w b cs) :
    Calls Try.prog 12 #[.pointer (some ⟨b, 0, none⟩)] w fun r w' => r = .returned (.tuple #[]) ∧ Mo w0 w' b zeros ∧ w.grownBy w' (some b) := by
  refine (reset_any b cs w h.mt).mono ?_
  rintro r w' ⟨rfl, h3, h4⟩
  exact ⟨rfl, ⟨h3, h.below.grown h4 h.below.size (by intro k hk; cases hk; exact h.base), h.base⟩, h4⟩
theorem steps_o (w0 : World) (b : Nat) (cs : List Int) (e x : Int) (w : World) (h : Mo w0 w b cs) (h1 : entry cs 0 e = x) :
    Calls Try.prog 9 #[.pointer (some ⟨b, 0, none⟩), .int .i64 e] w fun r w' => r = .returned (.int .i64 x) ∧ w = w' := by
  subst h1
  exact steps_any b cs e w h.mt
theorem runs_o (w0 : World) (b : Nat) (cs : List Int) (e x : Int) (w : World) (h : Mo w0 w b cs) (h1 : entry cs 8 e = x) :
    Calls Try.prog 10 #[.pointer (some ⟨b, 0, none⟩), .int .i64 e] w fun r w' => r = .returned (.int .i64 x) ∧ w = w' := by
  subst h1
  exact runs_any b cs e w h.mt
theorem total_o (w0 : World) (b : Nat) (cs : List Int) (x : Int) (w : World) (h : Mo w0 w b cs) (h1 : total cs = x) :
    Calls Try.prog 11 #[.pointer (some ⟨b, 0, none⟩)] w fun r w' => r = .returned (.int .i64 x) ∧ w = w' := by
  subst h1
  exact total_any b cs w h.mt

def c1 : List Int := [0, 0, 5, 0, 0, 0, 0, 0, 0, 0, 1, 0, 0, 0, 0, 0]
def c2 : List Int := [0, 0, 7, 0, 0, 0, 0, 0, 0, 0, 2, 0, 0, 0, 0, 0]
theorem awake_any (w : World) : Calls Try.prog 7 #[] w fun r w' => r = .returned (.bool true) ∧ Below w.heap.size w w' := by
  have a1 := Lib.hid (show added zeros 3 5 = c1 by kernel_rfl)
  have a2 := Lib.hid (show added c1 3 2 = c2 by kernel_rfl)
  have o1 := Lib.hid (show okOf 3 5 = 0 by kernel_rfl)
  have o2 := Lib.hid (show okOf 3 2 = 0 by kernel_rfl)
  have e1 := Lib.hid (show entry c2 0 3 = 7 by kernel_rfl)
  have e2 := Lib.hid (show entry c2 8 3 = 2 by kernel_rfl)
  have e3 := Lib.hid (show total c2 = 7 by kernel_rfl)
  have hb := Below.refl w.heap.size w
  go_enter Try.func7, Try.ntmps7
  go_wp2_with (first
    | (go_at_call 6; refine (new_o w _ hb).mono ?_; rintro r w1 ⟨b, rfl, hm, hb1, hle⟩)
    | (go_at_call 8; (with_reducible refine (add_o w b zeros c1 3 5 0 _ hm a1.out o1.out).mono ?_); rintro r w2 ⟨rfl, hm1, hg1⟩)
    | (go_at_call 8; (with_reducible refine (add_o w b c1 c2 3 2 0 _ hm1 a2.out o2.out).mono ?_); rintro r w3 ⟨rfl, hm2, hg2⟩)
    | (go_at_call 9; (with_reducible refine (steps_o w b c2 3 7 _ hm2 e1.out).mono ?_); rintro r w4 ⟨rfl, rfl⟩)
    | (go_at_call 10; (with_reducible refine (runs_o w b c2 3 2 _ hm2 e2.out).mono ?_); rintro r w4 ⟨rfl, rfl⟩)
    | (go_at_call 11; (with_reducible refine (total_o w b c2 7 _ hm2 e3.out).mono ?_); rintro r w4 ⟨rfl, rfl⟩))
  go_ret
  exact ⟨rfl, hm2.below⟩
end Go.Proofs.Ytnpjdegdojkffaa
