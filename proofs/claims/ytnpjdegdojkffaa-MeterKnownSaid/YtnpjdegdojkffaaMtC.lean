/- The closed statement on counters: its walk. -/
import Derived.Test.YtnpjdegdojkffaaMtB
namespace Go.Proofs.Ytnpjdegdojkffaa
open Go.RowKit
def k1 : List Int := [0, 0, 0, 0, 0, 0, 0, 0, 0, 0, 0, 0, 0, 0, 0, 1]
def k2 : List Int := [0, 9223372036854775807, 0, 0, 0, 0, 0, 0, 0, 1, 0, 0, 0, 0, 0, 1]
def k3 : List Int := [0, -9223372036854775808, 0, 0, 0, 0, 0, 0, 0, 2, 0, 0, 0, 0, 0, 1]
set_option maxHeartbeats 1000000 in
theorem known_any (w : World) : Calls Try.prog 4 #[] w fun r w' => r = .returned (.bool true) ∧ Below w.heap.size w w' := by
  have a0 := Lib.hid (show added zeros 0 1 = zeros by kernel_rfl)
  have a9 := Lib.hid (show added zeros 9 1 = zeros by kernel_rfl)
  have am := Lib.hid (show added zeros 1 (-1) = zeros by kernel_rfl)
  have a1 := Lib.hid (show added zeros 8 0 = k1 by kernel_rfl)
  have a2 := Lib.hid (show added k1 2 9223372036854775807 = k2 by kernel_rfl)
  have a3 := Lib.hid (show added k2 2 1 = k3 by kernel_rfl)
  have o0 := Lib.hid (show okOf 0 1 = 1 by kernel_rfl)
  have o9 := Lib.hid (show okOf 9 1 = 1 by kernel_rfl)
  have om := Lib.hid (show okOf 1 (-1) = 1 by kernel_rfl)
  have o1 := Lib.hid (show okOf 8 0 = 0 by kernel_rfl)
  have o2 := Lib.hid (show okOf 2 9223372036854775807 = 0 by kernel_rfl)
  have o3 := Lib.hid (show okOf 2 1 = 0 by kernel_rfl)
  have e1 := Lib.hid (show entry k3 0 2 = -9223372036854775808 by kernel_rfl)
  have e2 := Lib.hid (show entry k3 8 2 = 2 by kernel_rfl)
  have z1 := Lib.hid (show entry zeros 0 2 = 0 by kernel_rfl)
  have z2 := Lib.hid (show entry zeros 8 8 = 0 by kernel_rfl)
  have z3 := Lib.hid (show total zeros = 0 by kernel_rfl)
  have z4 := Lib.hid (show entry zeros 0 0 = 0 by kernel_rfl)
  have z5 := Lib.hid (show entry zeros 8 (-3) = 0 by kernel_rfl)
  have z6 := Lib.hid (show entry zeros 0 9 = 0 by kernel_rfl)
  have hb := Below.refl w.heap.size w
  go_enter Try.func4, Try.ntmps4
  go_wp2_with (first
    | (go_at_call 6; refine (new_o w _ hb).mono ?_; rintro r w1 ⟨b, rfl, hm, hb1, hle⟩)
    | (go_at_call 7; refine (awake_any _).mono ?_; rintro r w2 ⟨rfl, hb2⟩; have hmA := hm.next hb2)
    | (go_at_call 8; (with_reducible refine (add_o w b zeros zeros 0 1 1 _ hmA a0.out o0.out).mono ?_); rintro r w3 ⟨rfl, hm1, hg1⟩)
    | (go_at_call 8; (with_reducible refine (add_o w b zeros zeros 9 1 1 _ hm1 a9.out o9.out).mono ?_); rintro r w4 ⟨rfl, hm2, hg2⟩)
    | (go_at_call 8; (with_reducible refine (add_o w b zeros zeros 1 (-1) 1 _ hm2 am.out om.out).mono ?_); rintro r w5 ⟨rfl, hm3, hg3⟩)
    | (go_at_call 8; (with_reducible refine (add_o w b zeros k1 8 0 0 _ hm3 a1.out o1.out).mono ?_); rintro r w6 ⟨rfl, hm4, hg4⟩)
    | (go_at_call 8; (with_reducible refine (add_o w b k1 k2 2 9223372036854775807 0 _ hm4 a2.out o2.out).mono ?_); rintro r w7 ⟨rfl, hm5, hg5⟩)
    | (go_at_call 8; (with_reducible refine (add_o w b k2 k3 2 1 0 _ hm5 a3.out o3.out).mono ?_); rintro r w8 ⟨rfl, hm6, hg6⟩)
    | (go_at_call 9; (with_reducible refine (steps_o w b k3 2 (-9223372036854775808) _ hm6 e1.out).mono ?_); rintro r w9 ⟨rfl, rfl⟩)
    | (go_at_call 10; (with_reducible refine (runs_o w b k3 2 2 _ hm6 e2.out).mono ?_); rintro r w9 ⟨rfl, rfl⟩)
    | (go_at_call 12; (with_reducible refine (reset_o w b k3 _ hm6).mono ?_); rintro r w9 ⟨rfl, hm7, hg7⟩)
    | (go_at_call 9; (with_reducible refine (steps_o w b zeros 2 0 _ hm7 z1.out).mono ?_); rintro r w10 ⟨rfl, rfl⟩)
    | (go_at_call 10; (with_reducible refine (runs_o w b zeros 8 0 _ hm7 z2.out).mono ?_); rintro r w10 ⟨rfl, rfl⟩)
    | (go_at_call 11; (with_reducible refine (total_o w b zeros 0 _ hm7 z3.out).mono ?_); rintro r w10 ⟨rfl, rfl⟩)
    | (go_at_call 9; (with_reducible refine (steps_o w b zeros 0 0 _ hm7 z4.out).mono ?_); rintro r w10 ⟨rfl, rfl⟩)
    | (go_at_call 10; (with_reducible refine (runs_o w b zeros (-3) 0 _ hm7 z5.out).mono ?_); rintro r w10 ⟨rfl, rfl⟩)
    | (go_at_call 9; (with_reducible refine (steps_o w b zeros 9 0 _ hm7 z6.out).mono ?_); rintro r w10 ⟨rfl, rfl⟩))
  go_ret
  exact ⟨rfl, hm7.below⟩
end Go.Proofs.Ytnpjdegdojkffaa
