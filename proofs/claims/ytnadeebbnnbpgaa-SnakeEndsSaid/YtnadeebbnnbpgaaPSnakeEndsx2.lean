/- What the given program's functions come to, each a Lean function and the walk that shows it: no condition beside those that each theorem names. -/
import Derived.Test.YtnadeebbnnbpgaaPSnakeEndsx0
import Derived.Test.YtnadeebbnnbpgaaPSnakeEndsx1
namespace Go.Proofs.Ytnadeebbnnbpgaa.PSnakeEnds
open Go.RowKit Go.Proofs.YtnadeebbnnbpgaaW.PrintWords Go.Proofs.YtnadeebbnnbpgaaW.PrintLast Go.Proofs.YtnadeebbnnbpgaaW.PrintMore
attribute [local go_sem] max2_int min2_int max_two min_two max_three min_three max_four min_four   -- for this text's walks alone
set_option linter.unusedVariables false
set_option linter.unusedSimpArgs false

/-! ### tattinglaw17_SnakeEnds: function 5 -/
def tattinglaw17_SnakeEnds.j0 : Nat → List Int → List Int → Int → Int → Bool → Option (Bool)
 | 0, _, _, _, _, _ => none
 | k + 1, x0, x1, x2, x3, x23 => if x23 = true then (some true) else ((tattingref1_Few.f k x0 2).bind fun t127 => ((tattingref1_Few.f k x1 2).bind fun t130 => (if (wrap64 ((t127.length : Int) + 1)) = 0 then (none) else (if (wrap64 ((t130.length : Int) + 1)) = 0 then (none) else ((snake_Down.f k t127 t130 (Int.tmod (wrap64 (x2)) (wrap64 ((t127.length : Int) + 1))) (Int.tmod (wrap64 (x3)) (wrap64 ((t130.length : Int) + 1)))).bind fun t133 => (if t133 < 0 then (some false) else (if t133 > (wrap64 ((t127.length : Int) - (Int.tmod (wrap64 (x2)) (wrap64 ((t127.length : Int) + 1))))) then (some false) else (if t133 > (wrap64 ((t130.length : Int) - (Int.tmod (wrap64 (x3)) (wrap64 ((t130.length : Int) + 1))))) then (some false) else (if 0 ≤ (Int.tmod (wrap64 (x2)) (wrap64 ((t127.length : Int) + 1))) then (if (Int.tmod (wrap64 (x2)) (wrap64 ((t127.length : Int) + 1))) ≤ (wrap64 ((Int.tmod (wrap64 (x2)) (wrap64 ((t127.length : Int) + 1))) + t133)) then (if (wrap64 ((Int.tmod (wrap64 (x2)) (wrap64 ((t127.length : Int) + 1))) + t133)) ≤ (t127.length : Int) then (if 0 ≤ (Int.tmod (wrap64 (x3)) (wrap64 ((t130.length : Int) + 1))) then (if (Int.tmod (wrap64 (x3)) (wrap64 ((t130.length : Int) + 1))) ≤ (wrap64 ((Int.tmod (wrap64 (x3)) (wrap64 ((t130.length : Int) + 1))) + t133)) then (if (wrap64 ((Int.tmod (wrap64 (x3)) (wrap64 ((t130.length : Int) + 1))) + t133)) ≤ (t130.length : Int) then ((tattingref1_SameInts.f k ((t127.take ((wrap64 ((Int.tmod (wrap64 (x2)) (wrap64 ((t127.length : Int) + 1))) + t133)) : Int).toNat).drop ((Int.tmod (wrap64 (x2)) (wrap64 ((t127.length : Int) + 1))) : Int).toNat) ((t130.take ((wrap64 ((Int.tmod (wrap64 (x3)) (wrap64 ((t130.length : Int) + 1))) + t133)) : Int).toNat).drop ((Int.tmod (wrap64 (x3)) (wrap64 ((t130.length : Int) + 1))) : Int).toNat)).bind fun t142 => (if t142 = true then (if (wrap64 ((Int.tmod (wrap64 (x2)) (wrap64 ((t127.length : Int) + 1))) + t133)) = (t127.length : Int) then (some true) else (if (wrap64 ((Int.tmod (wrap64 (x3)) (wrap64 ((t130.length : Int) + 1))) + t133)) = (t130.length : Int) then (some true) else (if 0 ≤ (wrap64 ((Int.tmod (wrap64 (x2)) (wrap64 ((t127.length : Int) + 1))) + t133)) then (if (wrap64 ((Int.tmod (wrap64 (x2)) (wrap64 ((t127.length : Int) + 1))) + t133)) < (t127.length : Int) then (if 0 ≤ (wrap64 ((Int.tmod (wrap64 (x3)) (wrap64 ((t130.length : Int) + 1))) + t133)) then (if (wrap64 ((Int.tmod (wrap64 (x3)) (wrap64 ((t130.length : Int) + 1))) + t133)) < (t130.length : Int) then (some ((rd t127 (wrap64 ((Int.tmod (wrap64 (x2)) (wrap64 ((t127.length : Int) + 1))) + t133))) != (rd t130 (wrap64 ((Int.tmod (wrap64 (x3)) (wrap64 ((t130.length : Int) + 1))) + t133))))) else (none)) else (none)) else (none)) else (none)))) else (some false))) else (none)) else (none)) else (none)) else (none)) else (none)) else (none))))))))))
def tattinglaw17_SnakeEnds.f (k : Nat) (l0 : List Int) (l1 : List Int) (a2 : Int) (a3 : Int) : Option (Bool) := (tattinglaw17_awake.f k).bind fun t126 => (if t126 = true then (if (l0.length : Int) > 40 then (tattinglaw17_SnakeEnds.j0 k l0 l1 a2 a3 true) else (tattinglaw17_SnakeEnds.j0 k l0 l1 a2 a3 (decide ((l1.length : Int) > 40)))) else (some false))
theorem tattinglaw17_SnakeEnds.mono_l : ∀ k, (∀ y0 y1 y2 y3 y4, LeO (tattinglaw17_SnakeEnds.j0 k y0 y1 y2 y3 y4) (tattinglaw17_SnakeEnds.j0 (k + 1) y0 y1 y2 y3 y4))
 | 0 => fun _ _ _ _ _ r h => by simp [tattinglaw17_SnakeEnds.j0] at h
 | k + 1 => by
  have ih0 := tattinglaw17_SnakeEnds.mono_l k
  ·intro y0 y1 y2 y3 y4
   unfold tattinglaw17_SnakeEnds.j0
   repeat' first
   | (with_reducible exact ih0 _ _ _ _ _)
   | (with_reducible exact snake_Down.mono _ _ _ _ _)
   | (with_reducible exact tattinglaw17_awake.mono _)
   | (with_reducible exact tattingref1_Few.mono _ _ _)
   | (with_reducible exact tattingref1_SameInts.mono _ _ _)
   | (with_reducible exact LeO.refl _)
   | (with_reducible exact LeO.none _)
   | (with_reducible refine LeO.ite ?_ ?_)
   | (with_reducible refine LeO.bind ?_ (fun _ => ?_))
   | exact ih0 _ _ _ _ _
   | exact snake_Down.mono _ _ _ _ _
   | exact tattinglaw17_awake.mono _
   | exact tattingref1_Few.mono _ _ _
   | exact tattingref1_SameInts.mono _ _ _
   | exact LeO.none _
   | refine LeO.ite ?_ ?_
   | refine LeO.bind ?_ (fun _ => ?_)
theorem tattinglaw17_SnakeEnds.mono : ∀ a0 a1 a2 a3 k, LeO (tattinglaw17_SnakeEnds.f k a0 a1 a2 a3) (tattinglaw17_SnakeEnds.f (k + 1) a0 a1 a2 a3) := by
 intro a0 a1 a2 a3 k
 have ih0 := tattinglaw17_SnakeEnds.mono_l k
 unfold tattinglaw17_SnakeEnds.f
 repeat' first
   | (with_reducible exact ih0 _ _ _ _ _)
   | (with_reducible exact snake_Down.mono _ _ _ _ _)
   | (with_reducible exact tattinglaw17_awake.mono _)
   | (with_reducible exact tattingref1_Few.mono _ _ _)
   | (with_reducible exact tattingref1_SameInts.mono _ _ _)
   | (with_reducible exact LeO.refl _)
   | (with_reducible exact LeO.none _)
   | (with_reducible refine LeO.ite ?_ ?_)
   | (with_reducible refine LeO.bind ?_ (fun _ => ?_))
   | exact ih0 _ _ _ _ _
   | exact snake_Down.mono _ _ _ _ _
   | exact tattinglaw17_awake.mono _
   | exact tattingref1_Few.mono _ _ _
   | exact tattingref1_SameInts.mono _ _ _
   | exact LeO.none _
   | refine LeO.ite ?_ ?_
   | refine LeO.bind ?_ (fun _ => ?_)
def tattinglaw17_SnakeEnds.T6 : Bool × List (List Nat × List Nat) := (true, [([], []), ([0], [0]), ([], []), ([2], [2]), ([3], [3]), ([1, 4], [1, 4]), ([], []), ([6], [6]), ([], []), ([8], [8]), ([9], [9]), ([7, 10], [7, 10]), ([5, 0, 1, 2, 3, 4, 5], [5]), ([11, 12, 0, 1, 2, 3, 4, 5, 6, 7, 8, 9, 10, 11, 12], [11])])
def tattinglaw17_SnakeEnds.B6 : List Nat := [0, 1, 0, 4, 12, 31, 0, 64, 0, 256, 768, 1984, 63, 8191]
theorem tattinglaw17_SnakeEnds.tab6 : rtab .any (opsOf Try.f5 6) = tattinglaw17_SnakeEnds.T6 := by kernel_rfl
theorem tattinglaw17_SnakeEnds.bits6 : waitsOk tattinglaw17_SnakeEnds.T6.2 tattinglaw17_SnakeEnds.B6 = true := by kernel_rfl
def tattinglaw17_SnakeEnds.T8 : Bool × List (List Nat × List Nat) := (true, [([], []), ([0], [0]), ([1], [1]), ([2], [2]), ([2], [2]), ([4, 2], [2, 4]), ([2], [2]), ([5, 6, 2], [2, 5, 6]), ([3, 7, 2], [2, 3, 7]), ([2, 8], [2, 8]), ([9, 2], [9]), ([10], [10]), ([10], [10]), ([12, 10], [10, 12]), ([10], [10]), ([13, 14, 10], [10, 13, 14]), ([11, 15, 10], [10, 11, 15]), ([10, 16], [10, 16]), ([17, 10], [17]), ([18], [18]), ([18], [18]), ([18], [18]), ([18], [18]), ([21, 22, 18], [18, 21, 22]), ([19, 20, 23, 18], [18, 19, 20, 23]), ([18], [18]), ([18], [18]), ([18], [18]), ([18], [18]), ([27, 28, 18], [18, 27, 28]), ([25, 26, 29, 18], [18, 25, 26, 29]), ([24, 30, 18, 18], [18, 24, 30]), ([31, 18], [18, 31]), ([18, 32], [18, 32])])
def tattinglaw17_SnakeEnds.B8 : List Nat := [0, 1, 3, 7, 7, 23, 7, 119, 255, 511, 1023, 2047, 2047, 6143, 2047, 30719, 65535, 131071, 262143, 524287, 524287, 524287, 524287, 6815743, 16777215, 524287, 524287, 524287, 524287, 403177471, 1040711679, 2147483647, 4294967295, 8589934591]
theorem tattinglaw17_SnakeEnds.tab8 : rtab .any (opsOf Try.f5 8) = tattinglaw17_SnakeEnds.T8 := by kernel_rfl
theorem tattinglaw17_SnakeEnds.bits8 : waitsOk tattinglaw17_SnakeEnds.T8.2 tattinglaw17_SnakeEnds.B8 = true := by kernel_rfl
def tattinglaw17_SnakeEnds.T10 : Bool × List (List Nat × List Nat) := (true, [([], []), ([], []), ([0, 1], [0, 1]), ([], []), ([3], [3]), ([2, 4], [2, 4]), ([5], [5]), ([6], [6]), ([6], [6]), ([7, 8, 6], [6, 7, 8]), ([6], [6]), ([10, 6], [6, 10]), ([9, 11, 6], [6, 9, 11]), ([6, 12], [6, 12]), ([13, 6], [13]), ([14], [14]), ([14], [14]), ([14], [14]), ([16, 17, 14], [14, 16, 17]), ([15, 18, 14], [14, 15, 18]), ([19, 14], [14, 19]), ([14], [14]), ([14], [14]), ([14], [14]), ([22, 23, 14], [14, 22, 23]), ([21, 24, 14], [14, 21, 24]), ([25, 14], [14, 25]), ([20, 26, 14], [14, 20, 26]), ([14, 27], [14, 27]), ([28, 14, 0, 1, 2, 3, 4, 5, 6, 7, 8, 9, 10, 11, 12, 13, 14, 15, 16, 17, 18, 19, 20, 21, 22, 23, 24, 25, 26, 27, 28], [28])])
def tattinglaw17_SnakeEnds.B10 : List Nat := [0, 0, 3, 0, 8, 31, 63, 127, 127, 511, 127, 1151, 4095, 8191, 16383, 32767, 32767, 32767, 229375, 524287, 1048575, 32767, 32767, 32767, 12615679, 31490047, 65044479, 134217727, 268435455, 536870911]
theorem tattinglaw17_SnakeEnds.tab10 : rtab .any (opsOf Try.f5 10) = tattinglaw17_SnakeEnds.T10 := by kernel_rfl
theorem tattinglaw17_SnakeEnds.bits10 : waitsOk tattinglaw17_SnakeEnds.T10.2 tattinglaw17_SnakeEnds.B10 = true := by kernel_rfl
set_option maxHeartbeats 8000000 in
set_option maxRecDepth 100000 in
theorem tattinglaw17_SnakeEnds.calls (k : Nat) (A0 : Option Addr) (c0 : Nat) (l0 : List Int) (A1 : Option Addr) (c1 : Nat) (l1 : List Int) (a2 : Int) (a3 : Int) (r : Bool) (w : World) (hr0 : Kd.C (Kd.int .i64) w A0 l0.length l0) (hc0 : l0.length ≤ c0) (hr1 : Kd.C (Kd.int .i64) w A1 l1.length l1) (hc1 : l1.length ≤ c1) (h : tattinglaw17_SnakeEnds.f k l0 l1 a2 a3 = some r) (hr_ : r = true) :
  Calls Try.prog 5 #[.slice A0 l0.length c0, .slice A1 l1.length c1, .int .u8 a2, .int .u8 a3] w fun e w' => e = .returned (.bool r) ∧ Below w.heap.size w w' := by
 have HR0 := Aside0.mk hr0
 have HC0 := Aside0.mk hc0
 clear hr0 hc0
 have HR1 := Aside0.mk hr1
 have HC1 := Aside0.mk hc1
 clear hr1 hc1
 have HB := Aside0.mk (Below.refl w.heap.size w)
 have H : ((tattinglaw17_awake.f k).bind fun t126 => (if t126 = true then (if (l0.length : Int) > 40 then (tattinglaw17_SnakeEnds.j0 k l0 l1 a2 a3 true) else (tattinglaw17_SnakeEnds.j0 k l0 l1 a2 a3 (decide ((l1.length : Int) > 40)))) else (some false))) = some r := h
 clear h
 replace H := Option.bind_eq_some_iff.mp H
 obtain ⟨t126, A50, H⟩ := H
 replace H : (if t126 = true then (if (l0.length : Int) > 40 then (tattinglaw17_SnakeEnds.j0 k l0 l1 a2 a3 true) else (tattinglaw17_SnakeEnds.j0 k l0 l1 a2 a3 (decide ((l1.length : Int) > 40)))) else (some false)) = some r := H
 have A5 := Aside0.mk A50
 clear A50
 by_cases c6 : t126 = true
 ·subst c6
  have H1 : (if (l0.length : Int) > 40 then (tattinglaw17_SnakeEnds.j0 k l0 l1 a2 a3 true) else (tattinglaw17_SnakeEnds.j0 k l0 l1 a2 a3 (decide ((l1.length : Int) > 40)))) = some r := by rw [if_pos rfl] at H; exact H
  clear H
  have H := H1
  clear H1
  have HC7 := Aside0.mk H
  clear H
  go_enter Try.func5, Try.ntmps5
  go_upto_region 3 with (first | ((first | (with_reducible refine gate_callee (f := 8) rfl ?_); refine goesL_ (some 14) rfl rfl Try.func8 (by kernel_rfl) rfl #[] rfl (by (try simp only [List.map_toArray, List.map_cons, List.map_nil]); first | done | rfl | (simp only [List.length_drop, List.length_take]; rfl)) ?_ | go_at_call 8); (with_reducible refine (tattinglaw17_awake.calls k  true _ A5.out rfl).mono ?_); rintro e w8 ⟨rfl, hb⟩; (try refine ⟨_, rfl, ?_⟩); have n0_ := Aside0.mk (below_step (by repeat (first | (with_reducible first | exact HB.out | apply below_alloc | apply pw_below_drewN | apply below_drew1) | exact HB.out)) hb); clear HB; have HB := n0_; clear n0_; (try clear hb); (try clear hb2); (try clear hk); (try clear hi)))
  (try simp only [Act.put, sA,sB,sC])
  go_cut [23] (fun v23 wc => ∃ (kq : Nat) (x23_6 : Bool), v23 = .bool x23_6 ∧ Aside0 (tattinglaw17_SnakeEnds.j0 kq l0 l1 a2 a3 x23_6 = some r) ∧ Aside0 (kq ≤ k) ∧ Aside0 (Below w.heap.size w wc))
  case first =>
   have H := HC7.out
   clear HC7
   by_cases c9 : (l0.length : Int) > 40
   ·rw [if_pos c9] at H
    have c9b0 : decide (40 < (l0.length : Int)) = true := decide_eq_true c9
    have c9b1 : decide (40 < l0.length) = true := decide_eq_true (by omega)
    clear c9
    (first | rw [c9b0] | (simp only [i64_w, i32_w]; rw [c9b0]) | skip)
    have H' := Aside0.mk H
    clear H
    go_wp2
    go_meet
    case rel => exact ⟨_, (true), (by first | rfl | (simp; done) | (simp [*]; done)), H', ⟨by first | omega | exact Nat.le_refl _⟩, ⟨by repeat (first | (with_reducible first | exact HB.out | apply below_alloc | apply pw_below_drewN | apply below_drew1) | exact HB.out)⟩⟩
   ·rw [if_neg c9] at H
    have c9b0 : decide (40 < (l0.length : Int)) = false := decide_eq_false c9
    have c9b1 : decide (40 < l0.length) = false := decide_eq_false (by omega)
    clear c9
    (first | rw [c9b0] | (simp only [i64_w, i32_w]; rw [c9b0]) | skip)
    have H' := Aside0.mk H
    clear H
    go_wp2
    go_meet
    case rel => exact ⟨_, (decide ((l1.length : Int) > 40)), (by first | rfl | (simp; done) | (simp [*]; done)), H', ⟨by first | omega | exact Nat.le_refl _⟩, ⟨by repeat (first | (with_reducible first | exact HB.out | apply below_alloc | apply pw_below_drewN | apply below_drew1) | exact HB.out)⟩⟩
  case rest =>
   clear HC7
   try clear c1
   try clear p2
   try clear c5
   try clear c6
   try clear c8
   try clear c9
   try clear c9b0
   try clear c9b1
   obtain ⟨kq, x23_6, rfl, HA, HJ6, HB⟩ := hcut
   cases kq with
   | zero => exact absurd HA.out (by simp [tattinglaw17_SnakeEnds.j0])
   | succ kj6 =>
    have H := HA.out
    clear HA
    simp only [tattinglaw17_SnakeEnds.j0] at H
    by_cases c10 : x23_6 = true
    ·subst c10
     have H1 : (some true) = some r := by rw [if_pos rfl] at H; exact H
     clear H
     have H := H1
     clear H1
     obtain rfl := Option.some.inj H
     go_wp2
     go_ret
     exact ⟨by first | rfl | (simp [errW_none, errW_some] <;> rfl) | (simp [*, errW_none, errW_some] <;> rfl), by repeat (first | (with_reducible first | exact HB.out | apply below_alloc | apply pw_below_drewN | apply below_drew1) | exact HB.out)⟩
    ·replace c10 := Bool.eq_false_iff.mpr c10
     subst c10
     have H1 : ((tattingref1_Few.f kj6 l0 2).bind fun t127 => ((tattingref1_Few.f kj6 l1 2).bind fun t130 => (if (wrap64 ((t127.length : Int) + 1)) = 0 then (none) else (if (wrap64 ((t130.length : Int) + 1)) = 0 then (none) else ((snake_Down.f kj6 t127 t130 (Int.tmod (wrap64 (a2)) (wrap64 ((t127.length : Int) + 1))) (Int.tmod (wrap64 (a3)) (wrap64 ((t130.length : Int) + 1)))).bind fun t133 => (if t133 < 0 then (some false) else (if t133 > (wrap64 ((t127.length : Int) - (Int.tmod (wrap64 (a2)) (wrap64 ((t127.length : Int) + 1))))) then (some false) else (if t133 > (wrap64 ((t130.length : Int) - (Int.tmod (wrap64 (a3)) (wrap64 ((t130.length : Int) + 1))))) then (some false) else (if 0 ≤ (Int.tmod (wrap64 (a2)) (wrap64 ((t127.length : Int) + 1))) then (if (Int.tmod (wrap64 (a2)) (wrap64 ((t127.length : Int) + 1))) ≤ (wrap64 ((Int.tmod (wrap64 (a2)) (wrap64 ((t127.length : Int) + 1))) + t133)) then (if (wrap64 ((Int.tmod (wrap64 (a2)) (wrap64 ((t127.length : Int) + 1))) + t133)) ≤ (t127.length : Int) then (if 0 ≤ (Int.tmod (wrap64 (a3)) (wrap64 ((t130.length : Int) + 1))) then (if (Int.tmod (wrap64 (a3)) (wrap64 ((t130.length : Int) + 1))) ≤ (wrap64 ((Int.tmod (wrap64 (a3)) (wrap64 ((t130.length : Int) + 1))) + t133)) then (if (wrap64 ((Int.tmod (wrap64 (a3)) (wrap64 ((t130.length : Int) + 1))) + t133)) ≤ (t130.length : Int) then ((tattingref1_SameInts.f kj6 ((t127.take ((wrap64 ((Int.tmod (wrap64 (a2)) (wrap64 ((t127.length : Int) + 1))) + t133)) : Int).toNat).drop ((Int.tmod (wrap64 (a2)) (wrap64 ((t127.length : Int) + 1))) : Int).toNat) ((t130.take ((wrap64 ((Int.tmod (wrap64 (a3)) (wrap64 ((t130.length : Int) + 1))) + t133)) : Int).toNat).drop ((Int.tmod (wrap64 (a3)) (wrap64 ((t130.length : Int) + 1))) : Int).toNat)).bind fun t142 => (if t142 = true then (if (wrap64 ((Int.tmod (wrap64 (a2)) (wrap64 ((t127.length : Int) + 1))) + t133)) = (t127.length : Int) then (some true) else (if (wrap64 ((Int.tmod (wrap64 (a3)) (wrap64 ((t130.length : Int) + 1))) + t133)) = (t130.length : Int) then (some true) else (if 0 ≤ (wrap64 ((Int.tmod (wrap64 (a2)) (wrap64 ((t127.length : Int) + 1))) + t133)) then (if (wrap64 ((Int.tmod (wrap64 (a2)) (wrap64 ((t127.length : Int) + 1))) + t133)) < (t127.length : Int) then (if 0 ≤ (wrap64 ((Int.tmod (wrap64 (a3)) (wrap64 ((t130.length : Int) + 1))) + t133)) then (if (wrap64 ((Int.tmod (wrap64 (a3)) (wrap64 ((t130.length : Int) + 1))) + t133)) < (t130.length : Int) then (some ((rd t127 (wrap64 ((Int.tmod (wrap64 (a2)) (wrap64 ((t127.length : Int) + 1))) + t133))) != (rd t130 (wrap64 ((Int.tmod (wrap64 (a3)) (wrap64 ((t130.length : Int) + 1))) + t133))))) else (none)) else (none)) else (none)) else (none)))) else (some false))) else (none)) else (none)) else (none)) else (none)) else (none)) else (none)))))))))) = some r := by rw [if_neg (show ¬ (false = true) by decide)] at H; exact H
     clear H
     have H := H1
     clear H1
     replace H := Option.bind_eq_some_iff.mp H
     obtain ⟨t127, A110, H⟩ := H
     replace H : ((tattingref1_Few.f kj6 l1 2).bind fun t130 => (if (wrap64 ((t127.length : Int) + 1)) = 0 then (none) else (if (wrap64 ((t130.length : Int) + 1)) = 0 then (none) else ((snake_Down.f kj6 t127 t130 (Int.tmod (wrap64 (a2)) (wrap64 ((t127.length : Int) + 1))) (Int.tmod (wrap64 (a3)) (wrap64 ((t130.length : Int) + 1)))).bind fun t133 => (if t133 < 0 then (some false) else (if t133 > (wrap64 ((t127.length : Int) - (Int.tmod (wrap64 (a2)) (wrap64 ((t127.length : Int) + 1))))) then (some false) else (if t133 > (wrap64 ((t130.length : Int) - (Int.tmod (wrap64 (a3)) (wrap64 ((t130.length : Int) + 1))))) then (some false) else (if 0 ≤ (Int.tmod (wrap64 (a2)) (wrap64 ((t127.length : Int) + 1))) then (if (Int.tmod (wrap64 (a2)) (wrap64 ((t127.length : Int) + 1))) ≤ (wrap64 ((Int.tmod (wrap64 (a2)) (wrap64 ((t127.length : Int) + 1))) + t133)) then (if (wrap64 ((Int.tmod (wrap64 (a2)) (wrap64 ((t127.length : Int) + 1))) + t133)) ≤ (t127.length : Int) then (if 0 ≤ (Int.tmod (wrap64 (a3)) (wrap64 ((t130.length : Int) + 1))) then (if (Int.tmod (wrap64 (a3)) (wrap64 ((t130.length : Int) + 1))) ≤ (wrap64 ((Int.tmod (wrap64 (a3)) (wrap64 ((t130.length : Int) + 1))) + t133)) then (if (wrap64 ((Int.tmod (wrap64 (a3)) (wrap64 ((t130.length : Int) + 1))) + t133)) ≤ (t130.length : Int) then ((tattingref1_SameInts.f kj6 ((t127.take ((wrap64 ((Int.tmod (wrap64 (a2)) (wrap64 ((t127.length : Int) + 1))) + t133)) : Int).toNat).drop ((Int.tmod (wrap64 (a2)) (wrap64 ((t127.length : Int) + 1))) : Int).toNat) ((t130.take ((wrap64 ((Int.tmod (wrap64 (a3)) (wrap64 ((t130.length : Int) + 1))) + t133)) : Int).toNat).drop ((Int.tmod (wrap64 (a3)) (wrap64 ((t130.length : Int) + 1))) : Int).toNat)).bind fun t142 => (if t142 = true then (if (wrap64 ((Int.tmod (wrap64 (a2)) (wrap64 ((t127.length : Int) + 1))) + t133)) = (t127.length : Int) then (some true) else (if (wrap64 ((Int.tmod (wrap64 (a3)) (wrap64 ((t130.length : Int) + 1))) + t133)) = (t130.length : Int) then (some true) else (if 0 ≤ (wrap64 ((Int.tmod (wrap64 (a2)) (wrap64 ((t127.length : Int) + 1))) + t133)) then (if (wrap64 ((Int.tmod (wrap64 (a2)) (wrap64 ((t127.length : Int) + 1))) + t133)) < (t127.length : Int) then (if 0 ≤ (wrap64 ((Int.tmod (wrap64 (a3)) (wrap64 ((t130.length : Int) + 1))) + t133)) then (if (wrap64 ((Int.tmod (wrap64 (a3)) (wrap64 ((t130.length : Int) + 1))) + t133)) < (t130.length : Int) then (some ((rd t127 (wrap64 ((Int.tmod (wrap64 (a2)) (wrap64 ((t127.length : Int) + 1))) + t133))) != (rd t130 (wrap64 ((Int.tmod (wrap64 (a3)) (wrap64 ((t130.length : Int) + 1))) + t133))))) else (none)) else (none)) else (none)) else (none)))) else (some false))) else (none)) else (none)) else (none)) else (none)) else (none)) else (none))))))))) = some r := H
     have A11 := Aside0.mk A110
     clear A110
     replace H := Option.bind_eq_some_iff.mp H
     obtain ⟨t130, A120, H⟩ := H
     replace H : (if (wrap64 ((t127.length : Int) + 1)) = 0 then (none) else (if (wrap64 ((t130.length : Int) + 1)) = 0 then (none) else ((snake_Down.f kj6 t127 t130 (Int.tmod (wrap64 (a2)) (wrap64 ((t127.length : Int) + 1))) (Int.tmod (wrap64 (a3)) (wrap64 ((t130.length : Int) + 1)))).bind fun t133 => (if t133 < 0 then (some false) else (if t133 > (wrap64 ((t127.length : Int) - (Int.tmod (wrap64 (a2)) (wrap64 ((t127.length : Int) + 1))))) then (some false) else (if t133 > (wrap64 ((t130.length : Int) - (Int.tmod (wrap64 (a3)) (wrap64 ((t130.length : Int) + 1))))) then (some false) else (if 0 ≤ (Int.tmod (wrap64 (a2)) (wrap64 ((t127.length : Int) + 1))) then (if (Int.tmod (wrap64 (a2)) (wrap64 ((t127.length : Int) + 1))) ≤ (wrap64 ((Int.tmod (wrap64 (a2)) (wrap64 ((t127.length : Int) + 1))) + t133)) then (if (wrap64 ((Int.tmod (wrap64 (a2)) (wrap64 ((t127.length : Int) + 1))) + t133)) ≤ (t127.length : Int) then (if 0 ≤ (Int.tmod (wrap64 (a3)) (wrap64 ((t130.length : Int) + 1))) then (if (Int.tmod (wrap64 (a3)) (wrap64 ((t130.length : Int) + 1))) ≤ (wrap64 ((Int.tmod (wrap64 (a3)) (wrap64 ((t130.length : Int) + 1))) + t133)) then (if (wrap64 ((Int.tmod (wrap64 (a3)) (wrap64 ((t130.length : Int) + 1))) + t133)) ≤ (t130.length : Int) then ((tattingref1_SameInts.f kj6 ((t127.take ((wrap64 ((Int.tmod (wrap64 (a2)) (wrap64 ((t127.length : Int) + 1))) + t133)) : Int).toNat).drop ((Int.tmod (wrap64 (a2)) (wrap64 ((t127.length : Int) + 1))) : Int).toNat) ((t130.take ((wrap64 ((Int.tmod (wrap64 (a3)) (wrap64 ((t130.length : Int) + 1))) + t133)) : Int).toNat).drop ((Int.tmod (wrap64 (a3)) (wrap64 ((t130.length : Int) + 1))) : Int).toNat)).bind fun t142 => (if t142 = true then (if (wrap64 ((Int.tmod (wrap64 (a2)) (wrap64 ((t127.length : Int) + 1))) + t133)) = (t127.length : Int) then (some true) else (if (wrap64 ((Int.tmod (wrap64 (a3)) (wrap64 ((t130.length : Int) + 1))) + t133)) = (t130.length : Int) then (some true) else (if 0 ≤ (wrap64 ((Int.tmod (wrap64 (a2)) (wrap64 ((t127.length : Int) + 1))) + t133)) then (if (wrap64 ((Int.tmod (wrap64 (a2)) (wrap64 ((t127.length : Int) + 1))) + t133)) < (t127.length : Int) then (if 0 ≤ (wrap64 ((Int.tmod (wrap64 (a3)) (wrap64 ((t130.length : Int) + 1))) + t133)) then (if (wrap64 ((Int.tmod (wrap64 (a3)) (wrap64 ((t130.length : Int) + 1))) + t133)) < (t130.length : Int) then (some ((rd t127 (wrap64 ((Int.tmod (wrap64 (a2)) (wrap64 ((t127.length : Int) + 1))) + t133))) != (rd t130 (wrap64 ((Int.tmod (wrap64 (a3)) (wrap64 ((t130.length : Int) + 1))) + t133))))) else (none)) else (none)) else (none)) else (none)))) else (some false))) else (none)) else (none)) else (none)) else (none)) else (none)) else (none)))))))) = some r := H
     have A12 := Aside0.mk A120
     clear A120
     by_cases c13 : (wrap64 ((t127.length : Int) + 1)) = 0
     ·rw [if_pos c13] at H
      exact absurd H (by simp)
     ·rw [if_neg c13] at H
      have c13b0 : ((wrap64 ((t127.length : Int) + 1)) == 0) = false := beq_eq_false_iff_ne.mpr c13
      have c13b1 : ((wrap64 ((t127.length : Int) + 1)) != 0) = true := bne_iff_ne.mpr c13
      by_cases c14 : (wrap64 ((t130.length : Int) + 1)) = 0
      ·rw [if_pos c14] at H
       exact absurd H (by simp)
      ·rw [if_neg c14] at H
       have c14b0 : ((wrap64 ((t130.length : Int) + 1)) == 0) = false := beq_eq_false_iff_ne.mpr c14
       have c14b1 : ((wrap64 ((t130.length : Int) + 1)) != 0) = true := bne_iff_ne.mpr c14
       replace H := Option.bind_eq_some_iff.mp H
       obtain ⟨t133, A150, H⟩ := H
       replace H : (if t133 < 0 then (some false) else (if t133 > (wrap64 ((t127.length : Int) - (Int.tmod (wrap64 (a2)) (wrap64 ((t127.length : Int) + 1))))) then (some false) else (if t133 > (wrap64 ((t130.length : Int) - (Int.tmod (wrap64 (a3)) (wrap64 ((t130.length : Int) + 1))))) then (some false) else (if 0 ≤ (Int.tmod (wrap64 (a2)) (wrap64 ((t127.length : Int) + 1))) then (if (Int.tmod (wrap64 (a2)) (wrap64 ((t127.length : Int) + 1))) ≤ (wrap64 ((Int.tmod (wrap64 (a2)) (wrap64 ((t127.length : Int) + 1))) + t133)) then (if (wrap64 ((Int.tmod (wrap64 (a2)) (wrap64 ((t127.length : Int) + 1))) + t133)) ≤ (t127.length : Int) then (if 0 ≤ (Int.tmod (wrap64 (a3)) (wrap64 ((t130.length : Int) + 1))) then (if (Int.tmod (wrap64 (a3)) (wrap64 ((t130.length : Int) + 1))) ≤ (wrap64 ((Int.tmod (wrap64 (a3)) (wrap64 ((t130.length : Int) + 1))) + t133)) then (if (wrap64 ((Int.tmod (wrap64 (a3)) (wrap64 ((t130.length : Int) + 1))) + t133)) ≤ (t130.length : Int) then ((tattingref1_SameInts.f kj6 ((t127.take ((wrap64 ((Int.tmod (wrap64 (a2)) (wrap64 ((t127.length : Int) + 1))) + t133)) : Int).toNat).drop ((Int.tmod (wrap64 (a2)) (wrap64 ((t127.length : Int) + 1))) : Int).toNat) ((t130.take ((wrap64 ((Int.tmod (wrap64 (a3)) (wrap64 ((t130.length : Int) + 1))) + t133)) : Int).toNat).drop ((Int.tmod (wrap64 (a3)) (wrap64 ((t130.length : Int) + 1))) : Int).toNat)).bind fun t142 => (if t142 = true then (if (wrap64 ((Int.tmod (wrap64 (a2)) (wrap64 ((t127.length : Int) + 1))) + t133)) = (t127.length : Int) then (some true) else (if (wrap64 ((Int.tmod (wrap64 (a3)) (wrap64 ((t130.length : Int) + 1))) + t133)) = (t130.length : Int) then (some true) else (if 0 ≤ (wrap64 ((Int.tmod (wrap64 (a2)) (wrap64 ((t127.length : Int) + 1))) + t133)) then (if (wrap64 ((Int.tmod (wrap64 (a2)) (wrap64 ((t127.length : Int) + 1))) + t133)) < (t127.length : Int) then (if 0 ≤ (wrap64 ((Int.tmod (wrap64 (a3)) (wrap64 ((t130.length : Int) + 1))) + t133)) then (if (wrap64 ((Int.tmod (wrap64 (a3)) (wrap64 ((t130.length : Int) + 1))) + t133)) < (t130.length : Int) then (some ((rd t127 (wrap64 ((Int.tmod (wrap64 (a2)) (wrap64 ((t127.length : Int) + 1))) + t133))) != (rd t130 (wrap64 ((Int.tmod (wrap64 (a3)) (wrap64 ((t130.length : Int) + 1))) + t133))))) else (none)) else (none)) else (none)) else (none)))) else (some false))) else (none)) else (none)) else (none)) else (none)) else (none)) else (none))))) = some r := H
       have A15 := Aside0.mk A150
       clear A150
       by_cases c16 : t133 < 0
       ·rw [if_pos c16] at H
        have c16b0 : decide (t133 < 0) = true := decide_eq_true c16
        clear c16
        exact absurd (Option.some.inj H) (by rw [hr_]; decide)
       ·rw [if_neg c16] at H
        have c16b0 : decide (t133 < 0) = false := decide_eq_false c16
        clear c16
        by_cases c17 : t133 > (wrap64 ((t127.length : Int) - (Int.tmod (wrap64 (a2)) (wrap64 ((t127.length : Int) + 1)))))
        ·rw [if_pos c17] at H
         have c17b0 : decide ((wrap64 ((t127.length : Int) - (Int.tmod (wrap64 (a2)) (wrap64 ((t127.length : Int) + 1))))) < t133) = true := decide_eq_true c17
         clear c17
         exact absurd (Option.some.inj H) (by rw [hr_]; decide)
        ·rw [if_neg c17] at H
         have c17b0 : decide ((wrap64 ((t127.length : Int) - (Int.tmod (wrap64 (a2)) (wrap64 ((t127.length : Int) + 1))))) < t133) = false := decide_eq_false c17
         clear c17
         by_cases c18 : t133 > (wrap64 ((t130.length : Int) - (Int.tmod (wrap64 (a3)) (wrap64 ((t130.length : Int) + 1)))))
         ·rw [if_pos c18] at H
          have c18b0 : decide ((wrap64 ((t130.length : Int) - (Int.tmod (wrap64 (a3)) (wrap64 ((t130.length : Int) + 1))))) < t133) = true := decide_eq_true c18
          clear c18
          exact absurd (Option.some.inj H) (by rw [hr_]; decide)
         ·rw [if_neg c18] at H
          have c18b0 : decide ((wrap64 ((t130.length : Int) - (Int.tmod (wrap64 (a3)) (wrap64 ((t130.length : Int) + 1))))) < t133) = false := decide_eq_false c18
          clear c18
          obtain ⟨ji19, hji19⟩ : ∃ j_ : Int, (Int.tmod (wrap64 (a2)) (wrap64 ((t127.length : Int) + 1))) = j_ := ⟨_, rfl⟩
          replace H : (if 0 ≤ (ji19) then (if (ji19) ≤ (wrap64 ((ji19) + t133)) then (if (wrap64 ((ji19) + t133)) ≤ (t127.length : Int) then (if 0 ≤ (Int.tmod (wrap64 (a3)) (wrap64 ((t130.length : Int) + 1))) then (if (Int.tmod (wrap64 (a3)) (wrap64 ((t130.length : Int) + 1))) ≤ (wrap64 ((Int.tmod (wrap64 (a3)) (wrap64 ((t130.length : Int) + 1))) + t133)) then (if (wrap64 ((Int.tmod (wrap64 (a3)) (wrap64 ((t130.length : Int) + 1))) + t133)) ≤ (t130.length : Int) then ((tattingref1_SameInts.f kj6 ((t127.take ((wrap64 ((ji19) + t133)) : Int).toNat).drop ((ji19) : Int).toNat) ((t130.take ((wrap64 ((Int.tmod (wrap64 (a3)) (wrap64 ((t130.length : Int) + 1))) + t133)) : Int).toNat).drop ((Int.tmod (wrap64 (a3)) (wrap64 ((t130.length : Int) + 1))) : Int).toNat)).bind fun t142 => (if t142 = true then (if (wrap64 ((ji19) + t133)) = (t127.length : Int) then (some true) else (if (wrap64 ((Int.tmod (wrap64 (a3)) (wrap64 ((t130.length : Int) + 1))) + t133)) = (t130.length : Int) then (some true) else (if 0 ≤ (wrap64 ((ji19) + t133)) then (if (wrap64 ((ji19) + t133)) < (t127.length : Int) then (if 0 ≤ (wrap64 ((Int.tmod (wrap64 (a3)) (wrap64 ((t130.length : Int) + 1))) + t133)) then (if (wrap64 ((Int.tmod (wrap64 (a3)) (wrap64 ((t130.length : Int) + 1))) + t133)) < (t130.length : Int) then (some ((rd t127 (wrap64 ((ji19) + t133))) != (rd t130 (wrap64 ((Int.tmod (wrap64 (a3)) (wrap64 ((t130.length : Int) + 1))) + t133))))) else (none)) else (none)) else (none)) else (none)))) else (some false))) else (none)) else (none)) else (none)) else (none)) else (none)) else (none)) = some r := by first | (rw [hji19] at H; exact H) | (simp only [hji19] at H ⊢; exact H)
          (try rw [hji19] at c17b0)
          (try rw [hji19] at A11)
          (try rw [hji19] at A12)
          (try rw [hji19] at A15)
          by_cases c20 : 0 ≤ (ji19)
          ·rw [if_pos c20] at H
           have c20b0 := eq_true c20
           have c20b1 : decide (0 ≤ (ji19)) = true := decide_eq_true c20
           clear c20
           by_cases c21 : (ji19) ≤ (wrap64 ((ji19) + t133))
           ·rw [if_pos c21] at H
            have c21b0 := eq_true c21
            have c21b1 : decide ((ji19) ≤ (wrap64 ((ji19) + t133))) = true := decide_eq_true c21
            by_cases c22 : (wrap64 ((ji19) + t133)) ≤ (t127.length : Int)
            ·rw [if_pos c22] at H
             have c22b0 := eq_true c22
             have c22b1 : decide ((wrap64 ((ji19) + t133)) ≤ (t127.length : Int)) = true := decide_eq_true c22
             obtain ⟨y134, hy134⟩ : ∃ y_ : List Int, y_ = ((t127.take ((wrap64 ((ji19) + t133)) : Int).toNat).drop ((ji19) : Int).toNat) := ⟨_, rfl⟩
             replace H : (if 0 ≤ (Int.tmod (wrap64 (a3)) (wrap64 ((t130.length : Int) + 1))) then (if (Int.tmod (wrap64 (a3)) (wrap64 ((t130.length : Int) + 1))) ≤ (wrap64 ((Int.tmod (wrap64 (a3)) (wrap64 ((t130.length : Int) + 1))) + t133)) then (if (wrap64 ((Int.tmod (wrap64 (a3)) (wrap64 ((t130.length : Int) + 1))) + t133)) ≤ (t130.length : Int) then ((tattingref1_SameInts.f kj6 y134 ((t130.take ((wrap64 ((Int.tmod (wrap64 (a3)) (wrap64 ((t130.length : Int) + 1))) + t133)) : Int).toNat).drop ((Int.tmod (wrap64 (a3)) (wrap64 ((t130.length : Int) + 1))) : Int).toNat)).bind fun t142 => (if t142 = true then (if (wrap64 ((ji19) + t133)) = (t127.length : Int) then (some true) else (if (wrap64 ((Int.tmod (wrap64 (a3)) (wrap64 ((t130.length : Int) + 1))) + t133)) = (t130.length : Int) then (some true) else (if 0 ≤ (wrap64 ((ji19) + t133)) then (if (wrap64 ((ji19) + t133)) < (t127.length : Int) then (if 0 ≤ (wrap64 ((Int.tmod (wrap64 (a3)) (wrap64 ((t130.length : Int) + 1))) + t133)) then (if (wrap64 ((Int.tmod (wrap64 (a3)) (wrap64 ((t130.length : Int) + 1))) + t133)) < (t130.length : Int) then (some ((rd t127 (wrap64 ((ji19) + t133))) != (rd t130 (wrap64 ((Int.tmod (wrap64 (a3)) (wrap64 ((t130.length : Int) + 1))) + t133))))) else (none)) else (none)) else (none)) else (none)))) else (some false))) else (none)) else (none)) else (none)) = some r := by first | (rw [hy134]; with_reducible exact H) | (have H2_ := (Option.bind_some _ _).symm.trans H; rw [hy134]; with_reducible exact H2_) | (have H2_ := (Option.bind_some _ _).symm.trans H; with_reducible exact H2_) | with_reducible exact H | (rw [hy134]; exact H) | exact H
             have Ny134 := Aside0.mk hy134
             clear hy134
             obtain ⟨ji23, hji23⟩ : ∃ j_ : Int, (Int.tmod (wrap64 (a3)) (wrap64 ((t130.length : Int) + 1))) = j_ := ⟨_, rfl⟩
             replace H : (if 0 ≤ (ji23) then (if (ji23) ≤ (wrap64 ((ji23) + t133)) then (if (wrap64 ((ji23) + t133)) ≤ (t130.length : Int) then ((tattingref1_SameInts.f kj6 y134 ((t130.take ((wrap64 ((ji23) + t133)) : Int).toNat).drop ((ji23) : Int).toNat)).bind fun t142 => (if t142 = true then (if (wrap64 ((ji19) + t133)) = (t127.length : Int) then (some true) else (if (wrap64 ((ji23) + t133)) = (t130.length : Int) then (some true) else (if 0 ≤ (wrap64 ((ji19) + t133)) then (if (wrap64 ((ji19) + t133)) < (t127.length : Int) then (if 0 ≤ (wrap64 ((ji23) + t133)) then (if (wrap64 ((ji23) + t133)) < (t130.length : Int) then (some ((rd t127 (wrap64 ((ji19) + t133))) != (rd t130 (wrap64 ((ji23) + t133))))) else (none)) else (none)) else (none)) else (none)))) else (some false))) else (none)) else (none)) else (none)) = some r := by first | (rw [hji23] at H; exact H) | (simp only [hji23] at H ⊢; exact H)
             (try rw [hji23] at c18b0)
             (try rw [hji23] at A11)
             (try rw [hji23] at A12)
             (try rw [hji23] at A15)
             by_cases c24 : 0 ≤ (ji23)
             ·rw [if_pos c24] at H
              have c24b0 := eq_true c24
              have c24b1 : decide (0 ≤ (ji23)) = true := decide_eq_true c24
              clear c24
              by_cases c25 : (ji23) ≤ (wrap64 ((ji23) + t133))
              ·rw [if_pos c25] at H
               have c25b0 := eq_true c25
               have c25b1 : decide ((ji23) ≤ (wrap64 ((ji23) + t133))) = true := decide_eq_true c25
               by_cases c26 : (wrap64 ((ji23) + t133)) ≤ (t130.length : Int)
               ·rw [if_pos c26] at H
                have c26b0 := eq_true c26
                have c26b1 : decide ((wrap64 ((ji23) + t133)) ≤ (t130.length : Int)) = true := decide_eq_true c26
                obtain ⟨y138, hy138⟩ : ∃ y_ : List Int, y_ = ((t130.take ((wrap64 ((ji23) + t133)) : Int).toNat).drop ((ji23) : Int).toNat) := ⟨_, rfl⟩
                replace H : ((tattingref1_SameInts.f kj6 y134 y138).bind fun t142 => (if t142 = true then (if (wrap64 ((ji19) + t133)) = (t127.length : Int) then (some true) else (if (wrap64 ((ji23) + t133)) = (t130.length : Int) then (some true) else (if 0 ≤ (wrap64 ((ji19) + t133)) then (if (wrap64 ((ji19) + t133)) < (t127.length : Int) then (if 0 ≤ (wrap64 ((ji23) + t133)) then (if (wrap64 ((ji23) + t133)) < (t130.length : Int) then (some ((rd t127 (wrap64 ((ji19) + t133))) != (rd t130 (wrap64 ((ji23) + t133))))) else (none)) else (none)) else (none)) else (none)))) else (some false))) = some r := by first | (rw [hy138]; with_reducible exact H) | (have H2_ := (Option.bind_some _ _).symm.trans H; rw [hy138]; with_reducible exact H2_) | (have H2_ := (Option.bind_some _ _).symm.trans H; with_reducible exact H2_) | with_reducible exact H | (rw [hy138]; exact H) | exact H
                have Ny138 := Aside0.mk hy138
                clear hy138
                replace H := Option.bind_eq_some_iff.mp H
                obtain ⟨t142, A270, H⟩ := H
                replace H : (if t142 = true then (if (wrap64 ((ji19) + t133)) = (t127.length : Int) then (some true) else (if (wrap64 ((ji23) + t133)) = (t130.length : Int) then (some true) else (if 0 ≤ (wrap64 ((ji19) + t133)) then (if (wrap64 ((ji19) + t133)) < (t127.length : Int) then (if 0 ≤ (wrap64 ((ji23) + t133)) then (if (wrap64 ((ji23) + t133)) < (t130.length : Int) then (some ((rd t127 (wrap64 ((ji19) + t133))) != (rd t130 (wrap64 ((ji23) + t133))))) else (none)) else (none)) else (none)) else (none)))) else (some false)) = some r := H
                have A27 := Aside0.mk A270
                clear A270
                by_cases c28 : t142 = true
                ·subst c28
                 have H1 : (if (wrap64 ((ji19) + t133)) = (t127.length : Int) then (some true) else (if (wrap64 ((ji23) + t133)) = (t130.length : Int) then (some true) else (if 0 ≤ (wrap64 ((ji19) + t133)) then (if (wrap64 ((ji19) + t133)) < (t127.length : Int) then (if 0 ≤ (wrap64 ((ji23) + t133)) then (if (wrap64 ((ji23) + t133)) < (t130.length : Int) then (some ((rd t127 (wrap64 ((ji19) + t133))) != (rd t130 (wrap64 ((ji23) + t133))))) else (none)) else (none)) else (none)) else (none)))) = some r := by rw [if_pos rfl] at H; exact H
                 clear H
                 have H := H1
                 clear H1
                 by_cases c29 : (wrap64 ((ji19) + t133)) = (t127.length : Int)
                 ·rw [if_pos c29] at H
                  have c29b0 : ((wrap64 ((ji19) + t133)) == (t127.length : Int)) = true := beq_iff_eq.mpr c29
                  have c29b1 : ((wrap64 ((ji19) + t133)) != (t127.length : Int)) = false := bne_eq_false_iff_eq.mpr c29
                  clear c29
                  obtain rfl := Option.some.inj H
                  try go_wp2_with (first | ((first | (with_reducible refine gate_callee (f := 12) rfl ?_); refine goesL_ (some 25) rfl rfl Try.func12 (by kernel_rfl) rfl #[.slice A0 l0.length c0, .int .i64 2] rfl (by (try simp only [List.map_toArray, List.map_cons, List.map_nil]); first | done | rfl | (simp only [List.length_drop, List.length_take]; rfl)) ?_ | go_at_call 12); (with_reducible refine (tattingref1_Few.calls kj6 _ _ l0 2 t127 _ ?side1 ?side2 A11.out).mono ?_); (case side1 => repeat (first | exact (Kd.C_below HR0.out HB.out) | (with_reducible refine Kd.C_alloc ?_ _) | (with_reducible refine Kd.C_drewN ?_ _) | (with_reducible refine Kd.C_drew ?_))); (case side2 => exact HC0.out); rintro e w30 ⟨v128, rfl, ho0, hb⟩; (try refine ⟨_, rfl, ?_⟩); have n0_ := Aside0.mk (Kd.R_lower ho0 (below_size (by repeat (first | (with_reducible first | exact HB.out | apply below_alloc | apply pw_below_drewN | apply below_drew1) | exact HB.out)))); have n1_ := Aside0.mk (below_step (by repeat (first | (with_reducible first | exact HB.out | apply below_alloc | apply pw_below_drewN | apply below_drew1) | exact HB.out)) hb); clear HB; have HO129 := n0_; have HB := n1_; clear n0_ n1_; (try clear hb); (try clear hb2); (try clear hk); (try clear hi); (try clear ho0)) | ((first | (with_reducible refine gate_callee (f := 12) rfl ?_); refine goesL_ (some 27) rfl rfl Try.func12 (by kernel_rfl) rfl #[.slice A1 l1.length c1, .int .i64 2] rfl (by (try simp only [List.map_toArray, List.map_cons, List.map_nil]); first | done | rfl | (simp only [List.length_drop, List.length_take]; rfl)) ?_ | go_at_call 12); (with_reducible refine (tattingref1_Few.calls kj6 _ _ l1 2 t130 _ ?side1 ?side2 A12.out).mono ?_); (case side1 => repeat (first | exact (Kd.C_below HR1.out HB.out) | (with_reducible refine Kd.C_alloc ?_ _) | (with_reducible refine Kd.C_drewN ?_ _) | (with_reducible refine Kd.C_drew ?_))); (case side2 => exact HC1.out); rintro e w31 ⟨v131, rfl, ho0, hb⟩; (try refine ⟨_, rfl, ?_⟩); have n0_ := Aside0.mk (Kd.R_elder' (by (with_reducible repeat (first | apply Kd.R_alloc | apply Kd.R_drewN | apply Kd.R_drew)); exact HO129.out) (Kd.R_base ho0) hb); have n1_ := Aside0.mk (Kd.R_lower (Kd.R_new' ho0 (Kd.R_lt (by (with_reducible repeat (first | apply Kd.R_alloc | apply Kd.R_drewN | apply Kd.R_drew)); exact HO129.out))) (below_size (by repeat (first | (with_reducible first | exact HB.out | apply below_alloc | apply pw_below_drewN | apply below_drew1) | exact HB.out)))); have n2_ := Aside0.mk (below_step (by repeat (first | (with_reducible first | exact HB.out | apply below_alloc | apply pw_below_drewN | apply below_drew1) | exact HB.out)) hb); clear HO129; clear HB; have HO129 := n0_; have HO132 := n1_; have HB := n2_; clear n0_ n1_ n2_; (try clear hb); (try clear hb2); (try clear hk); (try clear hi); (try clear ho0)))
                  have n0_ := Aside0.mk (Kd.R_drew HO129.out)
                  have n1_ := Aside0.mk (Kd.R_drew HO132.out)
                  have n2_ := Aside0.mk (below_drew1 HB.out)
                  clear HO129
                  clear HO132
                  clear HB
                  have HO129 := n0_
                  have HO132 := n1_
                  have HB := n2_
                  clear n0_ n1_ n2_
                  obtain ⟨Ao33, co33, eo33⟩ := Kd.R_slice HO129.out
                  (first | subst eo33 | (injection eo33 with f1_ f2_ f3_; have f4_ := f1_.symm; have f5_ := f3_.symm; clear f1_ f2_ f3_; subst f4_; subst f5_))
                  obtain ⟨Ao34, co34, eo34⟩ := Kd.R_slice HO132.out
                  (first | subst eo34 | (injection eo34 with f1_ f2_ f3_; have f4_ := f1_.symm; have f5_ := f3_.symm; clear f1_ f2_ f3_; subst f4_; subst f5_))
                  refine start_ (n := 14) (S := fun w' => True) (ds := []) #[N,N,N,N,N,N,N,N,N,N,N,N,N,N] (by kernel_rfl) rfl rfl trivial (fun hHeld => ?_); refine with_tabW tattinglaw17_SnakeEnds.tab6 tattinglaw17_SnakeEnds.bits6 (fun HT_ HW_ => ?_)
                  generalize w31.drew = w32 at HO129 HO132 HB hHeld ⊢
                  refine pure_ (i := 0) (N := some 28) (v := ?_) (a' := ?_) #[Y,N,N,N,N,N,N,N,N,N,N,N,N,N] rfl rfl (any_of HT_.out (by kernel_rfl)) (fun _ _ _ h => h) (Or.inl ⟨by rfl, ?_⟩) ?_ ?_; rotate_left
                  ·intro w'; go_simp; with_reducible rfl
                  rotate_left
                  ·simp only [Act.put, sA,sB,sC, i64_w, i32_w]; rfl
                  refine pure_ (i := 1) (N := some 29) (v := ?_) (a' := ?_) #[Y,Y,N,N,N,N,N,N,N,N,N,N,N,N] rfl rfl (any_of HT_.out (by kernel_rfl)) (fun _ _ _ h => h) (Or.inl ⟨by rfl, ?_⟩) ?_ ?_; rotate_left
                  ·intro w'; go_simp; with_reducible rfl
                  rotate_left
                  ·simp only [Act.put, sA,sB,sC, i64_w, i32_w]; rfl
                  refine pure_ (i := 2) (N := some 30) (v := ?_) (a' := ?_) #[Y,Y,Y,N,N,N,N,N,N,N,N,N,N,N] rfl rfl (any_of HT_.out (by kernel_rfl)) (fun _ _ _ h => h) (Or.inl ⟨by rfl, ?_⟩) ?_ ?_; rotate_left
                  ·intro w'; go_simp; with_reducible rfl
                  rotate_left
                  ·simp only [Act.put, sA,sB,sC, i64_w, i32_w]; rfl
                  refine pure_ (i := 3) (N := some 31) (v := ?_) (a' := ?_) #[Y,Y,Y,Y,N,N,N,N,N,N,N,N,N,N] rfl rfl (any_of HT_.out (by kernel_rfl)) (fun _ _ _ h => h) (Or.inl ⟨by rfl, ?_⟩) ?_ ?_; rotate_left
                  ·intro w'; go_simp; with_reducible rfl
                  rotate_left
                  ·simp only [Act.put, sA,sB,sC, i64_w, i32_w]; rfl
                  refine pure_ (i := 4) (N := some 32) (v := ?_) (a' := ?_) #[Y,Y,Y,Y,Y,N,N,N,N,N,N,N,N,N] rfl rfl (any_of HT_.out (by kernel_rfl)) (fun _ _ _ h => h) (Or.inl ⟨by rfl, ?_⟩) ?_ ?_; rotate_left
                  ·intro w'; go_simp; with_reducible rfl
                  rotate_left
                  ·simp only [Act.put, sA,sB,sC, i64_w, i32_w]; rfl
                  refine pure_ (i := 5) (N := some 33) (v := ?_) (a' := ?_) #[Y,Y,Y,Y,Y,Y,N,N,N,N,N,N,N,N] rfl rfl (any_of HT_.out (by kernel_rfl)) (fun _ _ _ h => h) (Or.inl ⟨by rfl, ?_⟩) ?_ ?_; rotate_left
                  ·intro w'; go_simp; with_reducible rfl
                  rotate_left
                  ·simp only [Act.put, sA,sB,sC, i64_w, i32_w]; rfl
                  refine pure_ (i := 6) (N := some 34) (v := ?_) (a' := ?_) #[Y,Y,Y,Y,Y,Y,Y,N,N,N,N,N,N,N] rfl rfl (any_of HT_.out (by kernel_rfl)) (fun _ _ _ h => h) (Or.inl ⟨by rfl, ?_⟩) ?_ ?_; rotate_left
                  ·intro w'; go_simp; with_reducible rfl
                  rotate_left
                  ·simp only [Act.put, sA,sB,sC, i64_w, i32_w]; rfl
                  refine pure_ (i := 7) (N := some 35) (v := ?_) (a' := ?_) #[Y,Y,Y,Y,Y,Y,Y,Y,N,N,N,N,N,N] rfl rfl (any_of HT_.out (by kernel_rfl)) (fun _ _ _ h => h) (Or.inl ⟨by rfl, ?_⟩) ?_ ?_; rotate_left
                  ·intro w'; go_simp; with_reducible rfl
                  rotate_left
                  ·simp only [Act.put, sA,sB,sC, i64_w, i32_w]; rfl
                  refine pure_ (i := 8) (N := some 36) (v := ?_) (a' := ?_) #[Y,Y,Y,Y,Y,Y,Y,Y,Y,N,N,N,N,N] rfl rfl (any_of HT_.out (by kernel_rfl)) (fun _ _ _ h => h) (Or.inl ⟨by rfl, ?_⟩) ?_ ?_; rotate_left
                  ·intro w'; go_simp; with_reducible rfl
                  rotate_left
                  ·simp only [Act.put, sA,sB,sC, i64_w, i32_w]; rfl
                  refine pure_ (i := 9) (N := some 37) (v := ?_) (a' := ?_) #[Y,Y,Y,Y,Y,Y,Y,Y,Y,Y,N,N,N,N] rfl rfl (any_of HT_.out (by kernel_rfl)) (fun _ _ _ h => h) (Or.inl ⟨by rfl, ?_⟩) ?_ ?_; rotate_left
                  ·intro w'; go_simp; with_reducible rfl
                  rotate_left
                  ·simp only [Act.put, sA,sB,sC, i64_w, i32_w]; rfl
                  refine pure_ (i := 10) (N := some 38) (v := ?_) (a' := ?_) #[Y,Y,Y,Y,Y,Y,Y,Y,Y,Y,Y,N,N,N] rfl rfl (any_of HT_.out (by kernel_rfl)) (fun _ _ _ h => h) (Or.inl ⟨by rfl, ?_⟩) ?_ ?_; rotate_left
                  ·intro w'; go_simp; with_reducible rfl
                  rotate_left
                  ·simp only [Act.put, sA,sB,sC, i64_w, i32_w]; rfl
                  refine pure_ (i := 11) (N := some 39) (v := ?_) (a' := ?_) #[Y,Y,Y,Y,Y,Y,Y,Y,Y,Y,Y,Y,N,N] rfl rfl (any_of HT_.out (by kernel_rfl)) (fun _ _ _ h => h) (Or.inl ⟨by rfl, ?_⟩) ?_ ?_; rotate_left
                  ·intro w'; go_simp; with_reducible rfl
                  rotate_left
                  ·simp only [Act.put, sA,sB,sC, i64_w, i32_w]; rfl
                  refine pure_ (i := 12) (N := some 11) (v := ?_) (a' := ?_) #[Y,Y,Y,Y,Y,Y,Y,Y,Y,Y,Y,Y,Y,N] rfl rfl (any_of HT_.out (by kernel_rfl)) (fun _ _ _ h => h) (Or.inl ⟨by rfl, ?_⟩) ?_ ?_; rotate_left
                  ·intro w'; go_simp; with_reducible rfl
                  rotate_left
                  ·simp only [Act.put, sA,sB,sC, i64_w, i32_w]; rfl
                  refine pure_ (i := 13) (N := some 12) (v := ?_) (a' := ?_) #[Y,Y,Y,Y,Y,Y,Y,Y,Y,Y,Y,Y,Y,Y] rfl rfl (any_of HT_.out (by kernel_rfl)) (fun _ _ _ h => h) (Or.inl ⟨by rfl, ?_⟩) ?_ ?_; rotate_left
                  ·intro w'; go_simp; with_reducible rfl
                  rotate_left
                  ·simp only [Act.put, sA,sB,sC, i64_w, i32_w]; rfl
                  refine done_ (done_of HT_.out (by kernel_rfl)) ?_
                  try go_wp2_with (first | ((first | (with_reducible refine gate_callee (f := 9) rfl ?_); refine goesL_ (some 44) rfl rfl Try.func9 (by kernel_rfl) rfl #[.slice Ao33 t127.length co33, .slice Ao34 t130.length co34, .int .i64 ji19, .int .i64 ji23] rfl (by (try simp only [List.map_toArray, List.map_cons, List.map_nil]); first | done | (simp only [hji19, hji23]; rfl) | rfl | (simp only [List.length_drop, List.length_take]; rfl)) ?_ | go_at_call 9); (with_reducible refine (snake_Down.calls kj6 _ _ t127 _ _ t130 ji19 ji23 t133 _ ?side1 ?side2 ?side3 ?side4 A15.out).mono ?_); (case side1 => repeat (first | exact (Kd.R_reads' HO129.out).2.2 | (with_reducible refine Kd.C_alloc ?_ _) | (with_reducible refine Kd.C_drewN ?_ _) | (with_reducible refine Kd.C_drew ?_))); (case side2 => exact (Kd.R_reads' HO129.out).2.1); (case side3 => repeat (first | exact (Kd.R_reads' HO132.out).2.2 | (with_reducible refine Kd.C_alloc ?_ _) | (with_reducible refine Kd.C_drewN ?_ _) | (with_reducible refine Kd.C_drew ?_))); (case side4 => exact (Kd.R_reads' HO132.out).2.1); rintro e w' ⟨rfl, ⟨nd, rfl⟩⟩; (try refine ⟨_, rfl, ?_⟩)))
                  (try (rw [drewN_self w32]; generalize hq_ : World.drewN w32 _ = w32; have n0_ : Aside0 (Kd.R (Kd.int .i64) 3 w32 w.heap.size (fun k_ => some k_ ≠ (.slice Ao34 t130.length co34 : Value).ownBlock) (.slice Ao33 t127.length co33) t127) := ⟨by rw [← hq_]; exact (by (with_reducible repeat (first | apply Kd.R_alloc | apply Kd.R_drewN | apply Kd.R_drew)); (first | exact Kd.R_mono HO129.out (fun _ hk => hk.2) | exact HO129.out))⟩; have n1_ : Aside0 (Kd.R (Kd.int .i64) 3 w32 w.heap.size (fun k_ => some k_ ≠ (.slice Ao33 t127.length co33 : Value).ownBlock) (.slice Ao34 t130.length co34) t130) := ⟨by rw [← hq_]; exact (by (with_reducible repeat (first | apply Kd.R_alloc | apply Kd.R_drewN | apply Kd.R_drew)); (first | exact Kd.R_mono HO132.out (fun _ hk => hk.2) | exact HO132.out))⟩; have n2_ : Aside0 (Below w.heap.size w w32) := ⟨by rw [← hq_]; exact (by repeat (first | (with_reducible first | exact HB.out | apply below_alloc | apply pw_below_drewN | apply below_drew1) | exact HB.out))⟩; clear HO129 HO132 HB hq_; have HO129 := n0_; have HO132 := n1_; have HB := n2_; clear n0_ n1_ n2_))
                  have n0_ := Aside0.mk (Kd.R_drew HO129.out)
                  have n1_ := Aside0.mk (Kd.R_drew HO132.out)
                  have n2_ := Aside0.mk (below_drew1 HB.out)
                  clear HO129
                  clear HO132
                  clear HB
                  have HO129 := n0_
                  have HO132 := n1_
                  have HB := n2_
                  clear n0_ n1_ n2_
                  have q36 : ((wrap64 ((ji19) + t133)) : Int) ≤ ((t127.length : Int) : Int) := of_decide_eq_true (by first | (with_reducible assumption) | assumption)
                  obtain ⟨i036, hi036, _, hsz36, _⟩ := info_parts info3
                  have hroom36 : t127.length ≤ co33 := (Kd.R_reads' HO129.out).2.1
                  have hC36 : Kd.C (Kd.int .i64) _ Ao33 t127.length t127 := (Kd.R_reads' HO129.out).2.2
                  have ql36 : ((ji19) : Int) ≤ ((wrap64 ((ji19) + t133)) : Int) := of_decide_eq_true (by first | (with_reducible assumption) | assumption)
                  have q036 : (0 : Int) ≤ ((ji19) : Int) := of_decide_eq_true (by first | (with_reducible assumption) | assumption)
                  have hcut36 := cut_mid (P := Try.prog) 22 3 .i64 .i64 Try.underlying22 hi036 1 hsz36 Ao33 t127.length co33 (ji19) (wrap64 ((ji19) + t133)) q036 ql36 q36 hroom36
                  have hr36 := Kd.C_mid (lo := ((ji19) : Int).toNat) (hi := ((wrap64 ((ji19) + t133)) : Int).toNat) (c := co33) hC36 (by omega) (by omega) hroom36
                  obtain ⟨A36, hA36⟩ : ∃ A1, A1 = (if co33 = ((ji19) : Int).toNat then Ao33 else (Ao33 : Option Addr).map (·.add (((ji19) : Int).toNat * 1))) := ⟨_, rfl⟩
                  obtain ⟨c36, hc36⟩ : ∃ c1, c1 = co33 - ((ji19) : Int).toNat := ⟨_, rfl⟩
                  have hy36 : y134.length = ((wrap64 ((ji19) + t133)) : Int).toNat - ((ji19) : Int).toNat := (by rw [Ny134.out, List.length_drop, List.length_take] <;> omega)
                  rw [show ((t127).take ((wrap64 ((ji19) + t133)) : Int).toNat).drop ((ji19) : Int).toNat = y134 from Ny134.out.symm] at hr36
                  replace hr36 : Kd.C (Kd.int .i64) _ A36 y134.length y134 := (by rw [hA36]; exact hr36)
                  rw [← hy36, ← hA36, ← hc36] at hcut36
                  have HR137 := Aside0.mk hr36
                  have HC137 := Aside0.mk (show y134.length ≤ c36 from by rw [hy36, hc36]; exact Nat.sub_le_sub_right (Nat.le_trans (by omega) hroom36) _)
                  clear hr36 hC36 hroom36 hi036 hsz36 hc36
                  have KY36 := Aside0.mk hy36
                  have KA36 := Aside0.mk hA36
                  clear hy36 hA36
                  have KL36 := Aside0.mk (show ((wrap64 ((ji19) + t133)) : Int).toNat ≤ t127.length from by omega)
                  have KM36 := Aside0.mk (show ((ji19) : Int).toNat ≤ ((wrap64 ((ji19) + t133)) : Int).toNat from by omega)
                  replace q36 := eq_true q36
                  have q37 : ((wrap64 ((ji23) + t133)) : Int) ≤ ((t130.length : Int) : Int) := of_decide_eq_true (by first | (with_reducible assumption) | assumption)
                  obtain ⟨i037, hi037, _, hsz37, _⟩ := info_parts info3
                  have hroom37 : t130.length ≤ co34 := (Kd.R_reads' HO132.out).2.1
                  have hC37 : Kd.C (Kd.int .i64) _ Ao34 t130.length t130 := (Kd.R_reads' HO132.out).2.2
                  have ql37 : ((ji23) : Int) ≤ ((wrap64 ((ji23) + t133)) : Int) := of_decide_eq_true (by first | (with_reducible assumption) | assumption)
                  have q037 : (0 : Int) ≤ ((ji23) : Int) := of_decide_eq_true (by first | (with_reducible assumption) | assumption)
                  have hcut37 := cut_mid (P := Try.prog) 22 3 .i64 .i64 Try.underlying22 hi037 1 hsz37 Ao34 t130.length co34 (ji23) (wrap64 ((ji23) + t133)) q037 ql37 q37 hroom37
                  have hr37 := Kd.C_mid (lo := ((ji23) : Int).toNat) (hi := ((wrap64 ((ji23) + t133)) : Int).toNat) (c := co34) hC37 (by omega) (by omega) hroom37
                  obtain ⟨A37, hA37⟩ : ∃ A1, A1 = (if co34 = ((ji23) : Int).toNat then Ao34 else (Ao34 : Option Addr).map (·.add (((ji23) : Int).toNat * 1))) := ⟨_, rfl⟩
                  obtain ⟨c37, hc37⟩ : ∃ c1, c1 = co34 - ((ji23) : Int).toNat := ⟨_, rfl⟩
                  have hy37 : y138.length = ((wrap64 ((ji23) + t133)) : Int).toNat - ((ji23) : Int).toNat := (by rw [Ny138.out, List.length_drop, List.length_take] <;> omega)
                  rw [show ((t130).take ((wrap64 ((ji23) + t133)) : Int).toNat).drop ((ji23) : Int).toNat = y138 from Ny138.out.symm] at hr37
                  replace hr37 : Kd.C (Kd.int .i64) _ A37 y138.length y138 := (by rw [hA37]; exact hr37)
                  rw [← hy37, ← hA37, ← hc37] at hcut37
                  have HR141 := Aside0.mk hr37
                  have HC141 := Aside0.mk (show y138.length ≤ c37 from by rw [hy37, hc37]; exact Nat.sub_le_sub_right (Nat.le_trans (by omega) hroom37) _)
                  clear hr37 hC37 hroom37 hi037 hsz37 hc37
                  have KY37 := Aside0.mk hy37
                  have KA37 := Aside0.mk hA37
                  clear hy37 hA37
                  have KL37 := Aside0.mk (show ((wrap64 ((ji23) + t133)) : Int).toNat ≤ t130.length from by omega)
                  have KM37 := Aside0.mk (show ((ji23) : Int).toNat ≤ ((wrap64 ((ji23) + t133)) : Int).toNat from by omega)
                  replace q37 := eq_true q37
                  refine start_ (n := 34) (S := fun w' => True) (ds := []) #[N,N,N,N,N,N,N,N,N,N,N,N,N,N,N,N,N,N,N,N,N,N,N,N,N,N,N,N,N,N,N,N,N,N] (by kernel_rfl) rfl rfl trivial (fun hHeld => ?_); refine with_tabW tattinglaw17_SnakeEnds.tab8 tattinglaw17_SnakeEnds.bits8 (fun HT_ HW_ => ?_)
                  generalize w32.drew = w35 at HO129 HO132 HB HR137 HR141 hHeld ⊢
                  refine pure_ (i := 0) (N := some 45) (v := ?_) (a' := ?_) #[Y,N,N,N,N,N,N,N,N,N,N,N,N,N,N,N,N,N,N,N,N,N,N,N,N,N,N,N,N,N,N,N,N,N] rfl rfl (any_of HT_.out (by kernel_rfl)) (fun _ _ _ h => h) (Or.inl ⟨by rfl, ?_⟩) ?_ ?_; rotate_left
                  ·intro w'; go_simp; with_reducible rfl
                  rotate_left
                  ·simp only [Act.put, sA,sB,sC, i64_w, i32_w]; rfl
                  refine pure_ (i := 1) (N := some 46) (v := ?_) (a' := ?_) #[Y,Y,N,N,N,N,N,N,N,N,N,N,N,N,N,N,N,N,N,N,N,N,N,N,N,N,N,N,N,N,N,N,N,N] rfl rfl (any_of HT_.out (by kernel_rfl)) (fun _ _ _ h => h) (Or.inl ⟨by rfl, ?_⟩) ?_ ?_; rotate_left
                  ·intro w'; go_simp; with_reducible rfl
                  rotate_left
                  ·simp only [Act.put, sA,sB,sC, i64_w, i32_w]; rfl
                  refine pure_ (i := 2) (N := some 47) (v := ?_) (a' := ?_) #[Y,Y,Y,N,N,N,N,N,N,N,N,N,N,N,N,N,N,N,N,N,N,N,N,N,N,N,N,N,N,N,N,N,N,N] rfl rfl (any_of HT_.out (by kernel_rfl)) (fun _ _ _ h => h) (Or.inl ⟨by rfl, ?_⟩) ?_ ?_; rotate_left
                  ·intro w'; go_simp; with_reducible rfl
                  rotate_left
                  ·simp only [Act.put, sA,sB,sC, i64_w, i32_w]; rfl
                  refine pure_ (i := 3) (N := some 48) (v := ?_) (a' := ?_) #[Y,Y,Y,Y,N,N,N,N,N,N,N,N,N,N,N,N,N,N,N,N,N,N,N,N,N,N,N,N,N,N,N,N,N,N] rfl rfl (any_of HT_.out (by kernel_rfl)) (fun _ _ _ h => h) (Or.inl ⟨by rfl, ?_⟩) ?_ ?_; rotate_left
                  ·intro w'; go_simp; with_reducible rfl
                  rotate_left
                  ·simp only [Act.put, sA,sB,sC, i64_w, i32_w]; rfl
                  refine pure_ (i := 4) (N := some 49) (v := ?_) (a' := ?_) #[Y,Y,Y,Y,Y,N,N,N,N,N,N,N,N,N,N,N,N,N,N,N,N,N,N,N,N,N,N,N,N,N,N,N,N,N] rfl rfl (any_of HT_.out (by kernel_rfl)) (fun _ _ _ h => h) (Or.inl ⟨by rfl, ?_⟩) ?_ ?_; rotate_left
                  ·intro w'; go_simp; with_reducible rfl
                  rotate_left
                  ·simp only [Act.put, sA,sB,sC, i64_w, i32_w]; rfl
                  refine pure_ (i := 5) (N := some 50) (v := ?_) (a' := ?_) #[Y,Y,Y,Y,Y,Y,N,N,N,N,N,N,N,N,N,N,N,N,N,N,N,N,N,N,N,N,N,N,N,N,N,N,N,N] rfl rfl (any_of HT_.out (by kernel_rfl)) (fun _ _ _ h => h) (Or.inl ⟨by rfl, ?_⟩) ?_ ?_; rotate_left
                  ·intro w'; go_simp; with_reducible rfl
                  rotate_left
                  ·simp only [Act.put, sA,sB,sC, i64_w, i32_w]; rfl
                  refine pure_ (i := 6) (N := some 51) (v := ?_) (a' := ?_) #[Y,Y,Y,Y,Y,Y,Y,N,N,N,N,N,N,N,N,N,N,N,N,N,N,N,N,N,N,N,N,N,N,N,N,N,N,N] rfl rfl (any_of HT_.out (by kernel_rfl)) (fun _ _ _ h => h) (Or.inl ⟨by rfl, ?_⟩) ?_ ?_; rotate_left
                  ·intro w'; go_simp; with_reducible rfl
                  rotate_left
                  ·simp only [Act.put, sA,sB,sC, i64_w, i32_w]; rfl
                  refine pure_ (i := 7) (N := some 52) (v := ?_) (a' := ?_) #[Y,Y,Y,Y,Y,Y,Y,Y,N,N,N,N,N,N,N,N,N,N,N,N,N,N,N,N,N,N,N,N,N,N,N,N,N,N] rfl rfl (any_of HT_.out (by kernel_rfl)) (fun _ _ _ h => h) (Or.inl ⟨by rfl, ?_⟩) ?_ ?_; rotate_left
                  ·intro w'; go_simp; with_reducible rfl
                  rotate_left
                  ·simp only [Act.put, sA,sB,sC, i64_w, i32_w]; rfl
                  refine pure_ (i := 8) (N := some 53) (v := ?_) (a' := ?_) #[Y,Y,Y,Y,Y,Y,Y,Y,Y,N,N,N,N,N,N,N,N,N,N,N,N,N,N,N,N,N,N,N,N,N,N,N,N,N] rfl rfl (any_of HT_.out (by kernel_rfl)) (fun _ _ _ h => h) (Or.inl ⟨by rfl, ?_⟩) ?_ ?_; rotate_left
                  ·intro w'; go_simp; with_reducible rfl
                  rotate_left
                  ·simp only [Act.put, sA,sB,sC, i64_w, i32_w]; rfl
                  refine pure_ (i := 9) (N := some 54) (v := ?_) (a' := ?_) #[Y,Y,Y,Y,Y,Y,Y,Y,Y,Y,N,N,N,N,N,N,N,N,N,N,N,N,N,N,N,N,N,N,N,N,N,N,N,N] rfl rfl (any_of HT_.out (by kernel_rfl)) (fun _ _ _ h => h) (Or.inl ⟨by rfl, ?_⟩) ?_ ?_; rotate_left
                  ·intro w'; go_simp; with_reducible rfl
                  rotate_left
                  ·simp only [Act.put, sA,sB,sC, i64_w, i32_w]; rfl
                  refine pure_ (i := 10) (N := some 55) (v := ?_) (a' := ?_) #[Y,Y,Y,Y,Y,Y,Y,Y,Y,Y,Y,N,N,N,N,N,N,N,N,N,N,N,N,N,N,N,N,N,N,N,N,N,N,N] rfl rfl (any_of HT_.out (by kernel_rfl)) (fun _ _ _ h => h) (Or.inl ⟨by rfl, ?_⟩) ?_ ?_; rotate_left
                  ·intro w'; go_simp; with_reducible rfl
                  rotate_left
                  ·simp only [Act.put, sA,sB,sC, i64_w, i32_w]; rfl
                  refine pure_ (i := 11) (N := some 56) (v := ?_) (a' := ?_) #[Y,Y,Y,Y,Y,Y,Y,Y,Y,Y,Y,Y,N,N,N,N,N,N,N,N,N,N,N,N,N,N,N,N,N,N,N,N,N,N] rfl rfl (any_of HT_.out (by kernel_rfl)) (fun _ _ _ h => h) (Or.inl ⟨by rfl, ?_⟩) ?_ ?_; rotate_left
                  ·intro w'; go_simp; with_reducible rfl
                  rotate_left
                  ·simp only [Act.put, sA,sB,sC, i64_w, i32_w]; rfl
                  refine pure_ (i := 12) (N := some 57) (v := ?_) (a' := ?_) #[Y,Y,Y,Y,Y,Y,Y,Y,Y,Y,Y,Y,Y,N,N,N,N,N,N,N,N,N,N,N,N,N,N,N,N,N,N,N,N,N] rfl rfl (any_of HT_.out (by kernel_rfl)) (fun _ _ _ h => h) (Or.inl ⟨by rfl, ?_⟩) ?_ ?_; rotate_left
                  ·intro w'; go_simp; with_reducible rfl
                  rotate_left
                  ·simp only [Act.put, sA,sB,sC, i64_w, i32_w]; rfl
                  refine pure_ (i := 13) (N := some 58) (v := ?_) (a' := ?_) #[Y,Y,Y,Y,Y,Y,Y,Y,Y,Y,Y,Y,Y,Y,N,N,N,N,N,N,N,N,N,N,N,N,N,N,N,N,N,N,N,N] rfl rfl (any_of HT_.out (by kernel_rfl)) (fun _ _ _ h => h) (Or.inl ⟨by rfl, ?_⟩) ?_ ?_; rotate_left
                  ·intro w'; go_simp; with_reducible rfl
                  rotate_left
                  ·simp only [Act.put, sA,sB,sC, i64_w, i32_w]; rfl
                  refine pure_ (i := 14) (N := some 59) (v := ?_) (a' := ?_) #[Y,Y,Y,Y,Y,Y,Y,Y,Y,Y,Y,Y,Y,Y,Y,N,N,N,N,N,N,N,N,N,N,N,N,N,N,N,N,N,N,N] rfl rfl (any_of HT_.out (by kernel_rfl)) (fun _ _ _ h => h) (Or.inl ⟨by rfl, ?_⟩) ?_ ?_; rotate_left
                  ·intro w'; go_simp; with_reducible rfl
                  rotate_left
                  ·simp only [Act.put, sA,sB,sC, i64_w, i32_w]; rfl
                  refine pure_ (i := 15) (N := some 60) (v := ?_) (a' := ?_) #[Y,Y,Y,Y,Y,Y,Y,Y,Y,Y,Y,Y,Y,Y,Y,Y,N,N,N,N,N,N,N,N,N,N,N,N,N,N,N,N,N,N] rfl rfl (any_of HT_.out (by kernel_rfl)) (fun _ _ _ h => h) (Or.inl ⟨by rfl, ?_⟩) ?_ ?_; rotate_left
                  ·intro w'; go_simp; with_reducible rfl
                  rotate_left
                  ·simp only [Act.put, sA,sB,sC, i64_w, i32_w]; rfl
                  refine pure_ (i := 16) (N := some 61) (v := ?_) (a' := ?_) #[Y,Y,Y,Y,Y,Y,Y,Y,Y,Y,Y,Y,Y,Y,Y,Y,Y,N,N,N,N,N,N,N,N,N,N,N,N,N,N,N,N,N] rfl rfl (any_of HT_.out (by kernel_rfl)) (fun _ _ _ h => h) (Or.inl ⟨by rfl, ?_⟩) ?_ ?_; rotate_left
                  ·intro w'; go_simp; with_reducible rfl
                  rotate_left
                  ·simp only [Act.put, sA,sB,sC, i64_w, i32_w]; rfl
                  refine pure_ (i := 17) (N := some 62) (v := ?_) (a' := ?_) #[Y,Y,Y,Y,Y,Y,Y,Y,Y,Y,Y,Y,Y,Y,Y,Y,Y,Y,N,N,N,N,N,N,N,N,N,N,N,N,N,N,N,N] rfl rfl (any_of HT_.out (by kernel_rfl)) (fun _ _ _ h => h) (Or.inl ⟨by rfl, ?_⟩) ?_ ?_; rotate_left
                  ·intro w'; go_simp; with_reducible rfl
                  rotate_left
                  ·simp only [Act.put, sA,sB,sC, i64_w, i32_w]; rfl
                  refine pure_ (i := 18) (N := some 63) (v := ?_) (a' := ?_) #[Y,Y,Y,Y,Y,Y,Y,Y,Y,Y,Y,Y,Y,Y,Y,Y,Y,Y,Y,N,N,N,N,N,N,N,N,N,N,N,N,N,N,N] rfl rfl (any_of HT_.out (by kernel_rfl)) (fun _ _ _ h => h) (Or.inl ⟨by rfl, ?_⟩) ?_ ?_; rotate_left
                  ·intro w'; go_simp; with_reducible rfl
                  rotate_left
                  ·simp only [Act.put, sA,sB,sC, i64_w, i32_w]; rfl
                  refine pure_ (i := 19) (N := some 64) (v := ?_) (a' := ?_) #[Y,Y,Y,Y,Y,Y,Y,Y,Y,Y,Y,Y,Y,Y,Y,Y,Y,Y,Y,Y,N,N,N,N,N,N,N,N,N,N,N,N,N,N] rfl rfl (any_of HT_.out (by kernel_rfl)) (fun _ _ _ h => h) (Or.inl ⟨by rfl, ?_⟩) ?_ ?_; rotate_left
                  ·intro w'; go_simp; with_reducible rfl
                  rotate_left
                  ·simp only [Act.put, sA,sB,sC, i64_w, i32_w]; rfl
                  refine pure_ (i := 20) (N := some 65) (v := ?_) (a' := ?_) #[Y,Y,Y,Y,Y,Y,Y,Y,Y,Y,Y,Y,Y,Y,Y,Y,Y,Y,Y,Y,Y,N,N,N,N,N,N,N,N,N,N,N,N,N] rfl rfl (any_of HT_.out (by kernel_rfl)) (fun _ _ _ h => h) (Or.inl ⟨by rfl, ?_⟩) ?_ ?_; rotate_left
                  ·intro w'; go_simp; with_reducible rfl
                  rotate_left
                  ·simp only [Act.put, sA,sB,sC, i64_w, i32_w]; rfl
                  refine pure_ (i := 21) (N := some 66) (v := ?_) (a' := ?_) #[Y,Y,Y,Y,Y,Y,Y,Y,Y,Y,Y,Y,Y,Y,Y,Y,Y,Y,Y,Y,Y,Y,N,N,N,N,N,N,N,N,N,N,N,N] rfl rfl (any_of HT_.out (by kernel_rfl)) (fun _ _ _ h => h) (Or.inl ⟨by rfl, ?_⟩) ?_ ?_; rotate_left
                  ·intro w'; go_simp; with_reducible rfl
                  rotate_left
                  ·simp only [Act.put, sA,sB,sC, i64_w, i32_w]; rfl
                  refine pure_ (i := 22) (N := some 67) (v := ?_) (a' := ?_) #[Y,Y,Y,Y,Y,Y,Y,Y,Y,Y,Y,Y,Y,Y,Y,Y,Y,Y,Y,Y,Y,Y,Y,N,N,N,N,N,N,N,N,N,N,N] rfl rfl (any_of HT_.out (by kernel_rfl)) (fun _ _ _ h => h) (Or.inl ⟨by rfl, ?_⟩) ?_ ?_; rotate_left
                  ·intro w'; go_simp; with_reducible rfl
                  rotate_left
                  ·simp only [Act.put, sA,sB,sC, i64_w, i32_w]; rfl
                  refine pure_ (i := 23) (N := some 68) (v := ?_) (a' := ?_) #[Y,Y,Y,Y,Y,Y,Y,Y,Y,Y,Y,Y,Y,Y,Y,Y,Y,Y,Y,Y,Y,Y,Y,Y,N,N,N,N,N,N,N,N,N,N] rfl rfl (any_of HT_.out (by kernel_rfl)) (fun _ _ _ h => h) (Or.inl ⟨by rfl, ?_⟩) ?_ ?_; rotate_left
                  ·intro w'; go_simp; with_reducible rfl
                  rotate_left
                  ·simp only [Act.put, sA,sB,sC, i64_w, i32_w]; rfl
                  refine pure_ (i := 24) (N := some 69) (v := ?_) (a' := ?_) #[Y,Y,Y,Y,Y,Y,Y,Y,Y,Y,Y,Y,Y,Y,Y,Y,Y,Y,Y,Y,Y,Y,Y,Y,Y,N,N,N,N,N,N,N,N,N] rfl rfl (any_of HT_.out (by kernel_rfl)) (fun _ _ _ h => h) (Or.inl ⟨by rfl, ?_⟩) ?_ ?_; rotate_left
                  ·intro w'; go_simp; with_reducible rfl
                  rotate_left
                  ·simp only [Act.put, sA,sB,sC, i64_w, i32_w]; rfl
                  refine pure_ (i := 25) (N := some 70) (v := ?_) (a' := ?_) #[Y,Y,Y,Y,Y,Y,Y,Y,Y,Y,Y,Y,Y,Y,Y,Y,Y,Y,Y,Y,Y,Y,Y,Y,Y,Y,N,N,N,N,N,N,N,N] rfl rfl (any_of HT_.out (by kernel_rfl)) (fun _ _ _ h => h) (Or.inl ⟨by rfl, ?_⟩) ?_ ?_; rotate_left
                  ·intro w'; go_simp; with_reducible rfl
                  rotate_left
                  ·simp only [Act.put, sA,sB,sC, i64_w, i32_w]; rfl
                  refine pure_ (i := 26) (N := some 71) (v := ?_) (a' := ?_) #[Y,Y,Y,Y,Y,Y,Y,Y,Y,Y,Y,Y,Y,Y,Y,Y,Y,Y,Y,Y,Y,Y,Y,Y,Y,Y,Y,N,N,N,N,N,N,N] rfl rfl (any_of HT_.out (by kernel_rfl)) (fun _ _ _ h => h) (Or.inl ⟨by rfl, ?_⟩) ?_ ?_; rotate_left
                  ·intro w'; go_simp; with_reducible rfl
                  rotate_left
                  ·simp only [Act.put, sA,sB,sC, i64_w, i32_w]; rfl
                  refine pure_ (i := 27) (N := some 72) (v := ?_) (a' := ?_) #[Y,Y,Y,Y,Y,Y,Y,Y,Y,Y,Y,Y,Y,Y,Y,Y,Y,Y,Y,Y,Y,Y,Y,Y,Y,Y,Y,Y,N,N,N,N,N,N] rfl rfl (any_of HT_.out (by kernel_rfl)) (fun _ _ _ h => h) (Or.inl ⟨by rfl, ?_⟩) ?_ ?_; rotate_left
                  ·intro w'; go_simp; with_reducible rfl
                  rotate_left
                  ·simp only [Act.put, sA,sB,sC, i64_w, i32_w]; rfl
                  refine pure_ (i := 28) (N := some 73) (v := ?_) (a' := ?_) #[Y,Y,Y,Y,Y,Y,Y,Y,Y,Y,Y,Y,Y,Y,Y,Y,Y,Y,Y,Y,Y,Y,Y,Y,Y,Y,Y,Y,Y,N,N,N,N,N] rfl rfl (any_of HT_.out (by kernel_rfl)) (fun _ _ _ h => h) (Or.inl ⟨by rfl, ?_⟩) ?_ ?_; rotate_left
                  ·intro w'; go_simp; with_reducible rfl
                  rotate_left
                  ·simp only [Act.put, sA,sB,sC, i64_w, i32_w]; rfl
                  refine pure_ (i := 29) (N := some 74) (v := ?_) (a' := ?_) #[Y,Y,Y,Y,Y,Y,Y,Y,Y,Y,Y,Y,Y,Y,Y,Y,Y,Y,Y,Y,Y,Y,Y,Y,Y,Y,Y,Y,Y,Y,N,N,N,N] rfl rfl (any_of HT_.out (by kernel_rfl)) (fun _ _ _ h => h) (Or.inl ⟨by rfl, ?_⟩) ?_ ?_; rotate_left
                  ·intro w'; go_simp; with_reducible rfl
                  rotate_left
                  ·simp only [Act.put, sA,sB,sC, i64_w, i32_w]; rfl
                  refine pure_ (i := 30) (N := some 75) (v := ?_) (a' := ?_) #[Y,Y,Y,Y,Y,Y,Y,Y,Y,Y,Y,Y,Y,Y,Y,Y,Y,Y,Y,Y,Y,Y,Y,Y,Y,Y,Y,Y,Y,Y,Y,N,N,N] rfl rfl (any_of HT_.out (by kernel_rfl)) (fun _ _ _ h => h) (Or.inl ⟨by rfl, ?_⟩) ?_ ?_; rotate_left
                  ·intro w'; go_simp; with_reducible rfl
                  rotate_left
                  ·simp only [Act.put, sA,sB,sC, i64_w, i32_w]; rfl
                  refine one_ (i := 31) (N := some 76) #[Y,Y,Y,Y,Y,Y,Y,Y,Y,Y,Y,Y,Y,Y,Y,Y,Y,Y,Y,Y,Y,Y,Y,Y,Y,Y,Y,Y,Y,Y,Y,Y,N,N] rfl rfl (one_of HT_.out (by kernel_rfl)) (by decide) (fun K hK => ?_)
                  refine goes_ Try.func16 (by kernel_rfl) rfl #[.slice A36 y134.length c36, .slice A37 y138.length c37] (by rfl) rfl rfl (by (try simp only [List.map_toArray, List.map_cons, List.map_nil]); first | done | rfl | (simp only [List.length_drop, List.length_take]; rfl)) ?_
                  with_reducible refine (tattingref1_SameInts.calls kj6 _ _ y134 _ _ y138 true _ ?side1 ?side2 ?side3 ?side4 A27.out).mono ?_
                  (case side1 => repeat (first | exact (by repeat (first | (with_reducible exact HR137.out) | (with_reducible refine Kd.C_alloc ?_ _) | (with_reducible refine Kd.C_drewN ?_ _) | (with_reducible refine Kd.C_drew ?_) | exact HR137.out)) | (with_reducible refine Kd.C_alloc ?_ _) | (with_reducible refine Kd.C_drewN ?_ _) | (with_reducible refine Kd.C_drew ?_)))
                  (case side2 => exact HC137.out)
                  (case side3 => repeat (first | exact (by repeat (first | (with_reducible exact HR141.out) | (with_reducible refine Kd.C_alloc ?_ _) | (with_reducible refine Kd.C_drewN ?_ _) | (with_reducible refine Kd.C_drew ?_) | exact HR141.out)) | (with_reducible refine Kd.C_alloc ?_ _) | (with_reducible refine Kd.C_drewN ?_ _) | (with_reducible refine Kd.C_drew ?_)))
                  (case side4 => exact HC141.out)
                  rintro e w' ⟨rfl, ⟨nd, rfl⟩⟩
                  refine ⟨_, rfl, ?_⟩
                  refine hK.out _ _ trivial (fun hHeld => ?_)
                  clear hK K
                  refine norm_ (a' := ?_) ?_ ?_
                  rotate_left
                  ·show Act.put _ (some 76) _ = _
                   simp only [Act.put, sA,sB,sC, i64_w, i32_w]; rfl
                  refine pure_ (i := 32) (N := some 77) (v := ?_) (a' := ?_) #[Y,Y,Y,Y,Y,Y,Y,Y,Y,Y,Y,Y,Y,Y,Y,Y,Y,Y,Y,Y,Y,Y,Y,Y,Y,Y,Y,Y,Y,Y,Y,Y,Y,N] rfl rfl (any_of HT_.out (by kernel_rfl)) (fun _ _ _ h => h) (Or.inl ⟨by rfl, ?_⟩) ?_ ?_; rotate_left
                  ·intro w'; go_simp; with_reducible rfl
                  rotate_left
                  ·simp only [Act.put, sA,sB,sC, i64_w, i32_w]; rfl
                  refine pure_ (i := 33) (N := some 78) (v := ?_) (a' := ?_) #[Y,Y,Y,Y,Y,Y,Y,Y,Y,Y,Y,Y,Y,Y,Y,Y,Y,Y,Y,Y,Y,Y,Y,Y,Y,Y,Y,Y,Y,Y,Y,Y,Y,Y] rfl rfl (any_of HT_.out (by kernel_rfl)) (fun _ _ _ h => h) (Or.inl ⟨by rfl, ?_⟩) ?_ ?_; rotate_left
                  ·intro w'; go_simp; with_reducible rfl
                  rotate_left
                  ·simp only [Act.put, sA,sB,sC, i64_w, i32_w]; rfl
                  refine done_ (done_of HT_.out (by kernel_rfl)) ?_
                  try go_wp2
                  (try (rw [drewN_self w35]; generalize hq_ : World.drewN w35 _ = w35; have n0_ : Aside0 (Kd.R (Kd.int .i64) 3 w35 w.heap.size (fun k_ => some k_ ≠ (.slice Ao34 t130.length co34 : Value).ownBlock) (.slice Ao33 t127.length co33) t127) := ⟨by rw [← hq_]; exact (by (with_reducible repeat (first | apply Kd.R_alloc | apply Kd.R_drewN | apply Kd.R_drew)); (first | exact Kd.R_mono HO129.out (fun _ hk => hk.2) | exact HO129.out))⟩; have n1_ : Aside0 (Kd.R (Kd.int .i64) 3 w35 w.heap.size (fun k_ => some k_ ≠ (.slice Ao33 t127.length co33 : Value).ownBlock) (.slice Ao34 t130.length co34) t130) := ⟨by rw [← hq_]; exact (by (with_reducible repeat (first | apply Kd.R_alloc | apply Kd.R_drewN | apply Kd.R_drew)); (first | exact Kd.R_mono HO132.out (fun _ hk => hk.2) | exact HO132.out))⟩; have n2_ : Aside0 (Below w.heap.size w w35) := ⟨by rw [← hq_]; exact (by repeat (first | (with_reducible first | exact HB.out | apply below_alloc | apply pw_below_drewN | apply below_drew1) | exact HB.out))⟩; have n3_ : Aside0 (Kd.C (Kd.int .i64) w35 A36 y134.length y134) := ⟨by rw [← hq_]; exact (by repeat (first | (with_reducible exact HR137.out) | (with_reducible refine Kd.C_alloc ?_ _) | (with_reducible refine Kd.C_drewN ?_ _) | (with_reducible refine Kd.C_drew ?_) | exact HR137.out))⟩; have n4_ : Aside0 (Kd.C (Kd.int .i64) w35 A37 y138.length y138) := ⟨by rw [← hq_]; exact (by repeat (first | (with_reducible exact HR141.out) | (with_reducible refine Kd.C_alloc ?_ _) | (with_reducible refine Kd.C_drewN ?_ _) | (with_reducible refine Kd.C_drew ?_) | exact HR141.out))⟩; clear HO129 HO132 HB HR137 HR141 hq_; have HO129 := n0_; have HO132 := n1_; have HB := n2_; have HR137 := n3_; have HR141 := n4_; clear n0_ n1_ n2_ n3_ n4_))
                  have n0_ := Aside0.mk (Kd.R_drew HO129.out)
                  have n1_ := Aside0.mk (Kd.R_drew HO132.out)
                  have n2_ := Aside0.mk (Kd.C_drew HR137.out)
                  have n3_ := Aside0.mk (Kd.C_drew HR141.out)
                  have n4_ := Aside0.mk (below_drew1 HB.out)
                  clear HO129
                  clear HO132
                  clear HR137
                  clear HR141
                  clear HB
                  have HO129 := n0_
                  have HO132 := n1_
                  have HR137 := n2_
                  have HR141 := n3_
                  have HB := n4_
                  clear n0_ n1_ n2_ n3_ n4_
                  refine start_ (n := 30) (S := fun w' => True) (ds := []) #[N,N,N,N,N,N,N,N,N,N,N,N,N,N,N,N,N,N,N,N,N,N,N,N,N,N,N,N,N,N] (by kernel_rfl) rfl rfl trivial (fun hHeld => ?_); refine with_tabW tattinglaw17_SnakeEnds.tab10 tattinglaw17_SnakeEnds.bits10 (fun HT_ HW_ => ?_)
                  generalize w35.drew = w38 at HO129 HO132 HR137 HR141 HB hHeld ⊢
                  refine pure_ (i := 0) (N := some 79) (v := ?_) (a' := ?_) #[Y,N,N,N,N,N,N,N,N,N,N,N,N,N,N,N,N,N,N,N,N,N,N,N,N,N,N,N,N,N] rfl rfl (any_of HT_.out (by kernel_rfl)) (fun _ _ _ h => h) (Or.inl ⟨by rfl, ?_⟩) ?_ ?_; rotate_left
                  ·intro w'; go_simp; with_reducible rfl
                  rotate_left
                  ·simp only [Act.put, sA,sB,sC, i64_w, i32_w]; rfl
                  refine pure_ (i := 1) (N := some 80) (v := ?_) (a' := ?_) #[Y,Y,N,N,N,N,N,N,N,N,N,N,N,N,N,N,N,N,N,N,N,N,N,N,N,N,N,N,N,N] rfl rfl (any_of HT_.out (by kernel_rfl)) (fun _ _ _ h => h) (Or.inl ⟨by rfl, ?_⟩) ?_ ?_; rotate_left
                  ·intro w'; go_simp; with_reducible rfl
                  rotate_left
                  ·simp only [Act.put, sA,sB,sC, i64_w, i32_w]; rfl
                  refine pure_ (i := 2) (N := some 81) (v := ?_) (a' := ?_) #[Y,Y,Y,N,N,N,N,N,N,N,N,N,N,N,N,N,N,N,N,N,N,N,N,N,N,N,N,N,N,N] rfl rfl (any_of HT_.out (by kernel_rfl)) (fun _ _ _ h => h) (Or.inl ⟨by rfl, ?_⟩) ?_ ?_; rotate_left
                  ·intro w'; go_simp; with_reducible rfl
                  rotate_left
                  ·simp only [Act.put, sA,sB,sC, i64_w, i32_w]; rfl
                  refine pure_ (i := 3) (N := some 82) (v := ?_) (a' := ?_) #[Y,Y,Y,Y,N,N,N,N,N,N,N,N,N,N,N,N,N,N,N,N,N,N,N,N,N,N,N,N,N,N] rfl rfl (any_of HT_.out (by kernel_rfl)) (fun _ _ _ h => h) (Or.inl ⟨by rfl, ?_⟩) ?_ ?_; rotate_left
                  ·intro w'; go_simp; with_reducible rfl
                  rotate_left
                  ·simp only [Act.put, sA,sB,sC, i64_w, i32_w]; rfl
                  refine pure_ (i := 4) (N := some 83) (v := ?_) (a' := ?_) #[Y,Y,Y,Y,Y,N,N,N,N,N,N,N,N,N,N,N,N,N,N,N,N,N,N,N,N,N,N,N,N,N] rfl rfl (any_of HT_.out (by kernel_rfl)) (fun _ _ _ h => h) (Or.inl ⟨by rfl, ?_⟩) ?_ ?_; rotate_left
                  ·intro w'; go_simp; with_reducible rfl
                  rotate_left
                  ·simp only [Act.put, sA,sB,sC, i64_w, i32_w]; rfl
                  refine pure_ (i := 5) (N := some 84) (v := ?_) (a' := ?_) #[Y,Y,Y,Y,Y,Y,N,N,N,N,N,N,N,N,N,N,N,N,N,N,N,N,N,N,N,N,N,N,N,N] rfl rfl (any_of HT_.out (by kernel_rfl)) (fun _ _ _ h => h) (Or.inl ⟨by rfl, ?_⟩) ?_ ?_; rotate_left
                  ·intro w'; go_simp; with_reducible rfl
                  rotate_left
                  ·simp only [Act.put, sA,sB,sC, i64_w, i32_w]; rfl
                  refine pure_ (i := 6) (N := some 85) (v := ?_) (a' := ?_) #[Y,Y,Y,Y,Y,Y,Y,N,N,N,N,N,N,N,N,N,N,N,N,N,N,N,N,N,N,N,N,N,N,N] rfl rfl (any_of HT_.out (by kernel_rfl)) (fun _ _ _ h => h) (Or.inl ⟨by rfl, ?_⟩) ?_ ?_; rotate_left
                  ·intro w'; go_simp; with_reducible rfl
                  rotate_left
                  ·simp only [Act.put, sA,sB,sC, i64_w, i32_w]; rfl
                  refine pure_ (i := 7) (N := some 86) (v := undef) (a' := ?_) #[Y,Y,Y,Y,Y,Y,Y,Y,N,N,N,N,N,N,N,N,N,N,N,N,N,N,N,N,N,N,N,N,N,N] rfl rfl (any_of HT_.out (by kernel_rfl)) (fun _ _ _ h => h) (Or.inr ⟨by rfl, rfl⟩) ?_ ?_; rotate_left
                  ·simp only [Act.put, sA,sB,sC, i64_w, i32_w]; rfl
                  refine pure_ (i := 8) (N := some 87) (v := undef) (a' := ?_) #[Y,Y,Y,Y,Y,Y,Y,Y,Y,N,N,N,N,N,N,N,N,N,N,N,N,N,N,N,N,N,N,N,N,N] rfl rfl (any_of HT_.out (by kernel_rfl)) (fun _ _ _ h => h) (Or.inr ⟨by rfl, rfl⟩) ?_ ?_; rotate_left
                  ·simp only [Act.put, sA,sB,sC, i64_w, i32_w]; rfl
                  refine pure_ (i := 9) (N := some 88) (v := undef) (a' := ?_) #[Y,Y,Y,Y,Y,Y,Y,Y,Y,Y,N,N,N,N,N,N,N,N,N,N,N,N,N,N,N,N,N,N,N,N] rfl rfl (any_of HT_.out (by kernel_rfl)) (fun _ _ _ h => h) (Or.inr ⟨by rfl, rfl⟩) ?_ ?_; rotate_left
                  ·simp only [Act.put, sA,sB,sC, i64_w, i32_w]; rfl
                  refine pure_ (i := 10) (N := some 89) (v := undef) (a' := ?_) #[Y,Y,Y,Y,Y,Y,Y,Y,Y,Y,Y,N,N,N,N,N,N,N,N,N,N,N,N,N,N,N,N,N,N,N] rfl rfl (any_of HT_.out (by kernel_rfl)) (fun _ _ _ h => h) (Or.inr ⟨by rfl, rfl⟩) ?_ ?_; rotate_left
                  ·simp only [Act.put, sA,sB,sC, i64_w, i32_w]; rfl
                  refine pure_ (i := 11) (N := some 90) (v := undef) (a' := ?_) #[Y,Y,Y,Y,Y,Y,Y,Y,Y,Y,Y,Y,N,N,N,N,N,N,N,N,N,N,N,N,N,N,N,N,N,N] rfl rfl (any_of HT_.out (by kernel_rfl)) (fun _ _ _ h => h) (Or.inr ⟨by rfl, rfl⟩) ?_ ?_; rotate_left
                  ·simp only [Act.put, sA,sB,sC, i64_w, i32_w]; rfl
                  refine pure_ (i := 12) (N := some 91) (v := undef) (a' := ?_) #[Y,Y,Y,Y,Y,Y,Y,Y,Y,Y,Y,Y,Y,N,N,N,N,N,N,N,N,N,N,N,N,N,N,N,N,N] rfl rfl (any_of HT_.out (by kernel_rfl)) (fun _ _ _ h => h) (Or.inr ⟨by rfl, rfl⟩) ?_ ?_; rotate_left
                  ·simp only [Act.put, sA,sB,sC, i64_w, i32_w]; rfl
                  refine pure_ (i := 13) (N := some 92) (v := ?_) (a' := ?_) #[Y,Y,Y,Y,Y,Y,Y,Y,Y,Y,Y,Y,Y,Y,N,N,N,N,N,N,N,N,N,N,N,N,N,N,N,N] rfl rfl (any_of HT_.out (by kernel_rfl)) (fun _ _ _ h => h) (Or.inl ⟨by rfl, ?_⟩) ?_ ?_; rotate_left
                  ·intro w'; go_simp; with_reducible rfl
                  rotate_left
                  ·simp only [Act.put, sA,sB,sC, i64_w, i32_w]; rfl
                  refine pure_ (i := 14) (N := some 93) (v := ?_) (a' := ?_) #[Y,Y,Y,Y,Y,Y,Y,Y,Y,Y,Y,Y,Y,Y,Y,N,N,N,N,N,N,N,N,N,N,N,N,N,N,N] rfl rfl (any_of HT_.out (by kernel_rfl)) (fun _ _ _ h => h) (Or.inl ⟨by rfl, ?_⟩) ?_ ?_; rotate_left
                  ·intro w'; go_simp; with_reducible rfl
                  rotate_left
                  ·simp only [Act.put, sA,sB,sC, i64_w, i32_w]; rfl
                  refine pure_ (i := 15) (N := some 94) (v := undef) (a' := ?_) #[Y,Y,Y,Y,Y,Y,Y,Y,Y,Y,Y,Y,Y,Y,Y,Y,N,N,N,N,N,N,N,N,N,N,N,N,N,N] rfl rfl (any_of HT_.out (by kernel_rfl)) (fun _ _ _ h => h) (Or.inr ⟨by rfl, rfl⟩) ?_ ?_; rotate_left
                  ·simp only [Act.put, sA,sB,sC, i64_w, i32_w]; rfl
                  refine pure_ (i := 16) (N := some 95) (v := undef) (a' := ?_) #[Y,Y,Y,Y,Y,Y,Y,Y,Y,Y,Y,Y,Y,Y,Y,Y,Y,N,N,N,N,N,N,N,N,N,N,N,N,N] rfl rfl (any_of HT_.out (by kernel_rfl)) (fun _ _ _ h => h) (Or.inr ⟨by rfl, rfl⟩) ?_ ?_; rotate_left
                  ·simp only [Act.put, sA,sB,sC, i64_w, i32_w]; rfl
                  refine pure_ (i := 17) (N := some 96) (v := undef) (a' := ?_) #[Y,Y,Y,Y,Y,Y,Y,Y,Y,Y,Y,Y,Y,Y,Y,Y,Y,Y,N,N,N,N,N,N,N,N,N,N,N,N] rfl rfl (any_of HT_.out (by kernel_rfl)) (fun _ _ _ h => h) (Or.inr ⟨by rfl, rfl⟩) ?_ ?_; rotate_left
                  ·simp only [Act.put, sA,sB,sC, i64_w, i32_w]; rfl
                  refine pure_ (i := 18) (N := some 97) (v := undef) (a' := ?_) #[Y,Y,Y,Y,Y,Y,Y,Y,Y,Y,Y,Y,Y,Y,Y,Y,Y,Y,Y,N,N,N,N,N,N,N,N,N,N,N] rfl rfl (any_of HT_.out (by kernel_rfl)) (fun _ _ _ h => h) (Or.inr ⟨by rfl, rfl⟩) ?_ ?_; rotate_left
                  ·simp only [Act.put, sA,sB,sC, i64_w, i32_w]; rfl
                  refine pure_ (i := 19) (N := some 98) (v := undef) (a' := ?_) #[Y,Y,Y,Y,Y,Y,Y,Y,Y,Y,Y,Y,Y,Y,Y,Y,Y,Y,Y,Y,N,N,N,N,N,N,N,N,N,N] rfl rfl (any_of HT_.out (by kernel_rfl)) (fun _ _ _ h => h) (Or.inr ⟨by rfl, rfl⟩) ?_ ?_; rotate_left
                  ·simp only [Act.put, sA,sB,sC, i64_w, i32_w]; rfl
                  refine pure_ (i := 20) (N := some 99) (v := undef) (a' := ?_) #[Y,Y,Y,Y,Y,Y,Y,Y,Y,Y,Y,Y,Y,Y,Y,Y,Y,Y,Y,Y,Y,N,N,N,N,N,N,N,N,N] rfl rfl (any_of HT_.out (by kernel_rfl)) (fun _ _ _ h => h) (Or.inr ⟨by rfl, rfl⟩) ?_ ?_; rotate_left
                  ·simp only [Act.put, sA,sB,sC, i64_w, i32_w]; rfl
                  refine pure_ (i := 21) (N := some 100) (v := undef) (a' := ?_) #[Y,Y,Y,Y,Y,Y,Y,Y,Y,Y,Y,Y,Y,Y,Y,Y,Y,Y,Y,Y,Y,Y,N,N,N,N,N,N,N,N] rfl rfl (any_of HT_.out (by kernel_rfl)) (fun _ _ _ h => h) (Or.inr ⟨by rfl, rfl⟩) ?_ ?_; rotate_left
                  ·simp only [Act.put, sA,sB,sC, i64_w, i32_w]; rfl
                  refine pure_ (i := 22) (N := some 101) (v := undef) (a' := ?_) #[Y,Y,Y,Y,Y,Y,Y,Y,Y,Y,Y,Y,Y,Y,Y,Y,Y,Y,Y,Y,Y,Y,Y,N,N,N,N,N,N,N] rfl rfl (any_of HT_.out (by kernel_rfl)) (fun _ _ _ h => h) (Or.inr ⟨by rfl, rfl⟩) ?_ ?_; rotate_left
                  ·simp only [Act.put, sA,sB,sC, i64_w, i32_w]; rfl
                  refine pure_ (i := 23) (N := some 102) (v := undef) (a' := ?_) #[Y,Y,Y,Y,Y,Y,Y,Y,Y,Y,Y,Y,Y,Y,Y,Y,Y,Y,Y,Y,Y,Y,Y,Y,N,N,N,N,N,N] rfl rfl (any_of HT_.out (by kernel_rfl)) (fun _ _ _ h => h) (Or.inr ⟨by rfl, rfl⟩) ?_ ?_; rotate_left
                  ·simp only [Act.put, sA,sB,sC, i64_w, i32_w]; rfl
                  refine pure_ (i := 24) (N := some 103) (v := undef) (a' := ?_) #[Y,Y,Y,Y,Y,Y,Y,Y,Y,Y,Y,Y,Y,Y,Y,Y,Y,Y,Y,Y,Y,Y,Y,Y,Y,N,N,N,N,N] rfl rfl (any_of HT_.out (by kernel_rfl)) (fun _ _ _ h => h) (Or.inr ⟨by rfl, rfl⟩) ?_ ?_; rotate_left
                  ·simp only [Act.put, sA,sB,sC, i64_w, i32_w]; rfl
                  refine pure_ (i := 25) (N := some 104) (v := undef) (a' := ?_) #[Y,Y,Y,Y,Y,Y,Y,Y,Y,Y,Y,Y,Y,Y,Y,Y,Y,Y,Y,Y,Y,Y,Y,Y,Y,Y,N,N,N,N] rfl rfl (any_of HT_.out (by kernel_rfl)) (fun _ _ _ h => h) (Or.inr ⟨by rfl, rfl⟩) ?_ ?_; rotate_left
                  ·simp only [Act.put, sA,sB,sC, i64_w, i32_w]; rfl
                  refine pure_ (i := 26) (N := some 105) (v := undef) (a' := ?_) #[Y,Y,Y,Y,Y,Y,Y,Y,Y,Y,Y,Y,Y,Y,Y,Y,Y,Y,Y,Y,Y,Y,Y,Y,Y,Y,Y,N,N,N] rfl rfl (any_of HT_.out (by kernel_rfl)) (fun _ _ _ h => h) (Or.inr ⟨by rfl, rfl⟩) ?_ ?_; rotate_left
                  ·simp only [Act.put, sA,sB,sC, i64_w, i32_w]; rfl
                  refine pure_ (i := 27) (N := some 106) (v := undef) (a' := ?_) #[Y,Y,Y,Y,Y,Y,Y,Y,Y,Y,Y,Y,Y,Y,Y,Y,Y,Y,Y,Y,Y,Y,Y,Y,Y,Y,Y,Y,N,N] rfl rfl (any_of HT_.out (by kernel_rfl)) (fun _ _ _ h => h) (Or.inr ⟨by rfl, rfl⟩) ?_ ?_; rotate_left
                  ·simp only [Act.put, sA,sB,sC, i64_w, i32_w]; rfl
                  refine pure_ (i := 28) (N := some 107) (v := ?_) (a' := ?_) #[Y,Y,Y,Y,Y,Y,Y,Y,Y,Y,Y,Y,Y,Y,Y,Y,Y,Y,Y,Y,Y,Y,Y,Y,Y,Y,Y,Y,Y,N] rfl rfl (any_of HT_.out (by kernel_rfl)) (fun _ _ _ h => h) (Or.inl ⟨by rfl, ?_⟩) ?_ ?_; rotate_left
                  ·intro w'; go_simp; with_reducible rfl
                  rotate_left
                  ·simp only [Act.put, sA,sB,sC, i64_w, i32_w]; rfl
                  refine pure_ (i := 29) (N := some 8) (v := ?_) (a' := ?_) #[Y,Y,Y,Y,Y,Y,Y,Y,Y,Y,Y,Y,Y,Y,Y,Y,Y,Y,Y,Y,Y,Y,Y,Y,Y,Y,Y,Y,Y,Y] rfl rfl (any_of HT_.out (by kernel_rfl)) (fun _ _ _ h => h) (Or.inl ⟨by rfl, ?_⟩) ?_ ?_; rotate_left
                  ·intro w'; go_simp; with_reducible rfl
                  rotate_left
                  ·simp only [Act.put, sA,sB,sC, i64_w, i32_w]; rfl
                  refine done_ (done_of HT_.out (by kernel_rfl)) ?_
                  try go_wp2
                  go_ret
                  exact ⟨by first | rfl | (simp [errW_none, errW_some] <;> rfl) | (simp only [← hji19, ← hji23]; first | rfl | (simp [errW_none, errW_some] <;> rfl)) | (simp [*, errW_none, errW_some] <;> rfl), by repeat (first | (with_reducible first | exact HB.out | apply below_alloc | apply pw_below_drewN | apply below_drew1) | exact HB.out)⟩
                 ·rw [if_neg c29] at H
                  have c29b0 : ((wrap64 ((ji19) + t133)) == (t127.length : Int)) = false := beq_eq_false_iff_ne.mpr c29
                  have c29b1 : ((wrap64 ((ji19) + t133)) != (t127.length : Int)) = true := bne_iff_ne.mpr c29
                  by_cases c39 : (wrap64 ((ji23) + t133)) = (t130.length : Int)
                  ·rw [if_pos c39] at H
                   have c39b0 : ((wrap64 ((ji23) + t133)) == (t130.length : Int)) = true := beq_iff_eq.mpr c39
                   have c39b1 : ((wrap64 ((ji23) + t133)) != (t130.length : Int)) = false := bne_eq_false_iff_eq.mpr c39
                   clear c39
                   obtain rfl := Option.some.inj H
                   try go_wp2_with (first | ((first | (with_reducible refine gate_callee (f := 12) rfl ?_); refine goesL_ (some 25) rfl rfl Try.func12 (by kernel_rfl) rfl #[.slice A0 l0.length c0, .int .i64 2] rfl (by (try simp only [List.map_toArray, List.map_cons, List.map_nil]); first | done | rfl | (simp only [List.length_drop, List.length_take]; rfl)) ?_ | go_at_call 12); (with_reducible refine (tattingref1_Few.calls kj6 _ _ l0 2 t127 _ ?side1 ?side2 A11.out).mono ?_); (case side1 => repeat (first | exact (Kd.C_below HR0.out HB.out) | (with_reducible refine Kd.C_alloc ?_ _) | (with_reducible refine Kd.C_drewN ?_ _) | (with_reducible refine Kd.C_drew ?_))); (case side2 => exact HC0.out); rintro e w40 ⟨v128, rfl, ho0, hb⟩; (try refine ⟨_, rfl, ?_⟩); have n0_ := Aside0.mk (Kd.R_lower ho0 (below_size (by repeat (first | (with_reducible first | exact HB.out | apply below_alloc | apply pw_below_drewN | apply below_drew1) | exact HB.out)))); have n1_ := Aside0.mk (below_step (by repeat (first | (with_reducible first | exact HB.out | apply below_alloc | apply pw_below_drewN | apply below_drew1) | exact HB.out)) hb); clear HB; have HO129 := n0_; have HB := n1_; clear n0_ n1_; (try clear hb); (try clear hb2); (try clear hk); (try clear hi); (try clear ho0)) | ((first | (with_reducible refine gate_callee (f := 12) rfl ?_); refine goesL_ (some 27) rfl rfl Try.func12 (by kernel_rfl) rfl #[.slice A1 l1.length c1, .int .i64 2] rfl (by (try simp only [List.map_toArray, List.map_cons, List.map_nil]); first | done | rfl | (simp only [List.length_drop, List.length_take]; rfl)) ?_ | go_at_call 12); (with_reducible refine (tattingref1_Few.calls kj6 _ _ l1 2 t130 _ ?side1 ?side2 A12.out).mono ?_); (case side1 => repeat (first | exact (Kd.C_below HR1.out HB.out) | (with_reducible refine Kd.C_alloc ?_ _) | (with_reducible refine Kd.C_drewN ?_ _) | (with_reducible refine Kd.C_drew ?_))); (case side2 => exact HC1.out); rintro e w41 ⟨v131, rfl, ho0, hb⟩; (try refine ⟨_, rfl, ?_⟩); have n0_ := Aside0.mk (Kd.R_elder' (by (with_reducible repeat (first | apply Kd.R_alloc | apply Kd.R_drewN | apply Kd.R_drew)); exact HO129.out) (Kd.R_base ho0) hb); have n1_ := Aside0.mk (Kd.R_lower (Kd.R_new' ho0 (Kd.R_lt (by (with_reducible repeat (first | apply Kd.R_alloc | apply Kd.R_drewN | apply Kd.R_drew)); exact HO129.out))) (below_size (by repeat (first | (with_reducible first | exact HB.out | apply below_alloc | apply pw_below_drewN | apply below_drew1) | exact HB.out)))); have n2_ := Aside0.mk (below_step (by repeat (first | (with_reducible first | exact HB.out | apply below_alloc | apply pw_below_drewN | apply below_drew1) | exact HB.out)) hb); clear HO129; clear HB; have HO129 := n0_; have HO132 := n1_; have HB := n2_; clear n0_ n1_ n2_; (try clear hb); (try clear hb2); (try clear hk); (try clear hi); (try clear ho0)))
                   have n0_ := Aside0.mk (Kd.R_drew HO129.out)
                   have n1_ := Aside0.mk (Kd.R_drew HO132.out)
                   have n2_ := Aside0.mk (below_drew1 HB.out)
                   clear HO129
                   clear HO132
                   clear HB
                   have HO129 := n0_
                   have HO132 := n1_
                   have HB := n2_
                   clear n0_ n1_ n2_
                   obtain ⟨Ao43, co43, eo43⟩ := Kd.R_slice HO129.out
                   (first | subst eo43 | (injection eo43 with f1_ f2_ f3_; have f4_ := f1_.symm; have f5_ := f3_.symm; clear f1_ f2_ f3_; subst f4_; subst f5_))
                   obtain ⟨Ao44, co44, eo44⟩ := Kd.R_slice HO132.out
                   (first | subst eo44 | (injection eo44 with f1_ f2_ f3_; have f4_ := f1_.symm; have f5_ := f3_.symm; clear f1_ f2_ f3_; subst f4_; subst f5_))
                   refine start_ (n := 14) (S := fun w' => True) (ds := []) #[N,N,N,N,N,N,N,N,N,N,N,N,N,N] (by kernel_rfl) rfl rfl trivial (fun hHeld => ?_); refine with_tabW tattinglaw17_SnakeEnds.tab6 tattinglaw17_SnakeEnds.bits6 (fun HT_ HW_ => ?_)
                   generalize w41.drew = w42 at HO129 HO132 HB hHeld ⊢
                   refine pure_ (i := 0) (N := some 28) (v := ?_) (a' := ?_) #[Y,N,N,N,N,N,N,N,N,N,N,N,N,N] rfl rfl (any_of HT_.out (by kernel_rfl)) (fun _ _ _ h => h) (Or.inl ⟨by rfl, ?_⟩) ?_ ?_; rotate_left
                   ·intro w'; go_simp; with_reducible rfl
                   rotate_left
                   ·simp only [Act.put, sA,sB,sC, i64_w, i32_w]; rfl
                   refine pure_ (i := 1) (N := some 29) (v := ?_) (a' := ?_) #[Y,Y,N,N,N,N,N,N,N,N,N,N,N,N] rfl rfl (any_of HT_.out (by kernel_rfl)) (fun _ _ _ h => h) (Or.inl ⟨by rfl, ?_⟩) ?_ ?_; rotate_left
                   ·intro w'; go_simp; with_reducible rfl
                   rotate_left
                   ·simp only [Act.put, sA,sB,sC, i64_w, i32_w]; rfl
                   refine pure_ (i := 2) (N := some 30) (v := ?_) (a' := ?_) #[Y,Y,Y,N,N,N,N,N,N,N,N,N,N,N] rfl rfl (any_of HT_.out (by kernel_rfl)) (fun _ _ _ h => h) (Or.inl ⟨by rfl, ?_⟩) ?_ ?_; rotate_left
                   ·intro w'; go_simp; with_reducible rfl
                   rotate_left
                   ·simp only [Act.put, sA,sB,sC, i64_w, i32_w]; rfl
                   refine pure_ (i := 3) (N := some 31) (v := ?_) (a' := ?_) #[Y,Y,Y,Y,N,N,N,N,N,N,N,N,N,N] rfl rfl (any_of HT_.out (by kernel_rfl)) (fun _ _ _ h => h) (Or.inl ⟨by rfl, ?_⟩) ?_ ?_; rotate_left
                   ·intro w'; go_simp; with_reducible rfl
                   rotate_left
                   ·simp only [Act.put, sA,sB,sC, i64_w, i32_w]; rfl
                   refine pure_ (i := 4) (N := some 32) (v := ?_) (a' := ?_) #[Y,Y,Y,Y,Y,N,N,N,N,N,N,N,N,N] rfl rfl (any_of HT_.out (by kernel_rfl)) (fun _ _ _ h => h) (Or.inl ⟨by rfl, ?_⟩) ?_ ?_; rotate_left
                   ·intro w'; go_simp; with_reducible rfl
                   rotate_left
                   ·simp only [Act.put, sA,sB,sC, i64_w, i32_w]; rfl
                   refine pure_ (i := 5) (N := some 33) (v := ?_) (a' := ?_) #[Y,Y,Y,Y,Y,Y,N,N,N,N,N,N,N,N] rfl rfl (any_of HT_.out (by kernel_rfl)) (fun _ _ _ h => h) (Or.inl ⟨by rfl, ?_⟩) ?_ ?_; rotate_left
                   ·intro w'; go_simp; with_reducible rfl
                   rotate_left
                   ·simp only [Act.put, sA,sB,sC, i64_w, i32_w]; rfl
                   refine pure_ (i := 6) (N := some 34) (v := ?_) (a' := ?_) #[Y,Y,Y,Y,Y,Y,Y,N,N,N,N,N,N,N] rfl rfl (any_of HT_.out (by kernel_rfl)) (fun _ _ _ h => h) (Or.inl ⟨by rfl, ?_⟩) ?_ ?_; rotate_left
                   ·intro w'; go_simp; with_reducible rfl
                   rotate_left
                   ·simp only [Act.put, sA,sB,sC, i64_w, i32_w]; rfl
                   refine pure_ (i := 7) (N := some 35) (v := ?_) (a' := ?_) #[Y,Y,Y,Y,Y,Y,Y,Y,N,N,N,N,N,N] rfl rfl (any_of HT_.out (by kernel_rfl)) (fun _ _ _ h => h) (Or.inl ⟨by rfl, ?_⟩) ?_ ?_; rotate_left
                   ·intro w'; go_simp; with_reducible rfl
                   rotate_left
                   ·simp only [Act.put, sA,sB,sC, i64_w, i32_w]; rfl
                   refine pure_ (i := 8) (N := some 36) (v := ?_) (a' := ?_) #[Y,Y,Y,Y,Y,Y,Y,Y,Y,N,N,N,N,N] rfl rfl (any_of HT_.out (by kernel_rfl)) (fun _ _ _ h => h) (Or.inl ⟨by rfl, ?_⟩) ?_ ?_; rotate_left
                   ·intro w'; go_simp; with_reducible rfl
                   rotate_left
                   ·simp only [Act.put, sA,sB,sC, i64_w, i32_w]; rfl
                   refine pure_ (i := 9) (N := some 37) (v := ?_) (a' := ?_) #[Y,Y,Y,Y,Y,Y,Y,Y,Y,Y,N,N,N,N] rfl rfl (any_of HT_.out (by kernel_rfl)) (fun _ _ _ h => h) (Or.inl ⟨by rfl, ?_⟩) ?_ ?_; rotate_left
                   ·intro w'; go_simp; with_reducible rfl
                   rotate_left
                   ·simp only [Act.put, sA,sB,sC, i64_w, i32_w]; rfl
                   refine pure_ (i := 10) (N := some 38) (v := ?_) (a' := ?_) #[Y,Y,Y,Y,Y,Y,Y,Y,Y,Y,Y,N,N,N] rfl rfl (any_of HT_.out (by kernel_rfl)) (fun _ _ _ h => h) (Or.inl ⟨by rfl, ?_⟩) ?_ ?_; rotate_left
                   ·intro w'; go_simp; with_reducible rfl
                   rotate_left
                   ·simp only [Act.put, sA,sB,sC, i64_w, i32_w]; rfl
                   refine pure_ (i := 11) (N := some 39) (v := ?_) (a' := ?_) #[Y,Y,Y,Y,Y,Y,Y,Y,Y,Y,Y,Y,N,N] rfl rfl (any_of HT_.out (by kernel_rfl)) (fun _ _ _ h => h) (Or.inl ⟨by rfl, ?_⟩) ?_ ?_; rotate_left
                   ·intro w'; go_simp; with_reducible rfl
                   rotate_left
                   ·simp only [Act.put, sA,sB,sC, i64_w, i32_w]; rfl
                   refine pure_ (i := 12) (N := some 11) (v := ?_) (a' := ?_) #[Y,Y,Y,Y,Y,Y,Y,Y,Y,Y,Y,Y,Y,N] rfl rfl (any_of HT_.out (by kernel_rfl)) (fun _ _ _ h => h) (Or.inl ⟨by rfl, ?_⟩) ?_ ?_; rotate_left
                   ·intro w'; go_simp; with_reducible rfl
                   rotate_left
                   ·simp only [Act.put, sA,sB,sC, i64_w, i32_w]; rfl
                   refine pure_ (i := 13) (N := some 12) (v := ?_) (a' := ?_) #[Y,Y,Y,Y,Y,Y,Y,Y,Y,Y,Y,Y,Y,Y] rfl rfl (any_of HT_.out (by kernel_rfl)) (fun _ _ _ h => h) (Or.inl ⟨by rfl, ?_⟩) ?_ ?_; rotate_left
                   ·intro w'; go_simp; with_reducible rfl
                   rotate_left
                   ·simp only [Act.put, sA,sB,sC, i64_w, i32_w]; rfl
                   refine done_ (done_of HT_.out (by kernel_rfl)) ?_
                   try go_wp2_with (first | ((first | (with_reducible refine gate_callee (f := 9) rfl ?_); refine goesL_ (some 44) rfl rfl Try.func9 (by kernel_rfl) rfl #[.slice Ao43 t127.length co43, .slice Ao44 t130.length co44, .int .i64 ji19, .int .i64 ji23] rfl (by (try simp only [List.map_toArray, List.map_cons, List.map_nil]); first | done | (simp only [hji19, hji23]; rfl) | rfl | (simp only [List.length_drop, List.length_take]; rfl)) ?_ | go_at_call 9); (with_reducible refine (snake_Down.calls kj6 _ _ t127 _ _ t130 ji19 ji23 t133 _ ?side1 ?side2 ?side3 ?side4 A15.out).mono ?_); (case side1 => repeat (first | exact (Kd.R_reads' HO129.out).2.2 | (with_reducible refine Kd.C_alloc ?_ _) | (with_reducible refine Kd.C_drewN ?_ _) | (with_reducible refine Kd.C_drew ?_))); (case side2 => exact (Kd.R_reads' HO129.out).2.1); (case side3 => repeat (first | exact (Kd.R_reads' HO132.out).2.2 | (with_reducible refine Kd.C_alloc ?_ _) | (with_reducible refine Kd.C_drewN ?_ _) | (with_reducible refine Kd.C_drew ?_))); (case side4 => exact (Kd.R_reads' HO132.out).2.1); rintro e w' ⟨rfl, ⟨nd, rfl⟩⟩; (try refine ⟨_, rfl, ?_⟩)))
                   (try (rw [drewN_self w42]; generalize hq_ : World.drewN w42 _ = w42; have n0_ : Aside0 (Kd.R (Kd.int .i64) 3 w42 w.heap.size (fun k_ => some k_ ≠ (.slice Ao44 t130.length co44 : Value).ownBlock) (.slice Ao43 t127.length co43) t127) := ⟨by rw [← hq_]; exact (by (with_reducible repeat (first | apply Kd.R_alloc | apply Kd.R_drewN | apply Kd.R_drew)); (first | exact Kd.R_mono HO129.out (fun _ hk => hk.2) | exact HO129.out))⟩; have n1_ : Aside0 (Kd.R (Kd.int .i64) 3 w42 w.heap.size (fun k_ => some k_ ≠ (.slice Ao43 t127.length co43 : Value).ownBlock) (.slice Ao44 t130.length co44) t130) := ⟨by rw [← hq_]; exact (by (with_reducible repeat (first | apply Kd.R_alloc | apply Kd.R_drewN | apply Kd.R_drew)); (first | exact Kd.R_mono HO132.out (fun _ hk => hk.2) | exact HO132.out))⟩; have n2_ : Aside0 (Below w.heap.size w w42) := ⟨by rw [← hq_]; exact (by repeat (first | (with_reducible first | exact HB.out | apply below_alloc | apply pw_below_drewN | apply below_drew1) | exact HB.out))⟩; clear HO129 HO132 HB hq_; have HO129 := n0_; have HO132 := n1_; have HB := n2_; clear n0_ n1_ n2_))
                   have n0_ := Aside0.mk (Kd.R_drew HO129.out)
                   have n1_ := Aside0.mk (Kd.R_drew HO132.out)
                   have n2_ := Aside0.mk (below_drew1 HB.out)
                   clear HO129
                   clear HO132
                   clear HB
                   have HO129 := n0_
                   have HO132 := n1_
                   have HB := n2_
                   clear n0_ n1_ n2_
                   have q46 : ((wrap64 ((ji19) + t133)) : Int) ≤ ((t127.length : Int) : Int) := of_decide_eq_true (by first | (with_reducible assumption) | assumption)
                   obtain ⟨i046, hi046, _, hsz46, _⟩ := info_parts info3
                   have hroom46 : t127.length ≤ co43 := (Kd.R_reads' HO129.out).2.1
                   have hC46 : Kd.C (Kd.int .i64) _ Ao43 t127.length t127 := (Kd.R_reads' HO129.out).2.2
                   have ql46 : ((ji19) : Int) ≤ ((wrap64 ((ji19) + t133)) : Int) := of_decide_eq_true (by first | (with_reducible assumption) | assumption)
                   have q046 : (0 : Int) ≤ ((ji19) : Int) := of_decide_eq_true (by first | (with_reducible assumption) | assumption)
                   have hcut46 := cut_mid (P := Try.prog) 22 3 .i64 .i64 Try.underlying22 hi046 1 hsz46 Ao43 t127.length co43 (ji19) (wrap64 ((ji19) + t133)) q046 ql46 q46 hroom46
                   have hr46 := Kd.C_mid (lo := ((ji19) : Int).toNat) (hi := ((wrap64 ((ji19) + t133)) : Int).toNat) (c := co43) hC46 (by omega) (by omega) hroom46
                   obtain ⟨A46, hA46⟩ : ∃ A1, A1 = (if co43 = ((ji19) : Int).toNat then Ao43 else (Ao43 : Option Addr).map (·.add (((ji19) : Int).toNat * 1))) := ⟨_, rfl⟩
                   obtain ⟨c46, hc46⟩ : ∃ c1, c1 = co43 - ((ji19) : Int).toNat := ⟨_, rfl⟩
                   have hy46 : y134.length = ((wrap64 ((ji19) + t133)) : Int).toNat - ((ji19) : Int).toNat := (by rw [Ny134.out, List.length_drop, List.length_take] <;> omega)
                   rw [show ((t127).take ((wrap64 ((ji19) + t133)) : Int).toNat).drop ((ji19) : Int).toNat = y134 from Ny134.out.symm] at hr46
                   replace hr46 : Kd.C (Kd.int .i64) _ A46 y134.length y134 := (by rw [hA46]; exact hr46)
                   rw [← hy46, ← hA46, ← hc46] at hcut46
                   have HR137 := Aside0.mk hr46
                   have HC137 := Aside0.mk (show y134.length ≤ c46 from by rw [hy46, hc46]; exact Nat.sub_le_sub_right (Nat.le_trans (by omega) hroom46) _)
                   clear hr46 hC46 hroom46 hi046 hsz46 hc46
                   have KY46 := Aside0.mk hy46
                   have KA46 := Aside0.mk hA46
                   clear hy46 hA46
                   have KL46 := Aside0.mk (show ((wrap64 ((ji19) + t133)) : Int).toNat ≤ t127.length from by omega)
                   have KM46 := Aside0.mk (show ((ji19) : Int).toNat ≤ ((wrap64 ((ji19) + t133)) : Int).toNat from by omega)
                   replace q46 := eq_true q46
                   have q47 : ((wrap64 ((ji23) + t133)) : Int) ≤ ((t130.length : Int) : Int) := of_decide_eq_true (by first | (with_reducible assumption) | assumption)
                   obtain ⟨i047, hi047, _, hsz47, _⟩ := info_parts info3
                   have hroom47 : t130.length ≤ co44 := (Kd.R_reads' HO132.out).2.1
                   have hC47 : Kd.C (Kd.int .i64) _ Ao44 t130.length t130 := (Kd.R_reads' HO132.out).2.2
                   have ql47 : ((ji23) : Int) ≤ ((wrap64 ((ji23) + t133)) : Int) := of_decide_eq_true (by first | (with_reducible assumption) | assumption)
                   have q047 : (0 : Int) ≤ ((ji23) : Int) := of_decide_eq_true (by first | (with_reducible assumption) | assumption)
                   have hcut47 := cut_mid (P := Try.prog) 22 3 .i64 .i64 Try.underlying22 hi047 1 hsz47 Ao44 t130.length co44 (ji23) (wrap64 ((ji23) + t133)) q047 ql47 q47 hroom47
                   have hr47 := Kd.C_mid (lo := ((ji23) : Int).toNat) (hi := ((wrap64 ((ji23) + t133)) : Int).toNat) (c := co44) hC47 (by omega) (by omega) hroom47
                   obtain ⟨A47, hA47⟩ : ∃ A1, A1 = (if co44 = ((ji23) : Int).toNat then Ao44 else (Ao44 : Option Addr).map (·.add (((ji23) : Int).toNat * 1))) := ⟨_, rfl⟩
                   obtain ⟨c47, hc47⟩ : ∃ c1, c1 = co44 - ((ji23) : Int).toNat := ⟨_, rfl⟩
                   have hy47 : y138.length = ((wrap64 ((ji23) + t133)) : Int).toNat - ((ji23) : Int).toNat := (by rw [Ny138.out, List.length_drop, List.length_take] <;> omega)
                   rw [show ((t130).take ((wrap64 ((ji23) + t133)) : Int).toNat).drop ((ji23) : Int).toNat = y138 from Ny138.out.symm] at hr47
                   replace hr47 : Kd.C (Kd.int .i64) _ A47 y138.length y138 := (by rw [hA47]; exact hr47)
                   rw [← hy47, ← hA47, ← hc47] at hcut47
                   have HR141 := Aside0.mk hr47
                   have HC141 := Aside0.mk (show y138.length ≤ c47 from by rw [hy47, hc47]; exact Nat.sub_le_sub_right (Nat.le_trans (by omega) hroom47) _)
                   clear hr47 hC47 hroom47 hi047 hsz47 hc47
                   have KY47 := Aside0.mk hy47
                   have KA47 := Aside0.mk hA47
                   clear hy47 hA47
                   have KL47 := Aside0.mk (show ((wrap64 ((ji23) + t133)) : Int).toNat ≤ t130.length from by omega)
                   have KM47 := Aside0.mk (show ((ji23) : Int).toNat ≤ ((wrap64 ((ji23) + t133)) : Int).toNat from by omega)
                   replace q47 := eq_true q47
                   refine start_ (n := 34) (S := fun w' => True) (ds := []) #[N,N,N,N,N,N,N,N,N,N,N,N,N,N,N,N,N,N,N,N,N,N,N,N,N,N,N,N,N,N,N,N,N,N] (by kernel_rfl) rfl rfl trivial (fun hHeld => ?_); refine with_tabW tattinglaw17_SnakeEnds.tab8 tattinglaw17_SnakeEnds.bits8 (fun HT_ HW_ => ?_)
                   generalize w42.drew = w45 at HO129 HO132 HB HR137 HR141 hHeld ⊢
                   refine pure_ (i := 0) (N := some 45) (v := ?_) (a' := ?_) #[Y,N,N,N,N,N,N,N,N,N,N,N,N,N,N,N,N,N,N,N,N,N,N,N,N,N,N,N,N,N,N,N,N,N] rfl rfl (any_of HT_.out (by kernel_rfl)) (fun _ _ _ h => h) (Or.inl ⟨by rfl, ?_⟩) ?_ ?_; rotate_left
                   ·intro w'; go_simp; with_reducible rfl
                   rotate_left
                   ·simp only [Act.put, sA,sB,sC, i64_w, i32_w]; rfl
                   refine pure_ (i := 1) (N := some 46) (v := ?_) (a' := ?_) #[Y,Y,N,N,N,N,N,N,N,N,N,N,N,N,N,N,N,N,N,N,N,N,N,N,N,N,N,N,N,N,N,N,N,N] rfl rfl (any_of HT_.out (by kernel_rfl)) (fun _ _ _ h => h) (Or.inl ⟨by rfl, ?_⟩) ?_ ?_; rotate_left
                   ·intro w'; go_simp; with_reducible rfl
                   rotate_left
                   ·simp only [Act.put, sA,sB,sC, i64_w, i32_w]; rfl
                   refine pure_ (i := 2) (N := some 47) (v := ?_) (a' := ?_) #[Y,Y,Y,N,N,N,N,N,N,N,N,N,N,N,N,N,N,N,N,N,N,N,N,N,N,N,N,N,N,N,N,N,N,N] rfl rfl (any_of HT_.out (by kernel_rfl)) (fun _ _ _ h => h) (Or.inl ⟨by rfl, ?_⟩) ?_ ?_; rotate_left
                   ·intro w'; go_simp; with_reducible rfl
                   rotate_left
                   ·simp only [Act.put, sA,sB,sC, i64_w, i32_w]; rfl
                   refine pure_ (i := 3) (N := some 48) (v := ?_) (a' := ?_) #[Y,Y,Y,Y,N,N,N,N,N,N,N,N,N,N,N,N,N,N,N,N,N,N,N,N,N,N,N,N,N,N,N,N,N,N] rfl rfl (any_of HT_.out (by kernel_rfl)) (fun _ _ _ h => h) (Or.inl ⟨by rfl, ?_⟩) ?_ ?_; rotate_left
                   ·intro w'; go_simp; with_reducible rfl
                   rotate_left
                   ·simp only [Act.put, sA,sB,sC, i64_w, i32_w]; rfl
                   refine pure_ (i := 4) (N := some 49) (v := ?_) (a' := ?_) #[Y,Y,Y,Y,Y,N,N,N,N,N,N,N,N,N,N,N,N,N,N,N,N,N,N,N,N,N,N,N,N,N,N,N,N,N] rfl rfl (any_of HT_.out (by kernel_rfl)) (fun _ _ _ h => h) (Or.inl ⟨by rfl, ?_⟩) ?_ ?_; rotate_left
                   ·intro w'; go_simp; with_reducible rfl
                   rotate_left
                   ·simp only [Act.put, sA,sB,sC, i64_w, i32_w]; rfl
                   refine pure_ (i := 5) (N := some 50) (v := ?_) (a' := ?_) #[Y,Y,Y,Y,Y,Y,N,N,N,N,N,N,N,N,N,N,N,N,N,N,N,N,N,N,N,N,N,N,N,N,N,N,N,N] rfl rfl (any_of HT_.out (by kernel_rfl)) (fun _ _ _ h => h) (Or.inl ⟨by rfl, ?_⟩) ?_ ?_; rotate_left
                   ·intro w'; go_simp; with_reducible rfl
                   rotate_left
                   ·simp only [Act.put, sA,sB,sC, i64_w, i32_w]; rfl
                   refine pure_ (i := 6) (N := some 51) (v := ?_) (a' := ?_) #[Y,Y,Y,Y,Y,Y,Y,N,N,N,N,N,N,N,N,N,N,N,N,N,N,N,N,N,N,N,N,N,N,N,N,N,N,N] rfl rfl (any_of HT_.out (by kernel_rfl)) (fun _ _ _ h => h) (Or.inl ⟨by rfl, ?_⟩) ?_ ?_; rotate_left
                   ·intro w'; go_simp; with_reducible rfl
                   rotate_left
                   ·simp only [Act.put, sA,sB,sC, i64_w, i32_w]; rfl
                   refine pure_ (i := 7) (N := some 52) (v := ?_) (a' := ?_) #[Y,Y,Y,Y,Y,Y,Y,Y,N,N,N,N,N,N,N,N,N,N,N,N,N,N,N,N,N,N,N,N,N,N,N,N,N,N] rfl rfl (any_of HT_.out (by kernel_rfl)) (fun _ _ _ h => h) (Or.inl ⟨by rfl, ?_⟩) ?_ ?_; rotate_left
                   ·intro w'; go_simp; with_reducible rfl
                   rotate_left
                   ·simp only [Act.put, sA,sB,sC, i64_w, i32_w]; rfl
                   refine pure_ (i := 8) (N := some 53) (v := ?_) (a' := ?_) #[Y,Y,Y,Y,Y,Y,Y,Y,Y,N,N,N,N,N,N,N,N,N,N,N,N,N,N,N,N,N,N,N,N,N,N,N,N,N] rfl rfl (any_of HT_.out (by kernel_rfl)) (fun _ _ _ h => h) (Or.inl ⟨by rfl, ?_⟩) ?_ ?_; rotate_left
                   ·intro w'; go_simp; with_reducible rfl
                   rotate_left
                   ·simp only [Act.put, sA,sB,sC, i64_w, i32_w]; rfl
                   refine pure_ (i := 9) (N := some 54) (v := ?_) (a' := ?_) #[Y,Y,Y,Y,Y,Y,Y,Y,Y,Y,N,N,N,N,N,N,N,N,N,N,N,N,N,N,N,N,N,N,N,N,N,N,N,N] rfl rfl (any_of HT_.out (by kernel_rfl)) (fun _ _ _ h => h) (Or.inl ⟨by rfl, ?_⟩) ?_ ?_; rotate_left
                   ·intro w'; go_simp; with_reducible rfl
                   rotate_left
                   ·simp only [Act.put, sA,sB,sC, i64_w, i32_w]; rfl
                   refine pure_ (i := 10) (N := some 55) (v := ?_) (a' := ?_) #[Y,Y,Y,Y,Y,Y,Y,Y,Y,Y,Y,N,N,N,N,N,N,N,N,N,N,N,N,N,N,N,N,N,N,N,N,N,N,N] rfl rfl (any_of HT_.out (by kernel_rfl)) (fun _ _ _ h => h) (Or.inl ⟨by rfl, ?_⟩) ?_ ?_; rotate_left
                   ·intro w'; go_simp; with_reducible rfl
                   rotate_left
                   ·simp only [Act.put, sA,sB,sC, i64_w, i32_w]; rfl
                   refine pure_ (i := 11) (N := some 56) (v := ?_) (a' := ?_) #[Y,Y,Y,Y,Y,Y,Y,Y,Y,Y,Y,Y,N,N,N,N,N,N,N,N,N,N,N,N,N,N,N,N,N,N,N,N,N,N] rfl rfl (any_of HT_.out (by kernel_rfl)) (fun _ _ _ h => h) (Or.inl ⟨by rfl, ?_⟩) ?_ ?_; rotate_left
                   ·intro w'; go_simp; with_reducible rfl
                   rotate_left
                   ·simp only [Act.put, sA,sB,sC, i64_w, i32_w]; rfl
                   refine pure_ (i := 12) (N := some 57) (v := ?_) (a' := ?_) #[Y,Y,Y,Y,Y,Y,Y,Y,Y,Y,Y,Y,Y,N,N,N,N,N,N,N,N,N,N,N,N,N,N,N,N,N,N,N,N,N] rfl rfl (any_of HT_.out (by kernel_rfl)) (fun _ _ _ h => h) (Or.inl ⟨by rfl, ?_⟩) ?_ ?_; rotate_left
                   ·intro w'; go_simp; with_reducible rfl
                   rotate_left
                   ·simp only [Act.put, sA,sB,sC, i64_w, i32_w]; rfl
                   refine pure_ (i := 13) (N := some 58) (v := ?_) (a' := ?_) #[Y,Y,Y,Y,Y,Y,Y,Y,Y,Y,Y,Y,Y,Y,N,N,N,N,N,N,N,N,N,N,N,N,N,N,N,N,N,N,N,N] rfl rfl (any_of HT_.out (by kernel_rfl)) (fun _ _ _ h => h) (Or.inl ⟨by rfl, ?_⟩) ?_ ?_; rotate_left
                   ·intro w'; go_simp; with_reducible rfl
                   rotate_left
                   ·simp only [Act.put, sA,sB,sC, i64_w, i32_w]; rfl
                   refine pure_ (i := 14) (N := some 59) (v := ?_) (a' := ?_) #[Y,Y,Y,Y,Y,Y,Y,Y,Y,Y,Y,Y,Y,Y,Y,N,N,N,N,N,N,N,N,N,N,N,N,N,N,N,N,N,N,N] rfl rfl (any_of HT_.out (by kernel_rfl)) (fun _ _ _ h => h) (Or.inl ⟨by rfl, ?_⟩) ?_ ?_; rotate_left
                   ·intro w'; go_simp; with_reducible rfl
                   rotate_left
                   ·simp only [Act.put, sA,sB,sC, i64_w, i32_w]; rfl
                   refine pure_ (i := 15) (N := some 60) (v := ?_) (a' := ?_) #[Y,Y,Y,Y,Y,Y,Y,Y,Y,Y,Y,Y,Y,Y,Y,Y,N,N,N,N,N,N,N,N,N,N,N,N,N,N,N,N,N,N] rfl rfl (any_of HT_.out (by kernel_rfl)) (fun _ _ _ h => h) (Or.inl ⟨by rfl, ?_⟩) ?_ ?_; rotate_left
                   ·intro w'; go_simp; with_reducible rfl
                   rotate_left
                   ·simp only [Act.put, sA,sB,sC, i64_w, i32_w]; rfl
                   refine pure_ (i := 16) (N := some 61) (v := ?_) (a' := ?_) #[Y,Y,Y,Y,Y,Y,Y,Y,Y,Y,Y,Y,Y,Y,Y,Y,Y,N,N,N,N,N,N,N,N,N,N,N,N,N,N,N,N,N] rfl rfl (any_of HT_.out (by kernel_rfl)) (fun _ _ _ h => h) (Or.inl ⟨by rfl, ?_⟩) ?_ ?_; rotate_left
                   ·intro w'; go_simp; with_reducible rfl
                   rotate_left
                   ·simp only [Act.put, sA,sB,sC, i64_w, i32_w]; rfl
                   refine pure_ (i := 17) (N := some 62) (v := ?_) (a' := ?_) #[Y,Y,Y,Y,Y,Y,Y,Y,Y,Y,Y,Y,Y,Y,Y,Y,Y,Y,N,N,N,N,N,N,N,N,N,N,N,N,N,N,N,N] rfl rfl (any_of HT_.out (by kernel_rfl)) (fun _ _ _ h => h) (Or.inl ⟨by rfl, ?_⟩) ?_ ?_; rotate_left
                   ·intro w'; go_simp; with_reducible rfl
                   rotate_left
                   ·simp only [Act.put, sA,sB,sC, i64_w, i32_w]; rfl
                   refine pure_ (i := 18) (N := some 63) (v := ?_) (a' := ?_) #[Y,Y,Y,Y,Y,Y,Y,Y,Y,Y,Y,Y,Y,Y,Y,Y,Y,Y,Y,N,N,N,N,N,N,N,N,N,N,N,N,N,N,N] rfl rfl (any_of HT_.out (by kernel_rfl)) (fun _ _ _ h => h) (Or.inl ⟨by rfl, ?_⟩) ?_ ?_; rotate_left
                   ·intro w'; go_simp; with_reducible rfl
                   rotate_left
                   ·simp only [Act.put, sA,sB,sC, i64_w, i32_w]; rfl
                   refine pure_ (i := 19) (N := some 64) (v := ?_) (a' := ?_) #[Y,Y,Y,Y,Y,Y,Y,Y,Y,Y,Y,Y,Y,Y,Y,Y,Y,Y,Y,Y,N,N,N,N,N,N,N,N,N,N,N,N,N,N] rfl rfl (any_of HT_.out (by kernel_rfl)) (fun _ _ _ h => h) (Or.inl ⟨by rfl, ?_⟩) ?_ ?_; rotate_left
                   ·intro w'; go_simp; with_reducible rfl
                   rotate_left
                   ·simp only [Act.put, sA,sB,sC, i64_w, i32_w]; rfl
                   refine pure_ (i := 20) (N := some 65) (v := ?_) (a' := ?_) #[Y,Y,Y,Y,Y,Y,Y,Y,Y,Y,Y,Y,Y,Y,Y,Y,Y,Y,Y,Y,Y,N,N,N,N,N,N,N,N,N,N,N,N,N] rfl rfl (any_of HT_.out (by kernel_rfl)) (fun _ _ _ h => h) (Or.inl ⟨by rfl, ?_⟩) ?_ ?_; rotate_left
                   ·intro w'; go_simp; with_reducible rfl
                   rotate_left
                   ·simp only [Act.put, sA,sB,sC, i64_w, i32_w]; rfl
                   refine pure_ (i := 21) (N := some 66) (v := ?_) (a' := ?_) #[Y,Y,Y,Y,Y,Y,Y,Y,Y,Y,Y,Y,Y,Y,Y,Y,Y,Y,Y,Y,Y,Y,N,N,N,N,N,N,N,N,N,N,N,N] rfl rfl (any_of HT_.out (by kernel_rfl)) (fun _ _ _ h => h) (Or.inl ⟨by rfl, ?_⟩) ?_ ?_; rotate_left
                   ·intro w'; go_simp; with_reducible rfl
                   rotate_left
                   ·simp only [Act.put, sA,sB,sC, i64_w, i32_w]; rfl
                   refine pure_ (i := 22) (N := some 67) (v := ?_) (a' := ?_) #[Y,Y,Y,Y,Y,Y,Y,Y,Y,Y,Y,Y,Y,Y,Y,Y,Y,Y,Y,Y,Y,Y,Y,N,N,N,N,N,N,N,N,N,N,N] rfl rfl (any_of HT_.out (by kernel_rfl)) (fun _ _ _ h => h) (Or.inl ⟨by rfl, ?_⟩) ?_ ?_; rotate_left
                   ·intro w'; go_simp; with_reducible rfl
                   rotate_left
                   ·simp only [Act.put, sA,sB,sC, i64_w, i32_w]; rfl
                   refine pure_ (i := 23) (N := some 68) (v := ?_) (a' := ?_) #[Y,Y,Y,Y,Y,Y,Y,Y,Y,Y,Y,Y,Y,Y,Y,Y,Y,Y,Y,Y,Y,Y,Y,Y,N,N,N,N,N,N,N,N,N,N] rfl rfl (any_of HT_.out (by kernel_rfl)) (fun _ _ _ h => h) (Or.inl ⟨by rfl, ?_⟩) ?_ ?_; rotate_left
                   ·intro w'; go_simp; with_reducible rfl
                   rotate_left
                   ·simp only [Act.put, sA,sB,sC, i64_w, i32_w]; rfl
                   refine pure_ (i := 24) (N := some 69) (v := ?_) (a' := ?_) #[Y,Y,Y,Y,Y,Y,Y,Y,Y,Y,Y,Y,Y,Y,Y,Y,Y,Y,Y,Y,Y,Y,Y,Y,Y,N,N,N,N,N,N,N,N,N] rfl rfl (any_of HT_.out (by kernel_rfl)) (fun _ _ _ h => h) (Or.inl ⟨by rfl, ?_⟩) ?_ ?_; rotate_left
                   ·intro w'; go_simp; with_reducible rfl
                   rotate_left
                   ·simp only [Act.put, sA,sB,sC, i64_w, i32_w]; rfl
                   refine pure_ (i := 25) (N := some 70) (v := ?_) (a' := ?_) #[Y,Y,Y,Y,Y,Y,Y,Y,Y,Y,Y,Y,Y,Y,Y,Y,Y,Y,Y,Y,Y,Y,Y,Y,Y,Y,N,N,N,N,N,N,N,N] rfl rfl (any_of HT_.out (by kernel_rfl)) (fun _ _ _ h => h) (Or.inl ⟨by rfl, ?_⟩) ?_ ?_; rotate_left
                   ·intro w'; go_simp; with_reducible rfl
                   rotate_left
                   ·simp only [Act.put, sA,sB,sC, i64_w, i32_w]; rfl
                   refine pure_ (i := 26) (N := some 71) (v := ?_) (a' := ?_) #[Y,Y,Y,Y,Y,Y,Y,Y,Y,Y,Y,Y,Y,Y,Y,Y,Y,Y,Y,Y,Y,Y,Y,Y,Y,Y,Y,N,N,N,N,N,N,N] rfl rfl (any_of HT_.out (by kernel_rfl)) (fun _ _ _ h => h) (Or.inl ⟨by rfl, ?_⟩) ?_ ?_; rotate_left
                   ·intro w'; go_simp; with_reducible rfl
                   rotate_left
                   ·simp only [Act.put, sA,sB,sC, i64_w, i32_w]; rfl
                   refine pure_ (i := 27) (N := some 72) (v := ?_) (a' := ?_) #[Y,Y,Y,Y,Y,Y,Y,Y,Y,Y,Y,Y,Y,Y,Y,Y,Y,Y,Y,Y,Y,Y,Y,Y,Y,Y,Y,Y,N,N,N,N,N,N] rfl rfl (any_of HT_.out (by kernel_rfl)) (fun _ _ _ h => h) (Or.inl ⟨by rfl, ?_⟩) ?_ ?_; rotate_left
                   ·intro w'; go_simp; with_reducible rfl
                   rotate_left
                   ·simp only [Act.put, sA,sB,sC, i64_w, i32_w]; rfl
                   refine pure_ (i := 28) (N := some 73) (v := ?_) (a' := ?_) #[Y,Y,Y,Y,Y,Y,Y,Y,Y,Y,Y,Y,Y,Y,Y,Y,Y,Y,Y,Y,Y,Y,Y,Y,Y,Y,Y,Y,Y,N,N,N,N,N] rfl rfl (any_of HT_.out (by kernel_rfl)) (fun _ _ _ h => h) (Or.inl ⟨by rfl, ?_⟩) ?_ ?_; rotate_left
                   ·intro w'; go_simp; with_reducible rfl
                   rotate_left
                   ·simp only [Act.put, sA,sB,sC, i64_w, i32_w]; rfl
                   refine pure_ (i := 29) (N := some 74) (v := ?_) (a' := ?_) #[Y,Y,Y,Y,Y,Y,Y,Y,Y,Y,Y,Y,Y,Y,Y,Y,Y,Y,Y,Y,Y,Y,Y,Y,Y,Y,Y,Y,Y,Y,N,N,N,N] rfl rfl (any_of HT_.out (by kernel_rfl)) (fun _ _ _ h => h) (Or.inl ⟨by rfl, ?_⟩) ?_ ?_; rotate_left
                   ·intro w'; go_simp; with_reducible rfl
                   rotate_left
                   ·simp only [Act.put, sA,sB,sC, i64_w, i32_w]; rfl
                   refine pure_ (i := 30) (N := some 75) (v := ?_) (a' := ?_) #[Y,Y,Y,Y,Y,Y,Y,Y,Y,Y,Y,Y,Y,Y,Y,Y,Y,Y,Y,Y,Y,Y,Y,Y,Y,Y,Y,Y,Y,Y,Y,N,N,N] rfl rfl (any_of HT_.out (by kernel_rfl)) (fun _ _ _ h => h) (Or.inl ⟨by rfl, ?_⟩) ?_ ?_; rotate_left
                   ·intro w'; go_simp; with_reducible rfl
                   rotate_left
                   ·simp only [Act.put, sA,sB,sC, i64_w, i32_w]; rfl
                   refine one_ (i := 31) (N := some 76) #[Y,Y,Y,Y,Y,Y,Y,Y,Y,Y,Y,Y,Y,Y,Y,Y,Y,Y,Y,Y,Y,Y,Y,Y,Y,Y,Y,Y,Y,Y,Y,Y,N,N] rfl rfl (one_of HT_.out (by kernel_rfl)) (by decide) (fun K hK => ?_)
                   refine goes_ Try.func16 (by kernel_rfl) rfl #[.slice A46 y134.length c46, .slice A47 y138.length c47] (by rfl) rfl rfl (by (try simp only [List.map_toArray, List.map_cons, List.map_nil]); first | done | rfl | (simp only [List.length_drop, List.length_take]; rfl)) ?_
                   with_reducible refine (tattingref1_SameInts.calls kj6 _ _ y134 _ _ y138 true _ ?side1 ?side2 ?side3 ?side4 A27.out).mono ?_
                   (case side1 => repeat (first | exact (by repeat (first | (with_reducible exact HR137.out) | (with_reducible refine Kd.C_alloc ?_ _) | (with_reducible refine Kd.C_drewN ?_ _) | (with_reducible refine Kd.C_drew ?_) | exact HR137.out)) | (with_reducible refine Kd.C_alloc ?_ _) | (with_reducible refine Kd.C_drewN ?_ _) | (with_reducible refine Kd.C_drew ?_)))
                   (case side2 => exact HC137.out)
                   (case side3 => repeat (first | exact (by repeat (first | (with_reducible exact HR141.out) | (with_reducible refine Kd.C_alloc ?_ _) | (with_reducible refine Kd.C_drewN ?_ _) | (with_reducible refine Kd.C_drew ?_) | exact HR141.out)) | (with_reducible refine Kd.C_alloc ?_ _) | (with_reducible refine Kd.C_drewN ?_ _) | (with_reducible refine Kd.C_drew ?_)))
                   (case side4 => exact HC141.out)
                   rintro e w' ⟨rfl, ⟨nd, rfl⟩⟩
                   refine ⟨_, rfl, ?_⟩
                   refine hK.out _ _ trivial (fun hHeld => ?_)
                   clear hK K
                   refine norm_ (a' := ?_) ?_ ?_
                   rotate_left
                   ·show Act.put _ (some 76) _ = _
                    simp only [Act.put, sA,sB,sC, i64_w, i32_w]; rfl
                   refine pure_ (i := 32) (N := some 77) (v := ?_) (a' := ?_) #[Y,Y,Y,Y,Y,Y,Y,Y,Y,Y,Y,Y,Y,Y,Y,Y,Y,Y,Y,Y,Y,Y,Y,Y,Y,Y,Y,Y,Y,Y,Y,Y,Y,N] rfl rfl (any_of HT_.out (by kernel_rfl)) (fun _ _ _ h => h) (Or.inl ⟨by rfl, ?_⟩) ?_ ?_; rotate_left
                   ·intro w'; go_simp; with_reducible rfl
                   rotate_left
                   ·simp only [Act.put, sA,sB,sC, i64_w, i32_w]; rfl
                   refine pure_ (i := 33) (N := some 78) (v := ?_) (a' := ?_) #[Y,Y,Y,Y,Y,Y,Y,Y,Y,Y,Y,Y,Y,Y,Y,Y,Y,Y,Y,Y,Y,Y,Y,Y,Y,Y,Y,Y,Y,Y,Y,Y,Y,Y] rfl rfl (any_of HT_.out (by kernel_rfl)) (fun _ _ _ h => h) (Or.inl ⟨by rfl, ?_⟩) ?_ ?_; rotate_left
                   ·intro w'; go_simp; with_reducible rfl
                   rotate_left
                   ·simp only [Act.put, sA,sB,sC, i64_w, i32_w]; rfl
                   refine done_ (done_of HT_.out (by kernel_rfl)) ?_
                   try go_wp2
                   (try (rw [drewN_self w45]; generalize hq_ : World.drewN w45 _ = w45; have n0_ : Aside0 (Kd.R (Kd.int .i64) 3 w45 w.heap.size (fun k_ => some k_ ≠ (.slice Ao44 t130.length co44 : Value).ownBlock) (.slice Ao43 t127.length co43) t127) := ⟨by rw [← hq_]; exact (by (with_reducible repeat (first | apply Kd.R_alloc | apply Kd.R_drewN | apply Kd.R_drew)); (first | exact Kd.R_mono HO129.out (fun _ hk => hk.2) | exact HO129.out))⟩; have n1_ : Aside0 (Kd.R (Kd.int .i64) 3 w45 w.heap.size (fun k_ => some k_ ≠ (.slice Ao43 t127.length co43 : Value).ownBlock) (.slice Ao44 t130.length co44) t130) := ⟨by rw [← hq_]; exact (by (with_reducible repeat (first | apply Kd.R_alloc | apply Kd.R_drewN | apply Kd.R_drew)); (first | exact Kd.R_mono HO132.out (fun _ hk => hk.2) | exact HO132.out))⟩; have n2_ : Aside0 (Below w.heap.size w w45) := ⟨by rw [← hq_]; exact (by repeat (first | (with_reducible first | exact HB.out | apply below_alloc | apply pw_below_drewN | apply below_drew1) | exact HB.out))⟩; have n3_ : Aside0 (Kd.C (Kd.int .i64) w45 A46 y134.length y134) := ⟨by rw [← hq_]; exact (by repeat (first | (with_reducible exact HR137.out) | (with_reducible refine Kd.C_alloc ?_ _) | (with_reducible refine Kd.C_drewN ?_ _) | (with_reducible refine Kd.C_drew ?_) | exact HR137.out))⟩; have n4_ : Aside0 (Kd.C (Kd.int .i64) w45 A47 y138.length y138) := ⟨by rw [← hq_]; exact (by repeat (first | (with_reducible exact HR141.out) | (with_reducible refine Kd.C_alloc ?_ _) | (with_reducible refine Kd.C_drewN ?_ _) | (with_reducible refine Kd.C_drew ?_) | exact HR141.out))⟩; clear HO129 HO132 HB HR137 HR141 hq_; have HO129 := n0_; have HO132 := n1_; have HB := n2_; have HR137 := n3_; have HR141 := n4_; clear n0_ n1_ n2_ n3_ n4_))
                   have n0_ := Aside0.mk (Kd.R_drew HO129.out)
                   have n1_ := Aside0.mk (Kd.R_drew HO132.out)
                   have n2_ := Aside0.mk (Kd.C_drew HR137.out)
                   have n3_ := Aside0.mk (Kd.C_drew HR141.out)
                   have n4_ := Aside0.mk (below_drew1 HB.out)
                   clear HO129
                   clear HO132
                   clear HR137
                   clear HR141
                   clear HB
                   have HO129 := n0_
                   have HO132 := n1_
                   have HR137 := n2_
                   have HR141 := n3_
                   have HB := n4_
                   clear n0_ n1_ n2_ n3_ n4_
                   refine start_ (n := 30) (S := fun w' => True) (ds := []) #[N,N,N,N,N,N,N,N,N,N,N,N,N,N,N,N,N,N,N,N,N,N,N,N,N,N,N,N,N,N] (by kernel_rfl) rfl rfl trivial (fun hHeld => ?_); refine with_tabW tattinglaw17_SnakeEnds.tab10 tattinglaw17_SnakeEnds.bits10 (fun HT_ HW_ => ?_)
                   generalize w45.drew = w48 at HO129 HO132 HR137 HR141 HB hHeld ⊢
                   refine pure_ (i := 0) (N := some 79) (v := ?_) (a' := ?_) #[Y,N,N,N,N,N,N,N,N,N,N,N,N,N,N,N,N,N,N,N,N,N,N,N,N,N,N,N,N,N] rfl rfl (any_of HT_.out (by kernel_rfl)) (fun _ _ _ h => h) (Or.inl ⟨by rfl, ?_⟩) ?_ ?_; rotate_left
                   ·intro w'; go_simp; with_reducible rfl
                   rotate_left
                   ·simp only [Act.put, sA,sB,sC, i64_w, i32_w]; rfl
                   refine pure_ (i := 1) (N := some 80) (v := ?_) (a' := ?_) #[Y,Y,N,N,N,N,N,N,N,N,N,N,N,N,N,N,N,N,N,N,N,N,N,N,N,N,N,N,N,N] rfl rfl (any_of HT_.out (by kernel_rfl)) (fun _ _ _ h => h) (Or.inl ⟨by rfl, ?_⟩) ?_ ?_; rotate_left
                   ·intro w'; go_simp; with_reducible rfl
                   rotate_left
                   ·simp only [Act.put, sA,sB,sC, i64_w, i32_w]; rfl
                   refine pure_ (i := 2) (N := some 81) (v := ?_) (a' := ?_) #[Y,Y,Y,N,N,N,N,N,N,N,N,N,N,N,N,N,N,N,N,N,N,N,N,N,N,N,N,N,N,N] rfl rfl (any_of HT_.out (by kernel_rfl)) (fun _ _ _ h => h) (Or.inl ⟨by rfl, ?_⟩) ?_ ?_; rotate_left
                   ·intro w'; go_simp; with_reducible rfl
                   rotate_left
                   ·simp only [Act.put, sA,sB,sC, i64_w, i32_w]; rfl
                   refine pure_ (i := 3) (N := some 82) (v := ?_) (a' := ?_) #[Y,Y,Y,Y,N,N,N,N,N,N,N,N,N,N,N,N,N,N,N,N,N,N,N,N,N,N,N,N,N,N] rfl rfl (any_of HT_.out (by kernel_rfl)) (fun _ _ _ h => h) (Or.inl ⟨by rfl, ?_⟩) ?_ ?_; rotate_left
                   ·intro w'; go_simp; with_reducible rfl
                   rotate_left
                   ·simp only [Act.put, sA,sB,sC, i64_w, i32_w]; rfl
                   refine pure_ (i := 4) (N := some 83) (v := ?_) (a' := ?_) #[Y,Y,Y,Y,Y,N,N,N,N,N,N,N,N,N,N,N,N,N,N,N,N,N,N,N,N,N,N,N,N,N] rfl rfl (any_of HT_.out (by kernel_rfl)) (fun _ _ _ h => h) (Or.inl ⟨by rfl, ?_⟩) ?_ ?_; rotate_left
                   ·intro w'; go_simp; with_reducible rfl
                   rotate_left
                   ·simp only [Act.put, sA,sB,sC, i64_w, i32_w]; rfl
                   refine pure_ (i := 5) (N := some 84) (v := ?_) (a' := ?_) #[Y,Y,Y,Y,Y,Y,N,N,N,N,N,N,N,N,N,N,N,N,N,N,N,N,N,N,N,N,N,N,N,N] rfl rfl (any_of HT_.out (by kernel_rfl)) (fun _ _ _ h => h) (Or.inl ⟨by rfl, ?_⟩) ?_ ?_; rotate_left
                   ·intro w'; go_simp; with_reducible rfl
                   rotate_left
                   ·simp only [Act.put, sA,sB,sC, i64_w, i32_w]; rfl
                   refine pure_ (i := 6) (N := some 85) (v := ?_) (a' := ?_) #[Y,Y,Y,Y,Y,Y,Y,N,N,N,N,N,N,N,N,N,N,N,N,N,N,N,N,N,N,N,N,N,N,N] rfl rfl (any_of HT_.out (by kernel_rfl)) (fun _ _ _ h => h) (Or.inl ⟨by rfl, ?_⟩) ?_ ?_; rotate_left
                   ·intro w'; go_simp; with_reducible rfl
                   rotate_left
                   ·simp only [Act.put, sA,sB,sC, i64_w, i32_w]; rfl
                   refine pure_ (i := 7) (N := some 86) (v := ?_) (a' := ?_) #[Y,Y,Y,Y,Y,Y,Y,Y,N,N,N,N,N,N,N,N,N,N,N,N,N,N,N,N,N,N,N,N,N,N] rfl rfl (any_of HT_.out (by kernel_rfl)) (fun _ _ _ h => h) (Or.inl ⟨by rfl, ?_⟩) ?_ ?_; rotate_left
                   ·intro w'; go_simp; with_reducible rfl
                   rotate_left
                   ·simp only [Act.put, sA,sB,sC, i64_w, i32_w]; rfl
                   refine pure_ (i := 8) (N := some 87) (v := ?_) (a' := ?_) #[Y,Y,Y,Y,Y,Y,Y,Y,Y,N,N,N,N,N,N,N,N,N,N,N,N,N,N,N,N,N,N,N,N,N] rfl rfl (any_of HT_.out (by kernel_rfl)) (fun _ _ _ h => h) (Or.inl ⟨by rfl, ?_⟩) ?_ ?_; rotate_left
                   ·intro w'; go_simp; with_reducible rfl
                   rotate_left
                   ·simp only [Act.put, sA,sB,sC, i64_w, i32_w]; rfl
                   refine pure_ (i := 9) (N := some 88) (v := ?_) (a' := ?_) #[Y,Y,Y,Y,Y,Y,Y,Y,Y,Y,N,N,N,N,N,N,N,N,N,N,N,N,N,N,N,N,N,N,N,N] rfl rfl (any_of HT_.out (by kernel_rfl)) (fun _ _ _ h => h) (Or.inl ⟨by rfl, ?_⟩) ?_ ?_; rotate_left
                   ·intro w'; go_simp; with_reducible rfl
                   rotate_left
                   ·simp only [Act.put, sA,sB,sC, i64_w, i32_w]; rfl
                   refine pure_ (i := 10) (N := some 89) (v := ?_) (a' := ?_) #[Y,Y,Y,Y,Y,Y,Y,Y,Y,Y,Y,N,N,N,N,N,N,N,N,N,N,N,N,N,N,N,N,N,N,N] rfl rfl (any_of HT_.out (by kernel_rfl)) (fun _ _ _ h => h) (Or.inl ⟨by rfl, ?_⟩) ?_ ?_; rotate_left
                   ·intro w'; go_simp; with_reducible rfl
                   rotate_left
                   ·simp only [Act.put, sA,sB,sC, i64_w, i32_w]; rfl
                   refine pure_ (i := 11) (N := some 90) (v := ?_) (a' := ?_) #[Y,Y,Y,Y,Y,Y,Y,Y,Y,Y,Y,Y,N,N,N,N,N,N,N,N,N,N,N,N,N,N,N,N,N,N] rfl rfl (any_of HT_.out (by kernel_rfl)) (fun _ _ _ h => h) (Or.inl ⟨by rfl, ?_⟩) ?_ ?_; rotate_left
                   ·intro w'; go_simp; with_reducible rfl
                   rotate_left
                   ·simp only [Act.put, sA,sB,sC, i64_w, i32_w]; rfl
                   refine pure_ (i := 12) (N := some 91) (v := ?_) (a' := ?_) #[Y,Y,Y,Y,Y,Y,Y,Y,Y,Y,Y,Y,Y,N,N,N,N,N,N,N,N,N,N,N,N,N,N,N,N,N] rfl rfl (any_of HT_.out (by kernel_rfl)) (fun _ _ _ h => h) (Or.inl ⟨by rfl, ?_⟩) ?_ ?_; rotate_left
                   ·intro w'; go_simp; with_reducible rfl
                   rotate_left
                   ·simp only [Act.put, sA,sB,sC, i64_w, i32_w]; rfl
                   refine pure_ (i := 13) (N := some 92) (v := ?_) (a' := ?_) #[Y,Y,Y,Y,Y,Y,Y,Y,Y,Y,Y,Y,Y,Y,N,N,N,N,N,N,N,N,N,N,N,N,N,N,N,N] rfl rfl (any_of HT_.out (by kernel_rfl)) (fun _ _ _ h => h) (Or.inl ⟨by rfl, ?_⟩) ?_ ?_; rotate_left
                   ·intro w'; go_simp; with_reducible rfl
                   rotate_left
                   ·simp only [Act.put, sA,sB,sC, i64_w, i32_w]; rfl
                   refine pure_ (i := 14) (N := some 93) (v := ?_) (a' := ?_) #[Y,Y,Y,Y,Y,Y,Y,Y,Y,Y,Y,Y,Y,Y,Y,N,N,N,N,N,N,N,N,N,N,N,N,N,N,N] rfl rfl (any_of HT_.out (by kernel_rfl)) (fun _ _ _ h => h) (Or.inl ⟨by rfl, ?_⟩) ?_ ?_; rotate_left
                   ·intro w'; go_simp; with_reducible rfl
                   rotate_left
                   ·simp only [Act.put, sA,sB,sC, i64_w, i32_w]; rfl
                   refine pure_ (i := 15) (N := some 94) (v := undef) (a' := ?_) #[Y,Y,Y,Y,Y,Y,Y,Y,Y,Y,Y,Y,Y,Y,Y,Y,N,N,N,N,N,N,N,N,N,N,N,N,N,N] rfl rfl (any_of HT_.out (by kernel_rfl)) (fun _ _ _ h => h) (Or.inr ⟨by rfl, rfl⟩) ?_ ?_; rotate_left
                   ·simp only [Act.put, sA,sB,sC, i64_w, i32_w]; rfl
                   refine pure_ (i := 16) (N := some 95) (v := undef) (a' := ?_) #[Y,Y,Y,Y,Y,Y,Y,Y,Y,Y,Y,Y,Y,Y,Y,Y,Y,N,N,N,N,N,N,N,N,N,N,N,N,N] rfl rfl (any_of HT_.out (by kernel_rfl)) (fun _ _ _ h => h) (Or.inr ⟨by rfl, rfl⟩) ?_ ?_; rotate_left
                   ·simp only [Act.put, sA,sB,sC, i64_w, i32_w]; rfl
                   refine pure_ (i := 17) (N := some 96) (v := undef) (a' := ?_) #[Y,Y,Y,Y,Y,Y,Y,Y,Y,Y,Y,Y,Y,Y,Y,Y,Y,Y,N,N,N,N,N,N,N,N,N,N,N,N] rfl rfl (any_of HT_.out (by kernel_rfl)) (fun _ _ _ h => h) (Or.inr ⟨by rfl, rfl⟩) ?_ ?_; rotate_left
                   ·simp only [Act.put, sA,sB,sC, i64_w, i32_w]; rfl
                   refine pure_ (i := 18) (N := some 97) (v := undef) (a' := ?_) #[Y,Y,Y,Y,Y,Y,Y,Y,Y,Y,Y,Y,Y,Y,Y,Y,Y,Y,Y,N,N,N,N,N,N,N,N,N,N,N] rfl rfl (any_of HT_.out (by kernel_rfl)) (fun _ _ _ h => h) (Or.inr ⟨by rfl, rfl⟩) ?_ ?_; rotate_left
                   ·simp only [Act.put, sA,sB,sC, i64_w, i32_w]; rfl
                   refine pure_ (i := 19) (N := some 98) (v := undef) (a' := ?_) #[Y,Y,Y,Y,Y,Y,Y,Y,Y,Y,Y,Y,Y,Y,Y,Y,Y,Y,Y,Y,N,N,N,N,N,N,N,N,N,N] rfl rfl (any_of HT_.out (by kernel_rfl)) (fun _ _ _ h => h) (Or.inr ⟨by rfl, rfl⟩) ?_ ?_; rotate_left
                   ·simp only [Act.put, sA,sB,sC, i64_w, i32_w]; rfl
                   refine pure_ (i := 20) (N := some 99) (v := undef) (a' := ?_) #[Y,Y,Y,Y,Y,Y,Y,Y,Y,Y,Y,Y,Y,Y,Y,Y,Y,Y,Y,Y,Y,N,N,N,N,N,N,N,N,N] rfl rfl (any_of HT_.out (by kernel_rfl)) (fun _ _ _ h => h) (Or.inr ⟨by rfl, rfl⟩) ?_ ?_; rotate_left
                   ·simp only [Act.put, sA,sB,sC, i64_w, i32_w]; rfl
                   refine pure_ (i := 21) (N := some 100) (v := undef) (a' := ?_) #[Y,Y,Y,Y,Y,Y,Y,Y,Y,Y,Y,Y,Y,Y,Y,Y,Y,Y,Y,Y,Y,Y,N,N,N,N,N,N,N,N] rfl rfl (any_of HT_.out (by kernel_rfl)) (fun _ _ _ h => h) (Or.inr ⟨by rfl, rfl⟩) ?_ ?_; rotate_left
                   ·simp only [Act.put, sA,sB,sC, i64_w, i32_w]; rfl
                   refine pure_ (i := 22) (N := some 101) (v := undef) (a' := ?_) #[Y,Y,Y,Y,Y,Y,Y,Y,Y,Y,Y,Y,Y,Y,Y,Y,Y,Y,Y,Y,Y,Y,Y,N,N,N,N,N,N,N] rfl rfl (any_of HT_.out (by kernel_rfl)) (fun _ _ _ h => h) (Or.inr ⟨by rfl, rfl⟩) ?_ ?_; rotate_left
                   ·simp only [Act.put, sA,sB,sC, i64_w, i32_w]; rfl
                   refine pure_ (i := 23) (N := some 102) (v := undef) (a' := ?_) #[Y,Y,Y,Y,Y,Y,Y,Y,Y,Y,Y,Y,Y,Y,Y,Y,Y,Y,Y,Y,Y,Y,Y,Y,N,N,N,N,N,N] rfl rfl (any_of HT_.out (by kernel_rfl)) (fun _ _ _ h => h) (Or.inr ⟨by rfl, rfl⟩) ?_ ?_; rotate_left
                   ·simp only [Act.put, sA,sB,sC, i64_w, i32_w]; rfl
                   refine pure_ (i := 24) (N := some 103) (v := undef) (a' := ?_) #[Y,Y,Y,Y,Y,Y,Y,Y,Y,Y,Y,Y,Y,Y,Y,Y,Y,Y,Y,Y,Y,Y,Y,Y,Y,N,N,N,N,N] rfl rfl (any_of HT_.out (by kernel_rfl)) (fun _ _ _ h => h) (Or.inr ⟨by rfl, rfl⟩) ?_ ?_; rotate_left
                   ·simp only [Act.put, sA,sB,sC, i64_w, i32_w]; rfl
                   refine pure_ (i := 25) (N := some 104) (v := undef) (a' := ?_) #[Y,Y,Y,Y,Y,Y,Y,Y,Y,Y,Y,Y,Y,Y,Y,Y,Y,Y,Y,Y,Y,Y,Y,Y,Y,Y,N,N,N,N] rfl rfl (any_of HT_.out (by kernel_rfl)) (fun _ _ _ h => h) (Or.inr ⟨by rfl, rfl⟩) ?_ ?_; rotate_left
                   ·simp only [Act.put, sA,sB,sC, i64_w, i32_w]; rfl
                   refine pure_ (i := 26) (N := some 105) (v := undef) (a' := ?_) #[Y,Y,Y,Y,Y,Y,Y,Y,Y,Y,Y,Y,Y,Y,Y,Y,Y,Y,Y,Y,Y,Y,Y,Y,Y,Y,Y,N,N,N] rfl rfl (any_of HT_.out (by kernel_rfl)) (fun _ _ _ h => h) (Or.inr ⟨by rfl, rfl⟩) ?_ ?_; rotate_left
                   ·simp only [Act.put, sA,sB,sC, i64_w, i32_w]; rfl
                   refine pure_ (i := 27) (N := some 106) (v := undef) (a' := ?_) #[Y,Y,Y,Y,Y,Y,Y,Y,Y,Y,Y,Y,Y,Y,Y,Y,Y,Y,Y,Y,Y,Y,Y,Y,Y,Y,Y,Y,N,N] rfl rfl (any_of HT_.out (by kernel_rfl)) (fun _ _ _ h => h) (Or.inr ⟨by rfl, rfl⟩) ?_ ?_; rotate_left
                   ·simp only [Act.put, sA,sB,sC, i64_w, i32_w]; rfl
                   refine pure_ (i := 28) (N := some 107) (v := ?_) (a' := ?_) #[Y,Y,Y,Y,Y,Y,Y,Y,Y,Y,Y,Y,Y,Y,Y,Y,Y,Y,Y,Y,Y,Y,Y,Y,Y,Y,Y,Y,Y,N] rfl rfl (any_of HT_.out (by kernel_rfl)) (fun _ _ _ h => h) (Or.inl ⟨by rfl, ?_⟩) ?_ ?_; rotate_left
                   ·intro w'; go_simp; with_reducible rfl
                   rotate_left
                   ·simp only [Act.put, sA,sB,sC, i64_w, i32_w]; rfl
                   refine pure_ (i := 29) (N := some 8) (v := ?_) (a' := ?_) #[Y,Y,Y,Y,Y,Y,Y,Y,Y,Y,Y,Y,Y,Y,Y,Y,Y,Y,Y,Y,Y,Y,Y,Y,Y,Y,Y,Y,Y,Y] rfl rfl (any_of HT_.out (by kernel_rfl)) (fun _ _ _ h => h) (Or.inl ⟨by rfl, ?_⟩) ?_ ?_; rotate_left
                   ·intro w'; go_simp; with_reducible rfl
                   rotate_left
                   ·simp only [Act.put, sA,sB,sC, i64_w, i32_w]; rfl
                   refine done_ (done_of HT_.out (by kernel_rfl)) ?_
                   try go_wp2
                   go_ret
                   exact ⟨by first | rfl | (simp [errW_none, errW_some] <;> rfl) | (simp only [← hji19, ← hji23]; first | rfl | (simp [errW_none, errW_some] <;> rfl)) | (simp [*, errW_none, errW_some] <;> rfl), by repeat (first | (with_reducible first | exact HB.out | apply below_alloc | apply pw_below_drewN | apply below_drew1) | exact HB.out)⟩
                  ·rw [if_neg c39] at H
                   have c39b0 : ((wrap64 ((ji23) + t133)) == (t130.length : Int)) = false := beq_eq_false_iff_ne.mpr c39
                   have c39b1 : ((wrap64 ((ji23) + t133)) != (t130.length : Int)) = true := bne_iff_ne.mpr c39
                   obtain ⟨ji49, hji49⟩ : ∃ j_ : Int, (wrap64 ((ji19) + t133)) = j_ := ⟨_, rfl⟩
                   replace H : (if 0 ≤ (ji49) then (if (ji49) < (t127.length : Int) then (if 0 ≤ (wrap64 ((ji23) + t133)) then (if (wrap64 ((ji23) + t133)) < (t130.length : Int) then (some ((rd t127 (ji49)) != (rd t130 (wrap64 ((ji23) + t133))))) else (none)) else (none)) else (none)) else (none)) = some r := by first | (rw [hji49] at H; exact H) | (simp only [hji49] at H ⊢; exact H)
                   (try rw [hji49] at c21b0)
                   (try rw [hji49] at c21b1)
                   (try rw [hji49] at c21)
                   (try rw [hji49] at c22b0)
                   (try rw [hji49] at c22b1)
                   (try rw [hji49] at c22)
                   (try rw [hji49] at c29b0)
                   (try rw [hji49] at c29b1)
                   (try rw [hji49] at A11)
                   (try rw [hji49] at A12)
                   (try rw [hji49] at A15)
                   (try rw [hji49] at Ny134)
                   (try rw [hji49] at A27)
                   have hji49w : (IntKind.i64.wrap ((ji19) + t133)) = ji49 := (i64_w _).trans hji49
                   by_cases c50 : 0 ≤ (ji49)
                   ·rw [if_pos c50] at H
                    have c50b0 : decide (0 ≤ (ji49)) = true := decide_eq_true c50
                    clear c50
                    by_cases c51 : (ji49) < (t127.length : Int)
                    ·rw [if_pos c51] at H
                     have c51b0 : decide ((ji49) < (t127.length : Int)) = true := decide_eq_true c51
                     clear c51
                     obtain ⟨ji52, hji52⟩ : ∃ j_ : Int, (wrap64 ((ji23) + t133)) = j_ := ⟨_, rfl⟩
                     replace H : (if 0 ≤ (ji52) then (if (ji52) < (t130.length : Int) then (some ((rd t127 (ji49)) != (rd t130 (ji52)))) else (none)) else (none)) = some r := by first | (rw [hji52] at H; exact H) | (simp only [hji52] at H ⊢; exact H)
                     (try rw [hji52] at c25b0)
                     (try rw [hji52] at c25b1)
                     (try rw [hji52] at c25)
                     (try rw [hji52] at c26b0)
                     (try rw [hji52] at c26b1)
                     (try rw [hji52] at c26)
                     (try rw [hji52] at c39b0)
                     (try rw [hji52] at c39b1)
                     (try rw [hji52] at A11)
                     (try rw [hji52] at A12)
                     (try rw [hji52] at A15)
                     (try rw [hji52] at Ny138)
                     (try rw [hji52] at A27)
                     have hji52w : (IntKind.i64.wrap ((ji23) + t133)) = ji52 := (i64_w _).trans hji52
                     by_cases c53 : 0 ≤ (ji52)
                     ·rw [if_pos c53] at H
                      have c53b0 : decide (0 ≤ (ji52)) = true := decide_eq_true c53
                      clear c53
                      by_cases c54 : (ji52) < (t130.length : Int)
                      ·rw [if_pos c54] at H
                       have c54b0 : decide ((ji52) < (t130.length : Int)) = true := decide_eq_true c54
                       clear c54
                       obtain rfl := Option.some.inj H
                       try go_wp2_with (first | ((first | (with_reducible refine gate_callee (f := 12) rfl ?_); refine goesL_ (some 25) rfl rfl Try.func12 (by kernel_rfl) rfl #[.slice A0 l0.length c0, .int .i64 2] rfl (by (try simp only [List.map_toArray, List.map_cons, List.map_nil]); first | done | rfl | (simp only [List.length_drop, List.length_take]; rfl)) ?_ | go_at_call 12); (with_reducible refine (tattingref1_Few.calls kj6 _ _ l0 2 t127 _ ?side1 ?side2 A11.out).mono ?_); (case side1 => repeat (first | exact (Kd.C_below HR0.out HB.out) | (with_reducible refine Kd.C_alloc ?_ _) | (with_reducible refine Kd.C_drewN ?_ _) | (with_reducible refine Kd.C_drew ?_))); (case side2 => exact HC0.out); rintro e w55 ⟨v128, rfl, ho0, hb⟩; (try refine ⟨_, rfl, ?_⟩); have n0_ := Aside0.mk (Kd.R_lower ho0 (below_size (by repeat (first | (with_reducible first | exact HB.out | apply below_alloc | apply pw_below_drewN | apply below_drew1) | exact HB.out)))); have n1_ := Aside0.mk (below_step (by repeat (first | (with_reducible first | exact HB.out | apply below_alloc | apply pw_below_drewN | apply below_drew1) | exact HB.out)) hb); clear HB; have HO129 := n0_; have HB := n1_; clear n0_ n1_; (try clear hb); (try clear hb2); (try clear hk); (try clear hi); (try clear ho0)) | ((first | (with_reducible refine gate_callee (f := 12) rfl ?_); refine goesL_ (some 27) rfl rfl Try.func12 (by kernel_rfl) rfl #[.slice A1 l1.length c1, .int .i64 2] rfl (by (try simp only [List.map_toArray, List.map_cons, List.map_nil]); first | done | rfl | (simp only [List.length_drop, List.length_take]; rfl)) ?_ | go_at_call 12); (with_reducible refine (tattingref1_Few.calls kj6 _ _ l1 2 t130 _ ?side1 ?side2 A12.out).mono ?_); (case side1 => repeat (first | exact (Kd.C_below HR1.out HB.out) | (with_reducible refine Kd.C_alloc ?_ _) | (with_reducible refine Kd.C_drewN ?_ _) | (with_reducible refine Kd.C_drew ?_))); (case side2 => exact HC1.out); rintro e w56 ⟨v131, rfl, ho0, hb⟩; (try refine ⟨_, rfl, ?_⟩); have n0_ := Aside0.mk (Kd.R_elder' (by (with_reducible repeat (first | apply Kd.R_alloc | apply Kd.R_drewN | apply Kd.R_drew)); exact HO129.out) (Kd.R_base ho0) hb); have n1_ := Aside0.mk (Kd.R_lower (Kd.R_new' ho0 (Kd.R_lt (by (with_reducible repeat (first | apply Kd.R_alloc | apply Kd.R_drewN | apply Kd.R_drew)); exact HO129.out))) (below_size (by repeat (first | (with_reducible first | exact HB.out | apply below_alloc | apply pw_below_drewN | apply below_drew1) | exact HB.out)))); have n2_ := Aside0.mk (below_step (by repeat (first | (with_reducible first | exact HB.out | apply below_alloc | apply pw_below_drewN | apply below_drew1) | exact HB.out)) hb); clear HO129; clear HB; have HO129 := n0_; have HO132 := n1_; have HB := n2_; clear n0_ n1_ n2_; (try clear hb); (try clear hb2); (try clear hk); (try clear hi); (try clear ho0)))
                       have n0_ := Aside0.mk (Kd.R_drew HO129.out)
                       have n1_ := Aside0.mk (Kd.R_drew HO132.out)
                       have n2_ := Aside0.mk (below_drew1 HB.out)
                       clear HO129
                       clear HO132
                       clear HB
                       have HO129 := n0_
                       have HO132 := n1_
                       have HB := n2_
                       clear n0_ n1_ n2_
                       obtain ⟨Ao58, co58, eo58⟩ := Kd.R_slice HO129.out
                       (first | subst eo58 | (injection eo58 with f1_ f2_ f3_; have f4_ := f1_.symm; have f5_ := f3_.symm; clear f1_ f2_ f3_; subst f4_; subst f5_))
                       obtain ⟨Ao59, co59, eo59⟩ := Kd.R_slice HO132.out
                       (first | subst eo59 | (injection eo59 with f1_ f2_ f3_; have f4_ := f1_.symm; have f5_ := f3_.symm; clear f1_ f2_ f3_; subst f4_; subst f5_))
                       refine start_ (n := 14) (S := fun w' => True) (ds := []) #[N,N,N,N,N,N,N,N,N,N,N,N,N,N] (by kernel_rfl) rfl rfl trivial (fun hHeld => ?_); refine with_tabW tattinglaw17_SnakeEnds.tab6 tattinglaw17_SnakeEnds.bits6 (fun HT_ HW_ => ?_)
                       generalize w56.drew = w57 at HO129 HO132 HB hHeld ⊢
                       refine pure_ (i := 0) (N := some 28) (v := ?_) (a' := ?_) #[Y,N,N,N,N,N,N,N,N,N,N,N,N,N] rfl rfl (any_of HT_.out (by kernel_rfl)) (fun _ _ _ h => h) (Or.inl ⟨by rfl, ?_⟩) ?_ ?_; rotate_left
                       ·intro w'; go_simp; with_reducible rfl
                       rotate_left
                       ·simp only [Act.put, sA,sB,sC, i64_w, i32_w]; rfl
                       refine pure_ (i := 1) (N := some 29) (v := ?_) (a' := ?_) #[Y,Y,N,N,N,N,N,N,N,N,N,N,N,N] rfl rfl (any_of HT_.out (by kernel_rfl)) (fun _ _ _ h => h) (Or.inl ⟨by rfl, ?_⟩) ?_ ?_; rotate_left
                       ·intro w'; go_simp; with_reducible rfl
                       rotate_left
                       ·simp only [Act.put, sA,sB,sC, i64_w, i32_w]; rfl
                       refine pure_ (i := 2) (N := some 30) (v := ?_) (a' := ?_) #[Y,Y,Y,N,N,N,N,N,N,N,N,N,N,N] rfl rfl (any_of HT_.out (by kernel_rfl)) (fun _ _ _ h => h) (Or.inl ⟨by rfl, ?_⟩) ?_ ?_; rotate_left
                       ·intro w'; go_simp; with_reducible rfl
                       rotate_left
                       ·simp only [Act.put, sA,sB,sC, i64_w, i32_w]; rfl
                       refine pure_ (i := 3) (N := some 31) (v := ?_) (a' := ?_) #[Y,Y,Y,Y,N,N,N,N,N,N,N,N,N,N] rfl rfl (any_of HT_.out (by kernel_rfl)) (fun _ _ _ h => h) (Or.inl ⟨by rfl, ?_⟩) ?_ ?_; rotate_left
                       ·intro w'; go_simp; with_reducible rfl
                       rotate_left
                       ·simp only [Act.put, sA,sB,sC, i64_w, i32_w]; rfl
                       refine pure_ (i := 4) (N := some 32) (v := ?_) (a' := ?_) #[Y,Y,Y,Y,Y,N,N,N,N,N,N,N,N,N] rfl rfl (any_of HT_.out (by kernel_rfl)) (fun _ _ _ h => h) (Or.inl ⟨by rfl, ?_⟩) ?_ ?_; rotate_left
                       ·intro w'; go_simp; with_reducible rfl
                       rotate_left
                       ·simp only [Act.put, sA,sB,sC, i64_w, i32_w]; rfl
                       refine pure_ (i := 5) (N := some 33) (v := ?_) (a' := ?_) #[Y,Y,Y,Y,Y,Y,N,N,N,N,N,N,N,N] rfl rfl (any_of HT_.out (by kernel_rfl)) (fun _ _ _ h => h) (Or.inl ⟨by rfl, ?_⟩) ?_ ?_; rotate_left
                       ·intro w'; go_simp; with_reducible rfl
                       rotate_left
                       ·simp only [Act.put, sA,sB,sC, i64_w, i32_w]; rfl
                       refine pure_ (i := 6) (N := some 34) (v := ?_) (a' := ?_) #[Y,Y,Y,Y,Y,Y,Y,N,N,N,N,N,N,N] rfl rfl (any_of HT_.out (by kernel_rfl)) (fun _ _ _ h => h) (Or.inl ⟨by rfl, ?_⟩) ?_ ?_; rotate_left
                       ·intro w'; go_simp; with_reducible rfl
                       rotate_left
                       ·simp only [Act.put, sA,sB,sC, i64_w, i32_w]; rfl
                       refine pure_ (i := 7) (N := some 35) (v := ?_) (a' := ?_) #[Y,Y,Y,Y,Y,Y,Y,Y,N,N,N,N,N,N] rfl rfl (any_of HT_.out (by kernel_rfl)) (fun _ _ _ h => h) (Or.inl ⟨by rfl, ?_⟩) ?_ ?_; rotate_left
                       ·intro w'; go_simp; with_reducible rfl
                       rotate_left
                       ·simp only [Act.put, sA,sB,sC, i64_w, i32_w]; rfl
                       refine pure_ (i := 8) (N := some 36) (v := ?_) (a' := ?_) #[Y,Y,Y,Y,Y,Y,Y,Y,Y,N,N,N,N,N] rfl rfl (any_of HT_.out (by kernel_rfl)) (fun _ _ _ h => h) (Or.inl ⟨by rfl, ?_⟩) ?_ ?_; rotate_left
                       ·intro w'; go_simp; with_reducible rfl
                       rotate_left
                       ·simp only [Act.put, sA,sB,sC, i64_w, i32_w]; rfl
                       refine pure_ (i := 9) (N := some 37) (v := ?_) (a' := ?_) #[Y,Y,Y,Y,Y,Y,Y,Y,Y,Y,N,N,N,N] rfl rfl (any_of HT_.out (by kernel_rfl)) (fun _ _ _ h => h) (Or.inl ⟨by rfl, ?_⟩) ?_ ?_; rotate_left
                       ·intro w'; go_simp; with_reducible rfl
                       rotate_left
                       ·simp only [Act.put, sA,sB,sC, i64_w, i32_w]; rfl
                       refine pure_ (i := 10) (N := some 38) (v := ?_) (a' := ?_) #[Y,Y,Y,Y,Y,Y,Y,Y,Y,Y,Y,N,N,N] rfl rfl (any_of HT_.out (by kernel_rfl)) (fun _ _ _ h => h) (Or.inl ⟨by rfl, ?_⟩) ?_ ?_; rotate_left
                       ·intro w'; go_simp; with_reducible rfl
                       rotate_left
                       ·simp only [Act.put, sA,sB,sC, i64_w, i32_w]; rfl
                       refine pure_ (i := 11) (N := some 39) (v := ?_) (a' := ?_) #[Y,Y,Y,Y,Y,Y,Y,Y,Y,Y,Y,Y,N,N] rfl rfl (any_of HT_.out (by kernel_rfl)) (fun _ _ _ h => h) (Or.inl ⟨by rfl, ?_⟩) ?_ ?_; rotate_left
                       ·intro w'; go_simp; with_reducible rfl
                       rotate_left
                       ·simp only [Act.put, sA,sB,sC, i64_w, i32_w]; rfl
                       refine pure_ (i := 12) (N := some 11) (v := ?_) (a' := ?_) #[Y,Y,Y,Y,Y,Y,Y,Y,Y,Y,Y,Y,Y,N] rfl rfl (any_of HT_.out (by kernel_rfl)) (fun _ _ _ h => h) (Or.inl ⟨by rfl, ?_⟩) ?_ ?_; rotate_left
                       ·intro w'; go_simp; with_reducible rfl
                       rotate_left
                       ·simp only [Act.put, sA,sB,sC, i64_w, i32_w]; rfl
                       refine pure_ (i := 13) (N := some 12) (v := ?_) (a' := ?_) #[Y,Y,Y,Y,Y,Y,Y,Y,Y,Y,Y,Y,Y,Y] rfl rfl (any_of HT_.out (by kernel_rfl)) (fun _ _ _ h => h) (Or.inl ⟨by rfl, ?_⟩) ?_ ?_; rotate_left
                       ·intro w'; go_simp; with_reducible rfl
                       rotate_left
                       ·simp only [Act.put, sA,sB,sC, i64_w, i32_w]; rfl
                       refine done_ (done_of HT_.out (by kernel_rfl)) ?_
                       try go_wp2_with (first | ((first | (with_reducible refine gate_callee (f := 9) rfl ?_); refine goesL_ (some 44) rfl rfl Try.func9 (by kernel_rfl) rfl #[.slice Ao58 t127.length co58, .slice Ao59 t130.length co59, .int .i64 ji19, .int .i64 ji23] rfl (by (try simp only [List.map_toArray, List.map_cons, List.map_nil]); first | done | (simp only [hji19, hji23]; rfl) | rfl | (simp only [List.length_drop, List.length_take]; rfl)) ?_ | go_at_call 9); (with_reducible refine (snake_Down.calls kj6 _ _ t127 _ _ t130 ji19 ji23 t133 _ ?side1 ?side2 ?side3 ?side4 A15.out).mono ?_); (case side1 => repeat (first | exact (Kd.R_reads' HO129.out).2.2 | (with_reducible refine Kd.C_alloc ?_ _) | (with_reducible refine Kd.C_drewN ?_ _) | (with_reducible refine Kd.C_drew ?_))); (case side2 => exact (Kd.R_reads' HO129.out).2.1); (case side3 => repeat (first | exact (Kd.R_reads' HO132.out).2.2 | (with_reducible refine Kd.C_alloc ?_ _) | (with_reducible refine Kd.C_drewN ?_ _) | (with_reducible refine Kd.C_drew ?_))); (case side4 => exact (Kd.R_reads' HO132.out).2.1); rintro e w' ⟨rfl, ⟨nd, rfl⟩⟩; (try refine ⟨_, rfl, ?_⟩)))
                       (try (rw [drewN_self w57]; generalize hq_ : World.drewN w57 _ = w57; have n0_ : Aside0 (Kd.R (Kd.int .i64) 3 w57 w.heap.size (fun k_ => some k_ ≠ (.slice Ao59 t130.length co59 : Value).ownBlock) (.slice Ao58 t127.length co58) t127) := ⟨by rw [← hq_]; exact (by (with_reducible repeat (first | apply Kd.R_alloc | apply Kd.R_drewN | apply Kd.R_drew)); (first | exact Kd.R_mono HO129.out (fun _ hk => hk.2) | exact HO129.out))⟩; have n1_ : Aside0 (Kd.R (Kd.int .i64) 3 w57 w.heap.size (fun k_ => some k_ ≠ (.slice Ao58 t127.length co58 : Value).ownBlock) (.slice Ao59 t130.length co59) t130) := ⟨by rw [← hq_]; exact (by (with_reducible repeat (first | apply Kd.R_alloc | apply Kd.R_drewN | apply Kd.R_drew)); (first | exact Kd.R_mono HO132.out (fun _ hk => hk.2) | exact HO132.out))⟩; have n2_ : Aside0 (Below w.heap.size w w57) := ⟨by rw [← hq_]; exact (by repeat (first | (with_reducible first | exact HB.out | apply below_alloc | apply pw_below_drewN | apply below_drew1) | exact HB.out))⟩; clear HO129 HO132 HB hq_; have HO129 := n0_; have HO132 := n1_; have HB := n2_; clear n0_ n1_ n2_))
                       have n0_ := Aside0.mk (Kd.R_drew HO129.out)
                       have n1_ := Aside0.mk (Kd.R_drew HO132.out)
                       have n2_ := Aside0.mk (below_drew1 HB.out)
                       clear HO129
                       clear HO132
                       clear HB
                       have HO129 := n0_
                       have HO132 := n1_
                       have HB := n2_
                       clear n0_ n1_ n2_
                       have q61 : ((ji49) : Int) ≤ ((t127.length : Int) : Int) := of_decide_eq_true (by first | (with_reducible assumption) | assumption)
                       obtain ⟨i061, hi061, _, hsz61, _⟩ := info_parts info3
                       have hroom61 : t127.length ≤ co58 := (Kd.R_reads' HO129.out).2.1
                       have hC61 : Kd.C (Kd.int .i64) _ Ao58 t127.length t127 := (Kd.R_reads' HO129.out).2.2
                       have ql61 : ((ji19) : Int) ≤ ((ji49) : Int) := of_decide_eq_true (by first | (with_reducible assumption) | assumption)
                       have q061 : (0 : Int) ≤ ((ji19) : Int) := of_decide_eq_true (by first | (with_reducible assumption) | assumption)
                       have hcut61 := cut_mid (P := Try.prog) 22 3 .i64 .i64 Try.underlying22 hi061 1 hsz61 Ao58 t127.length co58 (ji19) (ji49) q061 ql61 q61 hroom61
                       have hr61 := Kd.C_mid (lo := ((ji19) : Int).toNat) (hi := ((ji49) : Int).toNat) (c := co58) hC61 (by omega) (by omega) hroom61
                       obtain ⟨A61, hA61⟩ : ∃ A1, A1 = (if co58 = ((ji19) : Int).toNat then Ao58 else (Ao58 : Option Addr).map (·.add (((ji19) : Int).toNat * 1))) := ⟨_, rfl⟩
                       obtain ⟨c61, hc61⟩ : ∃ c1, c1 = co58 - ((ji19) : Int).toNat := ⟨_, rfl⟩
                       have hy61 : y134.length = ((ji49) : Int).toNat - ((ji19) : Int).toNat := (by rw [Ny134.out, List.length_drop, List.length_take] <;> omega)
                       rw [show ((t127).take ((ji49) : Int).toNat).drop ((ji19) : Int).toNat = y134 from Ny134.out.symm] at hr61
                       replace hr61 : Kd.C (Kd.int .i64) _ A61 y134.length y134 := (by rw [hA61]; exact hr61)
                       rw [← hy61, ← hA61, ← hc61] at hcut61
                       have HR137 := Aside0.mk hr61
                       have HC137 := Aside0.mk (show y134.length ≤ c61 from by rw [hy61, hc61]; exact Nat.sub_le_sub_right (Nat.le_trans (by omega) hroom61) _)
                       clear hr61 hC61 hroom61 hi061 hsz61 hc61
                       have KY61 := Aside0.mk hy61
                       have KA61 := Aside0.mk hA61
                       clear hy61 hA61
                       have KL61 := Aside0.mk (show ((ji49) : Int).toNat ≤ t127.length from by omega)
                       have KM61 := Aside0.mk (show ((ji19) : Int).toNat ≤ ((ji49) : Int).toNat from by omega)
                       replace q61 := eq_true q61
                       have q62 : ((ji52) : Int) ≤ ((t130.length : Int) : Int) := of_decide_eq_true (by first | (with_reducible assumption) | assumption)
                       obtain ⟨i062, hi062, _, hsz62, _⟩ := info_parts info3
                       have hroom62 : t130.length ≤ co59 := (Kd.R_reads' HO132.out).2.1
                       have hC62 : Kd.C (Kd.int .i64) _ Ao59 t130.length t130 := (Kd.R_reads' HO132.out).2.2
                       have ql62 : ((ji23) : Int) ≤ ((ji52) : Int) := of_decide_eq_true (by first | (with_reducible assumption) | assumption)
                       have q062 : (0 : Int) ≤ ((ji23) : Int) := of_decide_eq_true (by first | (with_reducible assumption) | assumption)
                       have hcut62 := cut_mid (P := Try.prog) 22 3 .i64 .i64 Try.underlying22 hi062 1 hsz62 Ao59 t130.length co59 (ji23) (ji52) q062 ql62 q62 hroom62
                       have hr62 := Kd.C_mid (lo := ((ji23) : Int).toNat) (hi := ((ji52) : Int).toNat) (c := co59) hC62 (by omega) (by omega) hroom62
                       obtain ⟨A62, hA62⟩ : ∃ A1, A1 = (if co59 = ((ji23) : Int).toNat then Ao59 else (Ao59 : Option Addr).map (·.add (((ji23) : Int).toNat * 1))) := ⟨_, rfl⟩
                       obtain ⟨c62, hc62⟩ : ∃ c1, c1 = co59 - ((ji23) : Int).toNat := ⟨_, rfl⟩
                       have hy62 : y138.length = ((ji52) : Int).toNat - ((ji23) : Int).toNat := (by rw [Ny138.out, List.length_drop, List.length_take] <;> omega)
                       rw [show ((t130).take ((ji52) : Int).toNat).drop ((ji23) : Int).toNat = y138 from Ny138.out.symm] at hr62
                       replace hr62 : Kd.C (Kd.int .i64) _ A62 y138.length y138 := (by rw [hA62]; exact hr62)
                       rw [← hy62, ← hA62, ← hc62] at hcut62
                       have HR141 := Aside0.mk hr62
                       have HC141 := Aside0.mk (show y138.length ≤ c62 from by rw [hy62, hc62]; exact Nat.sub_le_sub_right (Nat.le_trans (by omega) hroom62) _)
                       clear hr62 hC62 hroom62 hi062 hsz62 hc62
                       have KY62 := Aside0.mk hy62
                       have KA62 := Aside0.mk hA62
                       clear hy62 hA62
                       have KL62 := Aside0.mk (show ((ji52) : Int).toNat ≤ t130.length from by omega)
                       have KM62 := Aside0.mk (show ((ji23) : Int).toNat ≤ ((ji52) : Int).toNat from by omega)
                       replace q62 := eq_true q62
                       refine start_ (n := 34) (S := fun w' => True) (ds := []) #[N,N,N,N,N,N,N,N,N,N,N,N,N,N,N,N,N,N,N,N,N,N,N,N,N,N,N,N,N,N,N,N,N,N] (by kernel_rfl) rfl rfl trivial (fun hHeld => ?_); refine with_tabW tattinglaw17_SnakeEnds.tab8 tattinglaw17_SnakeEnds.bits8 (fun HT_ HW_ => ?_)
                       generalize w57.drew = w60 at HO129 HO132 HB HR137 HR141 hHeld ⊢
                       refine pure_ (i := 0) (N := some 45) (v := ?_) (a' := ?_) #[Y,N,N,N,N,N,N,N,N,N,N,N,N,N,N,N,N,N,N,N,N,N,N,N,N,N,N,N,N,N,N,N,N,N] rfl rfl (any_of HT_.out (by kernel_rfl)) (fun _ _ _ h => h) (Or.inl ⟨by rfl, ?_⟩) ?_ ?_; rotate_left
                       ·intro w'; go_simp; with_reducible rfl
                       rotate_left
                       ·simp only [Act.put, sA,sB,sC, i64_w, i32_w]; rfl
                       refine pure_ (i := 1) (N := some 46) (v := ?_) (a' := ?_) #[Y,Y,N,N,N,N,N,N,N,N,N,N,N,N,N,N,N,N,N,N,N,N,N,N,N,N,N,N,N,N,N,N,N,N] rfl rfl (any_of HT_.out (by kernel_rfl)) (fun _ _ _ h => h) (Or.inl ⟨by rfl, ?_⟩) ?_ ?_; rotate_left
                       ·intro w'; go_simp; with_reducible rfl
                       rotate_left
                       ·simp only [Act.put, sA,sB,sC, i64_w, i32_w]; rfl
                       refine pure_ (i := 2) (N := some 47) (v := ?_) (a' := ?_) #[Y,Y,Y,N,N,N,N,N,N,N,N,N,N,N,N,N,N,N,N,N,N,N,N,N,N,N,N,N,N,N,N,N,N,N] rfl rfl (any_of HT_.out (by kernel_rfl)) (fun _ _ _ h => h) (Or.inl ⟨by rfl, ?_⟩) ?_ ?_; rotate_left
                       ·intro w'; go_simp; with_reducible rfl
                       rotate_left
                       ·simp only [Act.put, sA,sB,sC, i64_w, i32_w]; rfl
                       refine pure_ (i := 3) (N := some 48) (v := ?_) (a' := ?_) #[Y,Y,Y,Y,N,N,N,N,N,N,N,N,N,N,N,N,N,N,N,N,N,N,N,N,N,N,N,N,N,N,N,N,N,N] rfl rfl (any_of HT_.out (by kernel_rfl)) (fun _ _ _ h => h) (Or.inl ⟨by rfl, ?_⟩) ?_ ?_; rotate_left
                       ·intro w'; go_simp; with_reducible rfl
                       rotate_left
                       ·simp only [Act.put, sA,sB,sC, i64_w, i32_w]; rfl
                       refine pure_ (i := 4) (N := some 49) (v := ?_) (a' := ?_) #[Y,Y,Y,Y,Y,N,N,N,N,N,N,N,N,N,N,N,N,N,N,N,N,N,N,N,N,N,N,N,N,N,N,N,N,N] rfl rfl (any_of HT_.out (by kernel_rfl)) (fun _ _ _ h => h) (Or.inl ⟨by rfl, ?_⟩) ?_ ?_; rotate_left
                       ·intro w'; go_simp; with_reducible rfl
                       rotate_left
                       ·simp only [Act.put, sA,sB,sC, i64_w, i32_w]; rfl
                       refine pure_ (i := 5) (N := some 50) (v := ?_) (a' := ?_) #[Y,Y,Y,Y,Y,Y,N,N,N,N,N,N,N,N,N,N,N,N,N,N,N,N,N,N,N,N,N,N,N,N,N,N,N,N] rfl rfl (any_of HT_.out (by kernel_rfl)) (fun _ _ _ h => h) (Or.inl ⟨by rfl, ?_⟩) ?_ ?_; rotate_left
                       ·intro w'; go_simp; with_reducible rfl
                       rotate_left
                       ·simp only [Act.put, sA,sB,sC, i64_w, i32_w]; rfl
                       refine pure_ (i := 6) (N := some 51) (v := ?_) (a' := ?_) #[Y,Y,Y,Y,Y,Y,Y,N,N,N,N,N,N,N,N,N,N,N,N,N,N,N,N,N,N,N,N,N,N,N,N,N,N,N] rfl rfl (any_of HT_.out (by kernel_rfl)) (fun _ _ _ h => h) (Or.inl ⟨by rfl, ?_⟩) ?_ ?_; rotate_left
                       ·intro w'; go_simp; with_reducible rfl
                       rotate_left
                       ·simp only [Act.put, sA,sB,sC, i64_w, i32_w]; rfl
                       refine pure_ (i := 7) (N := some 52) (v := ?_) (a' := ?_) #[Y,Y,Y,Y,Y,Y,Y,Y,N,N,N,N,N,N,N,N,N,N,N,N,N,N,N,N,N,N,N,N,N,N,N,N,N,N] rfl rfl (any_of HT_.out (by kernel_rfl)) (fun _ _ _ h => h) (Or.inl ⟨by rfl, ?_⟩) ?_ ?_; rotate_left
                       ·intro w'; go_simp; with_reducible rfl
                       rotate_left
                       ·simp only [Act.put, sA,sB,sC, i64_w, i32_w]; rfl
                       refine pure_ (i := 8) (N := some 53) (v := ?_) (a' := ?_) #[Y,Y,Y,Y,Y,Y,Y,Y,Y,N,N,N,N,N,N,N,N,N,N,N,N,N,N,N,N,N,N,N,N,N,N,N,N,N] rfl rfl (any_of HT_.out (by kernel_rfl)) (fun _ _ _ h => h) (Or.inl ⟨by rfl, ?_⟩) ?_ ?_; rotate_left
                       ·intro w'; go_simp; with_reducible rfl
                       rotate_left
                       ·simp only [Act.put, sA,sB,sC, i64_w, i32_w]; rfl
                       refine pure_ (i := 9) (N := some 54) (v := ?_) (a' := ?_) #[Y,Y,Y,Y,Y,Y,Y,Y,Y,Y,N,N,N,N,N,N,N,N,N,N,N,N,N,N,N,N,N,N,N,N,N,N,N,N] rfl rfl (any_of HT_.out (by kernel_rfl)) (fun _ _ _ h => h) (Or.inl ⟨by rfl, ?_⟩) ?_ ?_; rotate_left
                       ·intro w'; go_simp; with_reducible rfl
                       rotate_left
                       ·simp only [Act.put, sA,sB,sC, i64_w, i32_w]; rfl
                       refine pure_ (i := 10) (N := some 55) (v := ?_) (a' := ?_) #[Y,Y,Y,Y,Y,Y,Y,Y,Y,Y,Y,N,N,N,N,N,N,N,N,N,N,N,N,N,N,N,N,N,N,N,N,N,N,N] rfl rfl (any_of HT_.out (by kernel_rfl)) (fun _ _ _ h => h) (Or.inl ⟨by rfl, ?_⟩) ?_ ?_; rotate_left
                       ·intro w'; go_simp; with_reducible rfl
                       rotate_left
                       ·simp only [Act.put, sA,sB,sC, i64_w, i32_w]; rfl
                       refine pure_ (i := 11) (N := some 56) (v := ?_) (a' := ?_) #[Y,Y,Y,Y,Y,Y,Y,Y,Y,Y,Y,Y,N,N,N,N,N,N,N,N,N,N,N,N,N,N,N,N,N,N,N,N,N,N] rfl rfl (any_of HT_.out (by kernel_rfl)) (fun _ _ _ h => h) (Or.inl ⟨by rfl, ?_⟩) ?_ ?_; rotate_left
                       ·intro w'; go_simp; with_reducible rfl
                       rotate_left
                       ·simp only [Act.put, sA,sB,sC, i64_w, i32_w]; rfl
                       refine pure_ (i := 12) (N := some 57) (v := ?_) (a' := ?_) #[Y,Y,Y,Y,Y,Y,Y,Y,Y,Y,Y,Y,Y,N,N,N,N,N,N,N,N,N,N,N,N,N,N,N,N,N,N,N,N,N] rfl rfl (any_of HT_.out (by kernel_rfl)) (fun _ _ _ h => h) (Or.inl ⟨by rfl, ?_⟩) ?_ ?_; rotate_left
                       ·intro w'; go_simp; with_reducible rfl
                       rotate_left
                       ·simp only [Act.put, sA,sB,sC, i64_w, i32_w]; rfl
                       refine pure_ (i := 13) (N := some 58) (v := ?_) (a' := ?_) #[Y,Y,Y,Y,Y,Y,Y,Y,Y,Y,Y,Y,Y,Y,N,N,N,N,N,N,N,N,N,N,N,N,N,N,N,N,N,N,N,N] rfl rfl (any_of HT_.out (by kernel_rfl)) (fun _ _ _ h => h) (Or.inl ⟨by rfl, ?_⟩) ?_ ?_; rotate_left
                       ·intro w'; go_simp; with_reducible rfl
                       rotate_left
                       ·simp only [Act.put, sA,sB,sC, i64_w, i32_w]; rfl
                       refine pure_ (i := 14) (N := some 59) (v := ?_) (a' := ?_) #[Y,Y,Y,Y,Y,Y,Y,Y,Y,Y,Y,Y,Y,Y,Y,N,N,N,N,N,N,N,N,N,N,N,N,N,N,N,N,N,N,N] rfl rfl (any_of HT_.out (by kernel_rfl)) (fun _ _ _ h => h) (Or.inl ⟨by rfl, ?_⟩) ?_ ?_; rotate_left
                       ·intro w'; go_simp; with_reducible rfl
                       rotate_left
                       ·simp only [Act.put, sA,sB,sC, i64_w, i32_w]; rfl
                       refine pure_ (i := 15) (N := some 60) (v := ?_) (a' := ?_) #[Y,Y,Y,Y,Y,Y,Y,Y,Y,Y,Y,Y,Y,Y,Y,Y,N,N,N,N,N,N,N,N,N,N,N,N,N,N,N,N,N,N] rfl rfl (any_of HT_.out (by kernel_rfl)) (fun _ _ _ h => h) (Or.inl ⟨by rfl, ?_⟩) ?_ ?_; rotate_left
                       ·intro w'; go_simp; with_reducible rfl
                       rotate_left
                       ·simp only [Act.put, sA,sB,sC, i64_w, i32_w]; rfl
                       refine pure_ (i := 16) (N := some 61) (v := ?_) (a' := ?_) #[Y,Y,Y,Y,Y,Y,Y,Y,Y,Y,Y,Y,Y,Y,Y,Y,Y,N,N,N,N,N,N,N,N,N,N,N,N,N,N,N,N,N] rfl rfl (any_of HT_.out (by kernel_rfl)) (fun _ _ _ h => h) (Or.inl ⟨by rfl, ?_⟩) ?_ ?_; rotate_left
                       ·intro w'; go_simp; with_reducible rfl
                       rotate_left
                       ·simp only [Act.put, sA,sB,sC, i64_w, i32_w]; rfl
                       refine pure_ (i := 17) (N := some 62) (v := ?_) (a' := ?_) #[Y,Y,Y,Y,Y,Y,Y,Y,Y,Y,Y,Y,Y,Y,Y,Y,Y,Y,N,N,N,N,N,N,N,N,N,N,N,N,N,N,N,N] rfl rfl (any_of HT_.out (by kernel_rfl)) (fun _ _ _ h => h) (Or.inl ⟨by rfl, ?_⟩) ?_ ?_; rotate_left
                       ·intro w'; go_simp; with_reducible rfl
                       rotate_left
                       ·simp only [Act.put, sA,sB,sC, i64_w, i32_w]; rfl
                       refine pure_ (i := 18) (N := some 63) (v := ?_) (a' := ?_) #[Y,Y,Y,Y,Y,Y,Y,Y,Y,Y,Y,Y,Y,Y,Y,Y,Y,Y,Y,N,N,N,N,N,N,N,N,N,N,N,N,N,N,N] rfl rfl (any_of HT_.out (by kernel_rfl)) (fun _ _ _ h => h) (Or.inl ⟨by rfl, ?_⟩) ?_ ?_; rotate_left
                       ·intro w'; go_simp; with_reducible rfl
                       rotate_left
                       ·simp only [Act.put, sA,sB,sC, i64_w, i32_w]; rfl
                       refine pure_ (i := 19) (N := some 64) (v := ?_) (a' := ?_) #[Y,Y,Y,Y,Y,Y,Y,Y,Y,Y,Y,Y,Y,Y,Y,Y,Y,Y,Y,Y,N,N,N,N,N,N,N,N,N,N,N,N,N,N] rfl rfl (any_of HT_.out (by kernel_rfl)) (fun _ _ _ h => h) (Or.inl ⟨by rfl, ?_⟩) ?_ ?_; rotate_left
                       ·intro w'; go_simp; with_reducible rfl
                       rotate_left
                       ·simp only [Act.put, sA,sB,sC, i64_w, i32_w]; rfl
                       refine pure_ (i := 20) (N := some 65) (v := ?_) (a' := ?_) #[Y,Y,Y,Y,Y,Y,Y,Y,Y,Y,Y,Y,Y,Y,Y,Y,Y,Y,Y,Y,Y,N,N,N,N,N,N,N,N,N,N,N,N,N] rfl rfl (any_of HT_.out (by kernel_rfl)) (fun _ _ _ h => h) (Or.inl ⟨by rfl, ?_⟩) ?_ ?_; rotate_left
                       ·intro w'; go_simp; with_reducible rfl
                       rotate_left
                       ·simp only [Act.put, sA,sB,sC, i64_w, i32_w]; rfl
                       refine pure_ (i := 21) (N := some 66) (v := ?_) (a' := ?_) #[Y,Y,Y,Y,Y,Y,Y,Y,Y,Y,Y,Y,Y,Y,Y,Y,Y,Y,Y,Y,Y,Y,N,N,N,N,N,N,N,N,N,N,N,N] rfl rfl (any_of HT_.out (by kernel_rfl)) (fun _ _ _ h => h) (Or.inl ⟨by rfl, ?_⟩) ?_ ?_; rotate_left
                       ·intro w'; go_simp; with_reducible rfl
                       rotate_left
                       ·simp only [Act.put, sA,sB,sC, i64_w, i32_w]; rfl
                       refine pure_ (i := 22) (N := some 67) (v := ?_) (a' := ?_) #[Y,Y,Y,Y,Y,Y,Y,Y,Y,Y,Y,Y,Y,Y,Y,Y,Y,Y,Y,Y,Y,Y,Y,N,N,N,N,N,N,N,N,N,N,N] rfl rfl (any_of HT_.out (by kernel_rfl)) (fun _ _ _ h => h) (Or.inl ⟨by rfl, ?_⟩) ?_ ?_; rotate_left
                       ·intro w'; go_simp; with_reducible rfl
                       rotate_left
                       ·simp only [Act.put, sA,sB,sC, i64_w, i32_w]; rfl
                       refine pure_ (i := 23) (N := some 68) (v := ?_) (a' := ?_) #[Y,Y,Y,Y,Y,Y,Y,Y,Y,Y,Y,Y,Y,Y,Y,Y,Y,Y,Y,Y,Y,Y,Y,Y,N,N,N,N,N,N,N,N,N,N] rfl rfl (any_of HT_.out (by kernel_rfl)) (fun _ _ _ h => h) (Or.inl ⟨by rfl, ?_⟩) ?_ ?_; rotate_left
                       ·intro w'; go_simp; with_reducible rfl
                       rotate_left
                       ·simp only [Act.put, sA,sB,sC, i64_w, i32_w]; rfl
                       refine pure_ (i := 24) (N := some 69) (v := ?_) (a' := ?_) #[Y,Y,Y,Y,Y,Y,Y,Y,Y,Y,Y,Y,Y,Y,Y,Y,Y,Y,Y,Y,Y,Y,Y,Y,Y,N,N,N,N,N,N,N,N,N] rfl rfl (any_of HT_.out (by kernel_rfl)) (fun _ _ _ h => h) (Or.inl ⟨by rfl, ?_⟩) ?_ ?_; rotate_left
                       ·intro w'; go_simp; with_reducible rfl
                       rotate_left
                       ·simp only [Act.put, sA,sB,sC, i64_w, i32_w]; rfl
                       refine pure_ (i := 25) (N := some 70) (v := ?_) (a' := ?_) #[Y,Y,Y,Y,Y,Y,Y,Y,Y,Y,Y,Y,Y,Y,Y,Y,Y,Y,Y,Y,Y,Y,Y,Y,Y,Y,N,N,N,N,N,N,N,N] rfl rfl (any_of HT_.out (by kernel_rfl)) (fun _ _ _ h => h) (Or.inl ⟨by rfl, ?_⟩) ?_ ?_; rotate_left
                       ·intro w'; go_simp; with_reducible rfl
                       rotate_left
                       ·simp only [Act.put, sA,sB,sC, i64_w, i32_w]; rfl
                       refine pure_ (i := 26) (N := some 71) (v := ?_) (a' := ?_) #[Y,Y,Y,Y,Y,Y,Y,Y,Y,Y,Y,Y,Y,Y,Y,Y,Y,Y,Y,Y,Y,Y,Y,Y,Y,Y,Y,N,N,N,N,N,N,N] rfl rfl (any_of HT_.out (by kernel_rfl)) (fun _ _ _ h => h) (Or.inl ⟨by rfl, ?_⟩) ?_ ?_; rotate_left
                       ·intro w'; go_simp; with_reducible rfl
                       rotate_left
                       ·simp only [Act.put, sA,sB,sC, i64_w, i32_w]; rfl
                       refine pure_ (i := 27) (N := some 72) (v := ?_) (a' := ?_) #[Y,Y,Y,Y,Y,Y,Y,Y,Y,Y,Y,Y,Y,Y,Y,Y,Y,Y,Y,Y,Y,Y,Y,Y,Y,Y,Y,Y,N,N,N,N,N,N] rfl rfl (any_of HT_.out (by kernel_rfl)) (fun _ _ _ h => h) (Or.inl ⟨by rfl, ?_⟩) ?_ ?_; rotate_left
                       ·intro w'; go_simp; with_reducible rfl
                       rotate_left
                       ·simp only [Act.put, sA,sB,sC, i64_w, i32_w]; rfl
                       refine pure_ (i := 28) (N := some 73) (v := ?_) (a' := ?_) #[Y,Y,Y,Y,Y,Y,Y,Y,Y,Y,Y,Y,Y,Y,Y,Y,Y,Y,Y,Y,Y,Y,Y,Y,Y,Y,Y,Y,Y,N,N,N,N,N] rfl rfl (any_of HT_.out (by kernel_rfl)) (fun _ _ _ h => h) (Or.inl ⟨by rfl, ?_⟩) ?_ ?_; rotate_left
                       ·intro w'; go_simp; with_reducible rfl
                       rotate_left
                       ·simp only [Act.put, sA,sB,sC, i64_w, i32_w]; rfl
                       refine pure_ (i := 29) (N := some 74) (v := ?_) (a' := ?_) #[Y,Y,Y,Y,Y,Y,Y,Y,Y,Y,Y,Y,Y,Y,Y,Y,Y,Y,Y,Y,Y,Y,Y,Y,Y,Y,Y,Y,Y,Y,N,N,N,N] rfl rfl (any_of HT_.out (by kernel_rfl)) (fun _ _ _ h => h) (Or.inl ⟨by rfl, ?_⟩) ?_ ?_; rotate_left
                       ·intro w'; go_simp; with_reducible rfl
                       rotate_left
                       ·simp only [Act.put, sA,sB,sC, i64_w, i32_w]; rfl
                       refine pure_ (i := 30) (N := some 75) (v := ?_) (a' := ?_) #[Y,Y,Y,Y,Y,Y,Y,Y,Y,Y,Y,Y,Y,Y,Y,Y,Y,Y,Y,Y,Y,Y,Y,Y,Y,Y,Y,Y,Y,Y,Y,N,N,N] rfl rfl (any_of HT_.out (by kernel_rfl)) (fun _ _ _ h => h) (Or.inl ⟨by rfl, ?_⟩) ?_ ?_; rotate_left
                       ·intro w'; go_simp; with_reducible rfl
                       rotate_left
                       ·simp only [Act.put, sA,sB,sC, i64_w, i32_w]; rfl
                       refine one_ (i := 31) (N := some 76) #[Y,Y,Y,Y,Y,Y,Y,Y,Y,Y,Y,Y,Y,Y,Y,Y,Y,Y,Y,Y,Y,Y,Y,Y,Y,Y,Y,Y,Y,Y,Y,Y,N,N] rfl rfl (one_of HT_.out (by kernel_rfl)) (by decide) (fun K hK => ?_)
                       refine goes_ Try.func16 (by kernel_rfl) rfl #[.slice A61 y134.length c61, .slice A62 y138.length c62] (by rfl) rfl rfl (by (try simp only [List.map_toArray, List.map_cons, List.map_nil]); first | done | rfl | (simp only [List.length_drop, List.length_take]; rfl)) ?_
                       with_reducible refine (tattingref1_SameInts.calls kj6 _ _ y134 _ _ y138 true _ ?side1 ?side2 ?side3 ?side4 A27.out).mono ?_
                       (case side1 => repeat (first | exact (by repeat (first | (with_reducible exact HR137.out) | (with_reducible refine Kd.C_alloc ?_ _) | (with_reducible refine Kd.C_drewN ?_ _) | (with_reducible refine Kd.C_drew ?_) | exact HR137.out)) | (with_reducible refine Kd.C_alloc ?_ _) | (with_reducible refine Kd.C_drewN ?_ _) | (with_reducible refine Kd.C_drew ?_)))
                       (case side2 => exact HC137.out)
                       (case side3 => repeat (first | exact (by repeat (first | (with_reducible exact HR141.out) | (with_reducible refine Kd.C_alloc ?_ _) | (with_reducible refine Kd.C_drewN ?_ _) | (with_reducible refine Kd.C_drew ?_) | exact HR141.out)) | (with_reducible refine Kd.C_alloc ?_ _) | (with_reducible refine Kd.C_drewN ?_ _) | (with_reducible refine Kd.C_drew ?_)))
                       (case side4 => exact HC141.out)
                       rintro e w' ⟨rfl, ⟨nd, rfl⟩⟩
                       refine ⟨_, rfl, ?_⟩
                       refine hK.out _ _ trivial (fun hHeld => ?_)
                       clear hK K
                       refine norm_ (a' := ?_) ?_ ?_
                       rotate_left
                       ·show Act.put _ (some 76) _ = _
                        simp only [Act.put, sA,sB,sC, i64_w, i32_w]; rfl
                       refine pure_ (i := 32) (N := some 77) (v := ?_) (a' := ?_) #[Y,Y,Y,Y,Y,Y,Y,Y,Y,Y,Y,Y,Y,Y,Y,Y,Y,Y,Y,Y,Y,Y,Y,Y,Y,Y,Y,Y,Y,Y,Y,Y,Y,N] rfl rfl (any_of HT_.out (by kernel_rfl)) (fun _ _ _ h => h) (Or.inl ⟨by rfl, ?_⟩) ?_ ?_; rotate_left
                       ·intro w'; go_simp; with_reducible rfl
                       rotate_left
                       ·simp only [Act.put, sA,sB,sC, i64_w, i32_w]; rfl
                       refine pure_ (i := 33) (N := some 78) (v := ?_) (a' := ?_) #[Y,Y,Y,Y,Y,Y,Y,Y,Y,Y,Y,Y,Y,Y,Y,Y,Y,Y,Y,Y,Y,Y,Y,Y,Y,Y,Y,Y,Y,Y,Y,Y,Y,Y] rfl rfl (any_of HT_.out (by kernel_rfl)) (fun _ _ _ h => h) (Or.inl ⟨by rfl, ?_⟩) ?_ ?_; rotate_left
                       ·intro w'; go_simp; with_reducible rfl
                       rotate_left
                       ·simp only [Act.put, sA,sB,sC, i64_w, i32_w]; rfl
                       refine done_ (done_of HT_.out (by kernel_rfl)) ?_
                       try go_wp2
                       (try (rw [drewN_self w60]; generalize hq_ : World.drewN w60 _ = w60; have n0_ : Aside0 (Kd.R (Kd.int .i64) 3 w60 w.heap.size (fun k_ => some k_ ≠ (.slice Ao59 t130.length co59 : Value).ownBlock) (.slice Ao58 t127.length co58) t127) := ⟨by rw [← hq_]; exact (by (with_reducible repeat (first | apply Kd.R_alloc | apply Kd.R_drewN | apply Kd.R_drew)); (first | exact Kd.R_mono HO129.out (fun _ hk => hk.2) | exact HO129.out))⟩; have n1_ : Aside0 (Kd.R (Kd.int .i64) 3 w60 w.heap.size (fun k_ => some k_ ≠ (.slice Ao58 t127.length co58 : Value).ownBlock) (.slice Ao59 t130.length co59) t130) := ⟨by rw [← hq_]; exact (by (with_reducible repeat (first | apply Kd.R_alloc | apply Kd.R_drewN | apply Kd.R_drew)); (first | exact Kd.R_mono HO132.out (fun _ hk => hk.2) | exact HO132.out))⟩; have n2_ : Aside0 (Below w.heap.size w w60) := ⟨by rw [← hq_]; exact (by repeat (first | (with_reducible first | exact HB.out | apply below_alloc | apply pw_below_drewN | apply below_drew1) | exact HB.out))⟩; have n3_ : Aside0 (Kd.C (Kd.int .i64) w60 A61 y134.length y134) := ⟨by rw [← hq_]; exact (by repeat (first | (with_reducible exact HR137.out) | (with_reducible refine Kd.C_alloc ?_ _) | (with_reducible refine Kd.C_drewN ?_ _) | (with_reducible refine Kd.C_drew ?_) | exact HR137.out))⟩; have n4_ : Aside0 (Kd.C (Kd.int .i64) w60 A62 y138.length y138) := ⟨by rw [← hq_]; exact (by repeat (first | (with_reducible exact HR141.out) | (with_reducible refine Kd.C_alloc ?_ _) | (with_reducible refine Kd.C_drewN ?_ _) | (with_reducible refine Kd.C_drew ?_) | exact HR141.out))⟩; clear HO129 HO132 HB HR137 HR141 hq_; have HO129 := n0_; have HO132 := n1_; have HB := n2_; have HR137 := n3_; have HR141 := n4_; clear n0_ n1_ n2_ n3_ n4_))
                       have n0_ := Aside0.mk (Kd.R_drew HO129.out)
                       have n1_ := Aside0.mk (Kd.R_drew HO132.out)
                       have n2_ := Aside0.mk (Kd.C_drew HR137.out)
                       have n3_ := Aside0.mk (Kd.C_drew HR141.out)
                       have n4_ := Aside0.mk (below_drew1 HB.out)
                       clear HO129
                       clear HO132
                       clear HR137
                       clear HR141
                       clear HB
                       have HO129 := n0_
                       have HO132 := n1_
                       have HR137 := n2_
                       have HR141 := n3_
                       have HB := n4_
                       clear n0_ n1_ n2_ n3_ n4_
                       have p143 : 0 ≤ ((ji49) : Int) := of_decide_eq_true (by first | (with_reducible assumption) | assumption)
                       have q143 : (ji49) < (t127.length : Int) := of_decide_eq_true (by first | (with_reducible assumption) | assumption)
                       obtain ⟨ad143, e143, hx143_0⟩ := Kd.at_int (Kd.R_reads' HO129.out).2.2 (ji49) p143 q143
                       cases e143
                       replace p143 := eq_true p143
                       replace q143 := eq_true q143
                       have p144 : 0 ≤ ((ji52) : Int) := of_decide_eq_true (by first | (with_reducible assumption) | assumption)
                       have q144 : (ji52) < (t130.length : Int) := of_decide_eq_true (by first | (with_reducible assumption) | assumption)
                       obtain ⟨ad144, e144, hx144_0⟩ := Kd.at_int (Kd.R_reads' HO132.out).2.2 (ji52) p144 q144
                       cases e144
                       replace p144 := eq_true p144
                       replace q144 := eq_true q144
                       refine start_ (n := 30) (S := fun w' => w'.cell? (ad143.add ((ji49)).toNat) = some (.int .i64 (rd t127 (ji49))) ∧ w'.cell? (ad144.add ((ji52)).toNat) = some (.int .i64 (rd t130 (ji52)))) (ds := []) #[N,N,N,N,N,N,N,N,N,N,N,N,N,N,N,N,N,N,N,N,N,N,N,N,N,N,N,N,N,N] (by kernel_rfl) rfl rfl ⟨hx143_0, hx144_0⟩ (fun hHeld => ?_); refine with_tabW tattinglaw17_SnakeEnds.tab10 tattinglaw17_SnakeEnds.bits10 (fun HT_ HW_ => ?_)
                       generalize w60.drew = w63 at HO129 HO132 HR137 HR141 HB hx143_0 hx144_0 hHeld ⊢
                       refine pure_ (i := 0) (N := some 79) (v := ?_) (a' := ?_) #[Y,N,N,N,N,N,N,N,N,N,N,N,N,N,N,N,N,N,N,N,N,N,N,N,N,N,N,N,N,N] rfl rfl (any_of HT_.out (by kernel_rfl)) (fun _ _ _ h => h) (Or.inl ⟨by rfl, ?_⟩) ?_ ?_; rotate_left
                       ·intro w'; go_simp; with_reducible rfl
                       rotate_left
                       ·simp only [Act.put, sA,sB,sC, i64_w, i32_w]; rfl
                       refine pure_ (i := 1) (N := some 80) (v := ?_) (a' := ?_) #[Y,Y,N,N,N,N,N,N,N,N,N,N,N,N,N,N,N,N,N,N,N,N,N,N,N,N,N,N,N,N] rfl rfl (any_of HT_.out (by kernel_rfl)) (fun _ _ _ h => h) (Or.inl ⟨by rfl, ?_⟩) ?_ ?_; rotate_left
                       ·intro w'; go_simp; with_reducible rfl
                       rotate_left
                       ·simp only [Act.put, sA,sB,sC, i64_w, i32_w]; rfl
                       refine pure_ (i := 2) (N := some 81) (v := ?_) (a' := ?_) #[Y,Y,Y,N,N,N,N,N,N,N,N,N,N,N,N,N,N,N,N,N,N,N,N,N,N,N,N,N,N,N] rfl rfl (any_of HT_.out (by kernel_rfl)) (fun _ _ _ h => h) (Or.inl ⟨by rfl, ?_⟩) ?_ ?_; rotate_left
                       ·intro w'; go_simp; with_reducible rfl
                       rotate_left
                       ·simp only [Act.put, sA,sB,sC, i64_w, i32_w]; rfl
                       refine pure_ (i := 3) (N := some 82) (v := ?_) (a' := ?_) #[Y,Y,Y,Y,N,N,N,N,N,N,N,N,N,N,N,N,N,N,N,N,N,N,N,N,N,N,N,N,N,N] rfl rfl (any_of HT_.out (by kernel_rfl)) (fun _ _ _ h => h) (Or.inl ⟨by rfl, ?_⟩) ?_ ?_; rotate_left
                       ·intro w'; go_simp; with_reducible rfl
                       rotate_left
                       ·simp only [Act.put, sA,sB,sC, i64_w, i32_w]; rfl
                       refine pure_ (i := 4) (N := some 83) (v := ?_) (a' := ?_) #[Y,Y,Y,Y,Y,N,N,N,N,N,N,N,N,N,N,N,N,N,N,N,N,N,N,N,N,N,N,N,N,N] rfl rfl (any_of HT_.out (by kernel_rfl)) (fun _ _ _ h => h) (Or.inl ⟨by rfl, ?_⟩) ?_ ?_; rotate_left
                       ·intro w'; go_simp; with_reducible rfl
                       rotate_left
                       ·simp only [Act.put, sA,sB,sC, i64_w, i32_w]; rfl
                       refine pure_ (i := 5) (N := some 84) (v := ?_) (a' := ?_) #[Y,Y,Y,Y,Y,Y,N,N,N,N,N,N,N,N,N,N,N,N,N,N,N,N,N,N,N,N,N,N,N,N] rfl rfl (any_of HT_.out (by kernel_rfl)) (fun _ _ _ h => h) (Or.inl ⟨by rfl, ?_⟩) ?_ ?_; rotate_left
                       ·intro w'; go_simp; with_reducible rfl
                       rotate_left
                       ·simp only [Act.put, sA,sB,sC, i64_w, i32_w]; rfl
                       refine pure_ (i := 6) (N := some 85) (v := ?_) (a' := ?_) #[Y,Y,Y,Y,Y,Y,Y,N,N,N,N,N,N,N,N,N,N,N,N,N,N,N,N,N,N,N,N,N,N,N] rfl rfl (any_of HT_.out (by kernel_rfl)) (fun _ _ _ h => h) (Or.inl ⟨by rfl, ?_⟩) ?_ ?_; rotate_left
                       ·intro w'; go_simp; with_reducible rfl
                       rotate_left
                       ·simp only [Act.put, sA,sB,sC, i64_w, i32_w]; rfl
                       refine pure_ (i := 7) (N := some 86) (v := ?_) (a' := ?_) #[Y,Y,Y,Y,Y,Y,Y,Y,N,N,N,N,N,N,N,N,N,N,N,N,N,N,N,N,N,N,N,N,N,N] rfl rfl (any_of HT_.out (by kernel_rfl)) (fun _ _ _ h => h) (Or.inl ⟨by rfl, ?_⟩) ?_ ?_; rotate_left
                       ·intro w'; go_simp; with_reducible rfl
                       rotate_left
                       ·simp only [Act.put, sA,sB,sC, i64_w, i32_w]; rfl
                       refine pure_ (i := 8) (N := some 87) (v := ?_) (a' := ?_) #[Y,Y,Y,Y,Y,Y,Y,Y,Y,N,N,N,N,N,N,N,N,N,N,N,N,N,N,N,N,N,N,N,N,N] rfl rfl (any_of HT_.out (by kernel_rfl)) (fun _ _ _ h => h) (Or.inl ⟨by rfl, ?_⟩) ?_ ?_; rotate_left
                       ·intro w'; go_simp; with_reducible rfl
                       rotate_left
                       ·simp only [Act.put, sA,sB,sC, i64_w, i32_w]; rfl
                       refine pure_ (i := 9) (N := some 88) (v := ?_) (a' := ?_) #[Y,Y,Y,Y,Y,Y,Y,Y,Y,Y,N,N,N,N,N,N,N,N,N,N,N,N,N,N,N,N,N,N,N,N] rfl rfl (any_of HT_.out (by kernel_rfl)) (fun _ _ _ h => h) (Or.inl ⟨by rfl, ?_⟩) ?_ ?_; rotate_left
                       ·intro w'; go_simp; with_reducible rfl
                       rotate_left
                       ·simp only [Act.put, sA,sB,sC, i64_w, i32_w]; rfl
                       refine pure_ (i := 10) (N := some 89) (v := ?_) (a' := ?_) #[Y,Y,Y,Y,Y,Y,Y,Y,Y,Y,Y,N,N,N,N,N,N,N,N,N,N,N,N,N,N,N,N,N,N,N] rfl rfl (any_of HT_.out (by kernel_rfl)) (fun _ _ _ h => h) (Or.inl ⟨by rfl, ?_⟩) ?_ ?_; rotate_left
                       ·intro w'; go_simp; with_reducible rfl
                       rotate_left
                       ·simp only [Act.put, sA,sB,sC, i64_w, i32_w]; rfl
                       refine pure_ (i := 11) (N := some 90) (v := ?_) (a' := ?_) #[Y,Y,Y,Y,Y,Y,Y,Y,Y,Y,Y,Y,N,N,N,N,N,N,N,N,N,N,N,N,N,N,N,N,N,N] rfl rfl (any_of HT_.out (by kernel_rfl)) (fun _ _ _ h => h) (Or.inl ⟨by rfl, ?_⟩) ?_ ?_; rotate_left
                       ·intro w'; go_simp; with_reducible rfl
                       rotate_left
                       ·simp only [Act.put, sA,sB,sC, i64_w, i32_w]; rfl
                       refine pure_ (i := 12) (N := some 91) (v := ?_) (a' := ?_) #[Y,Y,Y,Y,Y,Y,Y,Y,Y,Y,Y,Y,Y,N,N,N,N,N,N,N,N,N,N,N,N,N,N,N,N,N] rfl rfl (any_of HT_.out (by kernel_rfl)) (fun _ _ _ h => h) (Or.inl ⟨by rfl, ?_⟩) ?_ ?_; rotate_left
                       ·intro w'; go_simp; with_reducible rfl
                       rotate_left
                       ·simp only [Act.put, sA,sB,sC, i64_w, i32_w]; rfl
                       refine pure_ (i := 13) (N := some 92) (v := ?_) (a' := ?_) #[Y,Y,Y,Y,Y,Y,Y,Y,Y,Y,Y,Y,Y,Y,N,N,N,N,N,N,N,N,N,N,N,N,N,N,N,N] rfl rfl (any_of HT_.out (by kernel_rfl)) (fun _ _ _ h => h) (Or.inl ⟨by rfl, ?_⟩) ?_ ?_; rotate_left
                       ·intro w'; go_simp; with_reducible rfl
                       rotate_left
                       ·simp only [Act.put, sA,sB,sC, i64_w, i32_w]; rfl
                       refine pure_ (i := 14) (N := some 93) (v := ?_) (a' := ?_) #[Y,Y,Y,Y,Y,Y,Y,Y,Y,Y,Y,Y,Y,Y,Y,N,N,N,N,N,N,N,N,N,N,N,N,N,N,N] rfl rfl (any_of HT_.out (by kernel_rfl)) (fun _ _ _ h => h) (Or.inl ⟨by rfl, ?_⟩) ?_ ?_; rotate_left
                       ·intro w'; go_simp; with_reducible rfl
                       rotate_left
                       ·simp only [Act.put, sA,sB,sC, i64_w, i32_w]; rfl
                       refine pure_ (i := 15) (N := some 94) (v := ?_) (a' := ?_) #[Y,Y,Y,Y,Y,Y,Y,Y,Y,Y,Y,Y,Y,Y,Y,Y,N,N,N,N,N,N,N,N,N,N,N,N,N,N] rfl rfl (any_of HT_.out (by kernel_rfl)) (fun _ _ _ h => h) (Or.inl ⟨by rfl, ?_⟩) ?_ ?_; rotate_left
                       ·intro w'; go_simp; with_reducible rfl
                       rotate_left
                       ·simp only [Act.put, sA,sB,sC, i64_w, i32_w]; rfl
                       refine pure_ (i := 16) (N := some 95) (v := ?_) (a' := ?_) #[Y,Y,Y,Y,Y,Y,Y,Y,Y,Y,Y,Y,Y,Y,Y,Y,Y,N,N,N,N,N,N,N,N,N,N,N,N,N] rfl rfl (any_of HT_.out (by kernel_rfl)) (fun _ _ _ h => h) (Or.inl ⟨by rfl, ?_⟩) ?_ ?_; rotate_left
                       ·intro w'; go_simp; with_reducible rfl
                       rotate_left
                       ·simp only [Act.put, sA,sB,sC, i64_w, i32_w]; rfl
                       refine pure_ (i := 17) (N := some 96) (v := ?_) (a' := ?_) #[Y,Y,Y,Y,Y,Y,Y,Y,Y,Y,Y,Y,Y,Y,Y,Y,Y,Y,N,N,N,N,N,N,N,N,N,N,N,N] rfl rfl (any_of HT_.out (by kernel_rfl)) (fun _ _ _ h => h) (Or.inl ⟨by rfl, ?_⟩) ?_ ?_; rotate_left
                       ·intro w'; go_simp; with_reducible rfl
                       rotate_left
                       ·simp only [Act.put, sA,sB,sC, i64_w, i32_w]; rfl
                       refine pure_ (i := 18) (N := some 97) (v := ?_) (a' := ?_) #[Y,Y,Y,Y,Y,Y,Y,Y,Y,Y,Y,Y,Y,Y,Y,Y,Y,Y,Y,N,N,N,N,N,N,N,N,N,N,N] rfl rfl (any_of HT_.out (by kernel_rfl)) (fun _ _ _ h => h) (Or.inl ⟨by rfl, ?_⟩) ?_ ?_; rotate_left
                       ·intro w'; go_simp; with_reducible rfl
                       rotate_left
                       ·simp only [Act.put, sA,sB,sC, i64_w, i32_w]; rfl
                       refine pure_ (i := 19) (N := some 98) (v := ?_) (a' := ?_) #[Y,Y,Y,Y,Y,Y,Y,Y,Y,Y,Y,Y,Y,Y,Y,Y,Y,Y,Y,Y,N,N,N,N,N,N,N,N,N,N] rfl rfl (any_of HT_.out (by kernel_rfl)) (fun _ _ _ h => h) (Or.inl ⟨by rfl, ?_⟩) ?_ ?_; rotate_left
                       ·intro w'; go_simp; with_reducible rfl
                       rotate_left
                       ·simp only [Act.put, sA,sB,sC, i64_w, i32_w]; rfl
                       refine pure_ (i := 21) (N := some 100) (v := ?_) (a' := ?_) #[Y,Y,Y,Y,Y,Y,Y,Y,Y,Y,Y,Y,Y,Y,Y,Y,Y,Y,Y,Y,N,Y,N,N,N,N,N,N,N,N] rfl rfl (any_of HT_.out (by kernel_rfl)) (fun _ _ _ h => h) (Or.inl ⟨by rfl, ?_⟩) ?_ ?_; rotate_left
                       ·intro w'; go_simp; with_reducible rfl
                       rotate_left
                       ·simp only [Act.put, sA,sB,sC, i64_w, i32_w]; rfl
                       refine pure_ (i := 22) (N := some 101) (v := ?_) (a' := ?_) #[Y,Y,Y,Y,Y,Y,Y,Y,Y,Y,Y,Y,Y,Y,Y,Y,Y,Y,Y,Y,N,Y,Y,N,N,N,N,N,N,N] rfl rfl (any_of HT_.out (by kernel_rfl)) (fun _ _ _ h => h) (Or.inl ⟨by rfl, ?_⟩) ?_ ?_; rotate_left
                       ·intro w'; go_simp; with_reducible rfl
                       rotate_left
                       ·simp only [Act.put, sA,sB,sC, i64_w, i32_w]; rfl
                       refine pure_ (i := 23) (N := some 102) (v := ?_) (a' := ?_) #[Y,Y,Y,Y,Y,Y,Y,Y,Y,Y,Y,Y,Y,Y,Y,Y,Y,Y,Y,Y,N,Y,Y,Y,N,N,N,N,N,N] rfl rfl (any_of HT_.out (by kernel_rfl)) (fun _ _ _ h => h) (Or.inl ⟨by rfl, ?_⟩) ?_ ?_; rotate_left
                       ·intro w'; go_simp; with_reducible rfl
                       rotate_left
                       ·simp only [Act.put, sA,sB,sC, i64_w, i32_w]; rfl
                       refine pure_ (i := 24) (N := some 103) (v := ?_) (a' := ?_) #[Y,Y,Y,Y,Y,Y,Y,Y,Y,Y,Y,Y,Y,Y,Y,Y,Y,Y,Y,Y,N,Y,Y,Y,Y,N,N,N,N,N] rfl rfl (any_of HT_.out (by kernel_rfl)) (fun _ _ _ h => h) (Or.inl ⟨by rfl, ?_⟩) ?_ ?_; rotate_left
                       ·intro w'; go_simp; with_reducible rfl
                       rotate_left
                       ·simp only [Act.put, sA,sB,sC, i64_w, i32_w]; rfl
                       refine pure_ (i := 25) (N := some 104) (v := ?_) (a' := ?_) #[Y,Y,Y,Y,Y,Y,Y,Y,Y,Y,Y,Y,Y,Y,Y,Y,Y,Y,Y,Y,N,Y,Y,Y,Y,Y,N,N,N,N] rfl rfl (any_of HT_.out (by kernel_rfl)) (fun _ _ _ h => h) (Or.inl ⟨by rfl, ?_⟩) ?_ ?_; rotate_left
                       ·intro w'; go_simp; with_reducible rfl
                       rotate_left
                       ·simp only [Act.put, sA,sB,sC, i64_w, i32_w]; rfl
                       refine take_ (i := 20) (N := some 99) (v := ?_) (a' := ?_) #[Y,Y,Y,Y,Y,Y,Y,Y,Y,Y,Y,Y,Y,Y,Y,Y,Y,Y,Y,Y,Y,Y,Y,Y,Y,Y,N,N,N,N] rfl rfl (take_ofW HT_.out HW_.out (by kernel_rfl)) (fun _ _ _ h => h) (Or.inl ⟨by rfl, ?_⟩) hHeld ?_ ?_; rotate_left
                       ·rintro w' ⟨s0, s1⟩; go_simp; with_reducible rfl
                       rotate_left
                       ·simp only [Act.put, sA,sB,sC, i64_w, i32_w]; rfl
                       refine take_ (i := 26) (N := some 105) (v := ?_) (a' := ?_) #[Y,Y,Y,Y,Y,Y,Y,Y,Y,Y,Y,Y,Y,Y,Y,Y,Y,Y,Y,Y,Y,Y,Y,Y,Y,Y,Y,N,N,N] rfl rfl (take_ofW HT_.out HW_.out (by kernel_rfl)) (fun _ _ _ h => h) (Or.inl ⟨by rfl, ?_⟩) hHeld ?_ ?_; rotate_left
                       ·rintro w' ⟨s0, s1⟩; go_simp; with_reducible rfl
                       rotate_left
                       ·simp only [Act.put, sA,sB,sC, i64_w, i32_w]; rfl
                       refine pure_ (i := 27) (N := some 106) (v := ?_) (a' := ?_) #[Y,Y,Y,Y,Y,Y,Y,Y,Y,Y,Y,Y,Y,Y,Y,Y,Y,Y,Y,Y,Y,Y,Y,Y,Y,Y,Y,Y,N,N] rfl rfl (any_of HT_.out (by kernel_rfl)) (fun _ _ _ h => h) (Or.inl ⟨by rfl, ?_⟩) ?_ ?_; rotate_left
                       ·intro w'; go_simp; with_reducible rfl
                       rotate_left
                       ·simp only [Act.put, sA,sB,sC, i64_w, i32_w]; rfl
                       refine pure_ (i := 28) (N := some 107) (v := ?_) (a' := ?_) #[Y,Y,Y,Y,Y,Y,Y,Y,Y,Y,Y,Y,Y,Y,Y,Y,Y,Y,Y,Y,Y,Y,Y,Y,Y,Y,Y,Y,Y,N] rfl rfl (any_of HT_.out (by kernel_rfl)) (fun _ _ _ h => h) (Or.inl ⟨by rfl, ?_⟩) ?_ ?_; rotate_left
                       ·intro w'; go_simp; with_reducible rfl
                       rotate_left
                       ·simp only [Act.put, sA,sB,sC, i64_w, i32_w]; rfl
                       refine pure_ (i := 29) (N := some 8) (v := ?_) (a' := ?_) #[Y,Y,Y,Y,Y,Y,Y,Y,Y,Y,Y,Y,Y,Y,Y,Y,Y,Y,Y,Y,Y,Y,Y,Y,Y,Y,Y,Y,Y,Y] rfl rfl (any_of HT_.out (by kernel_rfl)) (fun _ _ _ h => h) (Or.inl ⟨by rfl, ?_⟩) ?_ ?_; rotate_left
                       ·intro w'; go_simp; with_reducible rfl
                       rotate_left
                       ·simp only [Act.put, sA,sB,sC, i64_w, i32_w]; rfl
                       refine done_ (done_of HT_.out (by kernel_rfl)) ?_
                       try go_wp2
                       go_ret
                       exact ⟨by first | rfl | (simp [errW_none, errW_some] <;> rfl) | (simp only [← hji19, ← hji23, ← hji49, ← hji52]; first | rfl | (simp [errW_none, errW_some] <;> rfl)) | (simp [*, errW_none, errW_some] <;> rfl), by repeat (first | (with_reducible first | exact HB.out | apply below_alloc | apply pw_below_drewN | apply below_drew1) | exact HB.out)⟩
                      ·rw [if_neg c54] at H
                       exact absurd H (by simp)
                     ·rw [if_neg c53] at H
                      exact absurd H (by simp)
                    ·rw [if_neg c51] at H
                     exact absurd H (by simp)
                   ·rw [if_neg c50] at H
                    exact absurd H (by simp)
                ·replace c28 := Bool.eq_false_iff.mpr c28
                 subst c28
                 have H1 : (some false) = some r := by rw [if_neg (show ¬ (false = true) by decide)] at H; exact H
                 clear H
                 have H := H1
                 clear H1
                 exact absurd (Option.some.inj H) (by rw [hr_]; decide)
               ·rw [if_neg c26] at H
                exact absurd H (by simp)
              ·rw [if_neg c25] at H
               exact absurd H (by simp)
             ·rw [if_neg c24] at H
              exact absurd H (by simp)
            ·rw [if_neg c22] at H
             exact absurd H (by simp)
           ·rw [if_neg c21] at H
            exact absurd H (by simp)
          ·rw [if_neg c20] at H
           exact absurd H (by simp)
 ·replace c6 := Bool.eq_false_iff.mpr c6
  subst c6
  have H1 : (some false) = some r := by rw [if_neg (show ¬ (false = true) by decide)] at H; exact H
  clear H
  have H := H1
  clear H1
  exact absurd (Option.some.inj H) (by rw [hr_]; decide)

/-- THE ONE PURE STATEMENT of tattinglaw17_SnakeEnds: yours. -/
def tattinglaw17_SnakeEnds.Pure : Prop := ∀ (l0 : List Int) (l1 : List Int) (a2 : Int) (a3 : Int), l0.length ≤ maxLen → l0.length * 8 ≤ 140737488351232 → (∀ x ∈ l0, (Lit.int .i64 x).wf = true) → l1.length ≤ maxLen → l1.length * 8 ≤ 140737488351232 → (∀ x ∈ l1, (Lit.int .i64 x).wf = true) → (Lit.int .u8 a2).wf = true → (Lit.int .u8 a3).wf = true → ∃ k, tattinglaw17_SnakeEnds.f k l0 l1 a2 a3 = some true
theorem tattinglaw17_SnakeEnds.walk (P : tattinglaw17_SnakeEnds.Pure) (a0 : Option Addr) (len0 cap0 : Nat) (z0 : List Int) (a1 : Option Addr) (len1 cap1 : Nat) (z1 : List Int) (a2 : Int) (a3 : Int) (w : World) (w0 : (a0 = none ∧ len0 = 0 ∧ cap0 = 0 ∧ z0 = []) ∨ ∃ x, a0 = some x ∧ len0 ≤ cap0 ∧ cap0 ≤ maxLen ∧ z0.length = cap0 ∧ (∀ i, i < z0.length → w.cell? (x.add i) = some (.int .i64 (z0.getD i 0))) ∧ ∀ n ∈ z0, (Lit.int .i64 n).wf = true) (y0 : len0 * 8 ≤ 140737488351232) (w1 : (a1 = none ∧ len1 = 0 ∧ cap1 = 0 ∧ z1 = []) ∨ ∃ x, a1 = some x ∧ len1 ≤ cap1 ∧ cap1 ≤ maxLen ∧ z1.length = cap1 ∧ (∀ i, i < z1.length → w.cell? (x.add i) = some (.int .i64 (z1.getD i 0))) ∧ ∀ n ∈ z1, (Lit.int .i64 n).wf = true) (y1 : len1 * 8 ≤ 140737488351232) (w2 : (Lit.int .u8 a2).wf = true) (w3 : (Lit.int .u8 a3).wf = true) :
  Calls Try.prog 5 #[.slice a0 len0 cap0, .slice a1 len1 cap1, .int .u8 a2, .int .u8 a3] w fun e w' => e = .returned (.bool true) ∧ Below w.heap.size w w' := by
 obtain ⟨l0, rfl, hr0, hm0, hw0, hc0⟩ := ReadsInt.ofRowC w0
 obtain ⟨l1, rfl, hr1, hm1, hw1, hc1⟩ := ReadsInt.ofRowC w1
 obtain ⟨k, h⟩ := P l0 l1 a2 a3 hm0 y0 hw0 hm1 y1 hw1 w2 w3
 refine (tattinglaw17_SnakeEnds.calls k _ _ l0 _ _ l1 a2 a3 true w (Kd.C_of_reads (d := (0 : Int)) (h1 := fun _ => rfl) hr0) hc0 (Kd.C_of_reads (d := (0 : Int)) (h1 := fun _ => rfl) hr1) hc1 h rfl).mono ?_
 rintro e w' ⟨rfl, hd⟩
 exact ⟨rfl, hd⟩

end Go.Proofs.Ytnadeebbnnbpgaa.PSnakeEnds
