/- The law's own walk: no condition beside those that each theorem names. -/
import Derived.Test.YtmkelmacllkbeaaPLeastRestx0
import Derived.Test.YtmkelmacllkbeaaPLeastRestx4
import Derived.Test.YtmkelmacllkbeaaPLeastRestx6
import Derived.Test.YtmkelmacllkbeaaPLeastRestx8
namespace Go.Proofs.Ytmkelmacllkbeaa.PLeastRest
open Go.RowKit Go.Proofs.YtmkelmacllkbeaaW.PrintWords Go.Proofs.YtmkelmacllkbeaaW.PrintLast Go.Proofs.YtmkelmacllkbeaaW.PrintMore
attribute [local go_sem] max2_int min2_int max_two min_two max_three min_three max_four min_four   -- for this text's walks alone
set_option linter.unusedVariables false
set_option linter.unusedSimpArgs false

/-! ### tattinglaw9_LeastRest: function 7 -/
abbrev sA := @List.setIfInBounds_toArray
abbrev sB := @List.set_cons_zero
abbrev sC := @List.set_cons_succ
mutual
def tattinglaw9_LeastRest.j0 : Nat → List Int → List Int → Int → Bool → Option (Bool)
 | 0, _, _, _, _ => none
 | k + 1, x0, x1, x2, x22 => if x22 = true then (some true) else ((tattingref1_Few.f k x0 3).bind fun t245 => ((tattingref1_Few.f k x1 3).bind fun t248 => ((least_Of.f k t245 t248).bind fun t251 => (if (t251.length : Int) = 0 then ((tattingref7_Len.f k t245 t248).bind fun t254 => (some (t254 == 0))) else (if 0 ≤ (Int.tmod (wrap64 (x2)) (t251.length : Int)) then (if (Int.tmod (wrap64 (x2)) (t251.length : Int)) < (t251.length : Int) then (if (wrap64 (((rd_T26 t251 (Int.tmod (wrap64 (x2)) (t251.length : Int))).f0) + 1)) < 1 then (tattinglaw9_LeastRest.j1 k t245 t248 t251 (Int.tmod (wrap64 (x2)) (t251.length : Int)) (wrap64 (((rd_T26 t251 (Int.tmod (wrap64 (x2)) (t251.length : Int))).f0) + 1)) (wrap64 (((rd_T26 t251 (Int.tmod (wrap64 (x2)) (t251.length : Int))).f1) + 1)) true) else (if (wrap64 (((rd_T26 t251 (Int.tmod (wrap64 (x2)) (t251.length : Int))).f1) + 1)) < 1 then (tattinglaw9_LeastRest.j1 k t245 t248 t251 (Int.tmod (wrap64 (x2)) (t251.length : Int)) (wrap64 (((rd_T26 t251 (Int.tmod (wrap64 (x2)) (t251.length : Int))).f0) + 1)) (wrap64 (((rd_T26 t251 (Int.tmod (wrap64 (x2)) (t251.length : Int))).f1) + 1)) true) else (if (wrap64 (((rd_T26 t251 (Int.tmod (wrap64 (x2)) (t251.length : Int))).f0) + 1)) > (t245.length : Int) then (tattinglaw9_LeastRest.j1 k t245 t248 t251 (Int.tmod (wrap64 (x2)) (t251.length : Int)) (wrap64 (((rd_T26 t251 (Int.tmod (wrap64 (x2)) (t251.length : Int))).f0) + 1)) (wrap64 (((rd_T26 t251 (Int.tmod (wrap64 (x2)) (t251.length : Int))).f1) + 1)) true) else (tattinglaw9_LeastRest.j1 k t245 t248 t251 (Int.tmod (wrap64 (x2)) (t251.length : Int)) (wrap64 (((rd_T26 t251 (Int.tmod (wrap64 (x2)) (t251.length : Int))).f0) + 1)) (wrap64 (((rd_T26 t251 (Int.tmod (wrap64 (x2)) (t251.length : Int))).f1) + 1)) (decide ((wrap64 (((rd_T26 t251 (Int.tmod (wrap64 (x2)) (t251.length : Int))).f1) + 1)) > (t248.length : Int))))))) else (none)) else (none))))))
def tattinglaw9_LeastRest.j1 : Nat → List Int → List Int → List (S26) → Int → Int → Int → Bool → Option (Bool)
 | 0, _, _, _, _, _, _, _ => none
 | k + 1, x7, x8, x9, x10, x11, x12, x71 => if x71 = true then (some false) else (if 0 ≤ (wrap64 (x10 + 1)) then (if (wrap64 (x10 + 1)) ≤ (x9.length : Int) then (if 0 ≤ x11 then (if x11 ≤ (x7.length : Int) then (if 0 ≤ x12 then (if x12 ≤ (x8.length : Int) then ((least_Of.f k (x7.drop (x11 : Int).toNat) (x8.drop (x12 : Int).toNat)).bind fun t269 => ((tattingref7_Move.f k t269 x11 x12).bind fun t272 => ((tattingref1_SamePairs.f k (x9.drop ((wrap64 (x10 + 1)) : Int).toNat) t272).bind fun t275 => (some t275)))) else (none)) else (none)) else (none)) else (none)) else (none)) else (none))
end
def tattinglaw9_LeastRest.f (k : Nat) (l0 : List Int) (l1 : List Int) (a2 : Int) : Option (Bool) := (tattinglaw9_awake.f k).bind fun t244 => (if t244 = true then (if (l0.length : Int) > 30 then (tattinglaw9_LeastRest.j0 k l0 l1 a2 true) else (tattinglaw9_LeastRest.j0 k l0 l1 a2 (decide ((l1.length : Int) > 30)))) else (some false))
theorem tattinglaw9_LeastRest.mono_l : ∀ k, (∀ y0 y1 y2 y3, LeO (tattinglaw9_LeastRest.j0 k y0 y1 y2 y3) (tattinglaw9_LeastRest.j0 (k + 1) y0 y1 y2 y3)) ∧ (∀ y0 y1 y2 y3 y4 y5 y6, LeO (tattinglaw9_LeastRest.j1 k y0 y1 y2 y3 y4 y5 y6) (tattinglaw9_LeastRest.j1 (k + 1) y0 y1 y2 y3 y4 y5 y6))
 | 0 => ⟨fun _ _ _ _ r h => by simp [tattinglaw9_LeastRest.j0] at h, fun _ _ _ _ _ _ _ r h => by simp [tattinglaw9_LeastRest.j1] at h⟩
 | k + 1 => by
  obtain ⟨ih0, ih1⟩ := tattinglaw9_LeastRest.mono_l k
  refine ⟨?_, ?_⟩
  ·intro y0 y1 y2 y3
   unfold tattinglaw9_LeastRest.j0
   repeat' first
   | (with_reducible exact ih0 _ _ _ _)
   | (with_reducible exact ih1 _ _ _ _ _ _ _)
   | (with_reducible exact least_Of.mono _ _ _)
   | (with_reducible exact tattinglaw9_awake.mono _)
   | (with_reducible exact tattingref1_Few.mono _ _ _)
   | (with_reducible exact tattingref1_SamePairs.mono _ _ _)
   | (with_reducible exact tattingref7_Len.mono _ _ _)
   | (with_reducible exact tattingref7_Move.mono _ _ _ _)
   | (with_reducible exact LeO.refl _)
   | (with_reducible exact LeO.none _)
   | (with_reducible refine LeO.ite ?_ ?_)
   | (with_reducible refine LeO.bind ?_ (fun _ => ?_))
   | exact ih0 _ _ _ _
   | exact ih1 _ _ _ _ _ _ _
   | exact least_Of.mono _ _ _
   | exact tattinglaw9_awake.mono _
   | exact tattingref1_Few.mono _ _ _
   | exact tattingref1_SamePairs.mono _ _ _
   | exact tattingref7_Len.mono _ _ _
   | exact tattingref7_Move.mono _ _ _ _
   | exact LeO.none _
   | refine LeO.ite ?_ ?_
   | refine LeO.bind ?_ (fun _ => ?_)
  ·intro y0 y1 y2 y3 y4 y5 y6
   unfold tattinglaw9_LeastRest.j1
   repeat' first
   | (with_reducible exact ih0 _ _ _ _)
   | (with_reducible exact ih1 _ _ _ _ _ _ _)
   | (with_reducible exact least_Of.mono _ _ _)
   | (with_reducible exact tattinglaw9_awake.mono _)
   | (with_reducible exact tattingref1_Few.mono _ _ _)
   | (with_reducible exact tattingref1_SamePairs.mono _ _ _)
   | (with_reducible exact tattingref7_Len.mono _ _ _)
   | (with_reducible exact tattingref7_Move.mono _ _ _ _)
   | (with_reducible exact LeO.refl _)
   | (with_reducible exact LeO.none _)
   | (with_reducible refine LeO.ite ?_ ?_)
   | (with_reducible refine LeO.bind ?_ (fun _ => ?_))
   | exact ih0 _ _ _ _
   | exact ih1 _ _ _ _ _ _ _
   | exact least_Of.mono _ _ _
   | exact tattinglaw9_awake.mono _
   | exact tattingref1_Few.mono _ _ _
   | exact tattingref1_SamePairs.mono _ _ _
   | exact tattingref7_Len.mono _ _ _
   | exact tattingref7_Move.mono _ _ _ _
   | exact LeO.none _
   | refine LeO.ite ?_ ?_
   | refine LeO.bind ?_ (fun _ => ?_)
theorem tattinglaw9_LeastRest.mono : ∀ a0 a1 a2 k, LeO (tattinglaw9_LeastRest.f k a0 a1 a2) (tattinglaw9_LeastRest.f (k + 1) a0 a1 a2) := by
 intro a0 a1 a2 k
 obtain ⟨ih0, ih1⟩ := tattinglaw9_LeastRest.mono_l k
 unfold tattinglaw9_LeastRest.f
 repeat' first
   | (with_reducible exact ih0 _ _ _ _)
   | (with_reducible exact ih1 _ _ _ _ _ _ _)
   | (with_reducible exact least_Of.mono _ _ _)
   | (with_reducible exact tattinglaw9_awake.mono _)
   | (with_reducible exact tattingref1_Few.mono _ _ _)
   | (with_reducible exact tattingref1_SamePairs.mono _ _ _)
   | (with_reducible exact tattingref7_Len.mono _ _ _)
   | (with_reducible exact tattingref7_Move.mono _ _ _ _)
   | (with_reducible exact LeO.refl _)
   | (with_reducible exact LeO.none _)
   | (with_reducible refine LeO.ite ?_ ?_)
   | (with_reducible refine LeO.bind ?_ (fun _ => ?_))
   | exact ih0 _ _ _ _
   | exact ih1 _ _ _ _ _ _ _
   | exact least_Of.mono _ _ _
   | exact tattinglaw9_awake.mono _
   | exact tattingref1_Few.mono _ _ _
   | exact tattingref1_SamePairs.mono _ _ _
   | exact tattingref7_Len.mono _ _ _
   | exact tattingref7_Move.mono _ _ _ _
   | exact LeO.none _
   | refine LeO.ite ?_ ?_
   | refine LeO.bind ?_ (fun _ => ?_)
def tattinglaw9_LeastRest.T10 : Bool × List (List Nat × List Nat) := (true, [([], []), ([], []), ([0, 1], [0, 1]), ([2], [2]), ([3], [3]), ([4], [4]), ([], []), ([], []), ([6, 7], [6, 7]), ([8], [8]), ([9], [9]), ([10], [10]), ([5, 0, 1, 2, 3, 4, 5], [5]), ([11, 12, 0, 1, 2, 3, 4, 5, 6, 7, 8, 9, 10, 11, 12], [11])])
def tattinglaw9_LeastRest.B10 : List Nat := [0, 0, 3, 7, 15, 31, 0, 0, 192, 448, 960, 1984, 63, 8191]
theorem tattinglaw9_LeastRest.tab10 : rtab .any (opsOf Try.f7 10) = tattinglaw9_LeastRest.T10 := by kernel_rfl
theorem tattinglaw9_LeastRest.bits10 : waitsOk tattinglaw9_LeastRest.T10.2 tattinglaw9_LeastRest.B10 = true := by kernel_rfl
def tattinglaw9_LeastRest.T13 : Bool × List (List Nat × List Nat) := (true, [([], []), ([], []), ([1], [1]), ([0, 2], [0, 2]), ([], []), ([], []), ([4, 5], [4, 5]), ([], []), ([], []), ([7, 8], [7, 8]), ([6, 9], [6, 9]), ([], []), ([], []), ([10, 11, 12, 10], [10, 11, 12]), ([3, 13, 13], [3, 13]), ([14, 14, 0, 1, 2, 3, 4, 5, 6, 7, 8, 9, 10, 11, 12, 13, 14], [14])])
def tattinglaw9_LeastRest.B13 : List Nat := [0, 0, 2, 7, 0, 0, 48, 0, 0, 384, 1008, 0, 0, 8176, 16383, 32767]
theorem tattinglaw9_LeastRest.tab13 : rtab .any (opsOf Try.f7 13) = tattinglaw9_LeastRest.T13 := by kernel_rfl
theorem tattinglaw9_LeastRest.bits13 : waitsOk tattinglaw9_LeastRest.T13.2 tattinglaw9_LeastRest.B13 = true := by kernel_rfl
set_option maxHeartbeats 8000000 in
set_option maxRecDepth 100000 in
theorem tattinglaw9_LeastRest.calls (k : Nat) (A0 : Option Addr) (c0 : Nat) (l0 : List Int) (A1 : Option Addr) (c1 : Nat) (l1 : List Int) (a2 : Int) (r : Bool) (w : World) (hr0 : Kd.C (Kd.int .i64) w A0 l0.length l0) (hc0 : l0.length ≤ c0) (hr1 : Kd.C (Kd.int .i64) w A1 l1.length l1) (hc1 : l1.length ≤ c1) (h : tattinglaw9_LeastRest.f k l0 l1 a2 = some r) :
  Calls Try.prog 7 #[.slice A0 l0.length c0, .slice A1 l1.length c1, .int .u8 a2] w fun e w' => e = .returned (.bool r) ∧ Below w.heap.size w w' := by
 have HR0 := Aside0.mk hr0
 have HC0 := Aside0.mk hc0
 clear hr0 hc0
 have HR1 := Aside0.mk hr1
 have HC1 := Aside0.mk hc1
 clear hr1 hc1
 have HB := Aside0.mk (Below.refl w.heap.size w)
 have H : ((tattinglaw9_awake.f k).bind fun t244 => (if t244 = true then (if (l0.length : Int) > 30 then (tattinglaw9_LeastRest.j0 k l0 l1 a2 true) else (tattinglaw9_LeastRest.j0 k l0 l1 a2 (decide ((l1.length : Int) > 30)))) else (some false))) = some r := h
 clear h
 replace H := Option.bind_eq_some_iff.mp H
 obtain ⟨t244, A40, H⟩ := H
 replace H : (if t244 = true then (if (l0.length : Int) > 30 then (tattinglaw9_LeastRest.j0 k l0 l1 a2 true) else (tattinglaw9_LeastRest.j0 k l0 l1 a2 (decide ((l1.length : Int) > 30)))) else (some false)) = some r := H
 have A4 := Aside0.mk A40
 clear A40
 by_cases c5 : t244 = true
 ·subst c5
  have H1 : (if (l0.length : Int) > 30 then (tattinglaw9_LeastRest.j0 k l0 l1 a2 true) else (tattinglaw9_LeastRest.j0 k l0 l1 a2 (decide ((l1.length : Int) > 30)))) = some r := by rw [if_pos rfl] at H; exact H
  clear H
  have H := H1
  clear H1
  have HC6 := Aside0.mk H
  clear H
  go_enter Try.func7, Try.ntmps7
  go_upto_region 3 with (first | ((with_reducible refine gate_callee (f := 11) rfl ?_); refine goesL_ (some 13) rfl rfl Try.func11 (by kernel_rfl) rfl #[] rfl (by (try simp only [List.map_toArray, List.map_cons, List.map_nil]); first | done | rfl | (simp only [List.length_drop, List.length_take]; rfl)) ?_; (with_reducible refine (tattinglaw9_awake.calls k  true _ A4.out).mono ?_); rintro e w7 ⟨rfl, hb⟩; refine ⟨_, rfl, ?_⟩; have n0_ := Aside0.mk (below_step (by repeat (first | (with_reducible first | exact HB.out | apply below_alloc | apply pw_below_drewN | apply below_drew1) | exact HB.out)) hb); clear HB; have HB := n0_; clear n0_; (try clear hb); (try clear hb2); (try clear hk); (try clear hi)))
  (try simp only [Act.put, sA,sB,sC])
  go_cut [22] (fun v22 wc => ∃ (kq : Nat) (x22_5 : Bool), v22 = .bool x22_5 ∧ Aside0 (tattinglaw9_LeastRest.j0 kq l0 l1 a2 x22_5 = some r) ∧ Aside0 (kq ≤ k) ∧ Aside0 (Below w.heap.size w wc))
  case first =>
   have H := HC6.out
   clear HC6
   by_cases c8 : (l0.length : Int) > 30
   ·rw [if_pos c8] at H
    have c8b0 : decide (30 < (l0.length : Int)) = true := decide_eq_true c8
    have c8b1 : decide (30 < l0.length) = true := decide_eq_true (by omega)
    clear c8
    (first | rw [c8b0] | (simp only [i64_w, i32_w]; rw [c8b0]) | skip)
    have H' := Aside0.mk H
    clear H
    go_wp2
    go_meet
    case rel => exact ⟨_, (true), (by first | rfl | (simp; done) | (simp [*]; done)), H', ⟨by first | omega | exact Nat.le_refl _⟩, ⟨by repeat (first | (with_reducible first | exact HB.out | apply below_alloc | apply pw_below_drewN | apply below_drew1) | exact HB.out)⟩⟩
   ·rw [if_neg c8] at H
    have c8b0 : decide (30 < (l0.length : Int)) = false := decide_eq_false c8
    have c8b1 : decide (30 < l0.length) = false := decide_eq_false (by omega)
    clear c8
    (first | rw [c8b0] | (simp only [i64_w, i32_w]; rw [c8b0]) | skip)
    have H' := Aside0.mk H
    clear H
    go_wp2
    go_meet
    case rel => exact ⟨_, (decide ((l1.length : Int) > 30)), (by first | rfl | (simp; done) | (simp [*]; done)), H', ⟨by first | omega | exact Nat.le_refl _⟩, ⟨by repeat (first | (with_reducible first | exact HB.out | apply below_alloc | apply pw_below_drewN | apply below_drew1) | exact HB.out)⟩⟩
  case rest =>
   clear HC6
   try clear c1
   try clear p2
   try clear c5
   try clear c7
   try clear c8
   try clear c8b0
   try clear c8b1
   obtain ⟨kq, x22_5, rfl, HA, HJ5, HB⟩ := hcut
   cases kq with
   | zero => exact absurd HA.out (by simp [tattinglaw9_LeastRest.j0])
   | succ kj5 =>
    have H := HA.out
    clear HA
    simp only [tattinglaw9_LeastRest.j0] at H
    by_cases c9 : x22_5 = true
    ·subst c9
     have H1 : (some true) = some r := by rw [if_pos rfl] at H; exact H
     clear H
     have H := H1
     clear H1
     obtain rfl := Option.some.inj H
     go_wp2
     go_ret
     exact ⟨by first | rfl | (simp [errW_none, errW_some] <;> rfl) | (simp [*, errW_none, errW_some] <;> rfl), by repeat (first | (with_reducible first | exact HB.out | apply below_alloc | apply pw_below_drewN | apply below_drew1) | exact HB.out)⟩
    ·replace c9 := Bool.eq_false_iff.mpr c9
     subst c9
     have H1 : ((tattingref1_Few.f kj5 l0 3).bind fun t245 => ((tattingref1_Few.f kj5 l1 3).bind fun t248 => ((least_Of.f kj5 t245 t248).bind fun t251 => (if (t251.length : Int) = 0 then ((tattingref7_Len.f kj5 t245 t248).bind fun t254 => (some (t254 == 0))) else (if 0 ≤ (Int.tmod (wrap64 (a2)) (t251.length : Int)) then (if (Int.tmod (wrap64 (a2)) (t251.length : Int)) < (t251.length : Int) then (if (wrap64 (((rd_T26 t251 (Int.tmod (wrap64 (a2)) (t251.length : Int))).f0) + 1)) < 1 then (tattinglaw9_LeastRest.j1 kj5 t245 t248 t251 (Int.tmod (wrap64 (a2)) (t251.length : Int)) (wrap64 (((rd_T26 t251 (Int.tmod (wrap64 (a2)) (t251.length : Int))).f0) + 1)) (wrap64 (((rd_T26 t251 (Int.tmod (wrap64 (a2)) (t251.length : Int))).f1) + 1)) true) else (if (wrap64 (((rd_T26 t251 (Int.tmod (wrap64 (a2)) (t251.length : Int))).f1) + 1)) < 1 then (tattinglaw9_LeastRest.j1 kj5 t245 t248 t251 (Int.tmod (wrap64 (a2)) (t251.length : Int)) (wrap64 (((rd_T26 t251 (Int.tmod (wrap64 (a2)) (t251.length : Int))).f0) + 1)) (wrap64 (((rd_T26 t251 (Int.tmod (wrap64 (a2)) (t251.length : Int))).f1) + 1)) true) else (if (wrap64 (((rd_T26 t251 (Int.tmod (wrap64 (a2)) (t251.length : Int))).f0) + 1)) > (t245.length : Int) then (tattinglaw9_LeastRest.j1 kj5 t245 t248 t251 (Int.tmod (wrap64 (a2)) (t251.length : Int)) (wrap64 (((rd_T26 t251 (Int.tmod (wrap64 (a2)) (t251.length : Int))).f0) + 1)) (wrap64 (((rd_T26 t251 (Int.tmod (wrap64 (a2)) (t251.length : Int))).f1) + 1)) true) else (tattinglaw9_LeastRest.j1 kj5 t245 t248 t251 (Int.tmod (wrap64 (a2)) (t251.length : Int)) (wrap64 (((rd_T26 t251 (Int.tmod (wrap64 (a2)) (t251.length : Int))).f0) + 1)) (wrap64 (((rd_T26 t251 (Int.tmod (wrap64 (a2)) (t251.length : Int))).f1) + 1)) (decide ((wrap64 (((rd_T26 t251 (Int.tmod (wrap64 (a2)) (t251.length : Int))).f1) + 1)) > (t248.length : Int))))))) else (none)) else (none)))))) = some r := by rw [if_neg (show ¬ (false = true) by decide)] at H; exact H
     clear H
     have H := H1
     clear H1
     replace H := Option.bind_eq_some_iff.mp H
     obtain ⟨t245, A100, H⟩ := H
     replace H : ((tattingref1_Few.f kj5 l1 3).bind fun t248 => ((least_Of.f kj5 t245 t248).bind fun t251 => (if (t251.length : Int) = 0 then ((tattingref7_Len.f kj5 t245 t248).bind fun t254 => (some (t254 == 0))) else (if 0 ≤ (Int.tmod (wrap64 (a2)) (t251.length : Int)) then (if (Int.tmod (wrap64 (a2)) (t251.length : Int)) < (t251.length : Int) then (if (wrap64 (((rd_T26 t251 (Int.tmod (wrap64 (a2)) (t251.length : Int))).f0) + 1)) < 1 then (tattinglaw9_LeastRest.j1 kj5 t245 t248 t251 (Int.tmod (wrap64 (a2)) (t251.length : Int)) (wrap64 (((rd_T26 t251 (Int.tmod (wrap64 (a2)) (t251.length : Int))).f0) + 1)) (wrap64 (((rd_T26 t251 (Int.tmod (wrap64 (a2)) (t251.length : Int))).f1) + 1)) true) else (if (wrap64 (((rd_T26 t251 (Int.tmod (wrap64 (a2)) (t251.length : Int))).f1) + 1)) < 1 then (tattinglaw9_LeastRest.j1 kj5 t245 t248 t251 (Int.tmod (wrap64 (a2)) (t251.length : Int)) (wrap64 (((rd_T26 t251 (Int.tmod (wrap64 (a2)) (t251.length : Int))).f0) + 1)) (wrap64 (((rd_T26 t251 (Int.tmod (wrap64 (a2)) (t251.length : Int))).f1) + 1)) true) else (if (wrap64 (((rd_T26 t251 (Int.tmod (wrap64 (a2)) (t251.length : Int))).f0) + 1)) > (t245.length : Int) then (tattinglaw9_LeastRest.j1 kj5 t245 t248 t251 (Int.tmod (wrap64 (a2)) (t251.length : Int)) (wrap64 (((rd_T26 t251 (Int.tmod (wrap64 (a2)) (t251.length : Int))).f0) + 1)) (wrap64 (((rd_T26 t251 (Int.tmod (wrap64 (a2)) (t251.length : Int))).f1) + 1)) true) else (tattinglaw9_LeastRest.j1 kj5 t245 t248 t251 (Int.tmod (wrap64 (a2)) (t251.length : Int)) (wrap64 (((rd_T26 t251 (Int.tmod (wrap64 (a2)) (t251.length : Int))).f0) + 1)) (wrap64 (((rd_T26 t251 (Int.tmod (wrap64 (a2)) (t251.length : Int))).f1) + 1)) (decide ((wrap64 (((rd_T26 t251 (Int.tmod (wrap64 (a2)) (t251.length : Int))).f1) + 1)) > (t248.length : Int))))))) else (none)) else (none))))) = some r := H
     have A10 := Aside0.mk A100
     clear A100
     replace H := Option.bind_eq_some_iff.mp H
     obtain ⟨t248, A110, H⟩ := H
     replace H : ((least_Of.f kj5 t245 t248).bind fun t251 => (if (t251.length : Int) = 0 then ((tattingref7_Len.f kj5 t245 t248).bind fun t254 => (some (t254 == 0))) else (if 0 ≤ (Int.tmod (wrap64 (a2)) (t251.length : Int)) then (if (Int.tmod (wrap64 (a2)) (t251.length : Int)) < (t251.length : Int) then (if (wrap64 (((rd_T26 t251 (Int.tmod (wrap64 (a2)) (t251.length : Int))).f0) + 1)) < 1 then (tattinglaw9_LeastRest.j1 kj5 t245 t248 t251 (Int.tmod (wrap64 (a2)) (t251.length : Int)) (wrap64 (((rd_T26 t251 (Int.tmod (wrap64 (a2)) (t251.length : Int))).f0) + 1)) (wrap64 (((rd_T26 t251 (Int.tmod (wrap64 (a2)) (t251.length : Int))).f1) + 1)) true) else (if (wrap64 (((rd_T26 t251 (Int.tmod (wrap64 (a2)) (t251.length : Int))).f1) + 1)) < 1 then (tattinglaw9_LeastRest.j1 kj5 t245 t248 t251 (Int.tmod (wrap64 (a2)) (t251.length : Int)) (wrap64 (((rd_T26 t251 (Int.tmod (wrap64 (a2)) (t251.length : Int))).f0) + 1)) (wrap64 (((rd_T26 t251 (Int.tmod (wrap64 (a2)) (t251.length : Int))).f1) + 1)) true) else (if (wrap64 (((rd_T26 t251 (Int.tmod (wrap64 (a2)) (t251.length : Int))).f0) + 1)) > (t245.length : Int) then (tattinglaw9_LeastRest.j1 kj5 t245 t248 t251 (Int.tmod (wrap64 (a2)) (t251.length : Int)) (wrap64 (((rd_T26 t251 (Int.tmod (wrap64 (a2)) (t251.length : Int))).f0) + 1)) (wrap64 (((rd_T26 t251 (Int.tmod (wrap64 (a2)) (t251.length : Int))).f1) + 1)) true) else (tattinglaw9_LeastRest.j1 kj5 t245 t248 t251 (Int.tmod (wrap64 (a2)) (t251.length : Int)) (wrap64 (((rd_T26 t251 (Int.tmod (wrap64 (a2)) (t251.length : Int))).f0) + 1)) (wrap64 (((rd_T26 t251 (Int.tmod (wrap64 (a2)) (t251.length : Int))).f1) + 1)) (decide ((wrap64 (((rd_T26 t251 (Int.tmod (wrap64 (a2)) (t251.length : Int))).f1) + 1)) > (t248.length : Int))))))) else (none)) else (none)))) = some r := H
     have A11 := Aside0.mk A110
     clear A110
     replace H := Option.bind_eq_some_iff.mp H
     obtain ⟨t251, A120, H⟩ := H
     replace H : (if (t251.length : Int) = 0 then ((tattingref7_Len.f kj5 t245 t248).bind fun t254 => (some (t254 == 0))) else (if 0 ≤ (Int.tmod (wrap64 (a2)) (t251.length : Int)) then (if (Int.tmod (wrap64 (a2)) (t251.length : Int)) < (t251.length : Int) then (if (wrap64 (((rd_T26 t251 (Int.tmod (wrap64 (a2)) (t251.length : Int))).f0) + 1)) < 1 then (tattinglaw9_LeastRest.j1 kj5 t245 t248 t251 (Int.tmod (wrap64 (a2)) (t251.length : Int)) (wrap64 (((rd_T26 t251 (Int.tmod (wrap64 (a2)) (t251.length : Int))).f0) + 1)) (wrap64 (((rd_T26 t251 (Int.tmod (wrap64 (a2)) (t251.length : Int))).f1) + 1)) true) else (if (wrap64 (((rd_T26 t251 (Int.tmod (wrap64 (a2)) (t251.length : Int))).f1) + 1)) < 1 then (tattinglaw9_LeastRest.j1 kj5 t245 t248 t251 (Int.tmod (wrap64 (a2)) (t251.length : Int)) (wrap64 (((rd_T26 t251 (Int.tmod (wrap64 (a2)) (t251.length : Int))).f0) + 1)) (wrap64 (((rd_T26 t251 (Int.tmod (wrap64 (a2)) (t251.length : Int))).f1) + 1)) true) else (if (wrap64 (((rd_T26 t251 (Int.tmod (wrap64 (a2)) (t251.length : Int))).f0) + 1)) > (t245.length : Int) then (tattinglaw9_LeastRest.j1 kj5 t245 t248 t251 (Int.tmod (wrap64 (a2)) (t251.length : Int)) (wrap64 (((rd_T26 t251 (Int.tmod (wrap64 (a2)) (t251.length : Int))).f0) + 1)) (wrap64 (((rd_T26 t251 (Int.tmod (wrap64 (a2)) (t251.length : Int))).f1) + 1)) true) else (tattinglaw9_LeastRest.j1 kj5 t245 t248 t251 (Int.tmod (wrap64 (a2)) (t251.length : Int)) (wrap64 (((rd_T26 t251 (Int.tmod (wrap64 (a2)) (t251.length : Int))).f0) + 1)) (wrap64 (((rd_T26 t251 (Int.tmod (wrap64 (a2)) (t251.length : Int))).f1) + 1)) (decide ((wrap64 (((rd_T26 t251 (Int.tmod (wrap64 (a2)) (t251.length : Int))).f1) + 1)) > (t248.length : Int))))))) else (none)) else (none))) = some r := H
     have A12 := Aside0.mk A120
     clear A120
     by_cases c13 : (t251.length : Int) = 0
     ·rw [if_pos c13] at H
      have c13b0 : ((t251.length : Int) == 0) = true := beq_iff_eq.mpr c13
      have c13b1 : ((t251.length : Int) != 0) = false := bne_eq_false_iff_eq.mpr c13
      clear c13
      replace H := Option.bind_eq_some_iff.mp H
      obtain ⟨t254, A140, H⟩ := H
      replace H : (some (t254 == 0)) = some r := H
      have A14 := Aside0.mk A140
      clear A140
      obtain rfl := Option.some.inj H
      go_wp2_with (first | ((with_reducible refine gate_callee (f := 15) rfl ?_); refine goesL_ (some 24) rfl rfl Try.func15 (by kernel_rfl) rfl #[.slice A0 l0.length c0, .int .i64 3] rfl (by (try simp only [List.map_toArray, List.map_cons, List.map_nil]); first | done | rfl | (simp only [List.length_drop, List.length_take]; rfl)) ?_; (with_reducible refine (tattingref1_Few.calls kj5 _ _ l0 3 t245 _ ?side1 ?side2 A10.out).mono ?_); (case side1 => repeat (first | exact (Kd.C_below HR0.out HB.out) | (with_reducible refine Kd.C_alloc ?_ _) | (with_reducible refine Kd.C_drewN ?_ _) | (with_reducible refine Kd.C_drew ?_))); (case side2 => exact HC0.out); rintro e w15 ⟨v246, rfl, ho0, hb⟩; refine ⟨_, rfl, ?_⟩; have n0_ := Aside0.mk (Kd.R_lower ho0 (below_size (by repeat (first | (with_reducible first | exact HB.out | apply below_alloc | apply pw_below_drewN | apply below_drew1) | exact HB.out)))); have n1_ := Aside0.mk (below_step (by repeat (first | (with_reducible first | exact HB.out | apply below_alloc | apply pw_below_drewN | apply below_drew1) | exact HB.out)) hb); clear HB; have HO247 := n0_; have HB := n1_; clear n0_ n1_; (try clear hb); (try clear hb2); (try clear hk); (try clear hi); (try clear ho0)) | ((with_reducible refine gate_callee (f := 15) rfl ?_); refine goesL_ (some 26) rfl rfl Try.func15 (by kernel_rfl) rfl #[.slice A1 l1.length c1, .int .i64 3] rfl (by (try simp only [List.map_toArray, List.map_cons, List.map_nil]); first | done | rfl | (simp only [List.length_drop, List.length_take]; rfl)) ?_; (with_reducible refine (tattingref1_Few.calls kj5 _ _ l1 3 t248 _ ?side1 ?side2 A11.out).mono ?_); (case side1 => repeat (first | exact (Kd.C_below HR1.out HB.out) | (with_reducible refine Kd.C_alloc ?_ _) | (with_reducible refine Kd.C_drewN ?_ _) | (with_reducible refine Kd.C_drew ?_))); (case side2 => exact HC1.out); rintro e w16 ⟨v249, rfl, ho0, hb⟩; refine ⟨_, rfl, ?_⟩; have n0_ := Aside0.mk (Kd.R_elder' (by (with_reducible repeat (first | apply Kd.R_alloc | apply Kd.R_drewN | apply Kd.R_drew)); exact HO247.out) (Kd.R_base ho0) hb); have n1_ := Aside0.mk (Kd.R_lower (Kd.R_new' ho0 (Kd.R_lt (by (with_reducible repeat (first | apply Kd.R_alloc | apply Kd.R_drewN | apply Kd.R_drew)); exact HO247.out))) (below_size (by repeat (first | (with_reducible first | exact HB.out | apply below_alloc | apply pw_below_drewN | apply below_drew1) | exact HB.out)))); have n2_ := Aside0.mk (below_step (by repeat (first | (with_reducible first | exact HB.out | apply below_alloc | apply pw_below_drewN | apply below_drew1) | exact HB.out)) hb); clear HO247; clear HB; have HO247 := n0_; have HO250 := n1_; have HB := n2_; clear n0_ n1_ n2_; (try clear hb); (try clear hb2); (try clear hk); (try clear hi); (try clear ho0); obtain ⟨Ao17, co17, eo17⟩ := Kd.R_slice HO247.out; subst eo17; obtain ⟨Ao18, co18, eo18⟩ := Kd.R_slice HO250.out; subst eo18) | ((with_reducible refine gate_callee (f := 9) rfl ?_); refine goesL_ (some 29) rfl rfl Try.func9 (by kernel_rfl) rfl #[.slice Ao17 t245.length co17, .slice Ao18 t248.length co18] rfl (by (try simp only [List.map_toArray, List.map_cons, List.map_nil]); first | done | rfl | (simp only [List.length_drop, List.length_take]; rfl)) ?_; (with_reducible refine (least_Of.calls kj5 _ _ t245 _ _ t248 t251 _ ?side1 ?side2 ?side3 ?side4 A12.out).mono ?_); (case side1 => repeat (first | exact (Kd.R_reads' HO247.out).2.2 | (with_reducible refine Kd.C_alloc ?_ _) | (with_reducible refine Kd.C_drewN ?_ _) | (with_reducible refine Kd.C_drew ?_))); (case side2 => exact (Kd.R_reads' HO247.out).2.1); (case side3 => repeat (first | exact (Kd.R_reads' HO250.out).2.2 | (with_reducible refine Kd.C_alloc ?_ _) | (with_reducible refine Kd.C_drewN ?_ _) | (with_reducible refine Kd.C_drew ?_))); (case side4 => exact (Kd.R_reads' HO250.out).2.1); rintro e w19 ⟨v252, rfl, ho0, hb⟩; refine ⟨_, rfl, ?_⟩; have n0_ := Aside0.mk (Kd.R_below (by (with_reducible repeat (first | apply Kd.R_alloc | apply Kd.R_drewN | apply Kd.R_drew)); exact HO247.out) hb); have n1_ := Aside0.mk (Kd.R_below (by (with_reducible repeat (first | apply Kd.R_alloc | apply Kd.R_drewN | apply Kd.R_drew)); exact HO250.out) hb); have n2_ := Aside0.mk (Kd.R_lower ho0 (below_size (by repeat (first | (with_reducible first | exact HB.out | apply below_alloc | apply pw_below_drewN | apply below_drew1) | exact HB.out)))); have n3_ := Aside0.mk (below_step (by repeat (first | (with_reducible first | exact HB.out | apply below_alloc | apply pw_below_drewN | apply below_drew1) | exact HB.out)) hb); clear HO247; clear HO250; clear HB; have HO247 := n0_; have HO250 := n1_; have HO253 := n2_; have HB := n3_; clear n0_ n1_ n2_ n3_; (try clear hb); (try clear hb2); (try clear hk); (try clear hi); (try clear ho0); obtain ⟨Ao20, co20, eo20⟩ := Kd.R_slice HO253.out; subst eo20) | ((with_reducible refine gate_callee (f := 16) rfl ?_); refine goesL_ (some 35) rfl rfl Try.func16 (by kernel_rfl) rfl #[.slice Ao17 t245.length co17, .slice Ao18 t248.length co18] rfl (by (try simp only [List.map_toArray, List.map_cons, List.map_nil]); first | done | rfl | (simp only [List.length_drop, List.length_take]; rfl)) ?_; (with_reducible refine (tattingref7_Len.calls kj5 _ _ t245 _ _ t248 t254 _ ?side1 ?side2 ?side3 ?side4 A14.out).mono ?_); (case side1 => repeat (first | exact (Kd.R_reads' HO247.out).2.2 | (with_reducible refine Kd.C_alloc ?_ _) | (with_reducible refine Kd.C_drewN ?_ _) | (with_reducible refine Kd.C_drew ?_))); (case side2 => exact (Kd.R_reads' HO247.out).2.1); (case side3 => repeat (first | exact (Kd.R_reads' HO250.out).2.2 | (with_reducible refine Kd.C_alloc ?_ _) | (with_reducible refine Kd.C_drewN ?_ _) | (with_reducible refine Kd.C_drew ?_))); (case side4 => exact (Kd.R_reads' HO250.out).2.1); rintro e w21 ⟨rfl, hb⟩; refine ⟨_, rfl, ?_⟩; have n0_ := Aside0.mk (Kd.R_below (by (with_reducible repeat (first | apply Kd.R_alloc | apply Kd.R_drewN | apply Kd.R_drew)); exact HO247.out) hb); have n1_ := Aside0.mk (Kd.R_below (by (with_reducible repeat (first | apply Kd.R_alloc | apply Kd.R_drewN | apply Kd.R_drew)); exact HO250.out) hb); have n2_ := Aside0.mk (Kd.R_below (by (with_reducible repeat (first | apply Kd.R_alloc | apply Kd.R_drewN | apply Kd.R_drew)); exact HO253.out) hb); have n3_ := Aside0.mk (below_step (by repeat (first | (with_reducible first | exact HB.out | apply below_alloc | apply pw_below_drewN | apply below_drew1) | exact HB.out)) hb); clear HO247; clear HO250; clear HO253; clear HB; have HO247 := n0_; have HO250 := n1_; have HO253 := n2_; have HB := n3_; clear n0_ n1_ n2_ n3_; (try clear hb); (try clear hb2); (try clear hk); (try clear hi)))
      go_ret
      exact ⟨by first | rfl | (simp [errW_none, errW_some] <;> rfl) | (simp [*, errW_none, errW_some] <;> rfl), by repeat (first | (with_reducible first | exact HB.out | apply below_alloc | apply pw_below_drewN | apply below_drew1) | exact HB.out)⟩
     ·rw [if_neg c13] at H
      have c13b0 : ((t251.length : Int) == 0) = false := beq_eq_false_iff_ne.mpr c13
      have c13b1 : ((t251.length : Int) != 0) = true := bne_iff_ne.mpr c13
      have c13b2 : ¬ (t251 = []) := fun h_ => c13 (by rw [h_]; rfl)
      obtain ⟨ji22, hji22⟩ : ∃ j_ : Int, (Int.tmod (wrap64 (a2)) (t251.length : Int)) = j_ := ⟨_, rfl⟩
      replace H : (if 0 ≤ (ji22) then (if (ji22) < (t251.length : Int) then (if (wrap64 (((rd_T26 t251 (ji22)).f0) + 1)) < 1 then (tattinglaw9_LeastRest.j1 kj5 t245 t248 t251 ji22 (wrap64 (((rd_T26 t251 (ji22)).f0) + 1)) (wrap64 (((rd_T26 t251 (ji22)).f1) + 1)) true) else (if (wrap64 (((rd_T26 t251 (ji22)).f1) + 1)) < 1 then (tattinglaw9_LeastRest.j1 kj5 t245 t248 t251 ji22 (wrap64 (((rd_T26 t251 (ji22)).f0) + 1)) (wrap64 (((rd_T26 t251 (ji22)).f1) + 1)) true) else (if (wrap64 (((rd_T26 t251 (ji22)).f0) + 1)) > (t245.length : Int) then (tattinglaw9_LeastRest.j1 kj5 t245 t248 t251 ji22 (wrap64 (((rd_T26 t251 (ji22)).f0) + 1)) (wrap64 (((rd_T26 t251 (ji22)).f1) + 1)) true) else (tattinglaw9_LeastRest.j1 kj5 t245 t248 t251 ji22 (wrap64 (((rd_T26 t251 (ji22)).f0) + 1)) (wrap64 (((rd_T26 t251 (ji22)).f1) + 1)) (decide ((wrap64 (((rd_T26 t251 (ji22)).f1) + 1)) > (t248.length : Int))))))) else (none)) else (none)) = some r := by first | (rw [hji22] at H; exact H) | (simp only [hji22] at H ⊢; exact H)
      (try rw [hji22] at A10)
      (try rw [hji22] at A11)
      (try rw [hji22] at A12)
      by_cases c23 : 0 ≤ (ji22)
      ·rw [if_pos c23] at H
       have c23b0 : decide (0 ≤ (ji22)) = true := decide_eq_true c23
       clear c23
       by_cases c24 : (ji22) < (t251.length : Int)
       ·rw [if_pos c24] at H
        have c24b0 : decide ((ji22) < (t251.length : Int)) = true := decide_eq_true c24
        clear c24
        have HC25 := Aside0.mk H
        clear H
        try go_wp2_with (first | ((with_reducible refine gate_callee (f := 15) rfl ?_); refine goesL_ (some 24) rfl rfl Try.func15 (by kernel_rfl) rfl #[.slice A0 l0.length c0, .int .i64 3] rfl (by (try simp only [List.map_toArray, List.map_cons, List.map_nil]); first | done | rfl | (simp only [List.length_drop, List.length_take]; rfl)) ?_; (with_reducible refine (tattingref1_Few.calls kj5 _ _ l0 3 t245 _ ?side1 ?side2 A10.out).mono ?_); (case side1 => repeat (first | exact (Kd.C_below HR0.out HB.out) | (with_reducible refine Kd.C_alloc ?_ _) | (with_reducible refine Kd.C_drewN ?_ _) | (with_reducible refine Kd.C_drew ?_))); (case side2 => exact HC0.out); rintro e w26 ⟨v246, rfl, ho0, hb⟩; refine ⟨_, rfl, ?_⟩; have n0_ := Aside0.mk (Kd.R_lower ho0 (below_size (by repeat (first | (with_reducible first | exact HB.out | apply below_alloc | apply pw_below_drewN | apply below_drew1) | exact HB.out)))); have n1_ := Aside0.mk (below_step (by repeat (first | (with_reducible first | exact HB.out | apply below_alloc | apply pw_below_drewN | apply below_drew1) | exact HB.out)) hb); clear HB; have HO247 := n0_; have HB := n1_; clear n0_ n1_; (try clear hb); (try clear hb2); (try clear hk); (try clear hi); (try clear ho0)) | ((with_reducible refine gate_callee (f := 15) rfl ?_); refine goesL_ (some 26) rfl rfl Try.func15 (by kernel_rfl) rfl #[.slice A1 l1.length c1, .int .i64 3] rfl (by (try simp only [List.map_toArray, List.map_cons, List.map_nil]); first | done | rfl | (simp only [List.length_drop, List.length_take]; rfl)) ?_; (with_reducible refine (tattingref1_Few.calls kj5 _ _ l1 3 t248 _ ?side1 ?side2 A11.out).mono ?_); (case side1 => repeat (first | exact (Kd.C_below HR1.out HB.out) | (with_reducible refine Kd.C_alloc ?_ _) | (with_reducible refine Kd.C_drewN ?_ _) | (with_reducible refine Kd.C_drew ?_))); (case side2 => exact HC1.out); rintro e w27 ⟨v249, rfl, ho0, hb⟩; refine ⟨_, rfl, ?_⟩; have n0_ := Aside0.mk (Kd.R_elder' (by (with_reducible repeat (first | apply Kd.R_alloc | apply Kd.R_drewN | apply Kd.R_drew)); exact HO247.out) (Kd.R_base ho0) hb); have n1_ := Aside0.mk (Kd.R_lower (Kd.R_new' ho0 (Kd.R_lt (by (with_reducible repeat (first | apply Kd.R_alloc | apply Kd.R_drewN | apply Kd.R_drew)); exact HO247.out))) (below_size (by repeat (first | (with_reducible first | exact HB.out | apply below_alloc | apply pw_below_drewN | apply below_drew1) | exact HB.out)))); have n2_ := Aside0.mk (below_step (by repeat (first | (with_reducible first | exact HB.out | apply below_alloc | apply pw_below_drewN | apply below_drew1) | exact HB.out)) hb); clear HO247; clear HB; have HO247 := n0_; have HO250 := n1_; have HB := n2_; clear n0_ n1_ n2_; (try clear hb); (try clear hb2); (try clear hk); (try clear hi); (try clear ho0); obtain ⟨Ao28, co28, eo28⟩ := Kd.R_slice HO247.out; subst eo28; obtain ⟨Ao29, co29, eo29⟩ := Kd.R_slice HO250.out; subst eo29) | ((with_reducible refine gate_callee (f := 9) rfl ?_); refine goesL_ (some 29) rfl rfl Try.func9 (by kernel_rfl) rfl #[.slice Ao28 t245.length co28, .slice Ao29 t248.length co29] rfl (by (try simp only [List.map_toArray, List.map_cons, List.map_nil]); first | done | rfl | (simp only [List.length_drop, List.length_take]; rfl)) ?_; (with_reducible refine (least_Of.calls kj5 _ _ t245 _ _ t248 t251 _ ?side1 ?side2 ?side3 ?side4 A12.out).mono ?_); (case side1 => repeat (first | exact (Kd.R_reads' HO247.out).2.2 | (with_reducible refine Kd.C_alloc ?_ _) | (with_reducible refine Kd.C_drewN ?_ _) | (with_reducible refine Kd.C_drew ?_))); (case side2 => exact (Kd.R_reads' HO247.out).2.1); (case side3 => repeat (first | exact (Kd.R_reads' HO250.out).2.2 | (with_reducible refine Kd.C_alloc ?_ _) | (with_reducible refine Kd.C_drewN ?_ _) | (with_reducible refine Kd.C_drew ?_))); (case side4 => exact (Kd.R_reads' HO250.out).2.1); rintro e w30 ⟨v252, rfl, ho0, hb⟩; refine ⟨_, rfl, ?_⟩; have n0_ := Aside0.mk (Kd.R_below (by (with_reducible repeat (first | apply Kd.R_alloc | apply Kd.R_drewN | apply Kd.R_drew)); exact HO247.out) hb); have n1_ := Aside0.mk (Kd.R_below (by (with_reducible repeat (first | apply Kd.R_alloc | apply Kd.R_drewN | apply Kd.R_drew)); exact HO250.out) hb); have n2_ := Aside0.mk (Kd.R_lower ho0 (below_size (by repeat (first | (with_reducible first | exact HB.out | apply below_alloc | apply pw_below_drewN | apply below_drew1) | exact HB.out)))); have n3_ := Aside0.mk (below_step (by repeat (first | (with_reducible first | exact HB.out | apply below_alloc | apply pw_below_drewN | apply below_drew1) | exact HB.out)) hb); clear HO247; clear HO250; clear HB; have HO247 := n0_; have HO250 := n1_; have HO253 := n2_; have HB := n3_; clear n0_ n1_ n2_ n3_; (try clear hb); (try clear hb2); (try clear hk); (try clear hi); (try clear ho0); obtain ⟨Ao31, co31, eo31⟩ := Kd.R_slice HO253.out; subst eo31))
        have n0_ := Aside0.mk (Kd.R_drew HO247.out)
        have n1_ := Aside0.mk (Kd.R_drew HO250.out)
        have n2_ := Aside0.mk (Kd.R_drew HO253.out)
        have n3_ := Aside0.mk (below_drew1 HB.out)
        clear HO247
        clear HO250
        clear HO253
        clear HB
        have HO247 := n0_
        have HO250 := n1_
        have HO253 := n2_
        have HB := n3_
        clear n0_ n1_ n2_ n3_
        have p255 : 0 ≤ ((ji22) : Int) := of_decide_eq_true (by first | (with_reducible assumption) | assumption)
        have q255 : (ji22) < (t251.length : Int) := of_decide_eq_true (by first | (with_reducible assumption) | assumption)
        obtain ⟨ad255, e255, hx255_0, hx255_1⟩ := at_T26 (Kd.R_reads' HO253.out).2.2 (ji22) p255 q255
        cases e255
        replace p255 := eq_true p255
        replace q255 := eq_true q255
        have p256 : 0 ≤ ((ji22) : Int) := of_decide_eq_true (by first | (with_reducible assumption) | assumption)
        have q256 : (ji22) < (t251.length : Int) := of_decide_eq_true (by first | (with_reducible assumption) | assumption)
        obtain ⟨ad256, e256, hx256_0, hx256_1⟩ := at_T26 (Kd.R_reads' HO253.out).2.2 (ji22) p256 q256
        obtain rfl : ad255 = ad256 := (by injection e256)
        replace p256 := eq_true p256
        replace q256 := eq_true q256
        refine start_ (n := 14) (S := fun w' => w'.cell? (ad255.add (((ji22)).toNat * 2)) = some (.int .i64 ((rd_T26 t251 (ji22)).f0)) ∧ w'.cell? ⟨(ad255.add (((ji22)).toNat * 2)).block, (ad255.add (((ji22)).toNat * 2)).off + 1, none⟩ = some (.int .i64 ((rd_T26 t251 (ji22)).f1)) ∧ w'.cell? (ad255.add (((ji22)).toNat * 2)) = some (.int .i64 ((rd_T26 t251 (ji22)).f0)) ∧ w'.cell? ⟨(ad255.add (((ji22)).toNat * 2)).block, (ad255.add (((ji22)).toNat * 2)).off + 1, none⟩ = some (.int .i64 ((rd_T26 t251 (ji22)).f1))) (ds := []) #[false,false,false,false,false,false,false,false,false,false,false,false,false,false] (by kernel_rfl) rfl rfl ⟨hx255_0, hx255_1, hx256_0, hx256_1⟩ (fun hHeld => ?_); refine with_tabW tattinglaw9_LeastRest.tab10 tattinglaw9_LeastRest.bits10 (fun HT_ HW_ => ?_)
        generalize w30.drew = w32 at HO247 HO250 HO253 HB hx255_0 hx255_1 hx256_0 hx256_1 hHeld ⊢
        refine pure_ (i := 0) (N := some 42) (v := ?_) (a' := ?_) #[true,false,false,false,false,false,false,false,false,false,false,false,false,false] rfl rfl (any_of HT_.out (by kernel_rfl)) (fun _ _ _ h => h) (Or.inl ⟨by rfl, ?_⟩) ?_ ?_
        rotate_left
        ·intro w'
         go_simp
         with_reducible rfl
        rotate_left
        ·simp only [Act.put, sA,sB,sC, i64_w, i32_w]
         rfl
        refine pure_ (i := 1) (N := some 43) (v := ?_) (a' := ?_) #[true,true,false,false,false,false,false,false,false,false,false,false,false,false] rfl rfl (any_of HT_.out (by kernel_rfl)) (fun _ _ _ h => h) (Or.inl ⟨by rfl, ?_⟩) ?_ ?_
        rotate_left
        ·intro w'
         go_simp
         with_reducible rfl
        rotate_left
        ·simp only [Act.put, sA,sB,sC, i64_w, i32_w]
         rfl
        refine pure_ (i := 2) (N := some 44) (v := ?_) (a' := ?_) #[true,true,true,false,false,false,false,false,false,false,false,false,false,false] rfl rfl (any_of HT_.out (by kernel_rfl)) (fun _ _ _ h => h) (Or.inl ⟨by rfl, ?_⟩) ?_ ?_
        rotate_left
        ·intro w'
         go_simp
         with_reducible rfl
        rotate_left
        ·simp only [Act.put, sA,sB,sC, i64_w, i32_w]
         rfl
        refine pure_ (i := 3) (N := some 45) (v := ?_) (a' := ?_) #[true,true,true,true,false,false,false,false,false,false,false,false,false,false] rfl rfl (any_of HT_.out (by kernel_rfl)) (fun _ _ _ h => h) (Or.inl ⟨by rfl, ?_⟩) ?_ ?_
        rotate_left
        ·intro w'
         go_simp
         with_reducible rfl
        rotate_left
        ·simp only [Act.put, sA,sB,sC, i64_w, i32_w]
         rfl
        refine pure_ (i := 6) (N := some 48) (v := ?_) (a' := ?_) #[true,true,true,true,false,false,true,false,false,false,false,false,false,false] rfl rfl (any_of HT_.out (by kernel_rfl)) (fun _ _ _ h => h) (Or.inl ⟨by rfl, ?_⟩) ?_ ?_
        rotate_left
        ·intro w'
         go_simp
         with_reducible rfl
        rotate_left
        ·simp only [Act.put, sA,sB,sC, i64_w, i32_w]
         rfl
        refine pure_ (i := 7) (N := some 49) (v := ?_) (a' := ?_) #[true,true,true,true,false,false,true,true,false,false,false,false,false,false] rfl rfl (any_of HT_.out (by kernel_rfl)) (fun _ _ _ h => h) (Or.inl ⟨by rfl, ?_⟩) ?_ ?_
        rotate_left
        ·intro w'
         go_simp
         with_reducible rfl
        rotate_left
        ·simp only [Act.put, sA,sB,sC, i64_w, i32_w]
         rfl
        refine pure_ (i := 8) (N := some 50) (v := ?_) (a' := ?_) #[true,true,true,true,false,false,true,true,true,false,false,false,false,false] rfl rfl (any_of HT_.out (by kernel_rfl)) (fun _ _ _ h => h) (Or.inl ⟨by rfl, ?_⟩) ?_ ?_
        rotate_left
        ·intro w'
         go_simp
         with_reducible rfl
        rotate_left
        ·simp only [Act.put, sA,sB,sC, i64_w, i32_w]
         rfl
        refine pure_ (i := 9) (N := some 51) (v := ?_) (a' := ?_) #[true,true,true,true,false,false,true,true,true,true,false,false,false,false] rfl rfl (any_of HT_.out (by kernel_rfl)) (fun _ _ _ h => h) (Or.inl ⟨by rfl, ?_⟩) ?_ ?_
        rotate_left
        ·intro w'
         go_simp
         with_reducible rfl
        rotate_left
        ·simp only [Act.put, sA,sB,sC, i64_w, i32_w]
         rfl
        refine take_ (i := 4) (N := some 46) (v := ?_) (a' := ?_) #[true,true,true,true,true,false,true,true,true,true,false,false,false,false] rfl rfl (take_ofW HT_.out HW_.out (by kernel_rfl)) (fun _ _ _ h => h) (Or.inl ⟨by rfl, ?_⟩) hHeld ?_ ?_
        rotate_left
        ·rintro w' ⟨s0, s1, s2, s3⟩
         go_simp
         with_reducible rfl
        rotate_left
        ·simp only [Act.put, sA,sB,sC, i64_w, i32_w]
         rfl
        refine pure_ (i := 5) (N := some 47) (v := ?_) (a' := ?_) #[true,true,true,true,true,true,true,true,true,true,false,false,false,false] rfl rfl (any_of HT_.out (by kernel_rfl)) (fun _ _ _ h => h) (Or.inl ⟨by rfl, ?_⟩) ?_ ?_
        rotate_left
        ·intro w'
         go_simp
         with_reducible rfl
        rotate_left
        ·simp only [Act.put, sA,sB,sC, i64_w, i32_w]
         rfl
        refine pure_ (i := 12) (N := some 11) (v := ?_) (a' := ?_) #[true,true,true,true,true,true,true,true,true,true,false,false,true,false] rfl rfl (any_of HT_.out (by kernel_rfl)) (fun _ _ _ h => h) (Or.inl ⟨by rfl, ?_⟩) ?_ ?_
        rotate_left
        ·intro w'
         go_simp
         with_reducible rfl
        rotate_left
        ·simp only [Act.put, sA,sB,sC, i64_w, i32_w]
         rfl
        refine take_ (i := 10) (N := some 52) (v := ?_) (a' := ?_) #[true,true,true,true,true,true,true,true,true,true,true,false,true,false] rfl rfl (take_ofW HT_.out HW_.out (by kernel_rfl)) (fun _ _ _ h => h) (Or.inl ⟨by rfl, ?_⟩) hHeld ?_ ?_
        rotate_left
        ·rintro w' ⟨s0, s1, s2, s3⟩
         go_simp
         with_reducible rfl
        rotate_left
        ·simp only [Act.put, sA,sB,sC, i64_w, i32_w]
         rfl
        refine pure_ (i := 11) (N := some 53) (v := ?_) (a' := ?_) #[true,true,true,true,true,true,true,true,true,true,true,true,true,false] rfl rfl (any_of HT_.out (by kernel_rfl)) (fun _ _ _ h => h) (Or.inl ⟨by rfl, ?_⟩) ?_ ?_
        rotate_left
        ·intro w'
         go_simp
         with_reducible rfl
        rotate_left
        ·simp only [Act.put, sA,sB,sC, i64_w, i32_w]
         rfl
        refine pure_ (i := 13) (N := some 12) (v := ?_) (a' := ?_) #[true,true,true,true,true,true,true,true,true,true,true,true,true,true] rfl rfl (any_of HT_.out (by kernel_rfl)) (fun _ _ _ h => h) (Or.inl ⟨by rfl, ?_⟩) ?_ ?_
        rotate_left
        ·intro w'
         go_simp
         with_reducible rfl
        rotate_left
        ·simp only [Act.put, sA,sB,sC, i64_w, i32_w]
         rfl
        refine done_ (done_of HT_.out (by kernel_rfl)) ?_
        go_upto_region 11 with (fail)
        go_cut [71] (fun v71 wc => ∃ (kq : Nat) (x71_24 : Bool), v71 = .bool x71_24 ∧ Aside0 (tattinglaw9_LeastRest.j1 kq t245 t248 t251 ji22 (wrap64 (((rd_T26 t251 (ji22)).f0) + 1)) (wrap64 (((rd_T26 t251 (ji22)).f1) + 1)) x71_24 = some r) ∧ Aside0 (kq ≤ kj5) ∧ Aside0 (Kd.R (Kd.int .i64) 3 wc w.heap.size (fun k_ => some k_ ≠ ((.slice Ao29 t248.length co29) : Value).ownBlock) (.slice Ao28 t245.length co28) t245) ∧ Aside0 (Kd.R (Kd.int .i64) 3 wc w.heap.size (fun k_ => some k_ ≠ ((.slice Ao28 t245.length co28) : Value).ownBlock) (.slice Ao29 t248.length co29) t248) ∧ Aside0 (Kd.R k26 26 wc w.heap.size (fun _ => True) (.slice (some ad255) t251.length co31) t251) ∧ Aside0 (Below w.heap.size w wc))
        case first =>
         have H := HC25.out
         clear HC25
         by_cases c33 : (wrap64 (((rd_T26 t251 (ji22)).f0) + 1)) < 1
         ·rw [if_pos c33] at H
          have c33b0 : decide ((wrap64 (((rd_T26 t251 (ji22)).f0) + 1)) < 1) = true := decide_eq_true c33
          clear c33
          (first | rw [c33b0] | (simp only [i64_w, i32_w]; rw [c33b0]) | skip)
          have H' := Aside0.mk H
          clear H
          go_wp2
          go_meet
          case rel => exact ⟨_, (true), (by first | rfl | (simp; done) | (simp [*]; done)), H', ⟨by have := HJ5.out; first | omega | exact Nat.le_refl _⟩, ⟨by (with_reducible repeat (first | apply Kd.R_alloc | apply Kd.R_drewN | apply Kd.R_drew)); exact Kd.R_mono HO247.out (fun _ hk => hk.2)⟩, ⟨by (with_reducible repeat (first | apply Kd.R_alloc | apply Kd.R_drewN | apply Kd.R_drew)); exact Kd.R_mono HO250.out (fun _ hk => hk.2)⟩, ⟨by (with_reducible repeat (first | apply Kd.R_alloc | apply Kd.R_drewN | apply Kd.R_drew)); exact HO253.out⟩, ⟨by repeat (first | (with_reducible first | exact HB.out | apply below_alloc | apply pw_below_drewN | apply below_drew1) | exact HB.out)⟩⟩
         ·rw [if_neg c33] at H
          have c33b0 : decide ((wrap64 (((rd_T26 t251 (ji22)).f0) + 1)) < 1) = false := decide_eq_false c33
          clear c33
          (first | rw [c33b0] | (simp only [i64_w, i32_w]; rw [c33b0]) | skip)
          by_cases c34 : (wrap64 (((rd_T26 t251 (ji22)).f1) + 1)) < 1
          ·rw [if_pos c34] at H
           have c34b0 : decide ((wrap64 (((rd_T26 t251 (ji22)).f1) + 1)) < 1) = true := decide_eq_true c34
           clear c34
           have H' := Aside0.mk H
           clear H
           go_wp2
           go_meet
           case rel => exact ⟨_, (true), (by first | rfl | (simp; done) | (simp [*]; done)), H', ⟨by have := HJ5.out; first | omega | exact Nat.le_refl _⟩, ⟨by (with_reducible repeat (first | apply Kd.R_alloc | apply Kd.R_drewN | apply Kd.R_drew)); exact Kd.R_mono HO247.out (fun _ hk => hk.2)⟩, ⟨by (with_reducible repeat (first | apply Kd.R_alloc | apply Kd.R_drewN | apply Kd.R_drew)); exact Kd.R_mono HO250.out (fun _ hk => hk.2)⟩, ⟨by (with_reducible repeat (first | apply Kd.R_alloc | apply Kd.R_drewN | apply Kd.R_drew)); exact HO253.out⟩, ⟨by repeat (first | (with_reducible first | exact HB.out | apply below_alloc | apply pw_below_drewN | apply below_drew1) | exact HB.out)⟩⟩
          ·rw [if_neg c34] at H
           have c34b0 : decide ((wrap64 (((rd_T26 t251 (ji22)).f1) + 1)) < 1) = false := decide_eq_false c34
           clear c34
           by_cases c35 : (wrap64 (((rd_T26 t251 (ji22)).f0) + 1)) > (t245.length : Int)
           ·rw [if_pos c35] at H
            have c35b0 : decide ((t245.length : Int) < (wrap64 (((rd_T26 t251 (ji22)).f0) + 1))) = true := decide_eq_true c35
            clear c35
            have H' := Aside0.mk H
            clear H
            go_wp2
            go_meet
            case rel => exact ⟨_, (true), (by first | rfl | (simp; done) | (simp [*]; done)), H', ⟨by have := HJ5.out; first | omega | exact Nat.le_refl _⟩, ⟨by (with_reducible repeat (first | apply Kd.R_alloc | apply Kd.R_drewN | apply Kd.R_drew)); exact Kd.R_mono HO247.out (fun _ hk => hk.2)⟩, ⟨by (with_reducible repeat (first | apply Kd.R_alloc | apply Kd.R_drewN | apply Kd.R_drew)); exact Kd.R_mono HO250.out (fun _ hk => hk.2)⟩, ⟨by (with_reducible repeat (first | apply Kd.R_alloc | apply Kd.R_drewN | apply Kd.R_drew)); exact HO253.out⟩, ⟨by repeat (first | (with_reducible first | exact HB.out | apply below_alloc | apply pw_below_drewN | apply below_drew1) | exact HB.out)⟩⟩
           ·rw [if_neg c35] at H
            have c35b0 : decide ((t245.length : Int) < (wrap64 (((rd_T26 t251 (ji22)).f0) + 1))) = false := decide_eq_false c35
            clear c35
            have H' := Aside0.mk H
            clear H
            go_wp2
            go_meet
            case rel => exact ⟨_, (decide ((wrap64 (((rd_T26 t251 (ji22)).f1) + 1)) > (t248.length : Int))), (by first | rfl | (simp; done) | (simp only [← hji22] <;> (first | rfl | simp)) | (simp [*]; done)), H', ⟨by have := HJ5.out; first | omega | exact Nat.le_refl _⟩, ⟨by (with_reducible repeat (first | apply Kd.R_alloc | apply Kd.R_drewN | apply Kd.R_drew)); exact Kd.R_mono HO247.out (fun _ hk => hk.2)⟩, ⟨by (with_reducible repeat (first | apply Kd.R_alloc | apply Kd.R_drewN | apply Kd.R_drew)); exact Kd.R_mono HO250.out (fun _ hk => hk.2)⟩, ⟨by (with_reducible repeat (first | apply Kd.R_alloc | apply Kd.R_drewN | apply Kd.R_drew)); exact HO253.out⟩, ⟨by repeat (first | (with_reducible first | exact HB.out | apply below_alloc | apply pw_below_drewN | apply below_drew1) | exact HB.out)⟩⟩
        case rest =>
         clear HC25
         try clear c1
         try clear c2
         try clear p2
         try clear q2
         try clear hx2
         try clear c3
         try clear c5
         try clear p6
         try clear c7
         try clear c8
         try clear c8b0
         try clear c8b1
         try clear c9
         try clear c11
         try clear c13
         try clear c13b0
         try clear c13b1
         try clear c13b2
         try clear c15
         try clear c16
         try clear c23
         try clear c23b0
         try clear c24
         try clear c24b0
         try clear p25
         try clear q25
         try clear hx25
         try clear c33
         try clear c33b0
         try clear c34
         try clear c34b0
         try clear c35
         try clear c35b0
         try clear hx255_0
         try clear hx255_1
         try clear hx256_0
         try clear hx256_1
         try clear p2
         try clear p255
         try clear p256
         try clear q255
         try clear q256
         obtain ⟨kq, x71_24, rfl, HA, HJ24, HO_7, HO_8, HO_9, HB⟩ := hcut
         cases kq with
         | zero => exact absurd HA.out (by simp [tattinglaw9_LeastRest.j1])
         | succ kj24 =>
          have H := HA.out
          clear HA
          simp only [tattinglaw9_LeastRest.j1] at H
          by_cases c36 : x71_24 = true
          ·subst c36
           have H1 : (some false) = some r := by rw [if_pos rfl] at H; exact H
           clear H
           have H := H1
           clear H1
           obtain rfl := Option.some.inj H
           go_wp2
           go_ret
           exact ⟨by first | rfl | (simp [errW_none, errW_some] <;> rfl) | (simp only [← hji22]; first | rfl | (simp [errW_none, errW_some] <;> rfl)) | (simp [*, errW_none, errW_some] <;> rfl), by repeat (first | (with_reducible first | exact HB.out | apply below_alloc | apply pw_below_drewN | apply below_drew1) | exact HB.out)⟩
          ·replace c36 := Bool.eq_false_iff.mpr c36
           subst c36
           have H1 : (if 0 ≤ (wrap64 (ji22 + 1)) then (if (wrap64 (ji22 + 1)) ≤ (t251.length : Int) then (if 0 ≤ (wrap64 (((rd_T26 t251 (ji22)).f0) + 1)) then (if (wrap64 (((rd_T26 t251 (ji22)).f0) + 1)) ≤ (t245.length : Int) then (if 0 ≤ (wrap64 (((rd_T26 t251 (ji22)).f1) + 1)) then (if (wrap64 (((rd_T26 t251 (ji22)).f1) + 1)) ≤ (t248.length : Int) then ((least_Of.f kj24 (t245.drop ((wrap64 (((rd_T26 t251 (ji22)).f0) + 1)) : Int).toNat) (t248.drop ((wrap64 (((rd_T26 t251 (ji22)).f1) + 1)) : Int).toNat)).bind fun t269 => ((tattingref7_Move.f kj24 t269 (wrap64 (((rd_T26 t251 (ji22)).f0) + 1)) (wrap64 (((rd_T26 t251 (ji22)).f1) + 1))).bind fun t272 => ((tattingref1_SamePairs.f kj24 (t251.drop ((wrap64 (ji22 + 1)) : Int).toNat) t272).bind fun t275 => (some t275)))) else (none)) else (none)) else (none)) else (none)) else (none)) else (none)) = some r := by rw [if_neg (show ¬ (false = true) by decide)] at H; exact H
           clear H
           have H := H1
           clear H1
           obtain ⟨ji37, hji37⟩ : ∃ j_ : Int, (wrap64 (ji22 + 1)) = j_ := ⟨_, rfl⟩
           replace H : (if 0 ≤ (ji37) then (if (ji37) ≤ (t251.length : Int) then (if 0 ≤ (wrap64 (((rd_T26 t251 (ji22)).f0) + 1)) then (if (wrap64 (((rd_T26 t251 (ji22)).f0) + 1)) ≤ (t245.length : Int) then (if 0 ≤ (wrap64 (((rd_T26 t251 (ji22)).f1) + 1)) then (if (wrap64 (((rd_T26 t251 (ji22)).f1) + 1)) ≤ (t248.length : Int) then ((least_Of.f kj24 (t245.drop ((wrap64 (((rd_T26 t251 (ji22)).f0) + 1)) : Int).toNat) (t248.drop ((wrap64 (((rd_T26 t251 (ji22)).f1) + 1)) : Int).toNat)).bind fun t269 => ((tattingref7_Move.f kj24 t269 (wrap64 (((rd_T26 t251 (ji22)).f0) + 1)) (wrap64 (((rd_T26 t251 (ji22)).f1) + 1))).bind fun t272 => ((tattingref1_SamePairs.f kj24 (t251.drop ((ji37) : Int).toNat) t272).bind fun t275 => (some t275)))) else (none)) else (none)) else (none)) else (none)) else (none)) else (none)) = some r := by first | (rw [hji37] at H; exact H) | (simp only [hji37] at H ⊢; exact H)
           have hji37w : (IntKind.i64.wrap (ji22 + 1)) = ji37 := (i64_w _).trans hji37
           by_cases c38 : 0 ≤ (ji37)
           ·rw [if_pos c38] at H
            have c38b0 := eq_true c38
            have c38b1 : decide (0 ≤ (ji37)) = true := decide_eq_true c38
            clear c38
            by_cases c39 : (ji37) ≤ (t251.length : Int)
            ·rw [if_pos c39] at H
             have c39b0 := eq_true c39
             have c39b1 : decide ((ji37) ≤ (t251.length : Int)) = true := decide_eq_true c39
             clear c39
             obtain ⟨y257, hy257⟩ : ∃ y_ : List (S26), y_ = (t251.drop ((ji37) : Int).toNat) := ⟨_, rfl⟩
             replace H : (if 0 ≤ (wrap64 (((rd_T26 t251 (ji22)).f0) + 1)) then (if (wrap64 (((rd_T26 t251 (ji22)).f0) + 1)) ≤ (t245.length : Int) then (if 0 ≤ (wrap64 (((rd_T26 t251 (ji22)).f1) + 1)) then (if (wrap64 (((rd_T26 t251 (ji22)).f1) + 1)) ≤ (t248.length : Int) then ((least_Of.f kj24 (t245.drop ((wrap64 (((rd_T26 t251 (ji22)).f0) + 1)) : Int).toNat) (t248.drop ((wrap64 (((rd_T26 t251 (ji22)).f1) + 1)) : Int).toNat)).bind fun t269 => ((tattingref7_Move.f kj24 t269 (wrap64 (((rd_T26 t251 (ji22)).f0) + 1)) (wrap64 (((rd_T26 t251 (ji22)).f1) + 1))).bind fun t272 => ((tattingref1_SamePairs.f kj24 y257 t272).bind fun t275 => (some t275)))) else (none)) else (none)) else (none)) else (none)) = some r := by first | (rw [hy257]; with_reducible exact H) | (have H2_ := (Option.bind_some _ _).symm.trans H; rw [hy257]; with_reducible exact H2_) | (have H2_ := (Option.bind_some _ _).symm.trans H; with_reducible exact H2_) | with_reducible exact H | (rw [hy257]; exact H) | exact H
             have Ny257 := Aside0.mk hy257
             clear hy257
             obtain ⟨ji40, hji40⟩ : ∃ j_ : Int, (wrap64 (((rd_T26 t251 (ji22)).f0) + 1)) = j_ := ⟨_, rfl⟩
             replace H : (if 0 ≤ (ji40) then (if (ji40) ≤ (t245.length : Int) then (if 0 ≤ (wrap64 (((rd_T26 t251 (ji22)).f1) + 1)) then (if (wrap64 (((rd_T26 t251 (ji22)).f1) + 1)) ≤ (t248.length : Int) then ((least_Of.f kj24 (t245.drop ((ji40) : Int).toNat) (t248.drop ((wrap64 (((rd_T26 t251 (ji22)).f1) + 1)) : Int).toNat)).bind fun t269 => ((tattingref7_Move.f kj24 t269 (ji40) (wrap64 (((rd_T26 t251 (ji22)).f1) + 1))).bind fun t272 => ((tattingref1_SamePairs.f kj24 y257 t272).bind fun t275 => (some t275)))) else (none)) else (none)) else (none)) else (none)) = some r := by first | (rw [hji40] at H; exact H) | (simp only [hji40] at H ⊢; exact H)
             have hji40w : (IntKind.i64.wrap (((rd_T26 t251 (ji22)).f0) + 1)) = ji40 := (i64_w _).trans hji40
             by_cases c41 : 0 ≤ (ji40)
             ·rw [if_pos c41] at H
              have c41b0 := eq_true c41
              have c41b1 : decide (0 ≤ (ji40)) = true := decide_eq_true c41
              clear c41
              by_cases c42 : (ji40) ≤ (t245.length : Int)
              ·rw [if_pos c42] at H
               have c42b0 := eq_true c42
               have c42b1 : decide ((ji40) ≤ (t245.length : Int)) = true := decide_eq_true c42
               clear c42
               obtain ⟨y261, hy261⟩ : ∃ y_ : List Int, y_ = (t245.drop ((ji40) : Int).toNat) := ⟨_, rfl⟩
               replace H : (if 0 ≤ (wrap64 (((rd_T26 t251 (ji22)).f1) + 1)) then (if (wrap64 (((rd_T26 t251 (ji22)).f1) + 1)) ≤ (t248.length : Int) then ((least_Of.f kj24 y261 (t248.drop ((wrap64 (((rd_T26 t251 (ji22)).f1) + 1)) : Int).toNat)).bind fun t269 => ((tattingref7_Move.f kj24 t269 (ji40) (wrap64 (((rd_T26 t251 (ji22)).f1) + 1))).bind fun t272 => ((tattingref1_SamePairs.f kj24 y257 t272).bind fun t275 => (some t275)))) else (none)) else (none)) = some r := by first | (rw [hy261]; with_reducible exact H) | (have H2_ := (Option.bind_some _ _).symm.trans H; rw [hy261]; with_reducible exact H2_) | (have H2_ := (Option.bind_some _ _).symm.trans H; with_reducible exact H2_) | with_reducible exact H | (rw [hy261]; exact H) | exact H
               have Ny261 := Aside0.mk hy261
               clear hy261
               obtain ⟨ji43, hji43⟩ : ∃ j_ : Int, (wrap64 (((rd_T26 t251 (ji22)).f1) + 1)) = j_ := ⟨_, rfl⟩
               replace H : (if 0 ≤ (ji43) then (if (ji43) ≤ (t248.length : Int) then ((least_Of.f kj24 y261 (t248.drop ((ji43) : Int).toNat)).bind fun t269 => ((tattingref7_Move.f kj24 t269 (ji40) (ji43)).bind fun t272 => ((tattingref1_SamePairs.f kj24 y257 t272).bind fun t275 => (some t275)))) else (none)) else (none)) = some r := by first | (rw [hji43] at H; exact H) | (simp only [hji43] at H ⊢; exact H)
               have hji43w : (IntKind.i64.wrap (((rd_T26 t251 (ji22)).f1) + 1)) = ji43 := (i64_w _).trans hji43
               by_cases c44 : 0 ≤ (ji43)
               ·rw [if_pos c44] at H
                have c44b0 := eq_true c44
                have c44b1 : decide (0 ≤ (ji43)) = true := decide_eq_true c44
                clear c44
                by_cases c45 : (ji43) ≤ (t248.length : Int)
                ·rw [if_pos c45] at H
                 have c45b0 := eq_true c45
                 have c45b1 : decide ((ji43) ≤ (t248.length : Int)) = true := decide_eq_true c45
                 clear c45
                 obtain ⟨y265, hy265⟩ : ∃ y_ : List Int, y_ = (t248.drop ((ji43) : Int).toNat) := ⟨_, rfl⟩
                 replace H : ((least_Of.f kj24 y261 y265).bind fun t269 => ((tattingref7_Move.f kj24 t269 (ji40) (ji43)).bind fun t272 => ((tattingref1_SamePairs.f kj24 y257 t272).bind fun t275 => (some t275)))) = some r := by first | (rw [hy265]; with_reducible exact H) | (have H2_ := (Option.bind_some _ _).symm.trans H; rw [hy265]; with_reducible exact H2_) | (have H2_ := (Option.bind_some _ _).symm.trans H; with_reducible exact H2_) | with_reducible exact H | (rw [hy265]; exact H) | exact H
                 have Ny265 := Aside0.mk hy265
                 clear hy265
                 replace H := Option.bind_eq_some_iff.mp H
                 obtain ⟨t269, A460, H⟩ := H
                 replace H : ((tattingref7_Move.f kj24 t269 (ji40) (ji43)).bind fun t272 => ((tattingref1_SamePairs.f kj24 y257 t272).bind fun t275 => (some t275))) = some r := H
                 have A46 := Aside0.mk A460
                 clear A460
                 replace H := Option.bind_eq_some_iff.mp H
                 obtain ⟨t272, A470, H⟩ := H
                 replace H : ((tattingref1_SamePairs.f kj24 y257 t272).bind fun t275 => (some t275)) = some r := H
                 have A47 := Aside0.mk A470
                 clear A470
                 replace H := Option.bind_eq_some_iff.mp H
                 obtain ⟨t275, A480, H⟩ := H
                 replace H : (some t275) = some r := H
                 have A48 := Aside0.mk A480
                 clear A480
                 obtain rfl := Option.some.inj H
                 try go_wp2
                 have n0_ := Aside0.mk (Kd.R_drew HO_7.out)
                 have n1_ := Aside0.mk (Kd.R_drew HO_8.out)
                 have n2_ := Aside0.mk (Kd.R_drew HO_9.out)
                 have n3_ := Aside0.mk (below_drew1 HB.out)
                 clear HO_7
                 clear HO_8
                 clear HO_9
                 clear HB
                 have HO_7 := n0_
                 have HO_8 := n1_
                 have HO_9 := n2_
                 have HB := n3_
                 clear n0_ n1_ n2_ n3_
                 have q50 : ((ji37) : Int) ≤ ((t251.length : Int) : Int) := of_decide_eq_true (by first | (with_reducible assumption) | assumption)
                 obtain ⟨i050, hi050, _, hsz50, _⟩ := info_parts info26
                 have hroom50 : t251.length ≤ co31 := (Kd.R_reads' HO_9.out).2.1
                 have hC50 : Kd.C k26 _ (some ad255) t251.length t251 := (Kd.R_reads' HO_9.out).2.2
                 have q050 : (0 : Int) ≤ ((ji37) : Int) := of_decide_eq_true (by first | (with_reducible assumption) | assumption)
                 have hcut50 := cut_from (P := Try.prog) 22 26 .i64 Try.underlying22 hi050 2 hsz50 (some ad255) t251.length co31 (ji37) q050 q50
                 have hr50 := Kd.C_drop (m := ((ji37) : Int).toNat) (c := co31) hC50 (by omega) hroom50
                 obtain ⟨A50, hA50⟩ : ∃ A1, A1 = (if co31 = ((ji37) : Int).toNat then (some ad255) else ((some ad255) : Option Addr).map (·.add (((ji37) : Int).toNat * 2))) := ⟨_, rfl⟩
                 obtain ⟨c50, hc50⟩ : ∃ c1, c1 = co31 - ((ji37) : Int).toNat := ⟨_, rfl⟩
                 have hy50 : y257.length = t251.length - ((ji37) : Int).toNat := (by rw [Ny257.out, List.length_drop] <;> omega)
                 rw [show (t251).drop ((ji37) : Int).toNat = y257 from Ny257.out.symm] at hr50
                 replace hr50 : Kd.C k26 _ A50 y257.length y257 := (by rw [hA50]; exact hr50)
                 rw [← hy50, ← hA50, ← hc50] at hcut50
                 have HR260 := Aside0.mk hr50
                 have HC260 := Aside0.mk (show y257.length ≤ c50 from by rw [hy50, hc50]; exact Nat.sub_le_sub_right hroom50 _)
                 clear hr50 hC50 hroom50 hi050 hsz50 hc50
                 have KY50 := Aside0.mk hy50
                 have KA50 := Aside0.mk hA50
                 clear hy50 hA50
                 have KL50 := Aside0.mk (show ((ji37) : Int).toNat ≤ t251.length from by omega)
                 replace q50 := eq_true q50
                 have q51 : ((ji40) : Int) ≤ ((t245.length : Int) : Int) := of_decide_eq_true (by first | (with_reducible assumption) | assumption)
                 obtain ⟨i051, hi051, _, hsz51, _⟩ := info_parts info3
                 have hroom51 : t245.length ≤ co28 := (Kd.R_reads' HO_7.out).2.1
                 have hC51 : Kd.C (Kd.int .i64) _ Ao28 t245.length t245 := (Kd.R_reads' HO_7.out).2.2
                 have q051 : (0 : Int) ≤ ((ji40) : Int) := of_decide_eq_true (by first | (with_reducible assumption) | assumption)
                 have hcut51 := cut_from (P := Try.prog) 24 3 .i64 Try.underlying24 hi051 1 hsz51 Ao28 t245.length co28 (ji40) q051 q51
                 have hr51 := Kd.C_drop (m := ((ji40) : Int).toNat) (c := co28) hC51 (by omega) hroom51
                 obtain ⟨A51, hA51⟩ : ∃ A1, A1 = (if co28 = ((ji40) : Int).toNat then Ao28 else (Ao28 : Option Addr).map (·.add (((ji40) : Int).toNat * 1))) := ⟨_, rfl⟩
                 obtain ⟨c51, hc51⟩ : ∃ c1, c1 = co28 - ((ji40) : Int).toNat := ⟨_, rfl⟩
                 have hy51 : y261.length = t245.length - ((ji40) : Int).toNat := (by rw [Ny261.out, List.length_drop] <;> omega)
                 rw [show (t245).drop ((ji40) : Int).toNat = y261 from Ny261.out.symm] at hr51
                 replace hr51 : Kd.C (Kd.int .i64) _ A51 y261.length y261 := (by rw [hA51]; exact hr51)
                 rw [← hy51, ← hA51, ← hc51] at hcut51
                 have HR264 := Aside0.mk hr51
                 have HC264 := Aside0.mk (show y261.length ≤ c51 from by rw [hy51, hc51]; exact Nat.sub_le_sub_right hroom51 _)
                 clear hr51 hC51 hroom51 hi051 hsz51 hc51
                 have KY51 := Aside0.mk hy51
                 have KA51 := Aside0.mk hA51
                 clear hy51 hA51
                 have KL51 := Aside0.mk (show ((ji40) : Int).toNat ≤ t245.length from by omega)
                 replace q51 := eq_true q51
                 have q52 : ((ji43) : Int) ≤ ((t248.length : Int) : Int) := of_decide_eq_true (by first | (with_reducible assumption) | assumption)
                 obtain ⟨i052, hi052, _, hsz52, _⟩ := info_parts info3
                 have hroom52 : t248.length ≤ co29 := (Kd.R_reads' HO_8.out).2.1
                 have hC52 : Kd.C (Kd.int .i64) _ Ao29 t248.length t248 := (Kd.R_reads' HO_8.out).2.2
                 have q052 : (0 : Int) ≤ ((ji43) : Int) := of_decide_eq_true (by first | (with_reducible assumption) | assumption)
                 have hcut52 := cut_from (P := Try.prog) 24 3 .i64 Try.underlying24 hi052 1 hsz52 Ao29 t248.length co29 (ji43) q052 q52
                 have hr52 := Kd.C_drop (m := ((ji43) : Int).toNat) (c := co29) hC52 (by omega) hroom52
                 obtain ⟨A52, hA52⟩ : ∃ A1, A1 = (if co29 = ((ji43) : Int).toNat then Ao29 else (Ao29 : Option Addr).map (·.add (((ji43) : Int).toNat * 1))) := ⟨_, rfl⟩
                 obtain ⟨c52, hc52⟩ : ∃ c1, c1 = co29 - ((ji43) : Int).toNat := ⟨_, rfl⟩
                 have hy52 : y265.length = t248.length - ((ji43) : Int).toNat := (by rw [Ny265.out, List.length_drop] <;> omega)
                 rw [show (t248).drop ((ji43) : Int).toNat = y265 from Ny265.out.symm] at hr52
                 replace hr52 : Kd.C (Kd.int .i64) _ A52 y265.length y265 := (by rw [hA52]; exact hr52)
                 rw [← hy52, ← hA52, ← hc52] at hcut52
                 have HR268 := Aside0.mk hr52
                 have HC268 := Aside0.mk (show y265.length ≤ c52 from by rw [hy52, hc52]; exact Nat.sub_le_sub_right hroom52 _)
                 clear hr52 hC52 hroom52 hi052 hsz52 hc52
                 have KY52 := Aside0.mk hy52
                 have KA52 := Aside0.mk hA52
                 clear hy52 hA52
                 have KL52 := Aside0.mk (show ((ji43) : Int).toNat ≤ t248.length from by omega)
                 replace q52 := eq_true q52
                 refine start_ (n := 16) (S := fun w' => True) (ds := []) #[false,false,false,false,false,false,false,false,false,false,false,false,false,false,false,false] (by kernel_rfl) rfl rfl trivial (fun hHeld => ?_); refine with_tabW tattinglaw9_LeastRest.tab13 tattinglaw9_LeastRest.bits13 (fun HT_ HW_ => ?_)
                 generalize wc.drew = w49 at HO_7 HO_8 HO_9 HB HR260 HR264 HR268 hHeld ⊢
                 refine pure_ (i := 0) (N := some 72) (v := ?_) (a' := ?_) #[true,false,false,false,false,false,false,false,false,false,false,false,false,false,false,false] rfl rfl (any_of HT_.out (by kernel_rfl)) (fun _ _ _ h => h) (Or.inl ⟨by rfl, ?_⟩) ?_ ?_
                 rotate_left
                 ·intro w'
                  go_simp
                  with_reducible rfl
                 rotate_left
                 ·simp only [Act.put, sA,sB,sC, i64_w, i32_w]
                  rfl
                 refine pure_ (i := 1) (N := some 73) (v := ?_) (a' := ?_) #[true,true,false,false,false,false,false,false,false,false,false,false,false,false,false,false] rfl rfl (any_of HT_.out (by kernel_rfl)) (fun _ _ _ h => h) (Or.inl ⟨by rfl, ?_⟩) ?_ ?_
                 rotate_left
                 ·intro w'
                  go_simp
                  with_reducible rfl
                 rotate_left
                 ·simp only [Act.put, sA,sB,sC, i64_w, i32_w]
                  rfl
                 refine pure_ (i := 2) (N := some 74) (v := ?_) (a' := ?_) #[true,true,true,false,false,false,false,false,false,false,false,false,false,false,false,false] rfl rfl (any_of HT_.out (by kernel_rfl)) (fun _ _ _ h => h) (Or.inl ⟨by rfl, ?_⟩) ?_ ?_
                 rotate_left
                 ·intro w'
                  go_simp
                  with_reducible rfl
                 rotate_left
                 ·simp only [Act.put, sA,sB,sC, i64_w, i32_w]
                  rfl
                 refine pure_ (i := 3) (N := some 75) (v := ?_) (a' := ?_) #[true,true,true,true,false,false,false,false,false,false,false,false,false,false,false,false] rfl rfl (any_of HT_.out (by kernel_rfl)) (fun _ _ _ h => h) (Or.inl ⟨by rfl, ?_⟩) ?_ ?_
                 rotate_left
                 ·intro w'
                  go_simp
                  with_reducible rfl
                 rotate_left
                 ·simp only [Act.put, sA,sB,sC, i64_w, i32_w]
                  rfl
                 refine pure_ (i := 4) (N := some 76) (v := ?_) (a' := ?_) #[true,true,true,true,true,false,false,false,false,false,false,false,false,false,false,false] rfl rfl (any_of HT_.out (by kernel_rfl)) (fun _ _ _ h => h) (Or.inl ⟨by rfl, ?_⟩) ?_ ?_
                 rotate_left
                 ·intro w'
                  go_simp
                  with_reducible rfl
                 rotate_left
                 ·simp only [Act.put, sA,sB,sC, i64_w, i32_w]
                  rfl
                 refine pure_ (i := 5) (N := some 77) (v := ?_) (a' := ?_) #[true,true,true,true,true,true,false,false,false,false,false,false,false,false,false,false] rfl rfl (any_of HT_.out (by kernel_rfl)) (fun _ _ _ h => h) (Or.inl ⟨by rfl, ?_⟩) ?_ ?_
                 rotate_left
                 ·intro w'
                  go_simp
                  with_reducible rfl
                 rotate_left
                 ·simp only [Act.put, sA,sB,sC, i64_w, i32_w]
                  rfl
                 refine pure_ (i := 6) (N := some 78) (v := ?_) (a' := ?_) #[true,true,true,true,true,true,true,false,false,false,false,false,false,false,false,false] rfl rfl (any_of HT_.out (by kernel_rfl)) (fun _ _ _ h => h) (Or.inl ⟨by rfl, ?_⟩) ?_ ?_
                 rotate_left
                 ·intro w'
                  go_simp
                  with_reducible rfl
                 rotate_left
                 ·simp only [Act.put, sA,sB,sC, i64_w, i32_w]
                  rfl
                 refine pure_ (i := 7) (N := some 79) (v := ?_) (a' := ?_) #[true,true,true,true,true,true,true,true,false,false,false,false,false,false,false,false] rfl rfl (any_of HT_.out (by kernel_rfl)) (fun _ _ _ h => h) (Or.inl ⟨by rfl, ?_⟩) ?_ ?_
                 rotate_left
                 ·intro w'
                  go_simp
                  with_reducible rfl
                 rotate_left
                 ·simp only [Act.put, sA,sB,sC, i64_w, i32_w]
                  rfl
                 refine pure_ (i := 8) (N := some 80) (v := ?_) (a' := ?_) #[true,true,true,true,true,true,true,true,true,false,false,false,false,false,false,false] rfl rfl (any_of HT_.out (by kernel_rfl)) (fun _ _ _ h => h) (Or.inl ⟨by rfl, ?_⟩) ?_ ?_
                 rotate_left
                 ·intro w'
                  go_simp
                  with_reducible rfl
                 rotate_left
                 ·simp only [Act.put, sA,sB,sC, i64_w, i32_w]
                  rfl
                 refine pure_ (i := 9) (N := some 81) (v := ?_) (a' := ?_) #[true,true,true,true,true,true,true,true,true,true,false,false,false,false,false,false] rfl rfl (any_of HT_.out (by kernel_rfl)) (fun _ _ _ h => h) (Or.inl ⟨by rfl, ?_⟩) ?_ ?_
                 rotate_left
                 ·intro w'
                  go_simp
                  with_reducible rfl
                 rotate_left
                 ·simp only [Act.put, sA,sB,sC, i64_w, i32_w]
                  rfl
                 refine pure_ (i := 11) (N := some 83) (v := ?_) (a' := ?_) #[true,true,true,true,true,true,true,true,true,true,false,true,false,false,false,false] rfl rfl (any_of HT_.out (by kernel_rfl)) (fun _ _ _ h => h) (Or.inl ⟨by rfl, ?_⟩) ?_ ?_
                 rotate_left
                 ·intro w'
                  go_simp
                  with_reducible rfl
                 rotate_left
                 ·simp only [Act.put, sA,sB,sC, i64_w, i32_w]
                  rfl
                 refine pure_ (i := 12) (N := some 84) (v := ?_) (a' := ?_) #[true,true,true,true,true,true,true,true,true,true,false,true,true,false,false,false] rfl rfl (any_of HT_.out (by kernel_rfl)) (fun _ _ _ h => h) (Or.inl ⟨by rfl, ?_⟩) ?_ ?_
                 rotate_left
                 ·intro w'
                  go_simp
                  with_reducible rfl
                 rotate_left
                 ·simp only [Act.put, sA,sB,sC, i64_w, i32_w]
                  rfl
                 refine one_ (i := 10) (N := some 82) #[true,true,true,true,true,true,true,true,true,true,true,true,true,false,false,false] rfl rfl (one_of HT_.out (by kernel_rfl)) (by decide) (fun K hK => ?_)
                 refine goes_ Try.func9 (by kernel_rfl) rfl #[.slice A51 y261.length c51, .slice A52 y265.length c52] (by rfl) rfl rfl (by (try simp only [List.map_toArray, List.map_cons, List.map_nil]); first | done | rfl | (simp only [List.length_drop, List.length_take]; rfl)) ?_
                 with_reducible refine (least_Of.calls kj24 _ _ y261 _ _ y265 t269 _ ?side1 ?side2 ?side3 ?side4 A46.out).mono ?_
                 (case side1 => repeat (first | exact (by repeat (first | (with_reducible exact HR264.out) | (with_reducible refine Kd.C_alloc ?_ _) | (with_reducible refine Kd.C_drewN ?_ _) | (with_reducible refine Kd.C_drew ?_) | exact HR264.out)) | (with_reducible refine Kd.C_alloc ?_ _) | (with_reducible refine Kd.C_drewN ?_ _) | (with_reducible refine Kd.C_drew ?_)))
                 (case side2 => exact HC264.out)
                 (case side3 => repeat (first | exact (by repeat (first | (with_reducible exact HR268.out) | (with_reducible refine Kd.C_alloc ?_ _) | (with_reducible refine Kd.C_drewN ?_ _) | (with_reducible refine Kd.C_drew ?_) | exact HR268.out)) | (with_reducible refine Kd.C_alloc ?_ _) | (with_reducible refine Kd.C_drewN ?_ _) | (with_reducible refine Kd.C_drew ?_)))
                 (case side4 => exact HC268.out)
                 rintro e w53 ⟨v270, rfl, ho0, hb⟩
                 refine ⟨_, rfl, ?_⟩
                 have n0_ := Aside0.mk (Kd.R_below (by (with_reducible repeat (first | apply Kd.R_alloc | apply Kd.R_drewN | apply Kd.R_drew)); exact HO_7.out) hb)
                 have n1_ := Aside0.mk (Kd.R_below (by (with_reducible repeat (first | apply Kd.R_alloc | apply Kd.R_drewN | apply Kd.R_drew)); exact HO_8.out) hb)
                 have n2_ := Aside0.mk (Kd.R_elder' (by (with_reducible repeat (first | apply Kd.R_alloc | apply Kd.R_drewN | apply Kd.R_drew)); exact HO_9.out) (Kd.R_base ho0) hb)
                 have n3_ := Aside0.mk (Kd.R_lower (Kd.R_new' ho0 (Kd.R_lt (by (with_reducible repeat (first | apply Kd.R_alloc | apply Kd.R_drewN | apply Kd.R_drew)); exact HO_9.out))) (below_size (by repeat (first | (with_reducible first | exact HB.out | apply below_alloc | apply pw_below_drewN | apply below_drew1) | exact HB.out))))
                 have n4_ := Aside0.mk (Kd.C_below (by repeat (first | (with_reducible exact HR260.out) | (with_reducible refine Kd.C_alloc ?_ _) | (with_reducible refine Kd.C_drewN ?_ _) | (with_reducible refine Kd.C_drew ?_) | exact HR260.out)) hb)
                 have n5_ := Aside0.mk (Kd.C_below (by repeat (first | (with_reducible exact HR264.out) | (with_reducible refine Kd.C_alloc ?_ _) | (with_reducible refine Kd.C_drewN ?_ _) | (with_reducible refine Kd.C_drew ?_) | exact HR264.out)) hb)
                 have n6_ := Aside0.mk (Kd.C_below (by repeat (first | (with_reducible exact HR268.out) | (with_reducible refine Kd.C_alloc ?_ _) | (with_reducible refine Kd.C_drewN ?_ _) | (with_reducible refine Kd.C_drew ?_) | exact HR268.out)) hb)
                 have n7_ := Aside0.mk (below_step (by repeat (first | (with_reducible first | exact HB.out | apply below_alloc | apply pw_below_drewN | apply below_drew1) | exact HB.out)) hb)
                 clear HO_7
                 clear HO_8
                 clear HO_9
                 clear HR260
                 clear HR264
                 clear HR268
                 clear HB
                 have HO_7 := n0_
                 have HO_8 := n1_
                 have HO_9 := n2_
                 have HO271 := n3_
                 have HR260 := n4_
                 have HR264 := n5_
                 have HR268 := n6_
                 have HB := n7_
                 clear n0_ n1_ n2_ n3_ n4_ n5_ n6_ n7_
                 (try clear hb)
                 (try clear hb2)
                 (try clear hk)
                 (try clear hi)
                 (try clear ho0)
                 obtain ⟨Ao54, co54, eo54⟩ := Kd.R_slice HO271.out
                 (first | subst eo54 | (injection eo54 with f1_ f2_ f3_; have f4_ := f1_.symm; have f5_ := f3_.symm; clear f1_ f2_ f3_; subst f4_; subst f5_))
                 refine hK.out _ _ trivial (fun hHeld => ?_)
                 clear hK K
                 refine norm_ (a' := ?_) ?_ ?_
                 rotate_left
                 ·show Act.put _ (some 82) _ = _
                  simp only [Act.put, sA,sB,sC, i64_w, i32_w]
                  rfl
                 refine one_ (i := 13) (N := some 85) #[true,true,true,true,true,true,true,true,true,true,true,true,true,true,false,false] rfl rfl (one_of HT_.out (by kernel_rfl)) (by decide) (fun K hK => ?_)
                 refine goes_ Try.func19 (by kernel_rfl) rfl #[.slice Ao54 t269.length co54, .int .i64 (ji40), .int .i64 (ji43)] (by rfl) rfl rfl (by (try simp only [List.map_toArray, List.map_cons, List.map_nil]); first | done | (simp only [hji40, hji43]; rfl) | rfl | (simp only [List.length_drop, List.length_take]; rfl)) ?_
                 with_reducible refine (tattingref7_Move.calls kj24 _ _ t269 (ji40) (ji43) t272 _ ?side1 ?side2 A47.out).mono ?_
                 (case side1 => repeat (first | exact (Kd.R_reads' HO271.out).2.2 | (with_reducible refine Kd.C_alloc ?_ _) | (with_reducible refine Kd.C_drewN ?_ _) | (with_reducible refine Kd.C_drew ?_)))
                 (case side2 => exact (Kd.R_reads' HO271.out).2.1)
                 rintro e w55 ⟨v273, rfl, ho0, hb⟩
                 refine ⟨_, rfl, ?_⟩
                 have n0_ := Aside0.mk (Kd.R_below (by (with_reducible repeat (first | apply Kd.R_alloc | apply Kd.R_drewN | apply Kd.R_drew)); exact HO_7.out) hb)
                 have n1_ := Aside0.mk (Kd.R_below (by (with_reducible repeat (first | apply Kd.R_alloc | apply Kd.R_drewN | apply Kd.R_drew)); exact HO_8.out) hb)
                 have n2_ := Aside0.mk (Kd.R_elder' (by (with_reducible repeat (first | apply Kd.R_alloc | apply Kd.R_drewN | apply Kd.R_drew)); exact HO_9.out) (Kd.R_base ho0) hb)
                 have n3_ := Aside0.mk (Kd.R_elder' (by (with_reducible repeat (first | apply Kd.R_alloc | apply Kd.R_drewN | apply Kd.R_drew)); exact HO271.out) (Kd.R_base ho0) hb)
                 have n4_ := Aside0.mk (Kd.R_lower (Kd.R_new' (Kd.R_new' ho0 (Kd.R_lt (by (with_reducible repeat (first | apply Kd.R_alloc | apply Kd.R_drewN | apply Kd.R_drew)); exact HO_9.out))) (Kd.R_lt (by (with_reducible repeat (first | apply Kd.R_alloc | apply Kd.R_drewN | apply Kd.R_drew)); exact HO271.out))) (below_size (by repeat (first | (with_reducible first | exact HB.out | apply below_alloc | apply pw_below_drewN | apply below_drew1) | exact HB.out))))
                 have n5_ := Aside0.mk (Kd.C_below (by repeat (first | (with_reducible exact HR260.out) | (with_reducible refine Kd.C_alloc ?_ _) | (with_reducible refine Kd.C_drewN ?_ _) | (with_reducible refine Kd.C_drew ?_) | exact HR260.out)) hb)
                 have n6_ := Aside0.mk (Kd.C_below (by repeat (first | (with_reducible exact HR264.out) | (with_reducible refine Kd.C_alloc ?_ _) | (with_reducible refine Kd.C_drewN ?_ _) | (with_reducible refine Kd.C_drew ?_) | exact HR264.out)) hb)
                 have n7_ := Aside0.mk (Kd.C_below (by repeat (first | (with_reducible exact HR268.out) | (with_reducible refine Kd.C_alloc ?_ _) | (with_reducible refine Kd.C_drewN ?_ _) | (with_reducible refine Kd.C_drew ?_) | exact HR268.out)) hb)
                 have n8_ := Aside0.mk (below_step (by repeat (first | (with_reducible first | exact HB.out | apply below_alloc | apply pw_below_drewN | apply below_drew1) | exact HB.out)) hb)
                 clear HO_7
                 clear HO_8
                 clear HO_9
                 clear HO271
                 clear HR260
                 clear HR264
                 clear HR268
                 clear HB
                 have HO_7 := n0_
                 have HO_8 := n1_
                 have HO_9 := n2_
                 have HO271 := n3_
                 have HO274 := n4_
                 have HR260 := n5_
                 have HR264 := n6_
                 have HR268 := n7_
                 have HB := n8_
                 clear n0_ n1_ n2_ n3_ n4_ n5_ n6_ n7_ n8_
                 (try clear hb)
                 (try clear hb2)
                 (try clear hk)
                 (try clear hi)
                 (try clear ho0)
                 obtain ⟨Ao56, co56, eo56⟩ := Kd.R_slice HO274.out
                 (first | subst eo56 | (injection eo56 with f1_ f2_ f3_; have f4_ := f1_.symm; have f5_ := f3_.symm; clear f1_ f2_ f3_; subst f4_; subst f5_))
                 refine hK.out _ _ trivial (fun hHeld => ?_)
                 clear hK K
                 refine norm_ (a' := ?_) ?_ ?_
                 rotate_left
                 ·show Act.put _ (some 85) _ = _
                  simp only [Act.put, sA,sB,sC, i64_w, i32_w]
                  rfl
                 refine one_ (i := 14) (N := some 86) #[true,true,true,true,true,true,true,true,true,true,true,true,true,true,true,false] rfl rfl (one_of HT_.out (by kernel_rfl)) (by decide) (fun K hK => ?_)
                 refine goes_ Try.func14 (by kernel_rfl) rfl #[.slice A50 y257.length c50, .slice Ao56 t272.length co56] (by rfl) rfl rfl (by (try simp only [List.map_toArray, List.map_cons, List.map_nil]); first | done | rfl | (simp only [List.length_drop, List.length_take]; rfl)) ?_
                 with_reducible refine (tattingref1_SamePairs.calls kj24 _ _ y257 _ _ t272 t275 _ ?side1 ?side2 ?side3 ?side4 A48.out).mono ?_
                 (case side1 => repeat (first | exact (by repeat (first | (with_reducible exact HR260.out) | (with_reducible refine Kd.C_alloc ?_ _) | (with_reducible refine Kd.C_drewN ?_ _) | (with_reducible refine Kd.C_drew ?_) | exact HR260.out)) | (with_reducible refine Kd.C_alloc ?_ _) | (with_reducible refine Kd.C_drewN ?_ _) | (with_reducible refine Kd.C_drew ?_)))
                 (case side2 => exact HC260.out)
                 (case side3 => repeat (first | exact (Kd.R_reads' HO274.out).2.2 | (with_reducible refine Kd.C_alloc ?_ _) | (with_reducible refine Kd.C_drewN ?_ _) | (with_reducible refine Kd.C_drew ?_)))
                 (case side4 => exact (Kd.R_reads' HO274.out).2.1)
                 rintro e w' ⟨rfl, ⟨nd, rfl⟩⟩
                 refine ⟨_, rfl, ?_⟩
                 refine hK.out _ _ trivial (fun hHeld => ?_)
                 clear hK K
                 refine norm_ (a' := ?_) ?_ ?_
                 rotate_left
                 ·show Act.put _ (some 86) _ = _
                  simp only [Act.put, sA,sB,sC, i64_w, i32_w]
                  rfl
                 refine pure_ (i := 15) (N := some 6) (v := ?_) (a' := ?_) #[true,true,true,true,true,true,true,true,true,true,true,true,true,true,true,true] rfl rfl (any_of HT_.out (by kernel_rfl)) (fun _ _ _ h => h) (Or.inl ⟨by rfl, ?_⟩) ?_ ?_
                 rotate_left
                 ·intro w'
                  go_simp
                  with_reducible rfl
                 rotate_left
                 ·simp only [Act.put, sA,sB,sC, i64_w, i32_w]
                  rfl
                 refine done_ (done_of HT_.out (by kernel_rfl)) ?_
                 try go_wp2
                 go_ret
                 exact ⟨by first | rfl | (simp [errW_none, errW_some] <;> rfl) | (simp only [← hji22, ← hji37, ← hji40, ← hji43]; first | rfl | (simp [errW_none, errW_some] <;> rfl)) | (simp [*, errW_none, errW_some] <;> rfl), by repeat (first | (with_reducible first | exact HB.out | apply below_alloc | apply pw_below_drewN | apply below_drew1) | exact HB.out)⟩
                ·rw [if_neg c45] at H
                 exact absurd H (by simp)
               ·rw [if_neg c44] at H
                exact absurd H (by simp)
              ·rw [if_neg c42] at H
               exact absurd H (by simp)
             ·rw [if_neg c41] at H
              exact absurd H (by simp)
            ·rw [if_neg c39] at H
             exact absurd H (by simp)
           ·rw [if_neg c38] at H
            exact absurd H (by simp)
       ·rw [if_neg c24] at H
        exact absurd H (by simp)
      ·rw [if_neg c23] at H
       exact absurd H (by simp)
 ·replace c5 := Bool.eq_false_iff.mpr c5
  subst c5
  have H1 : (some false) = some r := by rw [if_neg (show ¬ (false = true) by decide)] at H; exact H
  clear H
  have H := H1
  clear H1
  obtain rfl := Option.some.inj H
  go_enter Try.func7, Try.ntmps7
  go_wp2_with (first | ((with_reducible refine gate_callee (f := 11) rfl ?_); refine goesL_ (some 13) rfl rfl Try.func11 (by kernel_rfl) rfl #[] rfl (by (try simp only [List.map_toArray, List.map_cons, List.map_nil]); first | done | rfl | (simp only [List.length_drop, List.length_take]; rfl)) ?_; (with_reducible refine (tattinglaw9_awake.calls k  false _ A4.out).mono ?_); rintro e w57 ⟨rfl, hb⟩; refine ⟨_, rfl, ?_⟩; have n0_ := Aside0.mk (below_step (by repeat (first | (with_reducible first | exact HB.out | apply below_alloc | apply pw_below_drewN | apply below_drew1) | exact HB.out)) hb); clear HB; have HB := n0_; clear n0_; (try clear hb); (try clear hb2); (try clear hk); (try clear hi)))
  go_ret
  exact ⟨by first | rfl | (simp [errW_none, errW_some] <;> rfl) | (simp [*, errW_none, errW_some] <;> rfl), by repeat (first | (with_reducible first | exact HB.out | apply below_alloc | apply pw_below_drewN | apply below_drew1) | exact HB.out)⟩

/-- THE ONE PURE STATEMENT of tattinglaw9_LeastRest: yours. -/
def tattinglaw9_LeastRest.Pure : Prop := ∀ (l0 : List Int) (l1 : List Int) (a2 : Int), l0.length ≤ maxLen → l0.length * 8 ≤ 140737488351232 → (∀ x ∈ l0, (Lit.int .i64 x).wf = true) → l1.length ≤ maxLen → l1.length * 8 ≤ 140737488351232 → (∀ x ∈ l1, (Lit.int .i64 x).wf = true) → (Lit.int .u8 a2).wf = true → ∃ k, tattinglaw9_LeastRest.f k l0 l1 a2 = some true
theorem tattinglaw9_LeastRest.walk (P : tattinglaw9_LeastRest.Pure) (a0 : Option Addr) (len0 cap0 : Nat) (z0 : List Int) (a1 : Option Addr) (len1 cap1 : Nat) (z1 : List Int) (a2 : Int) (w : World) (w0 : (a0 = none ∧ len0 = 0 ∧ cap0 = 0 ∧ z0 = []) ∨ ∃ x, a0 = some x ∧ len0 ≤ cap0 ∧ cap0 ≤ maxLen ∧ z0.length = cap0 ∧ (∀ i, i < z0.length → w.cell? (x.add i) = some (.int .i64 (z0.getD i 0))) ∧ ∀ n ∈ z0, (Lit.int .i64 n).wf = true) (y0 : len0 * 8 ≤ 140737488351232) (w1 : (a1 = none ∧ len1 = 0 ∧ cap1 = 0 ∧ z1 = []) ∨ ∃ x, a1 = some x ∧ len1 ≤ cap1 ∧ cap1 ≤ maxLen ∧ z1.length = cap1 ∧ (∀ i, i < z1.length → w.cell? (x.add i) = some (.int .i64 (z1.getD i 0))) ∧ ∀ n ∈ z1, (Lit.int .i64 n).wf = true) (y1 : len1 * 8 ≤ 140737488351232) (w2 : (Lit.int .u8 a2).wf = true) :
  Calls Try.prog 7 #[.slice a0 len0 cap0, .slice a1 len1 cap1, .int .u8 a2] w fun e w' => e = .returned (.bool true) ∧ Below w.heap.size w w' := by
 obtain ⟨l0, rfl, hr0, hm0, hw0, hc0⟩ := ReadsInt.ofRowC w0
 obtain ⟨l1, rfl, hr1, hm1, hw1, hc1⟩ := ReadsInt.ofRowC w1
 obtain ⟨k, h⟩ := P l0 l1 a2 hm0 y0 hw0 hm1 y1 hw1 w2
 refine (tattinglaw9_LeastRest.calls k _ _ l0 _ _ l1 a2 true w (Kd.C_of_reads (d := (0 : Int)) (h1 := fun _ => rfl) hr0) hc0 (Kd.C_of_reads (d := (0 : Int)) (h1 := fun _ => rfl) hr1) hc1 h).mono ?_
 rintro e w' ⟨rfl, hd⟩
 exact ⟨rfl, hd⟩

end Go.Proofs.Ytmkelmacllkbeaa.PLeastRest
