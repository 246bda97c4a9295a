/- What the given program's functions come to, each a Lean function and the walk that shows it: no condition beside those that each theorem names. -/
import Derived.Test.YtmkelmacllkbeaaPLeastFrontx0
import Derived.Test.YtmkelmacllkbeaaPLeastFrontx1
import Derived.Test.YtmkelmacllkbeaaPLeastFrontx4
import Derived.Test.YtmkelmacllkbeaaPLeastFrontx6
namespace Go.Proofs.Ytmkelmacllkbeaa.PLeastFront
open Go.RowKit Go.Proofs.YtmkelmacllkbeaaW.PrintWords Go.Proofs.YtmkelmacllkbeaaW.PrintLast Go.Proofs.YtmkelmacllkbeaaW.PrintMore
attribute [local go_sem] max2_int min2_int max_two min_two max_three min_three max_four min_four   -- for this text's walks alone
set_option linter.unusedVariables false
set_option linter.unusedSimpArgs false

attribute [local go_sem high] eqA26
/-! ### tattinglaw9_LeastFront: function 8 -/
mutual
def tattinglaw9_LeastFront.j0 : Nat → List Int → List Int → List Int → Bool → Option (Bool)
 | 0, _, _, _, _ => none
 | k + 1, x0, x1, x2, x23 => if x23 = true then (some true) else ((some (([] : List Int) : List Int)).bind fun y210 => (if y210.length + x2.length < 17592186044416 then ((some (y210 ++ x2 : List Int)).bind fun y213 => (if y213.length + x0.length < 17592186044416 then ((some (([] : List Int) : List Int)).bind fun y219 => (if y219.length + x2.length < 17592186044416 then ((some (y219 ++ x2 : List Int)).bind fun y222 => (if y222.length + x1.length < 17592186044416 then ((least_Of.f k (y213 ++ x0) (y222 ++ x1)).bind fun t228 => (if (t228.length : Int) < (x2.length : Int) then (some false) else (tattinglaw9_LeastFront.l0 k x0 x1 x2 t228 0))) else (none))) else (none))) else (none))) else (none)))
def tattinglaw9_LeastFront.l0 : Nat → List Int → List Int → List Int → List (S26) → Int → Option (Bool)
 | 0, _, _, _, _, _ => none
 | k + 1, x0, x1, x2, x7, x8 => if x8 < (x2.length : Int) then (if 0 ≤ x8 then (if x8 < (x7.length : Int) then (if (!(((rd_T26 x7 x8).f0) == x8) || (!(((rd_T26 x7 x8).f1) == x8))) = true then (some false) else (tattinglaw9_LeastFront.l0 k x0 x1 x2 x7 (wrap64 (x8 + 1)))) else (none)) else (none)) else (if 0 ≤ (x2.length : Int) then (if (x2.length : Int) ≤ (x7.length : Int) then ((least_Of.f k x0 x1).bind fun t236 => ((tattingref7_Move.f k t236 (x2.length : Int) (x2.length : Int)).bind fun t239 => ((tattingref1_SamePairs.f k (x7.drop ((x2.length : Int) : Int).toNat) t239).bind fun t242 => (some t242)))) else (none)) else (none))
end
def tattinglaw9_LeastFront.f (k : Nat) (l0 : List Int) (l1 : List Int) (l2 : List Int) : Option (Bool) := (tattinglaw9_awake.f k).bind fun t209 => (if t209 = true then (if (l0.length : Int) > 20 then (tattinglaw9_LeastFront.j0 k l0 l1 l2 true) else (if (l1.length : Int) > 20 then (tattinglaw9_LeastFront.j0 k l0 l1 l2 true) else (tattinglaw9_LeastFront.j0 k l0 l1 l2 (decide ((l2.length : Int) > 20))))) else (some false))
theorem tattinglaw9_LeastFront.mono_l : ∀ k, (∀ y0 y1 y2 y3, LeO (tattinglaw9_LeastFront.j0 k y0 y1 y2 y3) (tattinglaw9_LeastFront.j0 (k + 1) y0 y1 y2 y3)) ∧ (∀ y0 y1 y2 y3 y4, LeO (tattinglaw9_LeastFront.l0 k y0 y1 y2 y3 y4) (tattinglaw9_LeastFront.l0 (k + 1) y0 y1 y2 y3 y4))
 | 0 => ⟨fun _ _ _ _ r h => by simp [tattinglaw9_LeastFront.j0] at h, fun _ _ _ _ _ r h => by simp [tattinglaw9_LeastFront.l0] at h⟩
 | k + 1 => by
  obtain ⟨ih0, ih1⟩ := tattinglaw9_LeastFront.mono_l k
  refine ⟨?_, ?_⟩
  ·intro y0 y1 y2 y3
   unfold tattinglaw9_LeastFront.j0
   repeat' first
   | (with_reducible exact ih0 _ _ _ _)
   | (with_reducible exact ih1 _ _ _ _ _)
   | (with_reducible exact least_Of.mono _ _ _)
   | (with_reducible exact tattinglaw9_awake.mono _)
   | (with_reducible exact tattingref1_SamePairs.mono _ _ _)
   | (with_reducible exact tattingref7_Move.mono _ _ _ _)
   | (with_reducible exact LeO.refl _)
   | (with_reducible exact LeO.none _)
   | (with_reducible refine LeO.ite ?_ ?_)
   | (with_reducible refine LeO.bind ?_ (fun _ => ?_))
   | exact ih0 _ _ _ _
   | exact ih1 _ _ _ _ _
   | exact least_Of.mono _ _ _
   | exact tattinglaw9_awake.mono _
   | exact tattingref1_SamePairs.mono _ _ _
   | exact tattingref7_Move.mono _ _ _ _
   | exact LeO.none _
   | refine LeO.ite ?_ ?_
   | refine LeO.bind ?_ (fun _ => ?_)
  ·intro y0 y1 y2 y3 y4
   unfold tattinglaw9_LeastFront.l0
   repeat' first
   | (with_reducible exact ih0 _ _ _ _)
   | (with_reducible exact ih1 _ _ _ _ _)
   | (with_reducible exact least_Of.mono _ _ _)
   | (with_reducible exact tattinglaw9_awake.mono _)
   | (with_reducible exact tattingref1_SamePairs.mono _ _ _)
   | (with_reducible exact tattingref7_Move.mono _ _ _ _)
   | (with_reducible exact LeO.refl _)
   | (with_reducible exact LeO.none _)
   | (with_reducible refine LeO.ite ?_ ?_)
   | (with_reducible refine LeO.bind ?_ (fun _ => ?_))
   | exact ih0 _ _ _ _
   | exact ih1 _ _ _ _ _
   | exact least_Of.mono _ _ _
   | exact tattinglaw9_awake.mono _
   | exact tattingref1_SamePairs.mono _ _ _
   | exact tattingref7_Move.mono _ _ _ _
   | exact LeO.none _
   | refine LeO.ite ?_ ?_
   | refine LeO.bind ?_ (fun _ => ?_)
theorem tattinglaw9_LeastFront.mono : ∀ a0 a1 a2 k, LeO (tattinglaw9_LeastFront.f k a0 a1 a2) (tattinglaw9_LeastFront.f (k + 1) a0 a1 a2) := by
 intro a0 a1 a2 k
 obtain ⟨ih0, ih1⟩ := tattinglaw9_LeastFront.mono_l k
 unfold tattinglaw9_LeastFront.f
 repeat' first
   | (with_reducible exact ih0 _ _ _ _)
   | (with_reducible exact ih1 _ _ _ _ _)
   | (with_reducible exact least_Of.mono _ _ _)
   | (with_reducible exact tattinglaw9_awake.mono _)
   | (with_reducible exact tattingref1_SamePairs.mono _ _ _)
   | (with_reducible exact tattingref7_Move.mono _ _ _ _)
   | (with_reducible exact LeO.refl _)
   | (with_reducible exact LeO.none _)
   | (with_reducible refine LeO.ite ?_ ?_)
   | (with_reducible refine LeO.bind ?_ (fun _ => ?_))
   | exact ih0 _ _ _ _
   | exact ih1 _ _ _ _ _
   | exact least_Of.mono _ _ _
   | exact tattinglaw9_awake.mono _
   | exact tattingref1_SamePairs.mono _ _ _
   | exact tattingref7_Move.mono _ _ _ _
   | exact LeO.none _
   | refine LeO.ite ?_ ?_
   | refine LeO.bind ?_ (fun _ => ?_)
def tattinglaw9_LeastFront.T13 : Bool × List (List Nat × List Nat) := (true, [([], []), ([], []), ([1], [1]), ([0, 2], [0, 2]), ([], []), ([], []), ([4, 5], [4, 5]), ([], []), ([7], [7]), ([], []), ([9], [9]), ([6, 8, 10, 6], [6, 8, 10]), ([3, 11, 11], [3, 11]), ([12, 12, 0, 1, 2, 3, 4, 5, 6, 7, 8, 9, 10, 11, 12], [12])])
def tattinglaw9_LeastFront.B13 : List Nat := [0, 0, 2, 7, 0, 0, 48, 0, 128, 0, 512, 2032, 4095, 8191]
theorem tattinglaw9_LeastFront.tab13 : rtab .any (opsOf Try.f8 13) = tattinglaw9_LeastFront.T13 := by kernel_rfl
theorem tattinglaw9_LeastFront.bits13 : waitsOk tattinglaw9_LeastFront.T13.2 tattinglaw9_LeastFront.B13 = true := by kernel_rfl
set_option maxHeartbeats 8000000 in
set_option maxRecDepth 100000 in
theorem tattinglaw9_LeastFront.calls (k : Nat) (A0 : Option Addr) (c0 : Nat) (l0 : List Int) (A1 : Option Addr) (c1 : Nat) (l1 : List Int) (A2 : Option Addr) (c2 : Nat) (l2 : List Int) (r : Bool) (w : World) (hr0 : Kd.C (Kd.int .i64) w A0 l0.length l0) (hc0 : l0.length ≤ c0) (hr1 : Kd.C (Kd.int .i64) w A1 l1.length l1) (hc1 : l1.length ≤ c1) (hr2 : Kd.C (Kd.int .i64) w A2 l2.length l2) (hc2 : l2.length ≤ c2) (h : tattinglaw9_LeastFront.f k l0 l1 l2 = some r) :
  Calls Try.prog 8 #[.slice A0 l0.length c0, .slice A1 l1.length c1, .slice A2 l2.length c2] w fun e w' => e = .returned (.bool r) ∧ Below w.heap.size w w' := by
 have hu26 := Try.underlying26
 have HR0 := Aside0.mk hr0
 have HC0 := Aside0.mk hc0
 clear hr0 hc0
 have HR1 := Aside0.mk hr1
 have HC1 := Aside0.mk hc1
 clear hr1 hc1
 have HR2 := Aside0.mk hr2
 have HC2 := Aside0.mk hc2
 clear hr2 hc2
 have HB := Aside0.mk (Below.refl w.heap.size w)
 have H : ((tattinglaw9_awake.f k).bind fun t209 => (if t209 = true then (if (l0.length : Int) > 20 then (tattinglaw9_LeastFront.j0 k l0 l1 l2 true) else (if (l1.length : Int) > 20 then (tattinglaw9_LeastFront.j0 k l0 l1 l2 true) else (tattinglaw9_LeastFront.j0 k l0 l1 l2 (decide ((l2.length : Int) > 20))))) else (some false))) = some r := h
 clear h
 replace H := Option.bind_eq_some_iff.mp H
 obtain ⟨t209, A40, H⟩ := H
 replace H : (if t209 = true then (if (l0.length : Int) > 20 then (tattinglaw9_LeastFront.j0 k l0 l1 l2 true) else (if (l1.length : Int) > 20 then (tattinglaw9_LeastFront.j0 k l0 l1 l2 true) else (tattinglaw9_LeastFront.j0 k l0 l1 l2 (decide ((l2.length : Int) > 20))))) else (some false)) = some r := H
 have A4 := Aside0.mk A40
 clear A40
 by_cases c5 : t209 = true
 ·subst c5
  have H1 : (if (l0.length : Int) > 20 then (tattinglaw9_LeastFront.j0 k l0 l1 l2 true) else (if (l1.length : Int) > 20 then (tattinglaw9_LeastFront.j0 k l0 l1 l2 true) else (tattinglaw9_LeastFront.j0 k l0 l1 l2 (decide ((l2.length : Int) > 20))))) = some r := by rw [if_pos rfl] at H; exact H
  clear H
  have H := H1
  clear H1
  have HC6 := Aside0.mk H
  clear H
  go_enter Try.func8, Try.ntmps8
  go_upto_region 3 with (first | ((with_reducible refine gate_callee (f := 11) rfl ?_); refine goesL_ (some 9) rfl rfl Try.func11 (by kernel_rfl) rfl #[] rfl (by (try simp only [List.map_toArray, List.map_cons, List.map_nil]); first | done | rfl | (simp only [List.length_drop, List.length_take]; rfl)) ?_; (with_reducible refine (tattinglaw9_awake.calls k  true _ A4.out).mono ?_); rintro e w7 ⟨rfl, hb⟩; refine ⟨_, rfl, ?_⟩; have n0_ := Aside0.mk (below_step (by repeat (first | (with_reducible first | exact HB.out | apply below_alloc | apply pw_below_drewN | apply below_drew1) | exact HB.out)) hb); clear HB; have HB := n0_; clear n0_; (try clear hb); (try clear hb2); (try clear hk); (try clear hi)))
  (try simp only [Act.put, List.setIfInBounds_toArray, List.set_cons_zero, List.set_cons_succ])
  go_cut [23] (fun v23 wc => ∃ (kq : Nat) (x23_5 : Bool), v23 = .bool x23_5 ∧ Aside0 (tattinglaw9_LeastFront.j0 kq l0 l1 l2 x23_5 = some r) ∧ Aside0 (kq ≤ k) ∧ Aside0 (Below w.heap.size w wc))
  case first =>
   have H := HC6.out
   clear HC6
   by_cases c8 : (l0.length : Int) > 20
   ·rw [if_pos c8] at H
    have c8b0 : decide (20 < (l0.length : Int)) = true := decide_eq_true c8
    have c8b1 : decide (20 < l0.length) = true := decide_eq_true (by omega)
    clear c8
    (first | rw [c8b0] | (simp only [i64_w, i32_w]; rw [c8b0]) | skip)
    have H' := Aside0.mk H
    clear H
    go_wp2
    go_meet
    case rel => exact ⟨_, (true), (by first | rfl | (simp; done) | (simp [*]; done)), H', ⟨by first | omega | exact Nat.le_refl _⟩, ⟨by repeat (first | (with_reducible first | exact HB.out | apply below_alloc | apply pw_below_drewN | apply below_drew1) | exact HB.out)⟩⟩
   ·rw [if_neg c8] at H
    have c8b0 : decide (20 < (l0.length : Int)) = false := decide_eq_false c8
    have c8b1 : decide (20 < l0.length) = false := decide_eq_false (by omega)
    clear c8
    (first | rw [c8b0] | (simp only [i64_w, i32_w]; rw [c8b0]) | skip)
    by_cases c9 : (l1.length : Int) > 20
    ·rw [if_pos c9] at H
     have c9b0 : decide (20 < (l1.length : Int)) = true := decide_eq_true c9
     have c9b1 : decide (20 < l1.length) = true := decide_eq_true (by omega)
     clear c9
     have H' := Aside0.mk H
     clear H
     go_wp2
     go_meet
     case rel => exact ⟨_, (true), (by first | rfl | (simp; done) | (simp [*]; done)), H', ⟨by first | omega | exact Nat.le_refl _⟩, ⟨by repeat (first | (with_reducible first | exact HB.out | apply below_alloc | apply pw_below_drewN | apply below_drew1) | exact HB.out)⟩⟩
    ·rw [if_neg c9] at H
     have c9b0 : decide (20 < (l1.length : Int)) = false := decide_eq_false c9
     have c9b1 : decide (20 < l1.length) = false := decide_eq_false (by omega)
     clear c9
     have H' := Aside0.mk H
     clear H
     go_wp2
     go_meet
     case rel => exact ⟨_, (decide ((l2.length : Int) > 20)), (by first | rfl | (simp; done) | (simp [*]; done)), H', ⟨by first | omega | exact Nat.le_refl _⟩, ⟨by repeat (first | (with_reducible first | exact HB.out | apply below_alloc | apply pw_below_drewN | apply below_drew1) | exact HB.out)⟩⟩
  case rest =>
   clear HC6
   try clear c1
   try clear c2
   try clear p2
   try clear c5
   try clear c8
   try clear c8b0
   try clear c8b1
   try clear c9
   try clear c9b0
   try clear c9b1
   obtain ⟨kq, x23_5, rfl, HA, HJ5, HB⟩ := hcut
   cases kq with
   | zero => exact absurd HA.out (by simp [tattinglaw9_LeastFront.j0])
   | succ kj5 =>
    have H := HA.out
    clear HA
    simp only [tattinglaw9_LeastFront.j0] at H
    by_cases c10 : x23_5 = true
    ·subst c10
     have H1 : (some true) = some r := by rw [if_pos rfl] at H; exact H
     clear H
     have H := H1
     clear H1
     obtain rfl := Option.some.inj H
     go_wp2
     go_ret
     exact ⟨by first | rfl | (simp [errW_none, errW_some] <;> rfl) | (simp [*, errW_none, errW_some] <;> rfl), by repeat (first | (with_reducible first | exact HB.out | apply below_alloc | apply pw_below_drewN | apply below_drew1) | exact HB.out)⟩
    ·replace c10 := Bool.eq_false_iff.mpr c10
     subst c10
     have H1 : ((some (([] : List Int) : List Int)).bind fun y210 => (if y210.length + l2.length < 17592186044416 then ((some (y210 ++ l2 : List Int)).bind fun y213 => (if y213.length + l0.length < 17592186044416 then ((some (([] : List Int) : List Int)).bind fun y219 => (if y219.length + l2.length < 17592186044416 then ((some (y219 ++ l2 : List Int)).bind fun y222 => (if y222.length + l1.length < 17592186044416 then ((least_Of.f kj5 (y213 ++ l0) (y222 ++ l1)).bind fun t228 => (if (t228.length : Int) < (l2.length : Int) then (some false) else (tattinglaw9_LeastFront.l0 kj5 l0 l1 l2 t228 0))) else (none))) else (none))) else (none))) else (none))) = some r := by rw [if_neg (show ¬ (false = true) by decide)] at H; exact H
     clear H
     have H := H1
     clear H1
     obtain ⟨y210, hy210⟩ : ∃ y_ : List Int, y_ = (([] : List Int)) := ⟨_, rfl⟩
     replace H : (if y210.length + l2.length < 17592186044416 then ((some (y210 ++ l2 : List Int)).bind fun y213 => (if y213.length + l0.length < 17592186044416 then ((some (([] : List Int) : List Int)).bind fun y219 => (if y219.length + l2.length < 17592186044416 then ((some (y219 ++ l2 : List Int)).bind fun y222 => (if y222.length + l1.length < 17592186044416 then ((least_Of.f kj5 (y213 ++ l0) (y222 ++ l1)).bind fun t228 => (if (t228.length : Int) < (l2.length : Int) then (some false) else (tattinglaw9_LeastFront.l0 kj5 l0 l1 l2 t228 0))) else (none))) else (none))) else (none))) else (none)) = some r := by first | (rw [hy210]; with_reducible exact H) | (have H2_ := (Option.bind_some _ _).symm.trans H; rw [hy210]; with_reducible exact H2_) | (have H2_ := (Option.bind_some _ _).symm.trans H; with_reducible exact H2_) | with_reducible exact H | (rw [hy210]; exact H) | exact H
     have Ny210 := Aside0.mk hy210
     clear hy210
     by_cases c11 : y210.length + l2.length < 17592186044416
     ·rw [if_pos c11] at H
      have LMc11 := Aside0.mk c11
      clear c11
      obtain ⟨y213, hy213⟩ : ∃ y_ : List Int, y_ = (y210 ++ l2) := ⟨_, rfl⟩
      replace H : (if y213.length + l0.length < 17592186044416 then ((some (([] : List Int) : List Int)).bind fun y219 => (if y219.length + l2.length < 17592186044416 then ((some (y219 ++ l2 : List Int)).bind fun y222 => (if y222.length + l1.length < 17592186044416 then ((least_Of.f kj5 (y213 ++ l0) (y222 ++ l1)).bind fun t228 => (if (t228.length : Int) < (l2.length : Int) then (some false) else (tattinglaw9_LeastFront.l0 kj5 l0 l1 l2 t228 0))) else (none))) else (none))) else (none)) = some r := by first | (rw [hy213]; with_reducible exact H) | (have H2_ := (Option.bind_some _ _).symm.trans H; rw [hy213]; with_reducible exact H2_) | (have H2_ := (Option.bind_some _ _).symm.trans H; with_reducible exact H2_) | with_reducible exact H | (rw [hy213]; exact H) | exact H
      have Ny213 := Aside0.mk hy213
      clear hy213
      by_cases c12 : y213.length + l0.length < 17592186044416
      ·rw [if_pos c12] at H
       have LMc12 := Aside0.mk c12
       clear c12
       obtain ⟨y216, hy216⟩ : ∃ y_ : List Int, y_ = (y213 ++ l0) := ⟨_, rfl⟩
       replace H : ((some (([] : List Int) : List Int)).bind fun y219 => (if y219.length + l2.length < 17592186044416 then ((some (y219 ++ l2 : List Int)).bind fun y222 => (if y222.length + l1.length < 17592186044416 then ((least_Of.f kj5 y216 (y222 ++ l1)).bind fun t228 => (if (t228.length : Int) < (l2.length : Int) then (some false) else (tattinglaw9_LeastFront.l0 kj5 l0 l1 l2 t228 0))) else (none))) else (none))) = some r := by first | (rw [hy216]; with_reducible exact H) | (have H2_ := (Option.bind_some _ _).symm.trans H; rw [hy216]; with_reducible exact H2_) | (have H2_ := (Option.bind_some _ _).symm.trans H; with_reducible exact H2_) | with_reducible exact H | (rw [hy216]; exact H) | exact H
       have Ny216 := Aside0.mk hy216
       clear hy216
       obtain ⟨y219, hy219⟩ : ∃ y_ : List Int, y_ = (([] : List Int)) := ⟨_, rfl⟩
       replace H : (if y219.length + l2.length < 17592186044416 then ((some (y219 ++ l2 : List Int)).bind fun y222 => (if y222.length + l1.length < 17592186044416 then ((least_Of.f kj5 y216 (y222 ++ l1)).bind fun t228 => (if (t228.length : Int) < (l2.length : Int) then (some false) else (tattinglaw9_LeastFront.l0 kj5 l0 l1 l2 t228 0))) else (none))) else (none)) = some r := by first | (rw [hy219]; with_reducible exact H) | (have H2_ := (Option.bind_some _ _).symm.trans H; rw [hy219]; with_reducible exact H2_) | (have H2_ := (Option.bind_some _ _).symm.trans H; with_reducible exact H2_) | with_reducible exact H | (rw [hy219]; exact H) | exact H
       have Ny219 := Aside0.mk hy219
       clear hy219
       by_cases c13 : y219.length + l2.length < 17592186044416
       ·rw [if_pos c13] at H
        have LMc13 := Aside0.mk c13
        clear c13
        obtain ⟨y222, hy222⟩ : ∃ y_ : List Int, y_ = (y219 ++ l2) := ⟨_, rfl⟩
        replace H : (if y222.length + l1.length < 17592186044416 then ((least_Of.f kj5 y216 (y222 ++ l1)).bind fun t228 => (if (t228.length : Int) < (l2.length : Int) then (some false) else (tattinglaw9_LeastFront.l0 kj5 l0 l1 l2 t228 0))) else (none)) = some r := by first | (rw [hy222]; with_reducible exact H) | (have H2_ := (Option.bind_some _ _).symm.trans H; rw [hy222]; with_reducible exact H2_) | (have H2_ := (Option.bind_some _ _).symm.trans H; with_reducible exact H2_) | with_reducible exact H | (rw [hy222]; exact H) | exact H
        have Ny222 := Aside0.mk hy222
        clear hy222
        by_cases c14 : y222.length + l1.length < 17592186044416
        ·rw [if_pos c14] at H
         have LMc14 := Aside0.mk c14
         clear c14
         obtain ⟨y225, hy225⟩ : ∃ y_ : List Int, y_ = (y222 ++ l1) := ⟨_, rfl⟩
         replace H : ((least_Of.f kj5 y216 y225).bind fun t228 => (if (t228.length : Int) < (l2.length : Int) then (some false) else (tattinglaw9_LeastFront.l0 kj5 l0 l1 l2 t228 0))) = some r := by first | (rw [hy225]; with_reducible exact H) | (have H2_ := (Option.bind_some _ _).symm.trans H; rw [hy225]; with_reducible exact H2_) | (have H2_ := (Option.bind_some _ _).symm.trans H; with_reducible exact H2_) | with_reducible exact H | (rw [hy225]; exact H) | exact H
         have Ny225 := Aside0.mk hy225
         clear hy225
         replace H := Option.bind_eq_some_iff.mp H
         obtain ⟨t228, A150, H⟩ := H
         replace H : (if (t228.length : Int) < (l2.length : Int) then (some false) else (tattinglaw9_LeastFront.l0 kj5 l0 l1 l2 t228 0)) = some r := H
         have A15 := Aside0.mk A150
         clear A150
         by_cases c16 : (t228.length : Int) < (l2.length : Int)
         ·rw [if_pos c16] at H
          have c16b0 : decide ((t228.length : Int) < (l2.length : Int)) = true := decide_eq_true c16
          have c16b1 : decide (t228.length < l2.length) = true := decide_eq_true (Int.ofNat_lt.mp c16)
          clear c16
          obtain rfl := Option.some.inj H
          go_wp2_with (first | ((with_reducible refine gate_dst (N := 24) rfl ?_); (try (refine gate_guard (by rfl) ?_; dsimp only)); refine Kd.R_lit (Kd.int .i64) _ 3 ?hg (N := 24) ?hd (xs := ([] : List Int)) (inner := []) (ok := fun _ => True) (okp := fun _ => True) ?hr ?hp (fun _ hk => hk) trivial (Below.refl _ _) (Nat.le_refl _) (by simp) ?_; (case hd => rfl); (case hg => rfl); (case hr => first | (go_simp; done) | (go_simp; rfl)); (case hp => exact (Reps.none _ _)); intro v211 w17 ho18 hb hg_ hnew_; (try clear hg_); (try clear hnew_); (first | rw [← Ny210.out] at ho18 | (simp only [Int.reduceToNat] at ho18; rw [← Ny210.out] at ho18)); have n0_ := Aside0.mk (Kd.R_lower ho18 (below_size (by repeat (first | (with_reducible first | exact HB.out | apply below_alloc | apply pw_below_drewN | apply below_drew1) | exact HB.out)))); have n1_ := Aside0.mk (below_step (by repeat (first | (with_reducible first | exact HB.out | apply below_alloc | apply pw_below_drewN | apply below_drew1) | exact HB.out)) hb); clear HB; have HO212 := n0_; have HB := n1_; clear n0_ n1_; (try clear hb); (try clear ho18)) | ((with_reducible refine gate_builtin (b := .append) (xs := #[.tmp 24, .tmp 25]) rfl ?_); (try (refine gate_guard (by rfl) ?_; dsimp only)); at_builtin; refine Kd.R_append_rows (Kd.int .i64) (w0 := w) w.heap.size rfl (.tmp 24) (.tmp 25) 24 3 (.int .i64 0) 8 rfl Try.underlying24 info3 rfl (by decide) (by omega) v211 y210 l2 _ _ _ (fun _ => True) (fun _ => False) rfl rfl ?aO ?aR (fun _ _ h => h) (fun _ h => h.elim) ?aF ?aB ?aS ?aL ?_; (case aR => repeat (first | exact (Kd.C_below HR2.out HB.out) | (with_reducible refine Kd.C_alloc ?_ _) | (with_reducible refine Kd.C_drewN ?_ _) | (with_reducible refine Kd.C_drew ?_))); (case aB => exact (by repeat (first | (with_reducible first | exact HB.out | apply below_alloc | apply pw_below_drewN | apply below_drew1) | exact HB.out))); (case aF => exact (fun _ _ => trivial)); (case aO => exact (by (with_reducible repeat (first | apply Kd.R_alloc | apply Kd.R_drewN | apply Kd.R_drew)); exact HO212.out)); (case aS => exact (below_size (by repeat (first | (with_reducible first | exact HB.out | apply below_alloc | apply pw_below_drewN | apply below_drew1) | exact HB.out)))); (case aL => have := LMc11.out; omega); intro v214 w19 ho hb hg hat; rw [← Ny213.out] at ho; have n0_ := Aside0.mk (hb); have n1_ := Aside0.mk (ho); clear HB; clear HO212; have HB := n0_; have HO215 := n1_; clear n0_ n1_; (try clear ho); (try clear hb); (try clear hg); (try clear hat)) | ((with_reducible refine gate_builtin (b := .append) (xs := #[.tmp 26, .tmp 27]) rfl ?_); (try (refine gate_guard (by rfl) ?_; dsimp only)); at_builtin; refine Kd.R_append_rows (Kd.int .i64) (w0 := w) w.heap.size rfl (.tmp 26) (.tmp 27) 24 3 (.int .i64 0) 8 rfl Try.underlying24 info3 rfl (by decide) (by omega) v214 y213 l0 _ _ _ (fun _ => True) (fun _ => False) rfl rfl ?aO ?aR (fun _ _ h => h) (fun _ h => h.elim) ?aF ?aB ?aS ?aL ?_; (case aR => repeat (first | exact (Kd.C_below HR0.out HB.out) | (with_reducible refine Kd.C_alloc ?_ _) | (with_reducible refine Kd.C_drewN ?_ _) | (with_reducible refine Kd.C_drew ?_))); (case aB => exact (by repeat (first | (with_reducible first | exact HB.out | apply below_alloc | apply pw_below_drewN | apply below_drew1) | exact HB.out))); (case aF => exact (fun _ _ => trivial)); (case aO => exact (by (with_reducible repeat (first | apply Kd.R_alloc | apply Kd.R_drewN | apply Kd.R_drew)); exact HO215.out)); (case aS => exact (below_size (by repeat (first | (with_reducible first | exact HB.out | apply below_alloc | apply pw_below_drewN | apply below_drew1) | exact HB.out)))); (case aL => have := LMc12.out; omega); intro v217 w20 ho hb hg hat; rw [← Ny216.out] at ho; have n0_ := Aside0.mk (hb); have n1_ := Aside0.mk (ho); clear HB; clear HO215; have HB := n0_; have HO218 := n1_; clear n0_ n1_; (try clear ho); (try clear hb); (try clear hg); (try clear hat)) | ((with_reducible refine gate_dst (N := 29) rfl ?_); (try (refine gate_guard (by rfl) ?_; dsimp only)); refine Kd.R_lit (Kd.int .i64) _ 3 ?hg (N := 29) ?hd (xs := ([] : List Int)) (inner := []) (ok := fun _ => True) (okp := fun _ => True) ?hr ?hp (fun _ hk => hk) trivial (Below.refl _ _) (Nat.le_refl _) (by simp) ?_; (case hd => rfl); (case hg => rfl); (case hr => first | (go_simp; done) | (go_simp; rfl)); (case hp => exact (Reps.none _ _)); intro v220 w21 ho22 hb hg_ hnew_; (try clear hg_); (try clear hnew_); (first | rw [← Ny219.out] at ho22 | (simp only [Int.reduceToNat] at ho22; rw [← Ny219.out] at ho22)); have n0_ := Aside0.mk (Kd.R_elder' (by (with_reducible repeat (first | apply Kd.R_alloc | apply Kd.R_drewN | apply Kd.R_drew)); exact HO218.out) (Kd.R_base ho22) hb); have n1_ := Aside0.mk (Kd.R_lower (Kd.R_new' ho22 (Kd.R_lt (by (with_reducible repeat (first | apply Kd.R_alloc | apply Kd.R_drewN | apply Kd.R_drew)); exact HO218.out))) (below_size (by repeat (first | (with_reducible first | exact HB.out | apply below_alloc | apply pw_below_drewN | apply below_drew1) | exact HB.out)))); have n2_ := Aside0.mk (below_step (by repeat (first | (with_reducible first | exact HB.out | apply below_alloc | apply pw_below_drewN | apply below_drew1) | exact HB.out)) hb); clear HO218; clear HB; have HO218 := n0_; have HO221 := n1_; have HB := n2_; clear n0_ n1_ n2_; (try clear hb); (try clear ho22)) | ((with_reducible refine gate_builtin (b := .append) (xs := #[.tmp 29, .tmp 30]) rfl ?_); (try (refine gate_guard (by rfl) ?_; dsimp only)); at_builtin; refine Kd.R_append_rows (Kd.int .i64) (w0 := w) w.heap.size rfl (.tmp 29) (.tmp 30) 24 3 (.int .i64 0) 8 rfl Try.underlying24 info3 rfl (by decide) (by omega) v220 y219 l2 _ _ _ (fun k_ => some k_ ≠ (v217 : Value).ownBlock) (fun _ => False) rfl rfl ?aO ?aR (fun _ _ h => h) (fun _ h => h.elim) ?aF ?aB ?aS ?aL ?_; (case aR => repeat (first | exact (Kd.C_below HR2.out HB.out) | (with_reducible refine Kd.C_alloc ?_ _) | (with_reducible refine Kd.C_drewN ?_ _) | (with_reducible refine Kd.C_drew ?_))); (case aB => exact (by repeat (first | (with_reducible first | exact HB.out | apply below_alloc | apply pw_below_drewN | apply below_drew1) | exact HB.out))); (case aF => exact (fun k_ hk => Kd.fresh' (Kd.R_lt (by (with_reducible repeat (first | apply Kd.R_alloc | apply Kd.R_drewN | apply Kd.R_drew)); exact HO218.out)) k_ hk)); (case aO => exact (by (with_reducible repeat (first | apply Kd.R_alloc | apply Kd.R_drewN | apply Kd.R_drew)); exact Kd.R_mono HO221.out (fun _ hk => hk.2))); (case aS => exact (below_size (by repeat (first | (with_reducible first | exact HB.out | apply below_alloc | apply pw_below_drewN | apply below_drew1) | exact HB.out)))); (case aL => have := LMc13.out; omega); intro v223 w23 ho hb hg hat; rw [← Ny222.out] at ho; have n0_ := Aside0.mk (Kd.R_after (ok := (fun _ => True)) (by (with_reducible repeat (first | apply Kd.R_alloc | apply Kd.R_drewN | apply Kd.R_drew)); exact HO218.out) hg hat); have n1_ := Aside0.mk (hb); have n2_ := Aside0.mk (ho); clear HO218; clear HB; clear HO221; have HO218 := n0_; have HB := n1_; have HO224 := n2_; clear n0_ n1_ n2_; (try clear ho); (try clear hb); (try clear hg); (try clear hat)) | ((with_reducible refine gate_builtin (b := .append) (xs := #[.tmp 31, .tmp 32]) rfl ?_); (try (refine gate_guard (by rfl) ?_; dsimp only)); at_builtin; refine Kd.R_append_rows (Kd.int .i64) (w0 := w) w.heap.size rfl (.tmp 31) (.tmp 32) 24 3 (.int .i64 0) 8 rfl Try.underlying24 info3 rfl (by decide) (by omega) v223 y222 l1 _ _ _ (fun k_ => some k_ ≠ (v217 : Value).ownBlock) (fun _ => False) rfl rfl ?aO ?aR (fun _ _ h => h) (fun _ h => h.elim) ?aF ?aB ?aS ?aL ?_; (case aR => repeat (first | exact (Kd.C_below HR1.out HB.out) | (with_reducible refine Kd.C_alloc ?_ _) | (with_reducible refine Kd.C_drewN ?_ _) | (with_reducible refine Kd.C_drew ?_))); (case aB => exact (by repeat (first | (with_reducible first | exact HB.out | apply below_alloc | apply pw_below_drewN | apply below_drew1) | exact HB.out))); (case aF => exact (fun k_ hk => Kd.fresh' (Kd.R_lt (by (with_reducible repeat (first | apply Kd.R_alloc | apply Kd.R_drewN | apply Kd.R_drew)); exact HO218.out)) k_ hk)); (case aO => exact (by (with_reducible repeat (first | apply Kd.R_alloc | apply Kd.R_drewN | apply Kd.R_drew)); exact HO224.out)); (case aS => exact (below_size (by repeat (first | (with_reducible first | exact HB.out | apply below_alloc | apply pw_below_drewN | apply below_drew1) | exact HB.out)))); (case aL => have := LMc14.out; omega); intro v226 w24 ho hb hg hat; rw [← Ny225.out] at ho; have n0_ := Aside0.mk (Kd.R_after (ok := (fun _ => True)) (by (with_reducible repeat (first | apply Kd.R_alloc | apply Kd.R_drewN | apply Kd.R_drew)); exact HO218.out) hg hat); have n1_ := Aside0.mk (hb); have n2_ := Aside0.mk (ho); clear HO218; clear HB; clear HO224; have HO218 := n0_; have HB := n1_; have HO227 := n2_; clear n0_ n1_ n2_; (try clear ho); (try clear hb); (try clear hg); (try clear hat); obtain ⟨Ao25, co25, eo25⟩ := Kd.R_slice HO218.out; subst eo25; obtain ⟨Ao26, co26, eo26⟩ := Kd.R_slice HO227.out; subst eo26) | ((with_reducible refine gate_callee (f := 9) rfl ?_); refine goesL_ (some 34) rfl rfl Try.func9 (by kernel_rfl) rfl #[.slice Ao25 y216.length co25, .slice Ao26 y225.length co26] rfl (by (try simp only [List.map_toArray, List.map_cons, List.map_nil]); first | done | rfl | (simp only [List.length_drop, List.length_take]; rfl)) ?_; (with_reducible refine (least_Of.calls kj5 _ _ y216 _ _ y225 t228 _ ?side1 ?side2 ?side3 ?side4 A15.out).mono ?_); (case side1 => repeat (first | exact (Kd.R_reads' HO218.out).2.2 | (with_reducible refine Kd.C_alloc ?_ _) | (with_reducible refine Kd.C_drewN ?_ _) | (with_reducible refine Kd.C_drew ?_))); (case side2 => exact (Kd.R_reads' HO218.out).2.1); (case side3 => repeat (first | exact (Kd.R_reads' HO227.out).2.2 | (with_reducible refine Kd.C_alloc ?_ _) | (with_reducible refine Kd.C_drewN ?_ _) | (with_reducible refine Kd.C_drew ?_))); (case side4 => exact (Kd.R_reads' HO227.out).2.1); rintro e w27 ⟨v229, rfl, ho0, hb⟩; refine ⟨_, rfl, ?_⟩; have n0_ := Aside0.mk (Kd.R_below (by (with_reducible repeat (first | apply Kd.R_alloc | apply Kd.R_drewN | apply Kd.R_drew)); exact HO218.out) hb); have n1_ := Aside0.mk (Kd.R_below (by (with_reducible repeat (first | apply Kd.R_alloc | apply Kd.R_drewN | apply Kd.R_drew)); exact HO227.out) hb); have n2_ := Aside0.mk (Kd.R_lower ho0 (below_size (by repeat (first | (with_reducible first | exact HB.out | apply below_alloc | apply pw_below_drewN | apply below_drew1) | exact HB.out)))); have n3_ := Aside0.mk (below_step (by repeat (first | (with_reducible first | exact HB.out | apply below_alloc | apply pw_below_drewN | apply below_drew1) | exact HB.out)) hb); clear HO218; clear HO227; clear HB; have HO218 := n0_; have HO227 := n1_; have HO230 := n2_; have HB := n3_; clear n0_ n1_ n2_ n3_; (try clear hb); (try clear hb2); (try clear hk); (try clear hi); (try clear ho0); obtain ⟨Ao28, co28, eo28⟩ := Kd.R_slice HO230.out; subst eo28))
          go_ret
          exact ⟨by first | rfl | (simp [errW_none, errW_some] <;> rfl) | (simp [*, errW_none, errW_some] <;> rfl), by repeat (first | (with_reducible first | exact HB.out | apply below_alloc | apply pw_below_drewN | apply below_drew1) | exact HB.out)⟩
         ·rw [if_neg c16] at H
          have c16b0 : decide ((t228.length : Int) < (l2.length : Int)) = false := decide_eq_false c16
          have c16b1 : decide (t228.length < l2.length) = false := decide_eq_false (fun h => c16 (Int.ofNat_lt.mpr h))
          clear c16
          have H' := Aside0.mk H
          clear H
          go_wp2_with (first | ((with_reducible refine gate_dst (N := 24) rfl ?_); (try (refine gate_guard (by rfl) ?_; dsimp only)); refine Kd.R_lit (Kd.int .i64) _ 3 ?hg (N := 24) ?hd (xs := ([] : List Int)) (inner := []) (ok := fun _ => True) (okp := fun _ => True) ?hr ?hp (fun _ hk => hk) trivial (Below.refl _ _) (Nat.le_refl _) (by simp) ?_; (case hd => rfl); (case hg => rfl); (case hr => first | (go_simp; done) | (go_simp; rfl)); (case hp => exact (Reps.none _ _)); intro v211 w29 ho30 hb hg_ hnew_; (try clear hg_); (try clear hnew_); (first | rw [← Ny210.out] at ho30 | (simp only [Int.reduceToNat] at ho30; rw [← Ny210.out] at ho30)); have n0_ := Aside0.mk (Kd.R_lower ho30 (below_size (by repeat (first | (with_reducible first | exact HB.out | apply below_alloc | apply pw_below_drewN | apply below_drew1) | exact HB.out)))); have n1_ := Aside0.mk (below_step (by repeat (first | (with_reducible first | exact HB.out | apply below_alloc | apply pw_below_drewN | apply below_drew1) | exact HB.out)) hb); clear HB; have HO212 := n0_; have HB := n1_; clear n0_ n1_; (try clear hb); (try clear ho30)) | ((with_reducible refine gate_builtin (b := .append) (xs := #[.tmp 24, .tmp 25]) rfl ?_); (try (refine gate_guard (by rfl) ?_; dsimp only)); at_builtin; refine Kd.R_append_rows (Kd.int .i64) (w0 := w) w.heap.size rfl (.tmp 24) (.tmp 25) 24 3 (.int .i64 0) 8 rfl Try.underlying24 info3 rfl (by decide) (by omega) v211 y210 l2 _ _ _ (fun _ => True) (fun _ => False) rfl rfl ?aO ?aR (fun _ _ h => h) (fun _ h => h.elim) ?aF ?aB ?aS ?aL ?_; (case aR => repeat (first | exact (Kd.C_below HR2.out HB.out) | (with_reducible refine Kd.C_alloc ?_ _) | (with_reducible refine Kd.C_drewN ?_ _) | (with_reducible refine Kd.C_drew ?_))); (case aB => exact (by repeat (first | (with_reducible first | exact HB.out | apply below_alloc | apply pw_below_drewN | apply below_drew1) | exact HB.out))); (case aF => exact (fun _ _ => trivial)); (case aO => exact (by (with_reducible repeat (first | apply Kd.R_alloc | apply Kd.R_drewN | apply Kd.R_drew)); exact HO212.out)); (case aS => exact (below_size (by repeat (first | (with_reducible first | exact HB.out | apply below_alloc | apply pw_below_drewN | apply below_drew1) | exact HB.out)))); (case aL => have := LMc11.out; omega); intro v214 w31 ho hb hg hat; rw [← Ny213.out] at ho; have n0_ := Aside0.mk (hb); have n1_ := Aside0.mk (ho); clear HB; clear HO212; have HB := n0_; have HO215 := n1_; clear n0_ n1_; (try clear ho); (try clear hb); (try clear hg); (try clear hat)) | ((with_reducible refine gate_builtin (b := .append) (xs := #[.tmp 26, .tmp 27]) rfl ?_); (try (refine gate_guard (by rfl) ?_; dsimp only)); at_builtin; refine Kd.R_append_rows (Kd.int .i64) (w0 := w) w.heap.size rfl (.tmp 26) (.tmp 27) 24 3 (.int .i64 0) 8 rfl Try.underlying24 info3 rfl (by decide) (by omega) v214 y213 l0 _ _ _ (fun _ => True) (fun _ => False) rfl rfl ?aO ?aR (fun _ _ h => h) (fun _ h => h.elim) ?aF ?aB ?aS ?aL ?_; (case aR => repeat (first | exact (Kd.C_below HR0.out HB.out) | (with_reducible refine Kd.C_alloc ?_ _) | (with_reducible refine Kd.C_drewN ?_ _) | (with_reducible refine Kd.C_drew ?_))); (case aB => exact (by repeat (first | (with_reducible first | exact HB.out | apply below_alloc | apply pw_below_drewN | apply below_drew1) | exact HB.out))); (case aF => exact (fun _ _ => trivial)); (case aO => exact (by (with_reducible repeat (first | apply Kd.R_alloc | apply Kd.R_drewN | apply Kd.R_drew)); exact HO215.out)); (case aS => exact (below_size (by repeat (first | (with_reducible first | exact HB.out | apply below_alloc | apply pw_below_drewN | apply below_drew1) | exact HB.out)))); (case aL => have := LMc12.out; omega); intro v217 w32 ho hb hg hat; rw [← Ny216.out] at ho; have n0_ := Aside0.mk (hb); have n1_ := Aside0.mk (ho); clear HB; clear HO215; have HB := n0_; have HO218 := n1_; clear n0_ n1_; (try clear ho); (try clear hb); (try clear hg); (try clear hat)) | ((with_reducible refine gate_dst (N := 29) rfl ?_); (try (refine gate_guard (by rfl) ?_; dsimp only)); refine Kd.R_lit (Kd.int .i64) _ 3 ?hg (N := 29) ?hd (xs := ([] : List Int)) (inner := []) (ok := fun _ => True) (okp := fun _ => True) ?hr ?hp (fun _ hk => hk) trivial (Below.refl _ _) (Nat.le_refl _) (by simp) ?_; (case hd => rfl); (case hg => rfl); (case hr => first | (go_simp; done) | (go_simp; rfl)); (case hp => exact (Reps.none _ _)); intro v220 w33 ho34 hb hg_ hnew_; (try clear hg_); (try clear hnew_); (first | rw [← Ny219.out] at ho34 | (simp only [Int.reduceToNat] at ho34; rw [← Ny219.out] at ho34)); have n0_ := Aside0.mk (Kd.R_elder' (by (with_reducible repeat (first | apply Kd.R_alloc | apply Kd.R_drewN | apply Kd.R_drew)); exact HO218.out) (Kd.R_base ho34) hb); have n1_ := Aside0.mk (Kd.R_lower (Kd.R_new' ho34 (Kd.R_lt (by (with_reducible repeat (first | apply Kd.R_alloc | apply Kd.R_drewN | apply Kd.R_drew)); exact HO218.out))) (below_size (by repeat (first | (with_reducible first | exact HB.out | apply below_alloc | apply pw_below_drewN | apply below_drew1) | exact HB.out)))); have n2_ := Aside0.mk (below_step (by repeat (first | (with_reducible first | exact HB.out | apply below_alloc | apply pw_below_drewN | apply below_drew1) | exact HB.out)) hb); clear HO218; clear HB; have HO218 := n0_; have HO221 := n1_; have HB := n2_; clear n0_ n1_ n2_; (try clear hb); (try clear ho34)) | ((with_reducible refine gate_builtin (b := .append) (xs := #[.tmp 29, .tmp 30]) rfl ?_); (try (refine gate_guard (by rfl) ?_; dsimp only)); at_builtin; refine Kd.R_append_rows (Kd.int .i64) (w0 := w) w.heap.size rfl (.tmp 29) (.tmp 30) 24 3 (.int .i64 0) 8 rfl Try.underlying24 info3 rfl (by decide) (by omega) v220 y219 l2 _ _ _ (fun k_ => some k_ ≠ (v217 : Value).ownBlock) (fun _ => False) rfl rfl ?aO ?aR (fun _ _ h => h) (fun _ h => h.elim) ?aF ?aB ?aS ?aL ?_; (case aR => repeat (first | exact (Kd.C_below HR2.out HB.out) | (with_reducible refine Kd.C_alloc ?_ _) | (with_reducible refine Kd.C_drewN ?_ _) | (with_reducible refine Kd.C_drew ?_))); (case aB => exact (by repeat (first | (with_reducible first | exact HB.out | apply below_alloc | apply pw_below_drewN | apply below_drew1) | exact HB.out))); (case aF => exact (fun k_ hk => Kd.fresh' (Kd.R_lt (by (with_reducible repeat (first | apply Kd.R_alloc | apply Kd.R_drewN | apply Kd.R_drew)); exact HO218.out)) k_ hk)); (case aO => exact (by (with_reducible repeat (first | apply Kd.R_alloc | apply Kd.R_drewN | apply Kd.R_drew)); exact Kd.R_mono HO221.out (fun _ hk => hk.2))); (case aS => exact (below_size (by repeat (first | (with_reducible first | exact HB.out | apply below_alloc | apply pw_below_drewN | apply below_drew1) | exact HB.out)))); (case aL => have := LMc13.out; omega); intro v223 w35 ho hb hg hat; rw [← Ny222.out] at ho; have n0_ := Aside0.mk (Kd.R_after (ok := (fun _ => True)) (by (with_reducible repeat (first | apply Kd.R_alloc | apply Kd.R_drewN | apply Kd.R_drew)); exact HO218.out) hg hat); have n1_ := Aside0.mk (hb); have n2_ := Aside0.mk (ho); clear HO218; clear HB; clear HO221; have HO218 := n0_; have HB := n1_; have HO224 := n2_; clear n0_ n1_ n2_; (try clear ho); (try clear hb); (try clear hg); (try clear hat)) | ((with_reducible refine gate_builtin (b := .append) (xs := #[.tmp 31, .tmp 32]) rfl ?_); (try (refine gate_guard (by rfl) ?_; dsimp only)); at_builtin; refine Kd.R_append_rows (Kd.int .i64) (w0 := w) w.heap.size rfl (.tmp 31) (.tmp 32) 24 3 (.int .i64 0) 8 rfl Try.underlying24 info3 rfl (by decide) (by omega) v223 y222 l1 _ _ _ (fun k_ => some k_ ≠ (v217 : Value).ownBlock) (fun _ => False) rfl rfl ?aO ?aR (fun _ _ h => h) (fun _ h => h.elim) ?aF ?aB ?aS ?aL ?_; (case aR => repeat (first | exact (Kd.C_below HR1.out HB.out) | (with_reducible refine Kd.C_alloc ?_ _) | (with_reducible refine Kd.C_drewN ?_ _) | (with_reducible refine Kd.C_drew ?_))); (case aB => exact (by repeat (first | (with_reducible first | exact HB.out | apply below_alloc | apply pw_below_drewN | apply below_drew1) | exact HB.out))); (case aF => exact (fun k_ hk => Kd.fresh' (Kd.R_lt (by (with_reducible repeat (first | apply Kd.R_alloc | apply Kd.R_drewN | apply Kd.R_drew)); exact HO218.out)) k_ hk)); (case aO => exact (by (with_reducible repeat (first | apply Kd.R_alloc | apply Kd.R_drewN | apply Kd.R_drew)); exact HO224.out)); (case aS => exact (below_size (by repeat (first | (with_reducible first | exact HB.out | apply below_alloc | apply pw_below_drewN | apply below_drew1) | exact HB.out)))); (case aL => have := LMc14.out; omega); intro v226 w36 ho hb hg hat; rw [← Ny225.out] at ho; have n0_ := Aside0.mk (Kd.R_after (ok := (fun _ => True)) (by (with_reducible repeat (first | apply Kd.R_alloc | apply Kd.R_drewN | apply Kd.R_drew)); exact HO218.out) hg hat); have n1_ := Aside0.mk (hb); have n2_ := Aside0.mk (ho); clear HO218; clear HB; clear HO224; have HO218 := n0_; have HB := n1_; have HO227 := n2_; clear n0_ n1_ n2_; (try clear ho); (try clear hb); (try clear hg); (try clear hat); obtain ⟨Ao37, co37, eo37⟩ := Kd.R_slice HO218.out; subst eo37; obtain ⟨Ao38, co38, eo38⟩ := Kd.R_slice HO227.out; subst eo38) | ((with_reducible refine gate_callee (f := 9) rfl ?_); refine goesL_ (some 34) rfl rfl Try.func9 (by kernel_rfl) rfl #[.slice Ao37 y216.length co37, .slice Ao38 y225.length co38] rfl (by (try simp only [List.map_toArray, List.map_cons, List.map_nil]); first | done | rfl | (simp only [List.length_drop, List.length_take]; rfl)) ?_; (with_reducible refine (least_Of.calls kj5 _ _ y216 _ _ y225 t228 _ ?side1 ?side2 ?side3 ?side4 A15.out).mono ?_); (case side1 => repeat (first | exact (Kd.R_reads' HO218.out).2.2 | (with_reducible refine Kd.C_alloc ?_ _) | (with_reducible refine Kd.C_drewN ?_ _) | (with_reducible refine Kd.C_drew ?_))); (case side2 => exact (Kd.R_reads' HO218.out).2.1); (case side3 => repeat (first | exact (Kd.R_reads' HO227.out).2.2 | (with_reducible refine Kd.C_alloc ?_ _) | (with_reducible refine Kd.C_drewN ?_ _) | (with_reducible refine Kd.C_drew ?_))); (case side4 => exact (Kd.R_reads' HO227.out).2.1); rintro e w39 ⟨v229, rfl, ho0, hb⟩; refine ⟨_, rfl, ?_⟩; have n0_ := Aside0.mk (Kd.R_below (by (with_reducible repeat (first | apply Kd.R_alloc | apply Kd.R_drewN | apply Kd.R_drew)); exact HO218.out) hb); have n1_ := Aside0.mk (Kd.R_below (by (with_reducible repeat (first | apply Kd.R_alloc | apply Kd.R_drewN | apply Kd.R_drew)); exact HO227.out) hb); have n2_ := Aside0.mk (Kd.R_lower ho0 (below_size (by repeat (first | (with_reducible first | exact HB.out | apply below_alloc | apply pw_below_drewN | apply below_drew1) | exact HB.out)))); have n3_ := Aside0.mk (below_step (by repeat (first | (with_reducible first | exact HB.out | apply below_alloc | apply pw_below_drewN | apply below_drew1) | exact HB.out)) hb); clear HO218; clear HO227; clear HB; have HO218 := n0_; have HO227 := n1_; have HO230 := n2_; have HB := n3_; clear n0_ n1_ n2_ n3_; (try clear hb); (try clear hb2); (try clear hk); (try clear hi); (try clear ho0); obtain ⟨Ao40, co40, eo40⟩ := Kd.R_slice HO230.out; subst eo40))
          go_loopg [8] kj5 (fun kq v8 w' => ∃ (x8_2 : Int), v8 = .int .i64 x8_2 ∧ Aside0 (tattinglaw9_LeastFront.l0 kq l0 l1 l2 t228 x8_2 = some r) ∧ Aside0 (kq ≤ kj5) ∧ Aside0 (Kd.R k26 26 w' w.heap.size (fun _ => True) (.slice Ao40 t228.length co40) t228) ∧ Aside0 (Below w.heap.size w w'))
          case atStart => exact ⟨(0), (by first | rfl | (simp; done) | (simp [*]; done)), H', ⟨Nat.le_refl _⟩, ⟨by (with_reducible repeat (first | apply Kd.R_alloc | apply Kd.R_drewN | apply Kd.R_drew)); exact HO230.out⟩, ⟨by repeat (first | (with_reducible first | exact HB.out | apply below_alloc | apply pw_below_drewN | apply below_drew1) | exact HB.out)⟩⟩
          case round =>
           clear H'
           try clear c1
           try clear c2
           try clear p2
           try clear c5
           try clear c8
           try clear c8b0
           try clear c8b1
           try clear c9
           try clear c9b0
           try clear c9b1
           try clear c10
           try clear c11
           try clear c12
           try clear c13
           try clear c14
           try clear c16
           try clear c16b0
           try clear c16b1
           try clear p2
           obtain ⟨x8_2, rfl, HA, HK2, HO_7, HB⟩ := hrel
           cases gk with
           | zero => exact absurd HA.out (by simp [tattinglaw9_LeastFront.l0])
           | succ k2 =>
            have H := HA.out
            clear HA
            simp only [tattinglaw9_LeastFront.l0] at H
            by_cases c41 : x8_2 < (l2.length : Int)
            ·rw [if_pos c41] at H
             have c41b0 : decide (x8_2 < (l2.length : Int)) = true := decide_eq_true c41
             clear c41
             by_cases c42 : 0 ≤ x8_2
             ·rw [if_pos c42] at H
              have c42b0 : decide (0 ≤ x8_2) = true := decide_eq_true c42
              clear c42
              by_cases c43 : x8_2 < (t228.length : Int)
              ·rw [if_pos c43] at H
               have c43b0 : decide (x8_2 < (t228.length : Int)) = true := decide_eq_true c43
               clear c43
               by_cases c44 : (!(((rd_T26 t228 x8_2).f0) == x8_2) || (!(((rd_T26 t228 x8_2).f1) == x8_2))) = true
               ·rw [if_pos c44] at H
                have c44b0 : (!(((rd_T26 t228 x8_2).f0) == x8_2) || (!(((rd_T26 t228 x8_2).f1) == x8_2))) = true := c44
                clear c44
                obtain rfl := Option.some.inj H
                have p231 : 0 ≤ (x8_2 : Int) := of_decide_eq_true (by first | (with_reducible assumption) | assumption)
                have q231 : x8_2 < (t228.length : Int) := of_decide_eq_true (by first | (with_reducible assumption) | assumption)
                obtain ⟨ad231, e231, hx231_0, hx231_1⟩ := at_T26 (Kd.R_reads' HO_7.out).2.2 x8_2 p231 q231
                cases e231
                replace p231 := eq_true p231
                replace q231 := eq_true q231
                go_wp2
                go_ret
                exact ⟨by first | rfl | (simp [errW_none, errW_some] <;> rfl) | (simp [*, errW_none, errW_some] <;> rfl), by repeat (first | (with_reducible first | exact HB.out | apply below_alloc | apply pw_below_drewN | apply below_drew1) | exact HB.out)⟩
               ·rw [if_neg c44] at H
                have c44b0 : (!(((rd_T26 t228 x8_2).f0) == x8_2) || (!(((rd_T26 t228 x8_2).f1) == x8_2))) = false := by simpa using c44
                clear c44
                have H' := Aside0.mk H
                clear H
                have p231 : 0 ≤ (x8_2 : Int) := of_decide_eq_true (by first | (with_reducible assumption) | assumption)
                have q231 : x8_2 < (t228.length : Int) := of_decide_eq_true (by first | (with_reducible assumption) | assumption)
                obtain ⟨ad231, e231, hx231_0, hx231_1⟩ := at_T26 (Kd.R_reads' HO_7.out).2.2 x8_2 p231 q231
                cases e231
                replace p231 := eq_true p231
                replace q231 := eq_true q231
                go_wp2
                go_roundg k2
                case measure => have := HJ5.out; have := HK2.out; omega
                case rel => exact ⟨(wrap64 (x8_2 + 1)), (by first | rfl | (simp; done) | (simp [*]; done)), H', ⟨by have := HJ5.out; have := HK2.out; omega⟩, ⟨by (with_reducible repeat (first | apply Kd.R_alloc | apply Kd.R_drewN | apply Kd.R_drew)); exact HO_7.out⟩, ⟨by repeat (first | (with_reducible first | exact HB.out | apply below_alloc | apply pw_below_drewN | apply below_drew1) | exact HB.out)⟩⟩
              ·rw [if_neg c43] at H
               exact absurd H (by simp)
             ·rw [if_neg c42] at H
              exact absurd H (by simp)
            ·rw [if_neg c41] at H
             have c41b0 : decide (x8_2 < (l2.length : Int)) = false := decide_eq_false c41
             clear c41
             by_cases c45 : 0 ≤ (l2.length : Int)
             ·rw [if_pos c45] at H
              have c45b0 := eq_true c45
              have c45b1 : decide (0 ≤ (l2.length : Int)) = true := decide_eq_true c45
              clear c45
              by_cases c46 : (l2.length : Int) ≤ (t228.length : Int)
              ·rw [if_pos c46] at H
               have c46b0 := eq_true c46
               have c46b1 : decide ((l2.length : Int) ≤ (t228.length : Int)) = true := decide_eq_true c46
               clear c46
               obtain ⟨y232, hy232⟩ : ∃ y_ : List (S26), y_ = (t228.drop ((l2.length : Int) : Int).toNat) := ⟨_, rfl⟩
               replace H : ((least_Of.f k2 l0 l1).bind fun t236 => ((tattingref7_Move.f k2 t236 (l2.length : Int) (l2.length : Int)).bind fun t239 => ((tattingref1_SamePairs.f k2 y232 t239).bind fun t242 => (some t242)))) = some r := by first | (rw [hy232]; with_reducible exact H) | (have H2_ := (Option.bind_some _ _).symm.trans H; rw [hy232]; with_reducible exact H2_) | (have H2_ := (Option.bind_some _ _).symm.trans H; with_reducible exact H2_) | with_reducible exact H | (rw [hy232]; exact H) | exact H
               have Ny232 := Aside0.mk hy232
               clear hy232
               replace H := Option.bind_eq_some_iff.mp H
               obtain ⟨t236, A470, H⟩ := H
               replace H : ((tattingref7_Move.f k2 t236 (l2.length : Int) (l2.length : Int)).bind fun t239 => ((tattingref1_SamePairs.f k2 y232 t239).bind fun t242 => (some t242))) = some r := H
               have A47 := Aside0.mk A470
               clear A470
               replace H := Option.bind_eq_some_iff.mp H
               obtain ⟨t239, A480, H⟩ := H
               replace H : ((tattingref1_SamePairs.f k2 y232 t239).bind fun t242 => (some t242)) = some r := H
               have A48 := Aside0.mk A480
               clear A480
               replace H := Option.bind_eq_some_iff.mp H
               obtain ⟨t242, A490, H⟩ := H
               replace H : (some t242) = some r := H
               have A49 := Aside0.mk A490
               clear A490
               obtain rfl := Option.some.inj H
               try go_wp2
               have n0_ := Aside0.mk (Kd.R_drew HO_7.out)
               have n1_ := Aside0.mk (below_drew1 HB.out)
               clear HO_7
               clear HB
               have HO_7 := n0_
               have HB := n1_
               clear n0_ n1_
               have q51 : ((l2.length : Int) : Int) ≤ ((t228.length : Int) : Int) := of_decide_eq_true (by first | (with_reducible assumption) | assumption)
               obtain ⟨i051, hi051, _, hsz51, _⟩ := info_parts info26
               have hroom51 : t228.length ≤ co40 := (Kd.R_reads' HO_7.out).2.1
               have hC51 : Kd.C k26 _ Ao40 t228.length t228 := (Kd.R_reads' HO_7.out).2.2
               have q051 : (0 : Int) ≤ ((l2.length : Int) : Int) := of_decide_eq_true (by first | (with_reducible assumption) | assumption)
               have hcut51 := cut_from (P := Try.prog) 22 26 .i64 Try.underlying22 hi051 2 hsz51 Ao40 t228.length co40 (l2.length : Int) q051 q51
               have hr51 := Kd.C_drop (m := ((l2.length : Int) : Int).toNat) (c := co40) hC51 (by omega) hroom51
               obtain ⟨A51, hA51⟩ : ∃ A1, A1 = (if co40 = ((l2.length : Int) : Int).toNat then Ao40 else (Ao40 : Option Addr).map (·.add (((l2.length : Int) : Int).toNat * 2))) := ⟨_, rfl⟩
               obtain ⟨c51, hc51⟩ : ∃ c1, c1 = co40 - ((l2.length : Int) : Int).toNat := ⟨_, rfl⟩
               have hy51 : y232.length = t228.length - ((l2.length : Int) : Int).toNat := (by rw [Ny232.out, List.length_drop] <;> omega)
               rw [show (t228).drop ((l2.length : Int) : Int).toNat = y232 from Ny232.out.symm] at hr51
               replace hr51 : Kd.C k26 _ A51 y232.length y232 := (by rw [hA51]; exact hr51)
               rw [← hy51, ← hA51, ← hc51] at hcut51
               have HR235 := Aside0.mk hr51
               have HC235 := Aside0.mk (show y232.length ≤ c51 from by rw [hy51, hc51]; exact Nat.sub_le_sub_right hroom51 _)
               clear hr51 hC51 hroom51 hi051 hsz51 hc51
               have KY51 := Aside0.mk hy51
               have KA51 := Aside0.mk hA51
               clear hy51 hA51
               have KL51 := Aside0.mk (show ((l2.length : Int) : Int).toNat ≤ t228.length from by omega)
               replace q51 := eq_true q51
               refine start_ (n := 14) (S := fun w' => True) (ds := []) #[false,false,false,false,false,false,false,false,false,false,false,false,false,false] (by kernel_rfl) rfl rfl trivial (fun hHeld => ?_); refine with_tabW tattinglaw9_LeastFront.tab13 tattinglaw9_LeastFront.bits13 (fun HT_ HW_ => ?_)
               generalize wr.drew = w50 at HO_7 HB HR235 hHeld ⊢
               refine pure_ (i := 0) (N := some 54) (v := ?_) (a' := ?_) #[true,false,false,false,false,false,false,false,false,false,false,false,false,false] rfl rfl (any_of HT_.out (by kernel_rfl)) (fun _ _ _ h => h) (Or.inl ⟨by rfl, ?_⟩) ?_ ?_
               rotate_left
               ·intro w'
                go_simp
                with_reducible rfl
               rotate_left
               ·simp only [Act.put, List.setIfInBounds_toArray, List.set_cons_zero, List.set_cons_succ, i64_w, i32_w]
                rfl
               refine pure_ (i := 1) (N := some 55) (v := ?_) (a' := ?_) #[true,true,false,false,false,false,false,false,false,false,false,false,false,false] rfl rfl (any_of HT_.out (by kernel_rfl)) (fun _ _ _ h => h) (Or.inl ⟨by rfl, ?_⟩) ?_ ?_
               rotate_left
               ·intro w'
                go_simp
                with_reducible rfl
               rotate_left
               ·simp only [Act.put, List.setIfInBounds_toArray, List.set_cons_zero, List.set_cons_succ, i64_w, i32_w]
                rfl
               refine pure_ (i := 2) (N := some 56) (v := ?_) (a' := ?_) #[true,true,true,false,false,false,false,false,false,false,false,false,false,false] rfl rfl (any_of HT_.out (by kernel_rfl)) (fun _ _ _ h => h) (Or.inl ⟨by rfl, ?_⟩) ?_ ?_
               rotate_left
               ·intro w'
                go_simp
                with_reducible rfl
               rotate_left
               ·simp only [Act.put, List.setIfInBounds_toArray, List.set_cons_zero, List.set_cons_succ, i64_w, i32_w]
                rfl
               refine pure_ (i := 3) (N := some 57) (v := ?_) (a' := ?_) #[true,true,true,true,false,false,false,false,false,false,false,false,false,false] rfl rfl (any_of HT_.out (by kernel_rfl)) (fun _ _ _ h => h) (Or.inl ⟨by rfl, ?_⟩) ?_ ?_
               rotate_left
               ·intro w'
                go_simp
                with_reducible rfl
               rotate_left
               ·simp only [Act.put, List.setIfInBounds_toArray, List.set_cons_zero, List.set_cons_succ, i64_w, i32_w]
                rfl
               refine pure_ (i := 4) (N := some 58) (v := ?_) (a' := ?_) #[true,true,true,true,true,false,false,false,false,false,false,false,false,false] rfl rfl (any_of HT_.out (by kernel_rfl)) (fun _ _ _ h => h) (Or.inl ⟨by rfl, ?_⟩) ?_ ?_
               rotate_left
               ·intro w'
                go_simp
                with_reducible rfl
               rotate_left
               ·simp only [Act.put, List.setIfInBounds_toArray, List.set_cons_zero, List.set_cons_succ, i64_w, i32_w]
                rfl
               refine pure_ (i := 5) (N := some 59) (v := ?_) (a' := ?_) #[true,true,true,true,true,true,false,false,false,false,false,false,false,false] rfl rfl (any_of HT_.out (by kernel_rfl)) (fun _ _ _ h => h) (Or.inl ⟨by rfl, ?_⟩) ?_ ?_
               rotate_left
               ·intro w'
                go_simp
                with_reducible rfl
               rotate_left
               ·simp only [Act.put, List.setIfInBounds_toArray, List.set_cons_zero, List.set_cons_succ, i64_w, i32_w]
                rfl
               refine pure_ (i := 7) (N := some 61) (v := ?_) (a' := ?_) #[true,true,true,true,true,true,false,true,false,false,false,false,false,false] rfl rfl (any_of HT_.out (by kernel_rfl)) (fun _ _ _ h => h) (Or.inl ⟨by rfl, ?_⟩) ?_ ?_
               rotate_left
               ·intro w'
                go_simp
                with_reducible rfl
               rotate_left
               ·simp only [Act.put, List.setIfInBounds_toArray, List.set_cons_zero, List.set_cons_succ, i64_w, i32_w]
                rfl
               refine pure_ (i := 8) (N := some 62) (v := ?_) (a' := ?_) #[true,true,true,true,true,true,false,true,true,false,false,false,false,false] rfl rfl (any_of HT_.out (by kernel_rfl)) (fun _ _ _ h => h) (Or.inl ⟨by rfl, ?_⟩) ?_ ?_
               rotate_left
               ·intro w'
                go_simp
                with_reducible rfl
               rotate_left
               ·simp only [Act.put, List.setIfInBounds_toArray, List.set_cons_zero, List.set_cons_succ, i64_w, i32_w]
                rfl
               refine pure_ (i := 9) (N := some 63) (v := ?_) (a' := ?_) #[true,true,true,true,true,true,false,true,true,true,false,false,false,false] rfl rfl (any_of HT_.out (by kernel_rfl)) (fun _ _ _ h => h) (Or.inl ⟨by rfl, ?_⟩) ?_ ?_
               rotate_left
               ·intro w'
                go_simp
                with_reducible rfl
               rotate_left
               ·simp only [Act.put, List.setIfInBounds_toArray, List.set_cons_zero, List.set_cons_succ, i64_w, i32_w]
                rfl
               refine pure_ (i := 10) (N := some 64) (v := ?_) (a' := ?_) #[true,true,true,true,true,true,false,true,true,true,true,false,false,false] rfl rfl (any_of HT_.out (by kernel_rfl)) (fun _ _ _ h => h) (Or.inl ⟨by rfl, ?_⟩) ?_ ?_
               rotate_left
               ·intro w'
                go_simp
                with_reducible rfl
               rotate_left
               ·simp only [Act.put, List.setIfInBounds_toArray, List.set_cons_zero, List.set_cons_succ, i64_w, i32_w]
                rfl
               refine one_ (i := 6) (N := some 60) #[true,true,true,true,true,true,true,true,true,true,true,false,false,false] rfl rfl (one_of HT_.out (by kernel_rfl)) (by decide) (fun K hK => ?_)
               refine goes_ Try.func9 (by kernel_rfl) rfl #[.slice A0 l0.length c0, .slice A1 l1.length c1] (by rfl) rfl rfl (by (try simp only [List.map_toArray, List.map_cons, List.map_nil]); first | done | rfl | (simp only [List.length_drop, List.length_take]; rfl)) ?_
               with_reducible refine (least_Of.calls k2 _ _ l0 _ _ l1 t236 _ ?side1 ?side2 ?side3 ?side4 A47.out).mono ?_
               (case side1 => repeat (first | exact (Kd.C_below HR0.out HB.out) | (with_reducible refine Kd.C_alloc ?_ _) | (with_reducible refine Kd.C_drewN ?_ _) | (with_reducible refine Kd.C_drew ?_)))
               (case side2 => exact HC0.out)
               (case side3 => repeat (first | exact (Kd.C_below HR1.out HB.out) | (with_reducible refine Kd.C_alloc ?_ _) | (with_reducible refine Kd.C_drewN ?_ _) | (with_reducible refine Kd.C_drew ?_)))
               (case side4 => exact HC1.out)
               rintro e w52 ⟨v237, rfl, ho0, hb⟩
               refine ⟨_, rfl, ?_⟩
               have n0_ := Aside0.mk (Kd.R_elder' (by (with_reducible repeat (first | apply Kd.R_alloc | apply Kd.R_drewN | apply Kd.R_drew)); exact HO_7.out) (Kd.R_base ho0) hb)
               have n1_ := Aside0.mk (Kd.R_lower (Kd.R_new' ho0 (Kd.R_lt (by (with_reducible repeat (first | apply Kd.R_alloc | apply Kd.R_drewN | apply Kd.R_drew)); exact HO_7.out))) (below_size (by repeat (first | (with_reducible first | exact HB.out | apply below_alloc | apply pw_below_drewN | apply below_drew1) | exact HB.out))))
               have n2_ := Aside0.mk (Kd.C_below (by repeat (first | (with_reducible exact HR235.out) | (with_reducible refine Kd.C_alloc ?_ _) | (with_reducible refine Kd.C_drewN ?_ _) | (with_reducible refine Kd.C_drew ?_) | exact HR235.out)) hb)
               have n3_ := Aside0.mk (below_step (by repeat (first | (with_reducible first | exact HB.out | apply below_alloc | apply pw_below_drewN | apply below_drew1) | exact HB.out)) hb)
               clear HO_7
               clear HR235
               clear HB
               have HO_7 := n0_
               have HO238 := n1_
               have HR235 := n2_
               have HB := n3_
               clear n0_ n1_ n2_ n3_
               (try clear hb)
               (try clear hb2)
               (try clear hk)
               (try clear hi)
               (try clear ho0)
               obtain ⟨Ao53, co53, eo53⟩ := Kd.R_slice HO238.out
               (first | subst eo53 | (injection eo53 with f1_ f2_ f3_; have f4_ := f1_.symm; have f5_ := f3_.symm; clear f1_ f2_ f3_; subst f4_; subst f5_))
               refine hK.out _ _ trivial (fun hHeld => ?_)
               clear hK K
               refine norm_ (a' := ?_) ?_ ?_
               rotate_left
               ·show Act.put _ (some 60) _ = _
                simp only [Act.put, List.setIfInBounds_toArray, List.set_cons_zero, List.set_cons_succ, i64_w, i32_w]
                rfl
               refine one_ (i := 11) (N := some 65) #[true,true,true,true,true,true,true,true,true,true,true,true,false,false] rfl rfl (one_of HT_.out (by kernel_rfl)) (by decide) (fun K hK => ?_)
               refine goes_ Try.func19 (by kernel_rfl) rfl #[.slice Ao53 t236.length co53, .int .i64 (l2.length : Int), .int .i64 (l2.length : Int)] (by rfl) rfl rfl (by (try simp only [List.map_toArray, List.map_cons, List.map_nil]); first | done | rfl | (simp only [List.length_drop, List.length_take]; rfl)) ?_
               with_reducible refine (tattingref7_Move.calls k2 _ _ t236 (l2.length : Int) (l2.length : Int) t239 _ ?side1 ?side2 A48.out).mono ?_
               (case side1 => repeat (first | exact (Kd.R_reads' HO238.out).2.2 | (with_reducible refine Kd.C_alloc ?_ _) | (with_reducible refine Kd.C_drewN ?_ _) | (with_reducible refine Kd.C_drew ?_)))
               (case side2 => exact (Kd.R_reads' HO238.out).2.1)
               rintro e w54 ⟨v240, rfl, ho0, hb⟩
               refine ⟨_, rfl, ?_⟩
               have n0_ := Aside0.mk (Kd.R_elder' (by (with_reducible repeat (first | apply Kd.R_alloc | apply Kd.R_drewN | apply Kd.R_drew)); exact HO_7.out) (Kd.R_base ho0) hb)
               have n1_ := Aside0.mk (Kd.R_elder' (by (with_reducible repeat (first | apply Kd.R_alloc | apply Kd.R_drewN | apply Kd.R_drew)); exact HO238.out) (Kd.R_base ho0) hb)
               have n2_ := Aside0.mk (Kd.R_lower (Kd.R_new' (Kd.R_new' ho0 (Kd.R_lt (by (with_reducible repeat (first | apply Kd.R_alloc | apply Kd.R_drewN | apply Kd.R_drew)); exact HO_7.out))) (Kd.R_lt (by (with_reducible repeat (first | apply Kd.R_alloc | apply Kd.R_drewN | apply Kd.R_drew)); exact HO238.out))) (below_size (by repeat (first | (with_reducible first | exact HB.out | apply below_alloc | apply pw_below_drewN | apply below_drew1) | exact HB.out))))
               have n3_ := Aside0.mk (Kd.C_below (by repeat (first | (with_reducible exact HR235.out) | (with_reducible refine Kd.C_alloc ?_ _) | (with_reducible refine Kd.C_drewN ?_ _) | (with_reducible refine Kd.C_drew ?_) | exact HR235.out)) hb)
               have n4_ := Aside0.mk (below_step (by repeat (first | (with_reducible first | exact HB.out | apply below_alloc | apply pw_below_drewN | apply below_drew1) | exact HB.out)) hb)
               clear HO_7
               clear HO238
               clear HR235
               clear HB
               have HO_7 := n0_
               have HO238 := n1_
               have HO241 := n2_
               have HR235 := n3_
               have HB := n4_
               clear n0_ n1_ n2_ n3_ n4_
               (try clear hb)
               (try clear hb2)
               (try clear hk)
               (try clear hi)
               (try clear ho0)
               obtain ⟨Ao55, co55, eo55⟩ := Kd.R_slice HO241.out
               (first | subst eo55 | (injection eo55 with f1_ f2_ f3_; have f4_ := f1_.symm; have f5_ := f3_.symm; clear f1_ f2_ f3_; subst f4_; subst f5_))
               refine hK.out _ _ trivial (fun hHeld => ?_)
               clear hK K
               refine norm_ (a' := ?_) ?_ ?_
               rotate_left
               ·show Act.put _ (some 65) _ = _
                simp only [Act.put, List.setIfInBounds_toArray, List.set_cons_zero, List.set_cons_succ, i64_w, i32_w]
                rfl
               refine one_ (i := 12) (N := some 66) #[true,true,true,true,true,true,true,true,true,true,true,true,true,false] rfl rfl (one_of HT_.out (by kernel_rfl)) (by decide) (fun K hK => ?_)
               refine goes_ Try.func14 (by kernel_rfl) rfl #[.slice A51 y232.length c51, .slice Ao55 t239.length co55] (by rfl) rfl rfl (by (try simp only [List.map_toArray, List.map_cons, List.map_nil]); first | done | rfl | (simp only [List.length_drop, List.length_take]; rfl)) ?_
               with_reducible refine (tattingref1_SamePairs.calls k2 _ _ y232 _ _ t239 t242 _ ?side1 ?side2 ?side3 ?side4 A49.out).mono ?_
               (case side1 => repeat (first | exact (by repeat (first | (with_reducible exact HR235.out) | (with_reducible refine Kd.C_alloc ?_ _) | (with_reducible refine Kd.C_drewN ?_ _) | (with_reducible refine Kd.C_drew ?_) | exact HR235.out)) | (with_reducible refine Kd.C_alloc ?_ _) | (with_reducible refine Kd.C_drewN ?_ _) | (with_reducible refine Kd.C_drew ?_)))
               (case side2 => exact HC235.out)
               (case side3 => repeat (first | exact (Kd.R_reads' HO241.out).2.2 | (with_reducible refine Kd.C_alloc ?_ _) | (with_reducible refine Kd.C_drewN ?_ _) | (with_reducible refine Kd.C_drew ?_)))
               (case side4 => exact (Kd.R_reads' HO241.out).2.1)
               rintro e w' ⟨rfl, ⟨nd, rfl⟩⟩
               refine ⟨_, rfl, ?_⟩
               refine hK.out _ _ trivial (fun hHeld => ?_)
               clear hK K
               refine norm_ (a' := ?_) ?_ ?_
               rotate_left
               ·show Act.put _ (some 66) _ = _
                simp only [Act.put, List.setIfInBounds_toArray, List.set_cons_zero, List.set_cons_succ, i64_w, i32_w]
                rfl
               refine pure_ (i := 13) (N := some 6) (v := ?_) (a' := ?_) #[true,true,true,true,true,true,true,true,true,true,true,true,true,true] rfl rfl (any_of HT_.out (by kernel_rfl)) (fun _ _ _ h => h) (Or.inl ⟨by rfl, ?_⟩) ?_ ?_
               rotate_left
               ·intro w'
                go_simp
                with_reducible rfl
               rotate_left
               ·simp only [Act.put, List.setIfInBounds_toArray, List.set_cons_zero, List.set_cons_succ, i64_w, i32_w]
                rfl
               refine done_ (done_of HT_.out (by kernel_rfl)) ?_
               try go_wp2
               go_ret
               exact ⟨by first | rfl | (simp [errW_none, errW_some] <;> rfl) | (simp [*, errW_none, errW_some] <;> rfl), by repeat (first | (with_reducible first | exact HB.out | apply below_alloc | apply pw_below_drewN | apply below_drew1) | exact HB.out)⟩
              ·rw [if_neg c46] at H
               exact absurd H (by simp)
             ·rw [if_neg c45] at H
              exact absurd H (by simp)
        ·rw [if_neg c14] at H
         exact absurd H (by simp)
       ·rw [if_neg c13] at H
        exact absurd H (by simp)
      ·rw [if_neg c12] at H
       exact absurd H (by simp)
     ·rw [if_neg c11] at H
      exact absurd H (by simp)
 ·replace c5 := Bool.eq_false_iff.mpr c5
  subst c5
  have H1 : (some false) = some r := by rw [if_neg (show ¬ (false = true) by decide)] at H; exact H
  clear H
  have H := H1
  clear H1
  obtain rfl := Option.some.inj H
  go_enter Try.func8, Try.ntmps8
  go_wp2_with (first | ((with_reducible refine gate_callee (f := 11) rfl ?_); refine goesL_ (some 9) rfl rfl Try.func11 (by kernel_rfl) rfl #[] rfl (by (try simp only [List.map_toArray, List.map_cons, List.map_nil]); first | done | rfl | (simp only [List.length_drop, List.length_take]; rfl)) ?_; (with_reducible refine (tattinglaw9_awake.calls k  false _ A4.out).mono ?_); rintro e w56 ⟨rfl, hb⟩; refine ⟨_, rfl, ?_⟩; have n0_ := Aside0.mk (below_step (by repeat (first | (with_reducible first | exact HB.out | apply below_alloc | apply pw_below_drewN | apply below_drew1) | exact HB.out)) hb); clear HB; have HB := n0_; clear n0_; (try clear hb); (try clear hb2); (try clear hk); (try clear hi)))
  go_ret
  exact ⟨by first | rfl | (simp [errW_none, errW_some] <;> rfl) | (simp [*, errW_none, errW_some] <;> rfl), by repeat (first | (with_reducible first | exact HB.out | apply below_alloc | apply pw_below_drewN | apply below_drew1) | exact HB.out)⟩

/-- THE ONE PURE STATEMENT of tattinglaw9_LeastFront: yours. -/
def tattinglaw9_LeastFront.Pure : Prop := ∀ (l0 : List Int) (l1 : List Int) (l2 : List Int), l0.length ≤ maxLen → l0.length * 8 ≤ 140737488351232 → (∀ x ∈ l0, (Lit.int .i64 x).wf = true) → l1.length ≤ maxLen → l1.length * 8 ≤ 140737488351232 → (∀ x ∈ l1, (Lit.int .i64 x).wf = true) → l2.length ≤ maxLen → l2.length * 8 ≤ 140737488351232 → (∀ x ∈ l2, (Lit.int .i64 x).wf = true) → ∃ k, tattinglaw9_LeastFront.f k l0 l1 l2 = some true
theorem tattinglaw9_LeastFront.walk (P : tattinglaw9_LeastFront.Pure) (a0 : Option Addr) (len0 cap0 : Nat) (z0 : List Int) (a1 : Option Addr) (len1 cap1 : Nat) (z1 : List Int) (a2 : Option Addr) (len2 cap2 : Nat) (z2 : List Int) (w : World) (w0 : (a0 = none ∧ len0 = 0 ∧ cap0 = 0 ∧ z0 = []) ∨ ∃ x, a0 = some x ∧ len0 ≤ cap0 ∧ cap0 ≤ maxLen ∧ z0.length = cap0 ∧ (∀ i, i < z0.length → w.cell? (x.add i) = some (.int .i64 (z0.getD i 0))) ∧ ∀ n ∈ z0, (Lit.int .i64 n).wf = true) (y0 : len0 * 8 ≤ 140737488351232) (w1 : (a1 = none ∧ len1 = 0 ∧ cap1 = 0 ∧ z1 = []) ∨ ∃ x, a1 = some x ∧ len1 ≤ cap1 ∧ cap1 ≤ maxLen ∧ z1.length = cap1 ∧ (∀ i, i < z1.length → w.cell? (x.add i) = some (.int .i64 (z1.getD i 0))) ∧ ∀ n ∈ z1, (Lit.int .i64 n).wf = true) (y1 : len1 * 8 ≤ 140737488351232) (w2 : (a2 = none ∧ len2 = 0 ∧ cap2 = 0 ∧ z2 = []) ∨ ∃ x, a2 = some x ∧ len2 ≤ cap2 ∧ cap2 ≤ maxLen ∧ z2.length = cap2 ∧ (∀ i, i < z2.length → w.cell? (x.add i) = some (.int .i64 (z2.getD i 0))) ∧ ∀ n ∈ z2, (Lit.int .i64 n).wf = true) (y2 : len2 * 8 ≤ 140737488351232) :
  Calls Try.prog 8 #[.slice a0 len0 cap0, .slice a1 len1 cap1, .slice a2 len2 cap2] w fun e w' => e = .returned (.bool true) ∧ Below w.heap.size w w' := by
 obtain ⟨l0, rfl, hr0, hm0, hw0, hc0⟩ := ReadsInt.ofRowC w0
 obtain ⟨l1, rfl, hr1, hm1, hw1, hc1⟩ := ReadsInt.ofRowC w1
 obtain ⟨l2, rfl, hr2, hm2, hw2, hc2⟩ := ReadsInt.ofRowC w2
 obtain ⟨k, h⟩ := P l0 l1 l2 hm0 y0 hw0 hm1 y1 hw1 hm2 y2 hw2
 refine (tattinglaw9_LeastFront.calls k _ _ l0 _ _ l1 _ _ l2 true w (Kd.C_of_reads (d := (0 : Int)) (h1 := fun _ => rfl) hr0) hc0 (Kd.C_of_reads (d := (0 : Int)) (h1 := fun _ => rfl) hr1) hc1 (Kd.C_of_reads (d := (0 : Int)) (h1 := fun _ => rfl) hr2) hc2 h).mono ?_
 rintro e w' ⟨rfl, hd⟩
 exact ⟨rfl, hd⟩

end Go.Proofs.Ytmkelmacllkbeaa.PLeastFront
