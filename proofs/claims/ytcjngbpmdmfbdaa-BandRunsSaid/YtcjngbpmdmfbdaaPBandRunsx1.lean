/- What the given program's functions come to, each a Lean function and the walk that shows it: no condition beside those that each theorem names. -/
import Derived.Test.YtcjngbpmdmfbdaaPBandRunsx0
namespace Go.Proofs.Ytcjngbpmdmfbdaa.PBandRuns
open Go.RowKit Go.Proofs.YtcjngbpmdmfbdaaW.PrintWords Go.Proofs.YtcjngbpmdmfbdaaW.PrintLast Go.Proofs.YtcjngbpmdmfbdaaW.PrintMore
attribute [local go_sem] max2_int min2_int max_two min_two max_three min_three max_four min_four   -- for this text's walks alone
set_option linter.unusedVariables false
set_option linter.unusedSimpArgs false

/-! ### band_is: function 19 -/
def band_is.f (a0 : Int) : Option (Bool) := if a0 ≥ 0 then (some (decide (a0 ≤ 1048576))) else (some false)
set_option maxHeartbeats 8000000 in
set_option maxRecDepth 100000 in
theorem band_is.calls (a0 : Int) (r : Bool) (w : World) (h : band_is.f a0 = some r) :
  Calls Try.prog 19 #[.int .i64 a0] w fun e w' => e = .returned (.bool r) ∧ Drawn0 w w' := by
 have H : (if a0 ≥ 0 then (some (decide (a0 ≤ 1048576))) else (some false)) = some r := h
 clear h
 by_cases c2 : a0 ≥ 0
 ·rw [if_pos c2] at H
  have c2b0 : decide (0 ≤ a0) = true := decide_eq_true c2
  clear c2
  obtain rfl := Option.some.inj H
  go_enter Try.func19, Try.ntmps19
  go_wp2
  go_ret
  exact ⟨by first | rfl | (simp; done) | (simp [*]; done), by repeat (first | exact Drawn0.refl _ | apply Drawn0.step)⟩
 ·rw [if_neg c2] at H
  have c2b0 : decide (0 ≤ a0) = false := decide_eq_false c2
  clear c2
  obtain rfl := Option.some.inj H
  go_enter Try.func19, Try.ntmps19
  go_wp2
  go_ret
  exact ⟨by first | rfl | (simp; done) | (simp [*]; done), by repeat (first | exact Drawn0.refl _ | apply Drawn0.step)⟩

/-! ### band_edges: function 20 -/
def band_edges.f (a0 : Int) (a1 : Int) (a2 : Int) : Option (Int × Int × Bool) := if a2 < (mx (wrap64 (a0 - a1)) (wrap64 (-(wrap64 (a0 - a1))))) then (some (0, 0, false)) else (some (mx (wrap64 (-a1)) (wrap64 ((mn 0 (wrap64 (a0 - a1))) - (mn (wrap64 (Int.tdiv (wrap64 (a2 - (mx (wrap64 (a0 - a1)) (wrap64 (-(wrap64 (a0 - a1))))))) 2)) a1))), mn a0 (wrap64 ((mx 0 (wrap64 (a0 - a1))) + (mn (wrap64 (Int.tdiv (wrap64 (a2 - (mx (wrap64 (a0 - a1)) (wrap64 (-(wrap64 (a0 - a1))))))) 2)) a0))), true))
set_option maxHeartbeats 8000000 in
set_option maxRecDepth 100000 in
theorem band_edges.calls (a0 : Int) (a1 : Int) (a2 : Int) (r1 : Int) (r2 : Int) (r3 : Bool) (w : World) (h : band_edges.f a0 a1 a2 = some (r1, r2, r3)) :
  Calls Try.prog 20 #[.int .i64 a0, .int .i64 a1, .int .i64 a2] w fun e w' => e = .returned (.tuple #[.int .i64 r1, .int .i64 r2, .bool r3]) ∧ Below w.heap.size w w' := by
 have HB := Aside0.mk (Below.refl w.heap.size w)
 have H : (if a2 < (mx (wrap64 (a0 - a1)) (wrap64 (-(wrap64 (a0 - a1))))) then (some (0, 0, false)) else (some (mx (wrap64 (-a1)) (wrap64 ((mn 0 (wrap64 (a0 - a1))) - (mn (wrap64 (Int.tdiv (wrap64 (a2 - (mx (wrap64 (a0 - a1)) (wrap64 (-(wrap64 (a0 - a1))))))) 2)) a1))), mn a0 (wrap64 ((mx 0 (wrap64 (a0 - a1))) + (mn (wrap64 (Int.tdiv (wrap64 (a2 - (mx (wrap64 (a0 - a1)) (wrap64 (-(wrap64 (a0 - a1))))))) 2)) a0))), true))) = some (r1, r2, r3) := h
 clear h
 obtain ⟨ji4, hji4⟩ : ∃ j_ : Int, (mx (wrap64 (a0 - a1)) (wrap64 (-(wrap64 (a0 - a1))))) = j_ := ⟨_, rfl⟩
 replace H : (if a2 < (ji4) then (some (0, 0, false)) else (some (mx (wrap64 (-a1)) (wrap64 ((mn 0 (wrap64 (a0 - a1))) - (mn (wrap64 (Int.tdiv (wrap64 (a2 - (ji4))) 2)) a1))), mn a0 (wrap64 ((mx 0 (wrap64 (a0 - a1))) + (mn (wrap64 (Int.tdiv (wrap64 (a2 - (ji4))) 2)) a0))), true))) = some (r1, r2, r3) := by first | (rw [hji4] at H; exact H) | (simp only [hji4] at H ⊢; exact H)
 have hji4_ : (if (wrap64 (a0 - a1)) < (wrap64 (-(wrap64 (a0 - a1)))) then (wrap64 (-(wrap64 (a0 - a1)))) else (wrap64 (a0 - a1))) = ji4 := hji4
 by_cases c5 : a2 < (ji4)
 ·rw [if_pos c5] at H
  have c5b0 : decide (a2 < (ji4)) = true := decide_eq_true c5
  clear c5
  simp only [Option.some.injEq, Prod.mk.injEq] at H
  obtain ⟨rfl, rfl, rfl⟩ := H
  go_enter Try.func20, Try.ntmps20
  go_wp2
  go_ret3
  exact ⟨by first | rfl | (simp [errW_none, errW_some] <;> rfl) | (simp only [← hji4]; first | rfl | (simp [errW_none, errW_some] <;> rfl)) | (simp [*, errW_none, errW_some] <;> rfl), by repeat (first | (with_reducible first | exact HB.out | apply below_alloc | apply pw_below_drewN | apply below_drew1) | exact HB.out)⟩
 ·rw [if_neg c5] at H
  have c5b0 : decide (a2 < (ji4)) = false := decide_eq_false c5
  clear c5
  obtain ⟨ji7, hji7⟩ : ∃ j_ : Int, (mn 0 (wrap64 (a0 - a1))) = j_ := ⟨_, rfl⟩
  replace H : (some (mx (wrap64 (-a1)) (wrap64 ((ji7) - (mn (wrap64 (Int.tdiv (wrap64 (a2 - (ji4))) 2)) a1))), mn a0 (wrap64 ((mx 0 (wrap64 (a0 - a1))) + (mn (wrap64 (Int.tdiv (wrap64 (a2 - (ji4))) 2)) a0))), true)) = some (r1, r2, r3) := by first | (rw [hji7] at H; exact H) | (simp only [hji7] at H ⊢; exact H)
  (try (have hji7h : ji7 ≤ 0 := by (rw [← hji7]; unfold mn; (repeat' split) <;> omega)))
  (try (have hji7g : ji7 ≤ 64 := by omega))
  have hji7_ : (if (wrap64 (a0 - a1)) < 0 then (wrap64 (a0 - a1)) else 0) = ji7 := hji7
  obtain ⟨ji8, hji8⟩ : ∃ j_ : Int, (mn (wrap64 (Int.tdiv (wrap64 (a2 - (ji4))) 2)) a1) = j_ := ⟨_, rfl⟩
  replace H : (some (mx (wrap64 (-a1)) (wrap64 ((ji7) - (ji8))), mn a0 (wrap64 ((mx 0 (wrap64 (a0 - a1))) + (mn (wrap64 (Int.tdiv (wrap64 (a2 - (ji4))) 2)) a0))), true)) = some (r1, r2, r3) := by first | (rw [hji8] at H; exact H) | (simp only [hji8] at H ⊢; exact H)
  have hji8_ : (if a1 < (wrap64 (Int.tdiv (wrap64 (a2 - (ji4))) 2)) then a1 else (wrap64 (Int.tdiv (wrap64 (a2 - (ji4))) 2))) = ji8 := hji8
  obtain ⟨ji9, hji9⟩ : ∃ j_ : Int, (mx (wrap64 (-a1)) (wrap64 ((ji7) - (ji8)))) = j_ := ⟨_, rfl⟩
  replace H : (some (ji9, mn a0 (wrap64 ((mx 0 (wrap64 (a0 - a1))) + (mn (wrap64 (Int.tdiv (wrap64 (a2 - (ji4))) 2)) a0))), true)) = some (r1, r2, r3) := by first | (rw [hji9] at H; exact H) | (simp only [hji9] at H ⊢; exact H)
  have hji9_ : (if (wrap64 (-a1)) < (wrap64 ((ji7) - (ji8))) then (wrap64 ((ji7) - (ji8))) else (wrap64 (-a1))) = ji9 := hji9
  obtain ⟨ji10, hji10⟩ : ∃ j_ : Int, (mx 0 (wrap64 (a0 - a1))) = j_ := ⟨_, rfl⟩
  replace H : (some (ji9, mn a0 (wrap64 ((ji10) + (mn (wrap64 (Int.tdiv (wrap64 (a2 - (ji4))) 2)) a0))), true)) = some (r1, r2, r3) := by first | (rw [hji10] at H; exact H) | (simp only [hji10] at H ⊢; exact H)
  (try (have hji10l : 0 ≤ ji10 := by (rw [← hji10]; unfold mx; (repeat' split) <;> omega)))
  (try (have hji10m : 0 ≤ ji10 := by omega))
  have hji10_ : (if 0 < (wrap64 (a0 - a1)) then (wrap64 (a0 - a1)) else 0) = ji10 := hji10
  obtain ⟨ji11, hji11⟩ : ∃ j_ : Int, (mn (wrap64 (Int.tdiv (wrap64 (a2 - (ji4))) 2)) a0) = j_ := ⟨_, rfl⟩
  replace H : (some (ji9, mn a0 (wrap64 ((ji10) + (ji11))), true)) = some (r1, r2, r3) := by first | (rw [hji11] at H; exact H) | (simp only [hji11] at H ⊢; exact H)
  have hji11_ : (if a0 < (wrap64 (Int.tdiv (wrap64 (a2 - (ji4))) 2)) then a0 else (wrap64 (Int.tdiv (wrap64 (a2 - (ji4))) 2))) = ji11 := hji11
  obtain ⟨ji12, hji12⟩ : ∃ j_ : Int, (mn a0 (wrap64 ((ji10) + (ji11)))) = j_ := ⟨_, rfl⟩
  replace H : (some (ji9, ji12, true)) = some (r1, r2, r3) := by first | (rw [hji12] at H; exact H) | (simp only [hji12] at H ⊢; exact H)
  have hji12_ : (if (wrap64 ((ji10) + (ji11))) < a0 then (wrap64 ((ji10) + (ji11))) else a0) = ji12 := hji12
  simp only [Option.some.injEq, Prod.mk.injEq] at H
  obtain ⟨rfl, rfl, rfl⟩ := H
  go_enter Try.func20, Try.ntmps20
  go_wp2
  go_ret3
  exact ⟨by first | rfl | (simp [errW_none, errW_some] <;> rfl) | (simp only [← hji4, ← hji7, ← hji8, ← hji9, ← hji10, ← hji11, ← hji12]; first | rfl | (simp [errW_none, errW_some] <;> rfl)) | (simp [*, errW_none, errW_some] <;> rfl), by repeat (first | (with_reducible first | exact HB.out | apply below_alloc | apply pw_below_drewN | apply below_drew1) | exact HB.out)⟩

/-! ### band_Cells: function 10 -/
mutual
def band_Cells.j0 : Nat → Int → Int → Int → Bool → Option (Int)
 | 0, _, _, _, _ => none
 | k + 1, x0, x1, x2, x23 => if x23 = true then (some 0) else ((band_edges.f x0 x1 x2).bind fun bt103 => (if bt103.2.2 = true then (band_Cells.l0 k x0 x1 bt103.2.1 0 bt103.1) else (some 0)))
def band_Cells.l0 : Nat → Int → Int → Int → Int → Int → Option (Int)
 | 0, _, _, _, _, _ => none
 | k + 1, x0, x1, x8, x10, x11 => if x11 ≤ x8 then (band_Cells.l0 k x0 x1 x8 (wrap64 (x10 + (wrap64 ((wrap64 ((mn x1 (wrap64 (x0 - x11))) - (mx 0 (wrap64 (-x11))))) + 1)))) (wrap64 (x11 + 1))) else (some x10)
end
def band_Cells.f (k : Nat) (a0 : Int) (a1 : Int) (a2 : Int) : Option (Int) := (band_is.f a0).bind fun t101 => (if t101 = true then ((band_is.f a1).bind fun t102 => (if t102 = true then (band_Cells.j0 k a0 a1 a2 (decide (a2 < 0))) else (band_Cells.j0 k a0 a1 a2 true))) else (band_Cells.j0 k a0 a1 a2 true))
theorem band_Cells.mono_l : ∀ k, (∀ y0 y1 y2 y3, LeO (band_Cells.j0 k y0 y1 y2 y3) (band_Cells.j0 (k + 1) y0 y1 y2 y3)) ∧ (∀ y0 y1 y2 y3 y4, LeO (band_Cells.l0 k y0 y1 y2 y3 y4) (band_Cells.l0 (k + 1) y0 y1 y2 y3 y4))
 | 0 => ⟨fun _ _ _ _ r h => by simp [band_Cells.j0] at h, fun _ _ _ _ _ r h => by simp [band_Cells.l0] at h⟩
 | k + 1 => by
  obtain ⟨ih0, ih1⟩ := band_Cells.mono_l k
  refine ⟨?_, ?_⟩
  ·intro y0 y1 y2 y3
   unfold band_Cells.j0
   repeat' first
   | (with_reducible exact ih0 _ _ _ _)
   | (with_reducible exact ih1 _ _ _ _ _)
   | (with_reducible exact LeO.refl _)
   | (with_reducible exact LeO.none _)
   | (with_reducible refine LeO.ite ?_ ?_)
   | (with_reducible refine LeO.bind ?_ (fun _ => ?_))
   | exact ih0 _ _ _ _
   | exact ih1 _ _ _ _ _
   | exact LeO.none _
   | refine LeO.ite ?_ ?_
   | refine LeO.bind ?_ (fun _ => ?_)
  ·intro y0 y1 y2 y3 y4
   unfold band_Cells.l0
   repeat' first
   | (with_reducible exact ih0 _ _ _ _)
   | (with_reducible exact ih1 _ _ _ _ _)
   | (with_reducible exact LeO.refl _)
   | (with_reducible exact LeO.none _)
   | (with_reducible refine LeO.ite ?_ ?_)
   | (with_reducible refine LeO.bind ?_ (fun _ => ?_))
   | exact ih0 _ _ _ _
   | exact ih1 _ _ _ _ _
   | exact LeO.none _
   | refine LeO.ite ?_ ?_
   | refine LeO.bind ?_ (fun _ => ?_)
theorem band_Cells.mono : ∀ a0 a1 a2 k, LeO (band_Cells.f k a0 a1 a2) (band_Cells.f (k + 1) a0 a1 a2) := by
 intro a0 a1 a2 k
 obtain ⟨ih0, ih1⟩ := band_Cells.mono_l k
 unfold band_Cells.f
 repeat' first
   | (with_reducible exact ih0 _ _ _ _)
   | (with_reducible exact ih1 _ _ _ _ _)
   | (with_reducible exact LeO.refl _)
   | (with_reducible exact LeO.none _)
   | (with_reducible refine LeO.ite ?_ ?_)
   | (with_reducible refine LeO.bind ?_ (fun _ => ?_))
   | exact ih0 _ _ _ _
   | exact ih1 _ _ _ _ _
   | exact LeO.none _
   | refine LeO.ite ?_ ?_
   | refine LeO.bind ?_ (fun _ => ?_)
set_option maxHeartbeats 8000000 in
set_option maxRecDepth 100000 in
theorem band_Cells.calls (k : Nat) (a0 : Int) (a1 : Int) (a2 : Int) (r : Int) (w : World) (h : band_Cells.f k a0 a1 a2 = some r) :
  Calls Try.prog 10 #[.int .i64 a0, .int .i64 a1, .int .i64 a2] w fun e w' => e = .returned (.int .i64 r) ∧ Below w.heap.size w w' := by
 have HB := Aside0.mk (Below.refl w.heap.size w)
 have H : ((band_is.f a0).bind fun t101 => (if t101 = true then ((band_is.f a1).bind fun t102 => (if t102 = true then (band_Cells.j0 k a0 a1 a2 (decide (a2 < 0))) else (band_Cells.j0 k a0 a1 a2 true))) else (band_Cells.j0 k a0 a1 a2 true))) = some r := h
 clear h
 have HC4 := Aside0.mk H
 clear H
 go_enter Try.func10, Try.ntmps10
 go_upto_region 1 with (fail)
 go_cut [23] (fun v23 wc => ∃ (kq : Nat) (x23_3 : Bool), v23 = .bool x23_3 ∧ Aside0 (band_Cells.j0 kq a0 a1 a2 x23_3 = some r) ∧ Aside0 (kq ≤ k) ∧ Aside0 (Below w.heap.size w wc))
 case first =>
  have H := HC4.out
  clear HC4
  replace H := Option.bind_eq_some_iff.mp H
  obtain ⟨t101, A50, H⟩ := H
  replace H : (if t101 = true then ((band_is.f a1).bind fun t102 => (if t102 = true then (band_Cells.j0 k a0 a1 a2 (decide (a2 < 0))) else (band_Cells.j0 k a0 a1 a2 true))) else (band_Cells.j0 k a0 a1 a2 true)) = some r := H
  have A5 := Aside0.mk A50
  clear A50
  by_cases c6 : t101 = true
  ·subst c6
   have H1 : ((band_is.f a1).bind fun t102 => (if t102 = true then (band_Cells.j0 k a0 a1 a2 (decide (a2 < 0))) else (band_Cells.j0 k a0 a1 a2 true))) = some r := by rw [if_pos rfl] at H; exact H
   clear H
   have H := H1
   clear H1
   replace H := Option.bind_eq_some_iff.mp H
   obtain ⟨t102, A70, H⟩ := H
   replace H : (if t102 = true then (band_Cells.j0 k a0 a1 a2 (decide (a2 < 0))) else (band_Cells.j0 k a0 a1 a2 true)) = some r := H
   have A7 := Aside0.mk A70
   clear A70
   by_cases c8 : t102 = true
   ·subst c8
    have H1 : (band_Cells.j0 k a0 a1 a2 (decide (a2 < 0))) = some r := by rw [if_pos rfl] at H; exact H
    clear H
    have H := H1
    clear H1
    have H' := Aside0.mk H
    clear H
    go_wp2_with (first | ((first | (with_reducible refine gate_callee (f := 19) rfl ?_); refine goesL_ (some 13) rfl rfl Try.func19 (by kernel_rfl) rfl #[.int .i64 a0] rfl (by (try simp only [List.map_toArray, List.map_cons, List.map_nil]); first | done | rfl | (simp only [List.length_drop, List.length_take]; rfl)) ?_ | go_at_call 19); (with_reducible refine (band_is.calls a0 true _ A5.out).mono ?_); rintro e w' ⟨rfl, ⟨nd, rfl⟩⟩; (try refine ⟨_, rfl, ?_⟩)) | (go_at_call 19; (with_reducible refine (band_is.calls a1 true _ A7.out).mono ?_); rintro e w' ⟨rfl, ⟨nd, rfl⟩⟩))
    go_meet
    case rel => exact ⟨_, (decide (a2 < 0)), (by first | rfl | (simp; done) | (simp [*]; done)), H', ⟨by first | omega | exact Nat.le_refl _⟩, ⟨by repeat (first | (with_reducible first | exact HB.out | apply below_alloc | apply pw_below_drewN | apply below_drew1) | exact HB.out)⟩⟩
   ·replace c8 := Bool.eq_false_iff.mpr c8
    subst c8
    have H1 : (band_Cells.j0 k a0 a1 a2 true) = some r := by rw [if_neg (show ¬ (false = true) by decide)] at H; exact H
    clear H
    have H := H1
    clear H1
    have H' := Aside0.mk H
    clear H
    go_wp2_with (first | ((first | (with_reducible refine gate_callee (f := 19) rfl ?_); refine goesL_ (some 13) rfl rfl Try.func19 (by kernel_rfl) rfl #[.int .i64 a0] rfl (by (try simp only [List.map_toArray, List.map_cons, List.map_nil]); first | done | rfl | (simp only [List.length_drop, List.length_take]; rfl)) ?_ | go_at_call 19); (with_reducible refine (band_is.calls a0 true _ A5.out).mono ?_); rintro e w' ⟨rfl, ⟨nd, rfl⟩⟩; (try refine ⟨_, rfl, ?_⟩)) | (go_at_call 19; (with_reducible refine (band_is.calls a1 false _ A7.out).mono ?_); rintro e w' ⟨rfl, ⟨nd, rfl⟩⟩))
    go_meet
    case rel => exact ⟨_, (true), (by first | rfl | (simp; done) | (simp [*]; done)), H', ⟨by first | omega | exact Nat.le_refl _⟩, ⟨by repeat (first | (with_reducible first | exact HB.out | apply below_alloc | apply pw_below_drewN | apply below_drew1) | exact HB.out)⟩⟩
  ·replace c6 := Bool.eq_false_iff.mpr c6
   subst c6
   have H1 : (band_Cells.j0 k a0 a1 a2 true) = some r := by rw [if_neg (show ¬ (false = true) by decide)] at H; exact H
   clear H
   have H := H1
   clear H1
   have H' := Aside0.mk H
   clear H
   go_wp2_with (first | ((first | (with_reducible refine gate_callee (f := 19) rfl ?_); refine goesL_ (some 13) rfl rfl Try.func19 (by kernel_rfl) rfl #[.int .i64 a0] rfl (by (try simp only [List.map_toArray, List.map_cons, List.map_nil]); first | done | rfl | (simp only [List.length_drop, List.length_take]; rfl)) ?_ | go_at_call 19); (with_reducible refine (band_is.calls a0 false _ A5.out).mono ?_); rintro e w' ⟨rfl, ⟨nd, rfl⟩⟩; (try refine ⟨_, rfl, ?_⟩)))
   go_meet
   case rel => exact ⟨_, (true), (by first | rfl | (simp; done) | (simp [*]; done)), H', ⟨by first | omega | exact Nat.le_refl _⟩, ⟨by repeat (first | (with_reducible first | exact HB.out | apply below_alloc | apply pw_below_drewN | apply below_drew1) | exact HB.out)⟩⟩
 case rest =>
  clear HC4
  try clear c1
  try clear p2
  try clear c6
  try clear c8
  obtain ⟨kq, x23_3, rfl, HA, HJ3, HB⟩ := hcut
  cases kq with
  | zero => exact absurd HA.out (by simp [band_Cells.j0])
  | succ kj3 =>
   have H := HA.out
   clear HA
   simp only [band_Cells.j0] at H
   by_cases c9 : x23_3 = true
   ·subst c9
    have H1 : (some 0) = some r := by rw [if_pos rfl] at H; exact H
    clear H
    have H := H1
    clear H1
    obtain rfl := Option.some.inj H
    go_wp2
    go_ret
    exact ⟨by first | rfl | (simp [errW_none, errW_some] <;> rfl) | (simp [*, errW_none, errW_some] <;> rfl), by repeat (first | (with_reducible first | exact HB.out | apply below_alloc | apply pw_below_drewN | apply below_drew1) | exact HB.out)⟩
   ·replace c9 := Bool.eq_false_iff.mpr c9
    subst c9
    have H1 : ((band_edges.f a0 a1 a2).bind fun bt103 => (if bt103.2.2 = true then (band_Cells.l0 kj3 a0 a1 bt103.2.1 0 bt103.1) else (some 0))) = some r := by rw [if_neg (show ¬ (false = true) by decide)] at H; exact H
    clear H
    have H := H1
    clear H1
    replace H := Option.bind_eq_some_iff.mp H
    obtain ⟨⟨t103, t104, t105⟩, A100, H⟩ := H
    replace H : (if t105 = true then (band_Cells.l0 kj3 a0 a1 t104 0 t103) else (some 0)) = some r := H
    have A10 := Aside0.mk A100
    clear A100
    by_cases c11 : t105 = true
    ·subst c11
     have H1 : (band_Cells.l0 kj3 a0 a1 t104 0 t103) = some r := by rw [if_pos rfl] at H; exact H
     clear H
     have H := H1
     clear H1
     have H' := Aside0.mk H
     clear H
     go_wp2_with (first | ((first | (with_reducible refine gate_callee (f := 20) rfl ?_); refine goesL_ (some 28) rfl rfl Try.func20 (by kernel_rfl) rfl #[.int .i64 a0, .int .i64 a1, .int .i64 a2] rfl (by (try simp only [List.map_toArray, List.map_cons, List.map_nil]); first | done | rfl | (simp only [List.length_drop, List.length_take]; rfl)) ?_ | go_at_call 20); (with_reducible refine (band_edges.calls a0 a1 a2 t103 t104 true _ A10.out).mono ?_); rintro e w12 ⟨rfl, hb⟩; (try refine ⟨_, rfl, ?_⟩); have n0_ := Aside0.mk (below_step (by repeat (first | (with_reducible first | exact HB.out | apply below_alloc | apply pw_below_drewN | apply below_drew1) | exact HB.out)) hb); clear HB; have HB := n0_; clear n0_; (try clear hb); (try clear hb2); (try clear hk); (try clear hi)))
     go_loopg [10, 11] kj3 (fun kq v10 v11 w' => ∃ (x10_2 : Int) (x11_2 : Int), v10 = .int .i64 x10_2 ∧ v11 = .int .i64 x11_2 ∧ Aside0 (band_Cells.l0 kq a0 a1 t104 x10_2 x11_2 = some r) ∧ Aside0 (kq ≤ kj3) ∧ Aside0 (Below w.heap.size w w'))
     case atStart => exact ⟨(0), (t103), (by first | rfl | (simp; done) | (simp [*]; done)), (by first | rfl | (simp; done) | (simp [*]; done)), H', ⟨Nat.le_refl _⟩, ⟨by repeat (first | (with_reducible first | exact HB.out | apply below_alloc | apply pw_below_drewN | apply below_drew1) | exact HB.out)⟩⟩
     case round =>
      clear H'
      try clear c1
      try clear c2
      try clear p2
      try clear c6
      try clear c8
      try clear c9
      try clear c10
      try clear c11
      try clear p2
      obtain ⟨x10_2, x11_2, rfl, rfl, HA, HK2, HB⟩ := hrel
      cases gk with
      | zero => exact absurd HA.out (by simp [band_Cells.l0])
      | succ k2 =>
       have H := HA.out
       clear HA
       simp only [band_Cells.l0] at H
       by_cases c13 : x11_2 ≤ t104
       ·rw [if_pos c13] at H
        have c13b0 : decide (x11_2 ≤ t104) = true := decide_eq_true c13
        clear c13
        obtain ⟨ji14, hji14⟩ : ∃ j_ : Int, (mn a1 (wrap64 (a0 - x11_2))) = j_ := ⟨_, rfl⟩
        replace H : (band_Cells.l0 k2 a0 a1 t104 (wrap64 (x10_2 + (wrap64 ((wrap64 ((ji14) - (mx 0 (wrap64 (-x11_2))))) + 1)))) (wrap64 (x11_2 + 1))) = some r := by first | (rw [hji14] at H; exact H) | (simp only [hji14] at H ⊢; exact H)
        have hji14_ : (if (wrap64 (a0 - x11_2)) < a1 then (wrap64 (a0 - x11_2)) else a1) = ji14 := hji14
        obtain ⟨ji15, hji15⟩ : ∃ j_ : Int, (mx 0 (wrap64 (-x11_2))) = j_ := ⟨_, rfl⟩
        replace H : (band_Cells.l0 k2 a0 a1 t104 (wrap64 (x10_2 + (wrap64 ((wrap64 ((ji14) - (ji15))) + 1)))) (wrap64 (x11_2 + 1))) = some r := by first | (rw [hji15] at H; exact H) | (simp only [hji15] at H ⊢; exact H)
        have hji15_ : (if 0 < (wrap64 (-x11_2)) then (wrap64 (-x11_2)) else 0) = ji15 := hji15
        have H' := Aside0.mk H
        clear H
        go_wp2
        go_roundg k2
        case measure => have := HJ3.out; have := HK2.out; omega
        case rel => exact ⟨(wrap64 (x10_2 + (wrap64 ((wrap64 ((ji14) - (ji15))) + 1)))), (wrap64 (x11_2 + 1)), (by first | rfl | (simp; done) | (simp only [← hji14, ← hji15] <;> (first | rfl | simp)) | (simp [*]; done)), (by first | rfl | (simp; done) | (simp [*]; done)), H', ⟨by have := HJ3.out; have := HK2.out; omega⟩, ⟨by repeat (first | (with_reducible first | exact HB.out | apply below_alloc | apply pw_below_drewN | apply below_drew1) | exact HB.out)⟩⟩
       ·rw [if_neg c13] at H
        have c13b0 : decide (x11_2 ≤ t104) = false := decide_eq_false c13
        clear c13
        obtain rfl := Option.some.inj H
        go_wp2
        go_ret
        exact ⟨by first | rfl | (simp [errW_none, errW_some] <;> rfl) | (simp [*, errW_none, errW_some] <;> rfl), by repeat (first | (with_reducible first | exact HB.out | apply below_alloc | apply pw_below_drewN | apply below_drew1) | exact HB.out)⟩
    ·replace c11 := Bool.eq_false_iff.mpr c11
     subst c11
     have H1 : (some 0) = some r := by rw [if_neg (show ¬ (false = true) by decide)] at H; exact H
     clear H
     have H := H1
     clear H1
     obtain rfl := Option.some.inj H
     go_wp2_with (first | ((first | (with_reducible refine gate_callee (f := 20) rfl ?_); refine goesL_ (some 28) rfl rfl Try.func20 (by kernel_rfl) rfl #[.int .i64 a0, .int .i64 a1, .int .i64 a2] rfl (by (try simp only [List.map_toArray, List.map_cons, List.map_nil]); first | done | rfl | (simp only [List.length_drop, List.length_take]; rfl)) ?_ | go_at_call 20); (with_reducible refine (band_edges.calls a0 a1 a2 t103 t104 false _ A10.out).mono ?_); rintro e w16 ⟨rfl, hb⟩; (try refine ⟨_, rfl, ?_⟩); have n0_ := Aside0.mk (below_step (by repeat (first | (with_reducible first | exact HB.out | apply below_alloc | apply pw_below_drewN | apply below_drew1) | exact HB.out)) hb); clear HB; have HB := n0_; clear n0_; (try clear hb); (try clear hb2); (try clear hk); (try clear hi)))
     go_ret
     exact ⟨by first | rfl | (simp [errW_none, errW_some] <;> rfl) | (simp [*, errW_none, errW_some] <;> rfl), by repeat (first | (with_reducible first | exact HB.out | apply below_alloc | apply pw_below_drewN | apply below_drew1) | exact HB.out)⟩

/-! ### band_line_at: function 23 -/
def band_line_at.f (a0_0 : Int) (l0_1 : List Int) (a1 : Int) : Option (Int) := if a1 < a0_0 then (some 1152921504606846976) else (if a1 ≥ (wrap64 (a0_0 + (l0_1.length : Int))) then (some 1152921504606846976) else (if 0 ≤ (wrap64 (a1 - a0_0)) then (if (wrap64 (a1 - a0_0)) < (l0_1.length : Int) then (some (rd l0_1 (wrap64 (a1 - a0_0)))) else (none)) else (none)))
set_option maxHeartbeats 8000000 in
set_option maxRecDepth 100000 in
theorem band_line_at.calls (a0_0 : Int) (A0_1 : Option Addr) (c0_1 : Nat) (l0_1 : List Int) (a1 : Int) (r : Int) (w : World) (hr0_1 : Kd.C (Kd.int .i64) w A0_1 l0_1.length l0_1) (hc0_1 : l0_1.length ≤ c0_1) (h : band_line_at.f a0_0 l0_1 a1 = some r) :
  Calls Try.prog 23 #[.agg #[.int .i64 a0_0, .slice A0_1 l0_1.length c0_1], .int .i64 a1] w fun e w' => e = .returned (.int .i64 r) ∧ Below w.heap.size w w' := by
 have hu43 := Try.underlying43
 have HR0_1 := Aside0.mk hr0_1
 have HC0_1 := Aside0.mk hc0_1
 clear hr0_1 hc0_1
 have HB := Aside0.mk (Below.refl w.heap.size w)
 have H : (if a1 < a0_0 then (some 1152921504606846976) else (if a1 ≥ (wrap64 (a0_0 + (l0_1.length : Int))) then (some 1152921504606846976) else (if 0 ≤ (wrap64 (a1 - a0_0)) then (if (wrap64 (a1 - a0_0)) < (l0_1.length : Int) then (some (rd l0_1 (wrap64 (a1 - a0_0)))) else (none)) else (none)))) = some r := h
 clear h
 by_cases c3 : a1 < a0_0
 ·rw [if_pos c3] at H
  have c3b0 : decide (a1 < a0_0) = true := decide_eq_true c3
  clear c3
  obtain rfl := Option.some.inj H
  go_enter Try.func23, Try.ntmps23
  go_wp2_with (first | ((with_reducible refine gate_dst (N := 2) rfl ?_); (try (refine gate_guard (by rfl) ?_; dsimp only)); refine box_event ?hg (N := 2) ?hd (cs := #[.int .i64 a0_0, .slice A0_1 l0_1.length c0_1]) (t := 43) ?hr ?_; (case hd => rfl); (case hg => rfl); (case hr => first | (go_simp; done) | (go_simp; rfl)); intro gb106 hg w4 hbox hb; have n0_ := Aside0.mk (below_step (by repeat (first | (with_reducible first | exact HB.out | apply below_alloc | apply pw_below_drewN | apply below_drew1) | exact HB.out)) hb); have n1_ := Aside0.mk (hbox); have n2_ := Aside0.mk ((by rw [hg]; exact (below_size (by repeat (first | (with_reducible first | exact HB.out | apply below_alloc | apply pw_below_drewN | apply below_drew1) | exact HB.out))) : w.heap.size ≤ gb106)); have n3_ := Aside0.mk ((by rw [hg]; exact (below_size (by repeat (first | (with_reducible first | exact HB.out | apply below_alloc | apply pw_below_drewN | apply below_drew1) | exact HB.out))) : w.heap.size ≤ gb106)); clear HB; have HB := n0_; have BK106 := n1_; have GW106 := n2_; have GE106 := n3_; clear n0_ n1_ n2_ n3_; (try clear hb); (try clear hbox); (try clear hg); have hcz5_0 : w4.cell? ⟨gb106, 0, none⟩ = some (.int .i64 a0_0) := (blk_cell BK106.out 0).trans rfl; have hcz5_1 : w4.cell? ⟨gb106, 1, none⟩ = some (.slice A0_1 l0_1.length c0_1) := (blk_cell BK106.out 1).trans rfl; have hfz5_0 := blk_frozen BK106.out 0; have hfz5_1 := blk_frozen BK106.out 1))
  go_ret
  exact ⟨by first | rfl | (simp [errW_none, errW_some] <;> rfl) | (simp [*, errW_none, errW_some] <;> rfl), by repeat (first | (with_reducible first | exact HB.out | apply below_alloc | apply pw_below_drewN | apply below_drew1 | refine below_set ?_ GE106.out) | exact HB.out)⟩
 ·rw [if_neg c3] at H
  have c3b0 : decide (a1 < a0_0) = false := decide_eq_false c3
  clear c3
  by_cases c6 : a1 ≥ (wrap64 (a0_0 + (l0_1.length : Int)))
  ·rw [if_pos c6] at H
   have c6b0 : decide ((wrap64 (a0_0 + (l0_1.length : Int))) ≤ a1) = true := decide_eq_true c6
   clear c6
   obtain rfl := Option.some.inj H
   go_enter Try.func23, Try.ntmps23
   go_wp2_with (first | ((with_reducible refine gate_dst (N := 2) rfl ?_); (try (refine gate_guard (by rfl) ?_; dsimp only)); refine box_event ?hg (N := 2) ?hd (cs := #[.int .i64 a0_0, .slice A0_1 l0_1.length c0_1]) (t := 43) ?hr ?_; (case hd => rfl); (case hg => rfl); (case hr => first | (go_simp; done) | (go_simp; rfl)); intro gb106 hg w7 hbox hb; have n0_ := Aside0.mk (below_step (by repeat (first | (with_reducible first | exact HB.out | apply below_alloc | apply pw_below_drewN | apply below_drew1) | exact HB.out)) hb); have n1_ := Aside0.mk (hbox); have n2_ := Aside0.mk ((by rw [hg]; exact (below_size (by repeat (first | (with_reducible first | exact HB.out | apply below_alloc | apply pw_below_drewN | apply below_drew1) | exact HB.out))) : w.heap.size ≤ gb106)); have n3_ := Aside0.mk ((by rw [hg]; exact (below_size (by repeat (first | (with_reducible first | exact HB.out | apply below_alloc | apply pw_below_drewN | apply below_drew1) | exact HB.out))) : w.heap.size ≤ gb106)); clear HB; have HB := n0_; have BK106 := n1_; have GW106 := n2_; have GE106 := n3_; clear n0_ n1_ n2_ n3_; (try clear hb); (try clear hbox); (try clear hg); have hcz8_0 : w7.cell? ⟨gb106, 0, none⟩ = some (.int .i64 a0_0) := (blk_cell BK106.out 0).trans rfl; have hcz8_1 : w7.cell? ⟨gb106, 1, none⟩ = some (.slice A0_1 l0_1.length c0_1) := (blk_cell BK106.out 1).trans rfl; have hfz8_0 := blk_frozen BK106.out 0; have hfz8_1 := blk_frozen BK106.out 1))
   go_ret
   exact ⟨by first | rfl | (simp [errW_none, errW_some] <;> rfl) | (simp [*, errW_none, errW_some] <;> rfl), by repeat (first | (with_reducible first | exact HB.out | apply below_alloc | apply pw_below_drewN | apply below_drew1 | refine below_set ?_ GE106.out) | exact HB.out)⟩
  ·rw [if_neg c6] at H
   have c6b0 : decide ((wrap64 (a0_0 + (l0_1.length : Int))) ≤ a1) = false := decide_eq_false c6
   clear c6
   obtain ⟨ji9, hji9⟩ : ∃ j_ : Int, (wrap64 (a1 - a0_0)) = j_ := ⟨_, rfl⟩
   replace H : (if 0 ≤ (ji9) then (if (ji9) < (l0_1.length : Int) then (some (rd l0_1 (ji9))) else (none)) else (none)) = some r := by first | (rw [hji9] at H; exact H) | (simp only [hji9] at H ⊢; exact H)
   have hji9w : (IntKind.i64.wrap (a1 - a0_0)) = ji9 := (i64_w _).trans hji9
   by_cases c10 : 0 ≤ (ji9)
   ·rw [if_pos c10] at H
    have c10b0 : decide (0 ≤ (ji9)) = true := decide_eq_true c10
    clear c10
    by_cases c11 : (ji9) < (l0_1.length : Int)
    ·rw [if_pos c11] at H
     have c11b0 : decide ((ji9) < (l0_1.length : Int)) = true := decide_eq_true c11
     clear c11
     obtain rfl := Option.some.inj H
     go_enter Try.func23, Try.ntmps23
     go_wp2_with (first | ((with_reducible refine gate_dst (N := 2) rfl ?_); (try (refine gate_guard (by rfl) ?_; dsimp only)); refine box_event ?hg (N := 2) ?hd (cs := #[.int .i64 a0_0, .slice A0_1 l0_1.length c0_1]) (t := 43) ?hr ?_; (case hd => rfl); (case hg => rfl); (case hr => first | (go_simp; done) | (go_simp; rfl)); intro gb106 hg w12 hbox hb; have n0_ := Aside0.mk (below_step (by repeat (first | (with_reducible first | exact HB.out | apply below_alloc | apply pw_below_drewN | apply below_drew1) | exact HB.out)) hb); have n1_ := Aside0.mk (hbox); have n2_ := Aside0.mk ((by rw [hg]; exact (below_size (by repeat (first | (with_reducible first | exact HB.out | apply below_alloc | apply pw_below_drewN | apply below_drew1) | exact HB.out))) : w.heap.size ≤ gb106)); have n3_ := Aside0.mk ((by rw [hg]; exact (below_size (by repeat (first | (with_reducible first | exact HB.out | apply below_alloc | apply pw_below_drewN | apply below_drew1) | exact HB.out))) : w.heap.size ≤ gb106)); clear HB; have HB := n0_; have BK106 := n1_; have GW106 := n2_; have GE106 := n3_; clear n0_ n1_ n2_ n3_; (try clear hb); (try clear hbox); (try clear hg); have hcz13_0 : w12.cell? ⟨gb106, 0, none⟩ = some (.int .i64 a0_0) := (blk_cell BK106.out 0).trans rfl; have hcz13_1 : w12.cell? ⟨gb106, 1, none⟩ = some (.slice A0_1 l0_1.length c0_1) := (blk_cell BK106.out 1).trans rfl; have hfz13_0 := blk_frozen BK106.out 0; have hfz13_1 := blk_frozen BK106.out 1; have p107 : 0 ≤ ((ji9) : Int) := of_decide_eq_true (by first | (with_reducible assumption) | assumption); have q107 : (ji9) < (l0_1.length : Int) := of_decide_eq_true (by first | (with_reducible assumption) | assumption); obtain ⟨ad107, e107, hx107_0⟩ := Kd.at_int HR0_1.out (ji9) p107 q107; cases e107; replace hx107_0 := (HB.out.cell (World.block_lt_of_cell? w _ hx107_0)).trans hx107_0; replace p107 := eq_true p107; replace q107 := eq_true q107))
     go_ret
     exact ⟨by first | rfl | (simp [errW_none, errW_some] <;> rfl) | (simp only [← hji9]; first | rfl | (simp [errW_none, errW_some] <;> rfl)) | (simp [*, errW_none, errW_some] <;> rfl), by repeat (first | (with_reducible first | exact HB.out | apply below_alloc | apply pw_below_drewN | apply below_drew1 | refine below_set ?_ GE106.out) | exact HB.out)⟩
    ·rw [if_neg c11] at H
     exact absurd H (by simp)
   ·rw [if_neg c10] at H
    exact absurd H (by simp)

end Go.Proofs.Ytcjngbpmdmfbdaa.PBandRuns
